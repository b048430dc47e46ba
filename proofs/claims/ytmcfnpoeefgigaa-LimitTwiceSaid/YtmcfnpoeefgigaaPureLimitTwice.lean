/- Two fills are one, and one waits no longer than one must: for right buckets, at rising times up to 2^50. -/
import Derived.Test.YtmcfnpoeefgigaaLimitTB
import Derived.Test.YtmcfnpoeefgigaaXLimitTx4
set_option linter.unusedVariables false
set_option linter.unusedSimpArgs false
namespace Go.Proofs.Ytmcfnpoeefgigaa.Pure
open Go.RowKit Go.Proofs.Ytmcfnpoeefgigaa.XLimitT Go.Proofs.YtmcfnpoeefgigaaW.PrintWords Go.Proofs.YtmcfnpoeefgigaaW.PrintLast Go.Proofs.YtmcfnpoeefgigaaW.PrintMore Go.Proofs.Ytmcfnpoeefgigaa.PureT

theorem fillv_val (l t s rate most : Int) (h : Rightv l most) (ht : 0 ≤ t ∧ t ≤ s ∧ s ≤ 9223372036854775807) : fillv l t s rate most = (min (l + ratev rate * (s - t)) most, s) := by
  have hr := ratev_in rate
  have hd : satv (s - t) = s - t := satv_in (by omega)
  have hp : 0 ≤ ratev rate * (s - t) := Int.mul_nonneg hr.1 (by omega)
  unfold fillv
  rw [if_pos ⟨h, by omega⟩, hd]
  obtain ⟨p, hpe⟩ : ∃ p, ratev rate * (s - t) = p := ⟨_, rfl⟩
  rw [hpe] at hp ⊢
  have hl := h.2
  have hm := h.1
  have h1 : satv p = if p > 9223372036854775807 then 9223372036854775807 else p := by unfold satv; (repeat' split) <;> omega
  rw [h1]
  congr 1
  unfold satv
  (repeat' split) <;> omega
theorem fill_twice (l t one two rate most : Int) (h : Rightv l most) (ht : 0 ≤ t ∧ t ≤ one ∧ one ≤ two ∧ two ≤ 9223372036854775807) : fillv (fillv l t one rate most).1 (fillv l t one rate most).2 two rate most = fillv l t two rate most := by
  have hr := ratev_in rate
  have hl := h.2
  have hm := h.1
  rw [fillv_val l t one rate most h (by omega)]
  have hp : 0 ≤ ratev rate * (one - t) := Int.mul_nonneg hr.1 (by omega)
  have hp2 : 0 ≤ ratev rate * (two - one) := Int.mul_nonneg hr.1 (by omega)
  have h1 : Rightv (min (l + ratev rate * (one - t)) most) most := ⟨hm, by omega, by omega⟩
  show fillv (min (l + ratev rate * (one - t)) most) one two rate most = _
  rw [fillv_val _ one two rate most h1 (by omega), fillv_val l t two rate most h (by omega)]
  have e : ratev rate * (two - t) = ratev rate * (one - t) + ratev rate * (two - one) := by rw [← Int.mul_add]; congr 1; omega
  rw [e]
  congr 1
  omega
theorem ticks_val (l n r : Int) (hr : 1 ≤ r) : n ≤ l + r * ((n - l + r - 1) / r) ∧ ¬ n ≤ l + r * ((n - l + r - 1) / r - 1) := by
  have h1 := Int.emod_add_mul_ediv (n - l + r - 1) r
  have h2 := Int.emod_lt_of_pos (n - l + r - 1) (show 0 < r by omega)
  have h3 := Int.emod_nonneg (n - l + r - 1) (show r ≠ 0 by omega)
  rw [Int.mul_sub, Int.mul_one]
  omega
theorem wait_ge (k : Nat) (hk : 2 ≤ k) (l t now rate most n : Int) (hl : In64 l) (ht : 0 ≤ t ∧ t ≤ 2305843009213693952) (hnow : 0 ≤ now ∧ now ≤ 9223372036854775807) (hn : In64 n) : limit_Wait.f k l t now rate most n = some (waitv l t now rate most n) := by
  obtain ⟨k, rfl⟩ : ∃ m, k = m + 2 := ⟨k - 2, by omega⟩
  exact wait_eq k l t now rate most n hl ht hnow hn
/-- What is known of the time that one waits for. -/
theorem wait_val (l t one rate most n : Int) (h : Rightv l most) (ht : 0 ≤ t ∧ t ≤ one ∧ one ≤ 1125899906842624) (hr : 0 ≤ rate ∧ rate ≤ 1000000) :
    one ≤ waitv l t one rate most n ∧ waitv l t one rate most n ≤ 9223372036854775807 ∧
    ((0 ≤ n ∧ n ≤ most ∧ (rate > 0 ∨ n ≤ l)) → waitv l t one rate most n ≠ 9223372036854775807 ∧ (takev l t (waitv l t one rate most n) rate most n).2.2 = true ∧ (waitv l t one rate most n = one ∨ (takev l t (waitv l t one rate most n - 1) rate most n).2.2 = false)) ∧
    (¬ (0 ≤ n ∧ n ≤ most ∧ (rate > 0 ∨ n ≤ l)) → waitv l t one rate most n = 9223372036854775807) := by
  have hrv : ratev rate = rate := by unfold ratev; (repeat' split) <;> omega
  have hl := h.2
  have hm := h.1
  unfold waitv
  by_cases h0 : (takev l t one rate most n).2.2 = true
  · rw [if_pos h0]
    obtain ⟨_, hn0, hn1⟩ := take_true h0
    have h1 := (take_iff l t one rate most n h ⟨hn0, hn1⟩ (by omega)).1 h0
    rw [hrv] at h1
    have h2 : rate > 0 ∨ n ≤ l := by
      by_cases hz : rate = 0
      · rw [hz, Int.zero_mul] at h1; right; omega
      · left; omega
    exact ⟨Int.le_refl _, by omega, fun _ => ⟨by omega, h0, Or.inl rfl⟩, fun hc => absurd ⟨hn0, hn1, h2⟩ hc⟩
  · rw [if_neg h0]
    by_cases hc : 0 ≤ n ∧ n ≤ most ∧ (rate > 0 ∨ n ≤ l)
    · have hnot : ¬ n ≤ l + ratev rate * (one - t) := fun hh => h0 ((take_iff l t one rate most n h ⟨hc.1, hc.2.1⟩ (by omega)).2 hh)
      have hp : 0 ≤ ratev rate * (one - t) := Int.mul_nonneg (by omega) (by omega)
      have hpos : rate > 0 := by rcases hc.2.2 with h | h <;> omega
      rw [if_neg (by intro hh; rcases hh with hh | hh | hh | hh; exact hh h; omega; omega; omega)]
      rw [hrv] at hnot hp ⊢
      obtain ⟨t1, t2⟩ := ticks_val l n rate (by omega)
      have hq0 : 0 ≤ (n - l + rate - 1) / rate := Int.ediv_nonneg (by omega) (by omega)
      have hq1 : (n - l + rate - 1) / rate ≤ n - l + rate - 1 := Int.ediv_le_self _ (by omega)
      obtain ⟨q, hqe⟩ : ∃ q, (n - l + rate - 1) / rate = q := ⟨_, rfl⟩
      rw [hqe] at t1 t2 hq0 hq1 ⊢
      have hgt : one < t + q := by
        refine Int.not_le.1 fun hle => hnot ?_
        have : rate * q ≤ rate * (one - t) := Int.mul_le_mul_of_nonneg_left (by omega) (by omega)
        omega
      rw [satv_in (by omega), show max (t + q) one = t + q by omega]
      refine ⟨by omega, by omega, fun _ => ⟨by omega, ?_, Or.inr ?_⟩, fun hcc => absurd hc hcc⟩
      · refine (take_iff l t (t + q) rate most n h ⟨hc.1, hc.2.1⟩ (by omega)).2 ?_
        rw [hrv, show t + q - t = q by omega]; exact t1
      · refine Bool.eq_false_iff.2 fun hh => t2 ?_
        have := (take_iff l t (t + q - 1) rate most n h ⟨hc.1, hc.2.1⟩ (by omega)).1 hh
        rw [hrv, show t + q - 1 - t = q - 1 by omega] at this
        exact this
    · have hx : ¬ Rightv l most ∨ n < 0 ∨ n > most ∨ ratev rate = 0 := by
        rw [hrv]
        refine Classical.byContradiction fun hh => hc ⟨?_, ?_, ?_⟩
        · have : ¬ n < 0 := fun h' => hh (Or.inr (Or.inl h'))
          omega
        · have : ¬ n > most := fun h' => hh (Or.inr (Or.inr (Or.inl h')))
          omega
        · have : ¬ rate = 0 := fun h' => hh (Or.inr (Or.inr (Or.inr h')))
          left; omega
      rw [if_pos hx]
      exact ⟨by omega, by omega, fun hcc => absurd hcc hc, fun _ => rfl⟩
theorem LimitTwice : barrowlaw23_LimitTwice.Pure := by
  intro l t rate most one two n wl wt wr wm wo ww wn
  have hl := i64_of wl
  have ht := i64_of wt
  have hn := i64_of wn
  refine ⟨100, ?_⟩
  unfold barrowlaw23_LimitTwice.f
  rw [limit_small, right_eq]
  simp only [Option.bind_some]
  have key : ∀ b : Bool, (b = false → Rightv l most ∧ 0 ≤ t ∧ t ≤ one ∧ one ≤ two ∧ two ≤ 1125899906842624 ∧ 0 ≤ rate ∧ rate ≤ 1000000) → barrowlaw23_LimitTwice.j0 100 rate most one two n true b l t = some true := by
    intro b hb
    simp only [barrowlaw23_LimitTwice.j0]
    cases b
    · obtain ⟨h, h1, h2, h3, h4, h5, h6⟩ := hb rfl
      rw [if_neg (by decide)]
      obtain ⟨v1, v2, v3, v4⟩ := wait_val l t one rate most n h ⟨h1, h2, by omega⟩ ⟨h5, h6⟩
      obtain ⟨w, hw⟩ : ∃ w, waitv l t one rate most n = w := ⟨_, rfl⟩
      have hf := fillv_in l t one rate most hl ht ⟨by omega, by omega⟩
      have hww : wrap64 (w - 1) = w - 1 := by unfold wrap64; omega
      rw [fill_eq 97 l t one rate most hl ht ⟨by omega, by omega⟩]
      simp only [Option.bind_some]
      rw [fill_eq 97 _ _ two rate most hf.1 hf.2 ⟨by omega, by omega⟩, fill_twice l t one two rate most h (by omega), wait_ge 99 (by decide) l t one rate most n hl ⟨h1, by omega⟩ ⟨by omega, by omega⟩ hn]
      rw [hw] at v1 v2 v3 v4
      simp only [Option.bind_some]
      rw [hw, hww, take_eq 97 l t w rate most n hl ht ⟨by omega, by omega⟩, take_eq 97 l t (w - 1) rate most n hl ht ⟨by omega, by omega⟩]
      simp only [Option.bind_some]
      have fin : ∀ c : Bool, (c = true ↔ (0 ≤ n ∧ n ≤ most ∧ (rate > 0 ∨ n ≤ l))) → barrowlaw23_LimitTwice.j1 99 rate most one two true w (takev l t w rate most n).2.2 (takev l t (w - 1) rate most n).2.2 c l t (fillv l t two rate most).1 (fillv l t two rate most).2 = some true := by
        intro c hc
        simp only [barrowlaw23_LimitTwice.j1, if_true]
        rw [fill_eq 96 l t two rate most hl ht ⟨by omega, by omega⟩]
        simp only [Option.bind_some]
        rw [if_pos (by simp), if_pos (show w ≥ one by omega)]
        cases c
        · have hnc : ¬ (0 ≤ n ∧ n ≤ most ∧ (rate > 0 ∨ n ≤ l)) := fun h => by have := hc.2 h; simp at this
          rw [if_pos (by rw [v4 hnc]; rfl), if_neg (by decide)]
        · obtain ⟨a1, a2, a3⟩ := v3 (hc.1 rfl)
          rw [if_pos (by simp [a1]), if_pos rfl, if_pos a2]
          rcases a3 with a3 | a3
          · rw [if_pos a3]
          · rw [a3]
            by_cases e : w = one
            · rw [if_pos e]
            · rw [if_neg e]; rfl
      by_cases c1 : n ≥ 0
      · rw [if_pos c1]
        by_cases c2 : n ≤ most
        · rw [if_pos c2]
          by_cases c3 : rate > 0
          · rw [if_pos c3]; exact fin true ⟨fun _ => ⟨c1, c2, Or.inl c3⟩, fun _ => rfl⟩
          · rw [if_neg c3]; exact fin _ ⟨fun h => ⟨c1, c2, Or.inr (of_decide_eq_true h)⟩, fun h => decide_eq_true (by rcases h.2.2 with h | h; exact absurd h c3; exact h)⟩
        · rw [if_neg c2]; exact fin false ⟨fun h => by simp at h, fun h => absurd h.2.1 c2⟩
      · rw [if_neg c1]; exact fin false ⟨fun h => by simp at h, fun h => absurd h.1 c1⟩
    · rfl
  have yes := key true (fun h => by simp at h)
  by_cases h1 : Rightv l most
  · rw [if_pos (decide_eq_true h1)]
    by_cases h2 : t < 0
    · rw [if_pos h2]; exact yes
    · rw [if_neg h2]
      by_cases h3 : one < t
      · rw [if_pos h3]; exact yes
      · rw [if_neg h3]
        by_cases h4 : two < one
        · rw [if_pos h4]; exact yes
        · rw [if_neg h4]
          by_cases h5 : two > 1125899906842624
          · rw [if_pos h5]; exact yes
          · rw [if_neg h5]
            by_cases h6 : rate < 0
            · rw [if_pos h6]; exact yes
            · rw [if_neg h6]
              exact key _ (fun h => by have := of_decide_eq_false h; exact ⟨h1, by omega, by omega, by omega, by omega, by omega, by omega⟩)
  · rw [if_neg (by simpa using h1)]; exact yes
end Go.Proofs.Ytmcfnpoeefgigaa.Pure
