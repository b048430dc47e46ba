/- When some could be taken is what the document's own answer says: for any bucket, of times from 0 to 2^61. -/
import Derived.Test.YtmcfnpoeefgigaaLimitB
import Derived.Test.YtmcfnpoeefgigaaPureLimitTells
set_option linter.unusedVariables false
set_option linter.unusedSimpArgs false
namespace Go.Proofs.Ytmcfnpoeefgigaa.Pure
open Go.RowKit Go.Proofs.Ytmcfnpoeefgigaa.XLimit Go.Proofs.YtmcfnpoeefgigaaW.PrintWords Go.Proofs.YtmcfnpoeefgigaaW.PrintLast Go.Proofs.YtmcfnpoeefgigaaW.PrintMore

theorem reftake_ge (k : Nat) (hk : 2 ≤ k) (l t now rate most n : Int) (hl : In64 l) (ht : In64 t) (hn : In64 now) : barrowref23_Take.f k l t now rate most n = some (takev l t now rate most n) := by
  obtain ⟨k, rfl⟩ : ∃ m, k = m + 2 := ⟨k - 2, by omega⟩
  exact reftake_eq k l t now rate most n hl ht hn
theorem wait_ge (k : Nat) (hk : 2 ≤ k) (l t now rate most n : Int) (hl : In64 l) (ht : 0 ≤ t ∧ t ≤ 2305843009213693952) (hnow : 0 ≤ now ∧ now ≤ 9223372036854775807) (hn : In64 n) : limit_Wait.f k l t now rate most n = some (waitv l t now rate most n) := by
  obtain ⟨k, rfl⟩ : ∃ m, k = m + 2 := ⟨k - 2, by omega⟩
  exact wait_eq k l t now rate most n hl ht hnow hn
theorem wait_loop (l t rate most n : Int) (hl : In64 l) (ht : 0 ≤ t ∧ t ≤ 2305843009213693952) (d : Nat) : ∀ (k : Nat) (lo hi : Int), 2 * d + 10 < k → 0 ≤ lo → lo < hi → hi ≤ 9223372036854775807 → hi - lo ≤ d + 1 →
    (takev l t lo rate most n).2.2 = false → (takev l t hi rate most n).2.2 = true →
    ∃ T, barrowref23_Wait.l0 k rate most n lo hi l t = some T ∧ lo < T ∧ T ≤ hi ∧ (takev l t T rate most n).2.2 = true ∧ (takev l t (T - 1) rate most n).2.2 = false := by
  induction d with
  | zero =>
    intro k lo hi hk h0 h1 h2 hd hf hs
    obtain ⟨k, rfl⟩ : ∃ m, k = m + 2 := ⟨k - 2, by omega⟩
    have : hi = lo + 1 := by omega
    subst this
    refine ⟨lo + 1, ?_, by omega, by omega, hs, by rw [show lo + 1 - 1 = lo by omega]; exact hf⟩
    simp only [barrowref23_Wait.l0, barrowref23_Wait.j1]
    have hw : wrap64 (lo + 1 - lo) = 1 := by unfold wrap64; omega
    rw [hw, if_neg (by decide), if_neg (by decide)]
  | succ d ih =>
    intro k lo hi hk h0 h1 h2 hd hf hs
    obtain ⟨k, rfl⟩ : ∃ m, k = m + 2 := ⟨k - 2, by omega⟩
    have hw : wrap64 (hi - lo) = hi - lo := by unfold wrap64; omega
    simp only [barrowref23_Wait.l0, barrowref23_Wait.j1]
    rw [hw]
    by_cases hgt : hi - lo > 1
    · rw [if_pos hgt, if_true]
      have hm : wrap64 (wrap64 (Int.tdiv lo 2) + wrap64 (Int.tdiv hi 2)) = lo / 2 + hi / 2 := by
        rw [Int.tdiv_eq_ediv_of_nonneg h0, Int.tdiv_eq_ediv_of_nonneg (by omega)]
        unfold wrap64; omega
      have hw1 : wrap64 (lo + 1) = lo + 1 := by unfold wrap64; omega
      rw [hm, hw1]
      have go : ∀ m : Int, lo < m → m < hi → ∃ T, ((barrowref23_Take.f k l t m rate most n).bind fun bt => if bt.2.2 = true then barrowref23_Wait.l0 k rate most n lo m l t else barrowref23_Wait.l0 k rate most n m hi l t) = some T ∧ lo < T ∧ T ≤ hi ∧ (takev l t T rate most n).2.2 = true ∧ (takev l t (T - 1) rate most n).2.2 = false := by
        intro m hm1 hm2
        rw [reftake_ge k (by omega) l t m rate most n hl ⟨by omega, by omega⟩ ⟨by omega, by omega⟩]
        simp only [Option.bind_some]
        by_cases hc : (takev l t m rate most n).2.2 = true
        · rw [if_pos hc]
          obtain ⟨T, e, a, b, c⟩ := ih k lo m (by omega) h0 hm1 (by omega) (by omega) hf hc
          exact ⟨T, e, a, by omega, c⟩
        · rw [if_neg hc]
          obtain ⟨T, e, a, b, c⟩ := ih k m hi (by omega) (by omega) hm2 h2 (by omega) (by simpa using hc) hs
          exact ⟨T, e, by omega, b, c⟩
      by_cases hle : lo / 2 + hi / 2 ≤ lo
      · rw [if_pos hle]; exact go (lo + 1) (by omega) (by omega)
      · rw [if_neg hle]; exact go (lo / 2 + hi / 2) (by omega) (by omega)
    · rw [if_neg hgt, if_neg (by simp; omega)]
      have : hi = lo + 1 := by omega
      subst this
      exact ⟨lo + 1, rfl, by omega, by omega, hs, by rw [show lo + 1 - 1 = lo by omega]; exact hf⟩
theorem refwait_eq (k : Nat) (hk : 18446744073709551616 + 100 < k) (l t now rate most n : Int) (hl : In64 l) (ht : 0 ≤ t ∧ t ≤ 2305843009213693952) (hnow : 0 ≤ now ∧ now ≤ 2305843009213693952) (hn : In64 n) : barrowref23_Wait.f k l t now rate most n = some (waitv l t now rate most n) := by
  obtain ⟨k, rfl⟩ : ∃ m, k = m + 2 := ⟨k - 2, by omega⟩
  unfold barrowref23_Wait.f waitv
  rw [reftake_eq k l t now rate most n hl ⟨by omega, by omega⟩ ⟨by omega, by omega⟩, reftake_eq k l t _ rate most n hl ⟨by omega, by omega⟩ (show In64 9223372036854775807 from ⟨by omega, by omega⟩), reftake_eq k l t (mx now t) rate most n hl ⟨by omega, by omega⟩ (by rw [mx_max]; exact ⟨by omega, by omega⟩)]
  simp only [Option.bind_some]
  by_cases h0 : (takev l t now rate most n).2.2 = true
  · rw [if_pos h0, if_pos h0]
  · rw [if_neg h0, if_neg h0]
    have hr := ratev_in rate
    by_cases h1 : (takev l t 9223372036854775807 rate most n).2.2 = true
    · rw [if_pos h1]
      obtain ⟨hR, hn0, hn1⟩ := take_true h1
      have hi1 := (take_iff l t 9223372036854775807 rate most n hR ⟨hn0, hn1⟩ ⟨by omega, by omega, by omega⟩).1 h1
      have hfrom : (takev l t (mx now t) rate most n).2.2 = false := by
        rw [mx_max]
        rcases Int.lt_or_le now t with hlt | hge
        · rw [show max now t = t by omega]
          have a := mt (take_before l t now rate most n hR ⟨hn0, hn1⟩ hlt).2 h0
          refine Bool.eq_false_iff.2 fun h => a ?_
          have := (take_iff l t t rate most n hR ⟨hn0, hn1⟩ ⟨by omega, by omega, by omega⟩).1 h
          rw [Int.sub_self, Int.mul_zero] at this
          omega
        · rw [show max now t = now by omega]; simpa using h0
      have hr0 : ratev rate ≠ 0 := by
        intro h
        have a : (takev l t (max now t) rate most n).2.2 = true := (take_iff l t (max now t) rate most n hR ⟨hn0, hn1⟩ ⟨by omega, by omega, by omega⟩).2 (by rw [h] at hi1 ⊢; rw [Int.zero_mul] at hi1 ⊢; exact hi1)
        rw [mx_max, a] at hfrom
        simp at hfrom
      rw [if_neg (by rw [hfrom]; simp), if_neg (by intro h; rcases h with h | h | h | h; exact h hR; omega; omega; exact hr0 h)]
      have hmx : mx now t = max now t := mx_max _ _
      obtain ⟨T, e, a, b, c, d'⟩ := wait_loop l t rate most n hl ht 9223372036854775807 (k + 2) (mx now t) 9223372036854775807 (by omega) (by omega) (by omega) (by omega) (by omega) hfrom h1
      rw [e]
      have c1 := (take_iff l t T rate most n hR ⟨hn0, hn1⟩ ⟨by omega, by omega, by omega⟩).1 c
      have c2 : ¬ n ≤ l + ratev rate * (T - 1 - t) := fun h => by
        rw [(take_iff l t (T - 1) rate most n hR ⟨hn0, hn1⟩ ⟨by omega, by omega, by omega⟩).2 h] at d'
        simp at d'
      have hT := first_time l n (ratev rate) t T (by omega) c1 c2
      rw [← hT, satv_in (by omega)]
      congr 1
      omega
    · rw [if_neg h1]
      rw [if_pos ?_]
      refine Classical.byContradiction fun hc => h1 ?_
      have hR : Rightv l most := Classical.byContradiction fun h => hc (Or.inl h)
      have hc' : ¬ (n < 0 ∨ n > most ∨ ratev rate = 0) := fun h => hc (Or.inr h)
      have hR2 := hR.2
      have hR1 := hR.1
      refine (take_iff l t 9223372036854775807 rate most n hR ⟨by omega, by omega⟩ ⟨by omega, by omega, by omega⟩).2 ?_
      have : 1 * (9223372036854775807 - t) ≤ ratev rate * (9223372036854775807 - t) := Int.mul_le_mul_of_nonneg_right (by omega) (by omega)
      omega
theorem LimitWaits : barrowlaw23_LimitWaits.Pure := by
  intro l t now rate most n wl wt wn wr wm wk
  have hl := i64_of wl
  have ht := i64_of wt
  have hnow := i64_of wn
  have hn := i64_of wk
  refine ⟨18446744073709551616 + 200, ?_⟩
  have hs : barrowlaw23_small.f (18446744073709551616 + 200) = some true := at_rounds barrowlaw23_small.mono (by omega) limit_small
  unfold barrowlaw23_LimitWaits.f
  rw [hs]
  simp only [Option.bind_some]
  have key : ∀ b : Bool, (b = false → 0 ≤ t ∧ t ≤ 2305843009213693952 ∧ 0 ≤ now ∧ now ≤ 2305843009213693952) → barrowlaw23_LimitWaits.j0 (18446744073709551616 + 200) now rate most n true b l t = some true := by
    intro b hb
    rw [show (18446744073709551616 + 200 : Nat) = (18446744073709551616 + 199) + 1 by omega]
    simp only [barrowlaw23_LimitWaits.j0]
    cases b
    · obtain ⟨h1, h2, h3, h4⟩ := hb rfl
      rw [if_neg (by decide), if_true, wait_ge _ (by omega) l t now rate most n hl ⟨h1, h2⟩ ⟨h3, by omega⟩ hn, refwait_eq _ (by omega) l t now rate most n hl ⟨h1, h2⟩ ⟨h3, h4⟩ hn]
      simp
    · rfl
  by_cases h1 : t < 0
  · rw [if_pos h1]; exact key true (fun h => by simp at h)
  · rw [if_neg h1]
    by_cases h2 : t > 2305843009213693952
    · rw [if_pos h2]; exact key true (fun h => by simp at h)
    · rw [if_neg h2]
      by_cases h3 : now < 0
      · rw [if_pos h3]; exact key true (fun h => by simp at h)
      · rw [if_neg h3]
        refine key _ (fun h => ?_)
        have := of_decide_eq_false h
        omega
end Go.Proofs.Ytmcfnpoeefgigaa.Pure
