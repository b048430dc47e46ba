/- ZoneBeats, in plain Lean. -/
import Derived.Test.YtiadhonhjnbliaaZo
import Derived.Test.YtiadhonhjnbliaaXZNx28
set_option linter.unusedSimpArgs false
set_option linter.unusedVariables false
set_option linter.unusedSectionVars false
namespace Go.Proofs.Ytiadhonhjnbliaa.Pure
open Go.RowKit Go.Proofs.Ytiadhonhjnbliaa.XZN Go.Proofs.YtiadhonhjnbliaaW.PrintWords Go.Proofs.YtiadhonhjnbliaaW.PrintLast
section
variable {e l f a : Int} (he : 1 ≤ e ∧ e ≤ 50) (hl : 1 ≤ l ∧ l ≤ 100) (hf : 0 ≤ f ∧ f ≤ 1048576) (ha : In64 a)
include he hl hf ha
/-- The beats so far, if the being stands in the circle. -/
theorem beats_end (k : Nat) (z : List S37) (c : Int) (h1 : e * c ≤ l) (h2 : l < e * (c + 1)) : barrowlaw33_ZoneBeats.l0 (k + 1) e l f a true [bd a] z (if inc a = true then c else 0) (f + l + 1) = some true := by
  rw [barrowlaw33_ZoneBeats.l0, wrap64_in (x := f + l) (by omega), if_neg (by omega)]
  have hc : l / e = c := by
    rw [Int.mul_add] at h2
    exact Int.ediv_eq_iff_of_pos (by omega) |>.2 ⟨by rw [Int.mul_comm]; omega, by rw [Int.mul_comm c]; omega⟩
  have hd : Int.tdiv l e = c := by rw [Int.tdiv_eq_ediv_of_nonneg (by omega)]; exact hc
  have hc0 : 0 ≤ c ∧ c ≤ 100 := by
    rw [← hc]
    exact ⟨Int.ediv_nonneg (by omega) (by omega), Int.le_trans (Int.ediv_le_self _ (by omega)) (by omega)⟩
  unfold inc
  by_cases h3 : a ≥ -3
  · rw [if_pos h3]
    by_cases h4 : a ≤ 3
    · rw [if_pos h4, if_neg (by omega), if_pos rfl, hd, wrap64_in (by omega), if_pos (by rw [decide_eq_true ⟨h3, h4⟩]; rfl)]
    · rw [if_neg h4, if_pos rfl, if_pos (by rw [decide_eq_false (fun h => h4 h.2)]; rfl)]
  · rw [if_neg h3, if_pos rfl, if_pos (by rw [decide_eq_false (fun h => h3 h.1)]; rfl)]
omit he hl hf ha in
theorem count_eq (c : Int) (hc0 : 0 ≤ c) (hc1 : c ≤ 100) (p : Prop) [Decidable p] : wrap64 ((if inc a = true then c else 0) + (((if p ∧ inc a = true then [(⟨1, 5⟩ : S56)] else []).length : Nat) : Int)) = if inc a = true then (if p then c + 1 else c) else 0 := by
  have w0 : wrap64 (0 + ((0 : Nat) : Int)) = 0 := by decide +kernel
  have wc : wrap64 (c + ((0 : Nat) : Int)) = c := by rw [wrap64_in (by omega)]; omega
  have wc1 : wrap64 (c + ((0 + 1 : Nat) : Int)) = c + 1 := by rw [wrap64_in (by omega)]; omega
  by_cases hp : p
  · cases inc a
    · simp only [hp, true_and, Bool.false_eq_true, if_false, List.length_nil]; exact w0
    · simp only [hp, true_and, if_true, List.length_cons, List.length_nil]; exact wc1
  · cases inc a
    · simp only [hp, false_and, Bool.false_eq_true, if_false, List.length_nil]; exact w0
    · simp only [hp, false_and, if_false, if_true, List.length_nil]; exact wc
theorem beats_run : ∀ (m : Nat) (t c : Int) (k : Nat), (m : Int) = f + l - t → f ≤ t → 0 ≤ c → c ≤ 100 → f + e * c < t + (if c = 0 then 1 else 0) → t ≤ f + e * (c + 1) → e * (c + 1) ≤ 200 →
    barrowlaw33_ZoneBeats.l0 (k + m + 10) e l f a true [bd a] [zn (f + l) e (f + e * (c + 1))] (if inc a = true then c else 0) t = some true := by
  intro m
  induction m with
  | zero =>
    intro t c k hm ht hc0 hc1 h1 h2 h3
    have hcc := Int.mul_nonneg (show 0 ≤ e by omega) hc0
    have hce : e * (c + 1) = e * c + e := by rw [Int.mul_add, Int.mul_one]
    have hcf : e * (c + 2) = e * c + e + e := by rw [Int.mul_add]; omega
    rw [show k + 0 + 10 = (k + 9) + 1 by omega, barrowlaw33_ZoneBeats.l0, wrap64_in (x := f + l) (by omega), if_pos (by omega), tick_eq (k + 4) (f + l) e (f + e * (c + 1)) a t ha (by omega) (by omega)]
    simp only [Option.bind_some]
    rw [if_pos (by omega), right0 (k + 7)]
    simp only [Option.bind_some, if_true, List.length_nil]
    rw [if_neg (by simp; omega), wrap64_in (x := t + 1) (by omega), show t + 1 = f + l + 1 by omega, count_eq c hc0 hc1]
    by_cases hn : f + e * (c + 1) ≤ t ∧ f + e * (c + 1) ≤ f + l
    · rw [if_pos hn]
      exact beats_end he hl hf ha (k + 8) [] (c + 1) (by omega) (by rw [show c + 1 + 1 = c + 2 by omega]; omega)
    · rw [if_neg hn]
      exact beats_end he hl hf ha (k + 8) [] c (by split at h1 <;> omega) (by omega)
  | succ m ih =>
    intro t c k hm ht hc0 hc1 h1 h2 h3
    have hcc := Int.mul_nonneg (show 0 ≤ e by omega) hc0
    have hce : e * (c + 1) = e * c + e := by rw [Int.mul_add, Int.mul_one]
    have hcf : e * (c + 2) = e * c + e + e := by rw [Int.mul_add]; omega
    rw [show k + (m + 1) + 10 = (k + m + 10) + 1 by omega, barrowlaw33_ZoneBeats.l0, wrap64_in (x := f + l) (by omega), if_pos (by omega), tick_eq (k + m + 5) (f + l) e (f + e * (c + 1)) a t ha (by omega) (by omega)]
    simp only [Option.bind_some]
    rw [if_neg (by omega), right1 (k + m + 8) _ _ _ (by omega)]
    simp only [Option.bind_some, if_true, List.length_cons, List.length_nil]
    rw [if_neg (by simp; omega), wrap64_in (x := t + 1) (by omega), count_eq c hc0 hc1]
    by_cases hn : f + e * (c + 1) ≤ t ∧ f + e * (c + 1) ≤ f + l
    · have hlt : c + 1 ≤ e * (c + 1) := by
        have := Int.mul_le_mul_of_nonneg_right (show 1 ≤ e by omega) (show 0 ≤ c + 1 by omega)
        omega
      have := ih (t + 1) (c + 1) k (by omega) (by omega) (by omega) (by omega) (by rw [if_neg (by omega)]; omega) (by rw [show c + 1 + 1 = c + 2 by omega]; omega) (by rw [show c + 1 + 1 = c + 2 by omega]; omega)
      rw [show f + e * (c + 1 + 1) = f + e * (c + 1) + e by rw [show c + 1 + 1 = c + 2 by omega]; omega] at this
      rw [if_pos hn, if_pos hn]
      exact this
    · have := ih (t + 1) c k (by omega) (by omega) hc0 hc1 (by split at h1 <;> omega) (by omega) h3
      rw [if_neg hn, if_neg hn]
      exact this
end
theorem ZoneBeats : barrowlaw33_ZoneBeats.Pure := by
  intro e l f a h1 h2 h3 h4
  obtain ⟨K, hk⟩ := small_ev
  refine ⟨K + 300, ?_⟩
  unfold barrowlaw33_ZoneBeats.f
  rw [hk (K + 300) (by omega)]
  simp only [Option.bind_some]
  (repeat' split) <;> (try rfl)
  rename_i c1 c2 c3 c4 c5 c6
  simp only [barrowlaw33_circle.f, Option.bind_some]
  rw [add_eq1 (K + 295) e f l (by omega) (by omega) (by omega)]
  simp only [Option.bind_some, if_true]
  have := beats_run (e := e) (l := l) (f := f) (a := a) (by omega) (by omega) (by omega) (i64_of h4) l.toNat f 0 (K + 290 - l.toNat) (by omega) (by omega) (by omega) (by omega) (by rw [if_pos rfl, Int.mul_zero]; omega) (by omega) (by omega)
  rw [show K + 290 - l.toNat + l.toNat + 10 = K + 300 by omega, show e * (0 + 1) = e by omega] at this
  simpa [bd] using this
end Go.Proofs.Ytiadhonhjnbliaa.Pure
