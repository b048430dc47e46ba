/- What the program's buckets come to: plain numbers. -/
import Derived.Test.YtmcfnpoeefgigaaSumTX
namespace Go.Proofs.Ytmcfnpoeefgigaa.PureT
open Go.RowKit Go.Proofs.Ytmcfnpoeefgigaa.XLimitT Go.Proofs.YtmcfnpoeefgigaaW.PrintWords Go.Proofs.YtmcfnpoeefgigaaW.PrintLast Go.Proofs.YtmcfnpoeefgigaaW.PrintMore

abbrev In64 (a : Int) : Prop := -9223372036854775808 ≤ a ∧ a ≤ 9223372036854775807
theorem satv64 (x : Int) : In64 (satv x) := by unfold satv; (repeat' split) <;> constructor <;> omega
abbrev Rightv (l most : Int) : Prop := (1 ≤ most ∧ most ≤ 1000000) ∧ (0 ≤ l ∧ l ≤ most)
def ratev (r : Int) : Int := if r < 0 then 0 else if r > 1000000 then 0 else r
theorem ratev_in (r : Int) : 0 ≤ ratev r ∧ ratev r ≤ 1000000 := by unfold ratev; (repeat' split) <;> omega
def fillv (l t now rate most : Int) : Int × Int := if Rightv l most ∧ ¬ now < t then (min (satv (l + satv (ratev rate * satv (now - t)))) most, now) else (l, t)
def takev (l t now rate most n : Int) : Int × Int × Bool :=
  if Rightv (fillv l t now rate most).1 most ∧ 0 ≤ n ∧ n ≤ (fillv l t now rate most).1 then ((fillv l t now rate most).1 - n, (fillv l t now rate most).2, true) else ((fillv l t now rate most).1, (fillv l t now rate most).2, false)
theorem mn_min (a b : Int) : mn a b = min a b := by unfold mn; split <;> omega
theorem mx_max (a b : Int) : mx a b = max a b := by unfold mx; split <;> omega

theorem right_eq (l t most : Int) : limit_Right.f l t most = some (decide (Rightv l most)) := by
  unfold limit_Right.f limit_Right_1.f
  by_cases h1 : most ≥ 1
  · rw [if_pos h1]
    by_cases h2 : most ≤ 1000000
    · simp only [Option.bind_some]
      rw [if_pos (decide_eq_true h2)]
      by_cases h3 : l ≥ 0
      · rw [if_pos h3]; simp only [Option.bind_some]; congr 1; rw [decide_eq_decide]; unfold Rightv; omega
      · rw [if_neg h3]; simp only [Option.bind_some]; congr 1; symm; rw [decide_eq_false_iff_not]; unfold Rightv; omega
    · simp only [Option.bind_some]
      rw [if_neg (by simpa using h2)]; congr 1; symm; rw [decide_eq_false_iff_not]; unfold Rightv; omega
  · rw [if_neg h1]; simp only [Option.bind_some]; rw [if_neg (by decide)]; congr 1; symm; rw [decide_eq_false_iff_not]; unfold Rightv; omega
theorem rate_eq (r : Int) : limit_rateOf.f r = some (ratev r) := by
  unfold limit_rateOf.f ratev
  (repeat' split) <;> rfl
theorem fill_eq (k : Nat) (l t now rate most : Int) (hl : In64 l) (ht : In64 t) (hn : In64 now) : limit_Fill.f (k + 2) l t now rate most = some (fillv l t now rate most) := by
  unfold limit_Fill.f fillv
  rw [right_eq]
  simp only [Option.bind_some]
  have hr := ratev_in rate
  have core : ∀ b : Bool, limit_Fill.j0 (k + 2) now rate most b l t = some (if b = true then (l, t) else (min (satv (l + satv (ratev rate * satv (now - t)))) most, now)) := by
    intro b
    simp only [limit_Fill.j0]
    cases b
    · rw [rate_eq, sub_eq k now t hn ht]
      simp only [Option.bind_some]
      rw [mul_eq (ratev rate) _ (by omega) (satv64 _)]
      simp only [Option.bind_some]
      rw [add_eq k l _ hl (satv64 _)]
      simp only [Option.bind_some, mn_min, Bool.false_eq_true, if_false]
    · rfl
  rw [core, core]
  by_cases h1 : Rightv l most
  · rw [if_pos (decide_eq_true h1)]
    by_cases h2 : now < t
    · rw [if_pos (decide_eq_true h2), if_neg (by simp [h2])]
    · rw [if_neg (by simpa using h2), if_pos ⟨h1, h2⟩]
  · rw [if_neg (by simpa using h1), if_pos rfl, if_neg (fun h => h1 h.1)]
theorem fillv_in (l t now rate most : Int) (hl : In64 l) (ht : In64 t) (hn : In64 now) : In64 (fillv l t now rate most).1 ∧ In64 (fillv l t now rate most).2 := by
  unfold fillv
  split
  · rename_i h
    have hs := satv64 (l + satv (ratev rate * satv (now - t)))
    exact ⟨⟨by have := h.1; show -9223372036854775808 ≤ min _ _; omega, by have := h.1; show min _ _ ≤ (9223372036854775807 : Int); omega⟩, hn⟩
  · exact ⟨hl, ht⟩
theorem take_eq (k : Nat) (l t now rate most n : Int) (hl : In64 l) (ht : In64 t) (hn : In64 now) : limit_Take.f (k + 2) l t now rate most n = some (takev l t now rate most n) := by
  unfold limit_Take.f takev
  rw [fill_eq k l t now rate most hl ht hn]
  simp only [Option.bind_some]
  rw [right_eq]
  simp only [Option.bind_some]
  have hf := fillv_in l t now rate most hl ht hn
  generalize fillv l t now rate most = p at *
  by_cases h1 : Rightv p.1 most
  · rw [if_pos (decide_eq_true h1)]
    by_cases h2 : n < 0
    · rw [if_pos h2, if_neg (by omega)]
    · rw [if_neg h2]
      by_cases h3 : n > p.1
      · rw [if_pos h3, if_neg (by omega)]
      · rw [if_neg h3, if_pos (by omega), show wrap64 (p.1 - n) = p.1 - n by unfold wrap64; omega]
  · rw [if_neg (by simpa using h1), if_neg (fun h => h1 h.1)]
theorem limit_small : barrowlaw23_small.f 100 = some true := by decide +kernel
/-- When some could be taken. -/
def waitv (l t now rate most n : Int) : Int :=
  if (takev l t now rate most n).2.2 = true then now
  else if ¬ Rightv l most ∨ n < 0 ∨ n > most ∨ ratev rate = 0 then 9223372036854775807
  else max (satv (t + (n - l + ratev rate - 1) / ratev rate)) now
end Go.Proofs.Ytmcfnpoeefgigaa.PureT
