/- Buckets, and what is taken out, are those of the document's own answer: for any bucket and any numbers of 64 bits. -/
import Derived.Test.YtmcfnpoeefgigaaLimitA
import Derived.Test.YtmcfnpoeefgigaaRefSumX
namespace Go.Proofs.Ytmcfnpoeefgigaa.Pure
open Go.RowKit Go.Proofs.Ytmcfnpoeefgigaa.XLimit Go.Proofs.YtmcfnpoeefgigaaW.PrintWords Go.Proofs.YtmcfnpoeefgigaaW.PrintLast Go.Proofs.YtmcfnpoeefgigaaW.PrintMore

theorem refright_eq (l t most : Int) : barrowref23_Right.f l t most = some (decide (Rightv l most)) := by
  unfold barrowref23_Right.f
  by_cases h1 : most ≥ 1
  · rw [if_pos h1]
    by_cases h2 : most ≤ 1000000
    · rw [if_pos h2]
      by_cases h3 : l ≥ 0
      · rw [if_pos h3]; congr 1; rw [decide_eq_decide]; unfold Rightv; omega
      · rw [if_neg h3]; congr 1; symm; rw [decide_eq_false_iff_not]; unfold Rightv; omega
    · rw [if_neg h2]; congr 1; symm; rw [decide_eq_false_iff_not]; unfold Rightv; omega
  · rw [if_neg h1]; congr 1; symm; rw [decide_eq_false_iff_not]; unfold Rightv; omega
theorem refrate_eq (r : Int) : barrowref23_fair.f r = some (ratev r) := by
  unfold barrowref23_fair.f ratev
  (repeat' split) <;> rfl
theorem reffill_eq (k : Nat) (l t now rate most : Int) (hl : In64 l) (ht : In64 t) (hn : In64 now) : barrowref23_Fill.f (k + 2) l t now rate most = some (fillv l t now rate most) := by
  unfold barrowref23_Fill.f fillv
  rw [refright_eq]
  simp only [Option.bind_some]
  have hr := ratev_in rate
  have core : ∀ b : Bool, barrowref23_Fill.j0 (k + 2) now rate most b l t = some (if b = true then (l, t) else (min (satv (l + satv (ratev rate * satv (now - t)))) most, now)) := by
    intro b
    simp only [barrowref23_Fill.j0]
    cases b
    · rw [refrate_eq, refsub_eq k now t hn ht]
      simp only [Option.bind_some]
      rw [refmul_eq (ratev rate) _ (by omega) (satv64 _)]
      simp only [Option.bind_some]
      rw [refadd_eq k l _ hl (satv64 _)]
      simp only [Option.bind_some, mn_min, Bool.false_eq_true, if_false]
    · rfl
  rw [core, core]
  by_cases h1 : Rightv l most
  · rw [if_pos (decide_eq_true h1)]
    by_cases h2 : now < t
    · rw [if_pos (decide_eq_true h2), if_neg (by simp [h2])]
    · rw [if_neg (by simpa using h2), if_pos ⟨h1, h2⟩]
  · rw [if_neg (by simpa using h1), if_pos rfl, if_neg (fun h => h1 h.1)]
theorem reftake_eq (k : Nat) (l t now rate most n : Int) (hl : In64 l) (ht : In64 t) (hn : In64 now) : barrowref23_Take.f (k + 2) l t now rate most n = some (takev l t now rate most n) := by
  unfold barrowref23_Take.f takev
  rw [reffill_eq k l t now rate most hl ht hn]
  simp only [Option.bind_some]
  rw [refright_eq]
  simp only [Option.bind_some]
  have hf := fillv_in l t now rate most hl ht hn
  generalize fillv l t now rate most = p at *
  by_cases h1 : Rightv p.1 most
  · rw [if_pos (decide_eq_true h1)]
    by_cases h2 : n < 0
    · rw [if_pos h2, if_neg (by omega)]
    · rw [if_neg h2]
      by_cases h3 : n > p.1
      · rw [if_pos h3, if_neg (by omega)]
      · rw [if_neg h3, if_pos (by omega), show wrap64 (p.1 - n) = p.1 - n by unfold wrap64; omega]
  · rw [if_neg (by simpa using h1), if_neg (fun h => h1 h.1)]
theorem LimitTells : barrowlaw23_LimitTells.Pure := by
  intro l t now rate most n wl wt wn wr wm wk
  have hl := i64_of wl
  have ht := i64_of wt
  have hn := i64_of wn
  refine ⟨100, ?_⟩
  unfold barrowlaw23_LimitTells.f
  rw [limit_small, take_eq 98 l t now rate most n hl ht hn, reftake_eq 98 l t now rate most n hl ht hn, fill_eq 98 l t now rate most hl ht hn, reffill_eq 98 l t now rate most hl ht hn, right_eq, refright_eq]
  simp
end Go.Proofs.Ytmcfnpoeefgigaa.Pure
