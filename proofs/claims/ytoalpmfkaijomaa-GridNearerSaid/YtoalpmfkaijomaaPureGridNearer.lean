/- GridNearer, in plain Lean. -/
import Derived.Test.YtoalpmfkaijomaaGrN
import Derived.Test.YtoalpmfkaijomaaXGNx4
set_option linter.unusedSimpArgs false
set_option linter.unusedVariables false
namespace Go.Proofs.Ytoalpmfkaijomaa.Pure
open Go.RowKit Go.Proofs.Ytoalpmfkaijomaa.XGR Go.Proofs.Ytoalpmfkaijomaa.XGN Go.Proofs.YtoalpmfkaijomaaW.PrintWords Go.Proofs.YtoalpmfkaijomaaW.PrintLast
theorem GridNearer : barrowlaw06_GridNearer.Pure := by
  intro w h l x y bx by_ n m _ _ _ hx hy hbx hby hn hm
  replace hn := i64_of hn
  replace hm := i64_of hm
  obtain ⟨K, hk⟩ := small_ev
  refine ⟨K + 700, ?_⟩
  unfold barrowlaw06_GridNearer.f barrowlaw06_Few.f
  rw [hk (K + 700) (by omega), Option.bind_some, Option.bind_some]
  by_cases c0 : decide ((l.length : Int) ≤ 1024) = true
  rotate_left
  · rw [if_neg c0]
  rw [if_pos c0]
  by_cases c1 : n < 0
  · rw [if_pos c1]
  rw [if_neg c1]
  by_cases c2 : m < 0
  · rw [if_pos c2]
  rw [if_neg c2]
  by_cases c3 : n > 1048576
  · rw [if_pos c3]
  rw [if_neg c3]
  by_cases c4 : m > 1048576
  · rw [if_pos c4]
  rw [if_neg c4]
  rw [toward_eq _ (by omega) w h l x y bx by_ n hn, Option.bind_some, in_eq, Option.bind_some]
  by_cases h1 : RightG w h l ∧ Ins w h x y
  rotate_left
  · have e : towv w h l x y bx by_ n = (x, y) := by unfold towv; rw [if_neg (fun q => h1 ⟨q.1, q.2.1⟩)]
    rw [decide_eq_false h1, e]
    simp
  rw [decide_eq_true h1, if_pos rfl, in_eq, Option.bind_some]
  by_cases h2 : RightG w h l ∧ Ins w h bx by_
  rotate_left
  · have e : towv w h l x y bx by_ n = (x, y) := by unfold towv; rw [if_neg (fun q => h2 ⟨q.1, q.2.2⟩)]
    rw [decide_eq_false h2, e]
    simp
  rw [decide_eq_true h2, if_pos rfl]
  obtain ⟨hr, ha⟩ := h1
  have hb := h2.2
  have hd := dist_le hr ha hb
  have tw : ∀ n, towv w h l x y bx by_ n = walkv w l bx by_ 256 x y n := fun n => by unfold towv; rw [if_pos ⟨hr, ha, hb⟩]
  obtain ⟨k, k1, k2, k3, k4, k5⟩ := @walk_spec w h l bx by_ 256 x y n hd (by omega)
  have hp := adv_ins ha hb k
  obtain ⟨d1, d2⟩ := adv_dist k2
  have hadd := walk_add (w := w) (l := l) (bx := bx) (by_ := by_) (m := m) (by omega) 256 x y n hd (by omega)
  rw [tw, k3]
  rw [k3] at hadd
  simp only at hadd ⊢
  have hpa : k = 0 → adv x bx k = x ∧ adv y by_ k = y := by rintro rfl; exact ⟨adv_zero _ _, adv_zero _ _⟩
  have tp : ∀ n, towv w h l (adv x bx k) (adv y by_ k) bx by_ n = walkv w l bx by_ 256 (adv x bx k) (adv y by_ k) n := fun n => by unfold towv; rw [if_pos ⟨hr, hp, hb⟩]
  have stuck : (k : Int) = n ∨ (adv x bx k = bx ∧ adv y by_ k = by_) ∨ walkv w l bx by_ 256 (adv x bx k) (adv y by_ k) 1 = (adv x bx k, adv y by_ k) := by
    rcases k5 with q | q | q
    · exact .inl q
    · exact .inr (.inl (dist_zero (by omega)))
    · refine .inr (.inr ?_)
      have := walk_succ w l bx by_ 255 (adv x bx k) (adv y by_ k) 1
      by_cases he : adv x bx k = bx ∧ adv y by_ k = by_
      · rw [if_pos he] at this; exact this
      · rw [if_neg he, if_neg (by omega), if_pos q] at this; exact this
  generalize adv x bx k = px at *
  generalize adv y by_ k = py at *
  have L2 : ∀ (k' : Nat) (b : Bool), 256 < k' → ((k : Int) = n ∨ b = true) → barrowlaw06_GridNearer.l299 (k' + 1) w h l x y bx by_ n m true px py k (walkv w l bx by_ 256 px py m).1 (walkv w l bx by_ 256 px py m).2 b = some true := by
    intro k' b hk' hb'
    rw [barrowlaw06_GridNearer.l299, if_pos rfl, Go.Proofs.Ytoalpmfkaijomaa.Pure.wrap64_in (show In64 (n + m) by constructor <;> omega), toward_eq k' hk' w h l x y bx by_ (n + m) (by constructor <;> omega), Option.bind_some, tw, hadd, if_pos (by simp)]
    have last : n = 0 → (px == x && py == y) = true := by
      intro e
      obtain ⟨e1, e2⟩ := hpa (by omega)
      rw [e1, e2]; simp
    by_cases e : (k : Int) = n
    · rw [if_pos e]
      by_cases e0 : n = 0
      · rw [if_pos e0, last e0]
      · rw [if_neg e0]
    · rw [if_neg e, if_pos (hb'.resolve_left e)]
      by_cases e0 : n = 0
      · rw [if_pos e0, last e0]
      · rw [if_neg e0]
  have L1 : ∀ (k' : Nat) (b : Bool), 257 < k' → b = false → barrowlaw06_GridNearer.l199 (k' + 1) w h l x y bx by_ n m true px py k b = some true := by
    intro k' b hk' hb'
    obtain ⟨j, rfl⟩ : ∃ j, k' = j + 1 := ⟨k' - 1, by omega⟩
    rw [barrowlaw06_GridNearer.l199, hb', if_neg (by decide), toward_eq (j + 1) (by omega) w h l px py bx by_ m hm, Option.bind_some, toward_eq (j + 1) (by omega) w h l px py bx by_ 1 (by constructor <;> omega), Option.bind_some, tp, tp]
    by_cases q1 : (px == bx && (py == by_)) = true
    · rw [if_pos q1]; exact L2 j true (by omega) (.inr rfl)
    · rw [if_neg q1]
      by_cases q2 : ((walkv w l bx by_ 256 px py 1).1 == px && ((walkv w l bx by_ 256 px py 1).2 == py)) = true
      · rw [if_pos q2]; exact L2 j true (by omega) (.inr rfl)
      · rw [if_neg q2]
        refine L2 j false (by omega) ?_
        rcases stuck with q | q | q
        · exact .inl q
        · exact absurd (by simp [q]) q1
        · exact absurd (by rw [q]; simp) q2
  rw [steps_dist hr ha hp (by omega), d1, Option.bind_some, if_neg (by omega), steps_dist hr hp hb (by omega), Option.bind_some, steps_dist hr ha hb (by omega), Option.bind_some]
  rw [if_pos (by rw [Go.Proofs.Ytoalpmfkaijomaa.Pure.wrap64_in (by constructor <;> omega)]; omega)]
  have hfin := L1 (K + 699) (!decide (RightG w h l ∧ Ins w h px py)) (by omega) (by rw [decide_eq_true ⟨hr, hp⟩]; rfl)
  by_cases q : (!(px == x) || (!(py == y))) = true
  · rw [if_pos q, wallG_eq hr hp, Option.bind_some, k4 (by
      rcases Nat.eq_zero_or_pos k with e | e
      · obtain ⟨e1, e2⟩ := hpa e
        rw [e1, e2] at q; simp at q
      · exact e), if_neg (by decide), in_eq, Option.bind_some]
    exact hfin
  · rw [if_neg q, in_eq, Option.bind_some]
    exact hfin
end Go.Proofs.Ytoalpmfkaijomaa.Pure
