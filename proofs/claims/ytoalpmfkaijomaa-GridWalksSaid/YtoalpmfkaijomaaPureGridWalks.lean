/- GridWalks, in plain Lean. -/
import Derived.Test.YtoalpmfkaijomaaGrB
import Derived.Test.YtoalpmfkaijomaaXGLx5
import Derived.Test.YtoalpmfkaijomaaXGRx10
set_option linter.unusedSimpArgs false
set_option linter.unusedVariables false
namespace Go.Proofs.Ytoalpmfkaijomaa.Pure
open Go.RowKit Go.Proofs.Ytoalpmfkaijomaa.XGR Go.Proofs.Ytoalpmfkaijomaa.XGL Go.Proofs.YtoalpmfkaijomaaW.PrintWords Go.Proofs.YtoalpmfkaijomaaW.PrintLast
theorem rin_eq (w h : Int) (l : List Bool) (x y : Int) : barrowref06_In.f w h l x y = some (decide (RightG w h l ∧ Ins w h x y)) := by
  have e : barrowref06_Right.f w h l = grid_Right.f w h l := by
    unfold barrowref06_Right.f grid_Right.f grid_Right_1.f
    by_cases h1 : w ≥ 1
    · by_cases h2 : w ≤ 256
      · by_cases h3 : h ≥ 1
        · by_cases h4 : h ≤ 256 <;> simp [h1, h2, h3, h4]
        · simp [h1, h2, h3]
      · simp [h1, h2]
    · simp [h1]
  have e2 := in_eq w h l x y
  unfold grid_In.f grid_inside.f at e2
  unfold barrowref06_In.f
  rw [e, ← e2]
  congr 1
  funext t
  cases t
  · rfl
  · simp only [if_true]
    (repeat' split) <;> rfl
theorem rwall_eq {w h x y : Int} {l : List Bool} (hr : RightG w h l) (hi : Ins w h x y) : barrowref06_Wall.f w h l x y = some (wallv w l x y) := by
  obtain ⟨h1, h2, h3⟩ := place hr hi
  unfold barrowref06_Wall.f
  rw [rin_eq, decide_eq_true ⟨hr, hi⟩, Option.bind_some, if_pos rfl, h1, if_pos h2, if_pos h3]
  rfl
theorem nearer_eq {a b : Int} (h1 : 0 ≤ a) (h2 : a < 256) : barrowref06_nearer.f a b = some (stp a b) := by
  unfold barrowref06_nearer.f stp
  (repeat' split) <;> (first | rfl | (rw [wrap64_in (by omega)]))
theorem rtoward_eq {w h : Int} {l : List Bool} (hr : RightG w h l) {bx by_ n0 : Int} (hb : Ins w h bx by_) (hn0 : In64 n0) : ∀ (d k : Nat) (x y i : Int), dist x y bx by_ ≤ d → 2 * d + 1 < k → Ins w h x y → 0 ≤ i → (i ≤ n0 ∨ i = 0) →
    barrowref06_Toward.l0 k n0 true true i w h l x y bx by_ = some (walkv w l bx by_ d x y (n0 - i)) := by
  intro d
  induction d with
  | zero =>
    intro k x y i hd hk hi h0 h1
    obtain ⟨k, rfl⟩ : ∃ q, k = q + 2 := ⟨k - 2, by omega⟩
    obtain ⟨rfl, rfl⟩ := dist_zero (Nat.le_zero.1 hd)
    simp [barrowref06_Toward.l0, barrowref06_Toward.j1, walkv]
  | succ d ih =>
    intro k x y i hd hk hi h0 h1
    obtain ⟨k, rfl⟩ : ∃ q, k = q + 2 := ⟨k - 2, by omega⟩
    rw [walkv]
    by_cases he : x = bx ∧ y = by_
    · rw [if_pos he]
      obtain ⟨rfl, rfl⟩ := he
      simp [barrowref06_Toward.l0, barrowref06_Toward.j1]
    · rw [if_neg he]
      by_cases hn : n0 - i ≤ 0
      · rw [if_pos hn]
        simp [barrowref06_Toward.l0, barrowref06_Toward.j1, show ¬ (i < n0) by omega]
      · rw [if_neg hn]
        have r2 := hr.2.1
        have r4 := hr.2.2.2.1
        have hi' := hi
        unfold Ins at hi'
        have hs := stp_ins hi hb
        have hc : (!(x == bx) || (!(y == by_))) = true := by simp; omega
        rw [barrowref06_Toward.l0, if_pos (by omega), if_pos rfl, if_pos rfl, hc, barrowref06_Toward.j1, if_pos rfl, nearer_eq (by omega) (by omega), nearer_eq (by omega) (by omega)]
        simp only [Option.bind_some]
        rw [rwall_eq hr hs]
        simp only [Option.bind_some]
        split
        · rfl
        · rw [wrap64_in (by omega), show n0 - i - 1 = n0 - (i + 1) by omega]
          have := dist_stp he
          exact ih k _ _ _ (by omega) (by omega) hs (by omega) (by omega)
theorem rtow_eq (k : Nat) (hk : 600 < k) (w h : Int) (l : List Bool) (x y bx by_ n : Int) (hn : In64 n) : barrowref06_Toward.f k w h l x y bx by_ n = some (towv w h l x y bx by_ n) := by
  unfold barrowref06_Toward.f towv
  rw [rin_eq, rin_eq]
  simp only [Option.bind_some]
  obtain ⟨k, rfl⟩ : ∃ q, k = q + 2 := ⟨k - 2, by omega⟩
  by_cases h1 : RightG w h l ∧ Ins w h x y
  · rw [decide_eq_true h1]
    by_cases h2 : RightG w h l ∧ Ins w h bx by_
    · rw [decide_eq_true h2, if_pos ⟨h1.1, h1.2, h2.2⟩]
      have := rtoward_eq h1.1 h2.2 hn 256 (k + 2) x y 0 (dist_le h1.1 h1.2 h2.2) (by omega) h1.2 (by omega) (by omega)
      rwa [Int.sub_zero] at this
    · rw [decide_eq_false h2, if_neg (fun h => h2 ⟨h.1, h.2.2⟩)]
      simp [barrowref06_Toward.l0, barrowref06_Toward.j1]
  · rw [decide_eq_false h1, if_neg (fun h => h1 ⟨h.1, h.2.1⟩)]
    simp [barrowref06_Toward.l0, barrowref06_Toward.j1]
theorem GridWalks : barrowlaw06_GridWalks.Pure := by
  intro w h l x y bx by_ n _ _ _ _ _ _ _ hn
  replace hn := i64_of hn
  obtain ⟨K, hk⟩ := small_ev
  refine ⟨K + 700, ?_⟩
  unfold barrowlaw06_GridWalks.f barrowlaw06_Few.f
  rw [hk (K + 700) (by omega), toward_eq _ (by omega) w h l x y bx by_ n hn, rtow_eq _ (by omega) w h l x y bx by_ n hn]
  simp only [Option.bind_some, if_true]
  split
  · simp
  · rfl
end Go.Proofs.Ytoalpmfkaijomaa.Pure
