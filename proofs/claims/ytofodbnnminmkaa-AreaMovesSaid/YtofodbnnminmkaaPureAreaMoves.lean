/- AreaMoves, in plain Lean. -/
import Derived.Test.YtofodbnnminmkaaArA
import Derived.Test.YtofodbnnminmkaaXARx26
set_option linter.unusedSimpArgs false
set_option linter.unusedVariables false
namespace Go.Proofs.Ytofodbnnminmkaa.Pure
open Go.RowKit Go.Proofs.Ytofodbnnminmkaa.XAR Go.Proofs.YtofodbnnminmkaaW.PrintWords Go.Proofs.YtofodbnnminmkaaW.PrintLast Go.Proofs.YtofodbnnminmkaaS
theorem within_eq (a b c : Int) : area_within.f a b c = some (decide (b ≤ a ∧ a ≤ c)) := by
  unfold area_within.f
  by_cases h : a ≥ b
  · rw [if_pos h]; simp [h]
  · rw [if_neg h]; simp; omega
def nearP (x y : Int) : Prop := (-256 ≤ x ∧ x ≤ 512) ∧ (-256 ≤ y ∧ y ≤ 512)
instance (x y : Int) : Decidable (nearP x y) := by unfold nearP; infer_instance
theorem anear_eq (x y : Int) : area_near.f x y = some (decide (nearP x y)) := by
  unfold area_near.f
  rw [within_eq, within_eq]
  simp only [Option.bind_some]
  unfold nearP
  by_cases h1 : -256 ≤ x ∧ x ≤ 512 <;> by_cases h2 : -256 ≤ y ∧ y ≤ 512 <;> simp [h1, h2]
def rightP (a0 a1 a2 a3 a4 a5 a6 : Int) : Prop := (1 ≤ a0 ∧ a0 ≤ 5) ∧ nearP a1 a2 ∧ nearP a3 a4 ∧ (0 ≤ a5 ∧ a5 ≤ 512) ∧ (0 ≤ a6 ∧ a6 ≤ 512)
instance (a0 a1 a2 a3 a4 a5 a6 : Int) : Decidable (rightP a0 a1 a2 a3 a4 a5 a6) := by unfold rightP; infer_instance
theorem right_eq (a0 a1 a2 a3 a4 a5 a6 : Int) : area_Right.f a0 a1 a2 a3 a4 a5 a6 = some (decide (rightP a0 a1 a2 a3 a4 a5 a6)) := by
  unfold area_Right.f
  rw [within_eq, anear_eq, anear_eq, within_eq, within_eq]
  simp only [Option.bind_some]
  unfold rightP
  by_cases h1 : 1 ≤ a0 ∧ a0 ≤ 5 <;> by_cases h2 : nearP a1 a2 <;> by_cases h3 : nearP a3 a4 <;> by_cases h4 : 0 ≤ a5 ∧ a5 ≤ 512 <;> by_cases h5 : 0 ≤ a6 ∧ a6 ≤ 512 <;> simp [h1, h2, h3, h4, h5]
theorem near_move (k : Nat) (ax ay px py r dx dy : Int) (hk : 0 < k) (h1 : nearP ax ay) (h2 : nearP px py) (h3 : nearP (ax + dx) (ay + dy)) (h4 : nearP (px + dx) (py + dy)) (hr : 0 ≤ r ∧ r ≤ 512) :
    (grid_Near.f k (ax + dx) (ay + dy) (px + dx) (py + dy) r = grid_Near.f k ax ay px py r) ∧ ∃ v, grid_Near.f k ax ay px py r = some v := by
  obtain ⟨k, rfl⟩ : ∃ m, k = m + 1 := ⟨k - 1, by omega⟩
  obtain ⟨q1, q2⟩ := h1
  obtain ⟨q3, q4⟩ := h2
  obtain ⟨q5, q6⟩ := h3
  obtain ⟨q7, q8⟩ := h4
  rw [near_eq k (ax + dx) (ay + dy) (px + dx) (py + dy) (by constructor <;> omega) (by constructor <;> omega) (by constructor <;> omega) (by constructor <;> omega) r (by constructor <;> omega), near_eq k ax ay px py (by constructor <;> omega) (by constructor <;> omega) (by constructor <;> omega) (by constructor <;> omega) r (by constructor <;> omega)]
  refine ⟨?_, _, rfl⟩
  unfold nearv sqv farv
  rw [show max (ax + dx) (px + dx) - min (ax + dx) (px + dx) = max ax px - min ax px by omega, show max (ay + dy) (py + dy) - min (ay + dy) (py + dy) = max ay py - min ay py by omega]
theorem box_move (a b c d : Int) : area_box.f (a + d) (b + d) (c + d) = area_box.f a b c ∧ ∃ v, area_box.f a b c = some v := by
  unfold area_box.f
  rw [within_eq, within_eq, mn_min, mx_max, mn_min, mx_max]
  simp only [Option.bind_some]
  refine ⟨?_, _, rfl⟩
  congr 1
  exact decide_eq_decide.2 (by constructor <;> intro h <;> constructor <;> omega)
theorem cone_tot (a b c d : Int) : ∃ v, area_cone.f a b c d = some v := by
  unfold area_cone.f area_dot.f area_cross.f
  simp only [Option.bind_some]
  (repeat' split) <;> exact ⟨_, rfl⟩
theorem beam_tot (a b c d e : Int) : ∃ v, area_beam.f a b c d e = some v := by
  unfold area_beam.f area_dot.f area_cross.f
  simp only [Option.bind_some, within_eq]
  (repeat' split) <;> exact ⟨_, rfl⟩
theorem in_move (k : Nat) (hk : 0 < k) (a0 ax ay tx ty A B px py dx dy : Int) (hs : rightP a0 ax ay tx ty A B) (hp : nearP px py) (ht : rightP a0 (ax + dx) (ay + dy) (tx + dx) (ty + dy) A B) (hq : nearP (px + dx) (py + dy)) :
    area_In.f k a0 (ax + dx) (ay + dy) (tx + dx) (ty + dy) A B (px + dx) (py + dy) = area_In.f k a0 ax ay tx ty A B px py ∧ ∃ v, area_In.f k a0 ax ay tx ty A B px py = some v := by
  obtain ⟨q1, q2, q3, q4, q5⟩ := id hs
  obtain ⟨w1, w2, w3, w4, w5⟩ := id ht
  unfold area_In.f
  rw [right_eq, right_eq, anear_eq, anear_eq, decide_eq_true hs, decide_eq_true ht, decide_eq_true hp, decide_eq_true hq]
  unfold area_less.f
  simp only [Option.bind_some, if_true]
  rw [show px + dx - (ax + dx) = px - ax by omega, show py + dy - (ay + dy) = py - ay by omega, show tx + dx - (ax + dx) = tx - ax by omega, show ty + dy - (ay + dy) = ty - ay by omega]
  obtain ⟨nA, vA, eA⟩ := near_move k ax ay px py A dx dy hk q2 hp w2 hq q4
  obtain ⟨nB, vB, eB⟩ := near_move k ax ay px py B dx dy hk q2 hp w2 hq q5
  obtain ⟨bx, vx, ex⟩ := box_move px ax tx dx
  obtain ⟨by_, vy, ey⟩ := box_move py ay ty dy
  obtain ⟨vc, ec⟩ := cone_tot (wrap64 (px - ax)) (wrap64 (py - ay)) (wrap64 (tx - ax)) (wrap64 (ty - ay))
  obtain ⟨vb, eb⟩ := beam_tot (wrap64 (px - ax)) (wrap64 (py - ay)) (wrap64 (tx - ax)) (wrap64 (ty - ay)) A
  rw [nA, nB, bx, by_]
  refine ⟨rfl, ?_⟩
  rw [eA, eB, ex, ey, ec, eb]
  simp only [Option.bind_some]
  (repeat' split) <;> exact ⟨_, rfl⟩
theorem AreaMoves : barrowlaw32_AreaMoves.Pure := by
  intro a0 ax ay tx ty A B px py dx dy h0 h1 h2 h3 h4 h5 h6 h7 h8 h9 h10
  obtain ⟨k, hk, hs⟩ := ((Ev.ge 100).and small_ev).get
  refine ⟨k, ?_⟩
  have t : ∀ a b : Int, barrowlaw32_tile.f a b = some (a, b) := fun a b => rfl
  obtain ⟨j, rfl⟩ : ∃ j, k = j + 1 := ⟨k - 1, by omega⟩
  obtain ⟨i, rfl⟩ : ∃ i, j = i + 1 := ⟨j - 1, by omega⟩
  have out : barrowlaw32_AreaMoves.j0 (i + 1 + 1) dx dy true true a0 ax ay tx ty A B px py = some true := by rw [barrowlaw32_AreaMoves.j0, if_pos rfl]
  unfold barrowlaw32_AreaMoves.f
  rw [hs, Option.bind_some, right_eq, Option.bind_some]
  by_cases c1 : dx < -300
  · rw [if_pos c1]; exact out
  rw [if_neg c1]
  by_cases c2 : dx > 300
  · rw [if_pos c2]; exact out
  rw [if_neg c2]
  by_cases c3 : dy < -300
  · rw [if_pos c3]; exact out
  rw [if_neg c3]
  by_cases c4 : dy > 300
  · rw [if_pos c4]; exact out
  rw [if_neg c4]
  by_cases hR : rightP a0 ax ay tx ty A B
  rotate_left
  · rw [decide_eq_false hR, if_neg (by simp)]; exact out
  rw [decide_eq_true hR, if_pos rfl]
  by_cases c5 : px < -300
  · rw [if_pos c5]; exact out
  rw [if_neg c5]
  by_cases c6 : px > 600
  · rw [if_pos c6]; exact out
  rw [if_neg c6]
  by_cases c7 : py < -300
  · rw [if_pos c7]; exact out
  rw [if_neg c7]
  by_cases c8 : py > 600
  · rw [decide_eq_true c8]; exact out
  rw [decide_eq_false c8, barrowlaw32_AreaMoves.j0, if_neg (by simp)]
  obtain ⟨q1, ⟨q2, q3⟩, ⟨q4, q5⟩, q6, q7⟩ := id hR
  simp only [t, Option.bind_some]
  rw [wrap64_in (show In64 (ax + dx) by constructor <;> omega), wrap64_in (show In64 (ay + dy) by constructor <;> omega), wrap64_in (show In64 (tx + dx) by constructor <;> omega), wrap64_in (show In64 (ty + dy) by constructor <;> omega), wrap64_in (show In64 (px + dx) by constructor <;> omega), wrap64_in (show In64 (py + dy) by constructor <;> omega), right_eq, right_eq]
  simp only [Option.bind_some]
  by_cases hT : rightP a0 (ax + dx) (ay + dy) (tx + dx) (ty + dy) A B
  rotate_left
  · rw [decide_eq_false hT, if_neg (by simp), barrowlaw32_AreaMoves.j1, if_pos rfl]
  rw [decide_eq_true hT, if_pos rfl]
  by_cases hD : rightP 3 px py (px + dx) (py + dy) 0 0
  rotate_left
  · rw [decide_eq_false hD, barrowlaw32_AreaMoves.j1]; simp
  rw [decide_eq_true hD, barrowlaw32_AreaMoves.j1, if_neg (by simp), if_pos rfl]
  obtain ⟨m1, v, m2⟩ := in_move i (by omega) a0 ax ay tx ty A B px py dx dy hR hD.2.1 hT hD.2.2.1
  rw [m1, m2]
  simp
end Go.Proofs.Ytofodbnnminmkaa.Pure
