/- AreaShapes, in plain Lean. -/
import Derived.Test.YtofodbnnminmkaaArS
import Derived.Test.YtofodbnnminmkaaXASx14
set_option linter.unusedSimpArgs false
set_option linter.unusedVariables false
namespace Go.Proofs.Ytofodbnnminmkaa.Pure
open Go.RowKit Go.Proofs.Ytofodbnnminmkaa.XAS Go.Proofs.YtofodbnnminmkaaW.PrintWords Go.Proofs.YtofodbnnminmkaaW.PrintLast Go.Proofs.YtofodbnnminmkaaS
theorem AreaShapes : barrowlaw32_AreaShapes.Pure := by
  intro ax ay bx by_ x y i o h0 h1 h2 h3 h4 h5 h6 h7
  obtain ⟨k, hk, hs⟩ := ((Ev.ge 100).and small_ev).get
  refine ⟨k, ?_⟩
  have t : ∀ a b : Int, barrowlaw32_tile.f a b = some (a, b) := fun a b => rfl
  obtain ⟨j, rfl⟩ : ∃ j, k = j + 1 + 1 + 1 := ⟨k - 3, by omega⟩
  unfold barrowlaw32_AreaShapes.f
  rw [hs, Option.bind_some, t, Option.bind_some, aright_eq, Option.bind_some]
  by_cases hR : Rt 2 ax ay 0 0 i o
  rotate_left
  · rw [decide_eq_false hR]; rfl
  rw [decide_eq_true hR, if_pos rfl, aright_eq, Option.bind_some]
  by_cases hB : Rt 3 ax ay bx by_ 0 0
  rotate_left
  · rw [decide_eq_false hB]; rfl
  rw [decide_eq_true hB, if_pos rfl]
  obtain ⟨-, ⟨n1, n2⟩, ⟨n3, n4⟩, -, -⟩ := id hB
  have w1 : wrap64 (wrap64 (2 * ax) - bx) = 2 * ax - bx := by rw [wrap64_in (x := 2 * ax) (by omega), wrap64_in (by omega)]
  have w2 : wrap64 (wrap64 (2 * ay) - by_) = 2 * ay - by_ := by rw [wrap64_in (x := 2 * ay) (by omega), wrap64_in (by omega)]
  simp only [w1, w2]
  rw [aright_eq, Option.bind_some]
  by_cases hK : Rt 4 ax ay (2 * ax - bx) (2 * ay - by_) o 0
  rotate_left
  · rw [decide_eq_false hK]; rfl
  rw [decide_eq_true hK, if_pos rfl]
  by_cases hi : i < 1
  · rw [if_pos hi]
  rw [if_neg hi]
  have z0 : Nr 0 := by constructor <;> omega
  obtain ⟨-, -, -, ri, ro⟩ := id hR
  obtain ⟨-, -, m1, -, -⟩ := id hK
  have rc : Rt 1 ax ay 0 0 o 0 := ⟨by omega, ⟨n1, n2⟩, ⟨z0, z0⟩, ro, by omega⟩
  have rh : Rt 1 ax ay 0 0 i 0 := ⟨by omega, ⟨n1, n2⟩, ⟨z0, z0⟩, ri, by omega⟩
  have rb : Rt 3 bx by_ ax ay 0 0 := ⟨by omega, ⟨n3, n4⟩, ⟨n1, n2⟩, by omega, by omega⟩
  have rk : Rt 4 ax ay bx by_ o 0 := ⟨by omega, ⟨n1, n2⟩, ⟨n3, n4⟩, ro, by omega⟩
  have rm : Rt 5 ax ay bx by_ 0 0 := ⟨by omega, ⟨n1, n2⟩, ⟨n3, n4⟩, by omega, by omega⟩
  have f1 := fun h : i ≤ o => @ring_circle ax ay i o x y (by omega) h
  have f2 := @ring_hole ax ay i o x y (by omega)
  have f3 := @box_back ax ay bx by_ x y
  have f4 := @cone_circle ax ay bx by_ o x y
  have f5 := @cone_behind ax ay bx by_ o x y
  have f6 := @cone_at ax ay bx by_ o n1 n2
  have f7 := @beam_at ax ay bx by_ n1 n2
  have f8 := @beam_end ax ay bx by_ n3 n4
  have f9 := @beam_box ax ay bx by_ x y
  have f10 := @box_at ax ay bx by_ n1 n2
  have f11 := @box_end ax ay bx by_ n3 n4
  have L2 : ∀ z, z = false → barrowlaw32_AreaShapes.l299 (j + 1 + 1) ax ay bx by_ x y true z = some true := by
    intro z hz
    rw [barrowlaw32_AreaShapes.l299, hz, if_neg (by decide), if_pos rfl]
    simp only [fun u v => in_eq j rm u v, fun u v => in_eq j hB u v, Option.bind_some, f7, f8, f10, f11, if_true]
    cases c : inB 5 ax ay bx by_ 0 0 x y
    · simp
    · simp [f9 c]
  have L1 : ∀ z, z = false → barrowlaw32_AreaShapes.l199 (j + 1 + 1 + 1) ax ay bx by_ x y o true (2 * ax - bx) (2 * ay - by_) z = some true := by
    intro z hz
    rw [barrowlaw32_AreaShapes.l199, hz, if_neg (by decide)]
    simp only [fun u v => in_eq (j + 1) rk u v, fun u v => in_eq (j + 1) rc u v, fun u v => in_eq (j + 1) hK u v, Option.bind_some, f6, L2 (!true) rfl]
    cases c : inB 4 ax ay bx by_ o 0 x y
    · simp
    · rw [if_pos rfl, f4 c, if_pos rfl]
      cases c' : inB 4 ax ay (2 * ax - bx) (2 * ay - by_) o 0 x y
      · simp
      · have := f5 c c'
        rw [if_pos rfl, if_neg (by simp [this])]
  simp only [fun u v => in_eq (j + 1 + 1) rc u v, fun u v => in_eq (j + 1 + 1) rh u v, fun u v => in_eq (j + 1 + 1) hR u v, fun u v => in_eq (j + 1 + 1) hB u v, fun u v => in_eq (j + 1 + 1) rb u v, Option.bind_some]
  have LB := L1 (inB 3 ax ay bx by_ 0 0 x y != inB 3 bx by_ ax ay 0 0 x y) (by rw [f3]; simp)
  rw [LB]
  by_cases hio : i ≤ o
  · rw [if_pos hio, f1 hio]
    cases cR : inB 2 ax ay 0 0 i o x y <;> cases cH : inB 1 ax ay 0 0 i 0 x y <;> rw [cR, cH] at f2 <;> first | (cases f2; done) | simp
  · rw [if_neg hio]
    cases cR : inB 2 ax ay 0 0 i o x y <;> cases cH : inB 1 ax ay 0 0 i 0 x y <;> rw [cR, cH] at f2 <;> first | (cases f2; done) | simp
end Go.Proofs.Ytofodbnnminmkaa.Pure
