/- Area: in which shapes a tile lies, in numbers; what holds of a ring and its hole, a box turned round, a cone and a beam. -/
import Derived.Test.YtofodbnnminmkaaArA
import Derived.Test.YtofodbnnminmkaaXASx5
import Derived.Test.YtofodbnnminmkaaXASx2
import Derived.Test.YtofodbnnminmkaaXASx4
set_option linter.unusedSimpArgs false
set_option linter.unusedVariables false
namespace Go.Proofs.Ytofodbnnminmkaa.Pure
open Go.RowKit Go.Proofs.Ytofodbnnminmkaa.XAS Go.Proofs.YtofodbnnminmkaaW.PrintWords Go.Proofs.YtofodbnnminmkaaW.PrintLast

abbrev Nr (x : Int) : Prop := -256 ≤ x ∧ x ≤ 512
def Rt (kd ax ay bx by_ a b : Int) : Prop := (1 ≤ kd ∧ kd ≤ 5) ∧ (Nr ax ∧ Nr ay) ∧ (Nr bx ∧ Nr by_) ∧ (0 ≤ a ∧ a ≤ 512) ∧ (0 ≤ b ∧ b ≤ 512)
instance (kd ax ay bx by_ a b : Int) : Decidable (Rt kd ax ay bx by_ a b) := by unfold Rt; infer_instance
theorem within_eq (x lo hi : Int) : area_within.f x lo hi = some (decide (lo ≤ x ∧ x ≤ hi)) := by
  unfold area_within.f
  by_cases h : x ≥ lo
  · rw [if_pos h]; congr 1; rw [decide_eq_decide]; omega
  · rw [if_neg h]; congr 1; symm; rw [decide_eq_false_iff_not]; omega
theorem anear_eq (x y : Int) : area_near.f x y = some (decide (Nr x ∧ Nr y)) := by
  unfold area_near.f
  rw [within_eq, within_eq]
  by_cases h1 : Nr x <;> by_cases h2 : Nr y <;> simp [h1, h2]
theorem aright_eq (kd ax ay bx by_ a b : Int) : area_Right.f kd ax ay bx by_ a b = some (decide (Rt kd ax ay bx by_ a b)) := by
  unfold area_Right.f Rt
  rw [within_eq, anear_eq, anear_eq, within_eq, within_eq]
  by_cases h1 : 1 ≤ kd ∧ kd ≤ 5 <;> by_cases h2 : Nr ax ∧ Nr ay <;> by_cases h3 : Nr bx ∧ Nr by_ <;> by_cases h4 : 0 ≤ a ∧ a ≤ 512 <;> simp [h1, h2, h3, h4]
theorem mulb {p q A : Int} (hp : -A ≤ p ∧ p ≤ A) (hq : -A ≤ q ∧ q ≤ A) : -(A * A) ≤ p * q ∧ p * q ≤ A * A := by
  have key : ∀ p q : Int, 0 ≤ p → p ≤ A → 0 ≤ q → q ≤ A → 0 ≤ p * q ∧ p * q ≤ A * A := fun p q h1 h2 h3 h4 =>
    ⟨Int.mul_nonneg h1 h3, Int.mul_le_mul h2 h4 h3 (by omega)⟩
  rcases Int.lt_or_le p 0 with h | h
  · rcases Int.lt_or_le q 0 with h' | h'
    · have := key (-p) (-q) (by omega) (by omega) (by omega) (by omega)
      rw [Int.neg_mul_neg] at this; omega
    · have := key (-p) q (by omega) (by omega) (by omega) (by omega)
      rw [Int.neg_mul] at this; omega
  · rcases Int.lt_or_le q 0 with h' | h'
    · have := key p (-q) (by omega) (by omega) (by omega) (by omega)
      rw [Int.mul_neg] at this; omega
    · have := key p q (by omega) (by omega) (by omega) (by omega)
      omega
theorem m768 {p q : Int} (hp : -768 ≤ p ∧ p ≤ 768) (hq : -768 ≤ q ∧ q ≤ 768) : -589824 ≤ p * q ∧ p * q ≤ 589824 := mulb hp hq
theorem m2M {p q : Int} (hp : -2000000 ≤ p ∧ p ≤ 2000000) (hq : -2000000 ≤ q ∧ q ≤ 2000000) : -4000000000000 ≤ p * q ∧ p * q ≤ 4000000000000 := mulb hp hq
theorem near_small (k : Nat) {ax ay x y r : Int} (h1 : Nr ax) (h2 : Nr ay) (h3 : Nr x) (h4 : Nr y) (hr : 0 ≤ r ∧ r ≤ 512) :
    grid_Near.f (k + 1) ax ay x y r = some (decide ((x - ax) * (x - ax) + (y - ay) * (y - ay) ≤ r * r)) := by
  unfold grid_Near.f grid_Square.f grid_far.f
  have sq : ∀ p q : Int, (max p q - min p q) * (max p q - min p q) = (q - p) * (q - p) := by
    intro p q
    rcases Int.lt_or_le p q with h | h
    · rw [show max p q - min p q = q - p by omega]
    · rw [show max p q - min p q = -(q - p) by omega, Int.neg_mul_neg]
  have b1 := m768 (p := x - ax) (q := x - ax) (by omega) (by omega)
  have b2 := m768 (p := y - ay) (q := y - ay) (by omega) (by omega)
  have b3 := m768 (p := r) (q := r) (by omega) (by omega)
  rw [if_pos (by omega), mx_max, mn_min, mx_max, mn_min, sub_eq k _ _ (by omega) (by omega), sub_eq k _ _ (by omega) (by omega), satv_in (by omega), satv_in (by omega)]
  simp only [Option.bind_some]
  rw [mul_eq _ _ (by omega) (by omega), mul_eq _ _ (by omega) (by omega), mul_eq r r (by omega) (by omega), sq, sq, satv_in (by omega), satv_in (by omega), satv_in (by omega)]
  simp only [Option.bind_some]
  rw [add_eq k _ _ (by omega) (by omega), satv_in (by omega)]
  rfl
theorem sq_zero {p q : Int} : p * p + q * q = 0 ↔ p = 0 ∧ q = 0 := by
  have nn : ∀ z : Int, 0 ≤ z * z := fun z => by
    rcases Int.lt_or_le z 0 with h | h
    · have := Int.mul_nonneg (show 0 ≤ -z by omega) (show 0 ≤ -z by omega)
      rwa [Int.neg_mul_neg] at this
    · exact Int.mul_nonneg h h
  constructor
  · intro h
    have h1 := nn p
    have h2 := nn q
    have e1 : p * p = 0 := by omega
    have e2 : q * q = 0 := by omega
    exact ⟨by simpa using Int.mul_eq_zero.1 e1, by simpa using Int.mul_eq_zero.1 e2⟩
  · rintro ⟨rfl, rfl⟩; rfl
def inQ (kd dx dy tx ty a b : Int) : Prop :=
  if kd = 1 then dx * dx + dy * dy ≤ a * a
  else if kd = 2 then dx * dx + dy * dy ≤ b * b ∧ (a = 0 ∨ ¬ dx * dx + dy * dy ≤ a * a)
  else if kd = 3 then (min 0 tx ≤ dx ∧ dx ≤ max 0 tx) ∧ (min 0 ty ≤ dy ∧ dy ≤ max 0 ty)
  else if kd = 4 then dx * dx + dy * dy ≤ a * a ∧ ((dx = 0 ∧ dy = 0) ∨ (0 < dx * tx + dy * ty ∧ max (dx * ty - dy * tx) (-(dx * ty - dy * tx)) ≤ dx * tx + dy * ty))
  else if tx * tx + ty * ty = 0 then dx * dx + dy * dy ≤ a * a
  else (0 ≤ dx * tx + dy * ty ∧ dx * tx + dy * ty ≤ tx * tx + ty * ty) ∧ (dx * ty - dy * tx) * (dx * ty - dy * tx) ≤ a * a * (tx * tx + ty * ty)
instance (kd dx dy tx ty a b : Int) : Decidable (inQ kd dx dy tx ty a b) := by unfold inQ; infer_instance
def inB (kd ax ay bx by_ a b x y : Int) : Bool := decide ((Nr x ∧ Nr y) ∧ inQ kd (x - ax) (y - ay) (bx - ax) (by_ - ay) a b)
theorem suff_ {o : Option Bool} {N Q : Prop} [Decidable (N ∧ Q)] (hn' : N) (h : ∃ v : Bool, o = some v ∧ (v = true ↔ Q)) : o = some (decide (N ∧ Q)) := by
  obtain ⟨v, h1, h2⟩ := h
  rw [h1]
  congr 1
  rw [Bool.eq_iff_iff, h2, decide_eq_true_eq]
  exact ⟨fun q => ⟨hn', q⟩, fun q => q.2⟩
theorem in_eq (k : Nat) {kd ax ay bx by_ a b : Int} (hr : Rt kd ax ay bx by_ a b) (x y : Int) : area_In.f (k + 1) kd ax ay bx by_ a b x y = some (inB kd ax ay bx by_ a b x y) := by
  unfold area_In.f inB
  rw [aright_eq, anear_eq, decide_eq_true hr]
  simp only [Option.bind_some, if_true]
  by_cases hn : Nr x ∧ Nr y
  rotate_left
  · rw [decide_eq_false hn]; simp [hn]
  rw [decide_eq_true hn]
  obtain ⟨⟨k1, k2⟩, ⟨r1, r2⟩, ⟨r3, r4⟩, ⟨r5, r6⟩, ⟨r7, r8⟩⟩ := hr
  have hn' := hn
  obtain ⟨n1, n2⟩ := hn
  have e1 : wrap64 (x - ax) = x - ax := wrap64_in (by omega)
  have e2 : wrap64 (y - ay) = y - ay := wrap64_in (by omega)
  have e3 : wrap64 (bx - ax) = bx - ax := wrap64_in (by omega)
  have e4 : wrap64 (by_ - ay) = by_ - ay := wrap64_in (by omega)
  have N := fun k r => @near_small k ax ay x y r r1 r2 n1 n2
  have p1 := m768 (p := x - ax) (q := x - ax) (by omega) (by omega)
  have p2 := m768 (p := y - ay) (q := y - ay) (by omega) (by omega)
  have p3 := m768 (p := x - ax) (q := bx - ax) (by omega) (by omega)
  have p4 := m768 (p := y - ay) (q := by_ - ay) (by omega) (by omega)
  have p5 := m768 (p := x - ax) (q := by_ - ay) (by omega) (by omega)
  have p6 := m768 (p := y - ay) (q := bx - ax) (by omega) (by omega)
  have p7 := m768 (p := bx - ax) (q := bx - ax) (by omega) (by omega)
  have p8 := m768 (p := by_ - ay) (q := by_ - ay) (by omega) (by omega)
  have p9 := m768 (p := a) (q := a) (by omega) (by omega)
  have q1 := m2M (p := (x - ax) * (by_ - ay) - (y - ay) * (bx - ax)) (q := (x - ax) * (by_ - ay) - (y - ay) * (bx - ax)) (by omega) (by omega)
  have q2 := m2M (p := a * a) (q := (bx - ax) * (bx - ax) + (by_ - ay) * (by_ - ay)) (by omega) (by omega)
  simp only [Option.bind_some, if_true, Bool.not_true, area_less.f, Bool.false_eq_true, if_false, area_cone.f, area_beam.f, area_box.f, area_dot.f, area_cross.f, within_eq, mx_max, mn_min, e1, e2, e3, e4]
  rw [wrap64_in (x := (x - ax) * (x - ax)) (by omega), wrap64_in (x := (y - ay) * (y - ay)) (by omega), wrap64_in (x := (x - ax) * (bx - ax)) (by omega), wrap64_in (x := (y - ay) * (by_ - ay)) (by omega), wrap64_in (x := (x - ax) * (by_ - ay)) (by omega), wrap64_in (x := (y - ay) * (bx - ax)) (by omega), wrap64_in (x := (bx - ax) * (bx - ax)) (by omega), wrap64_in (x := (by_ - ay) * (by_ - ay)) (by omega), wrap64_in (x := a * a) (by omega)]
  rw [wrap64_in (x := (x - ax) * (x - ax) + (y - ay) * (y - ay)) (by omega), wrap64_in (x := (x - ax) * (bx - ax) + (y - ay) * (by_ - ay)) (by omega), wrap64_in (x := (x - ax) * (by_ - ay) - (y - ay) * (bx - ax)) (by omega), wrap64_in (x := (bx - ax) * (bx - ax) + (by_ - ay) * (by_ - ay)) (by omega)]
  rw [wrap64_in (x := -((x - ax) * (by_ - ay) - (y - ay) * (bx - ax))) (by omega), wrap64_in (x := ((x - ax) * (by_ - ay) - (y - ay) * (bx - ax)) * ((x - ax) * (by_ - ay) - (y - ay) * (bx - ax))) (by omega), wrap64_in (x := a * a * ((bx - ax) * (bx - ax) + (by_ - ay) * (by_ - ay))) (by omega)]
  simp only [N _ a ⟨r5, r6⟩, N _ b ⟨r7, r8⟩, Option.bind_some]
  refine suff_ (hn' := hn') ?_
  unfold inQ
  generalize ((x - ax) * (by_ - ay) - (y - ay) * (bx - ax)) * ((x - ax) * (by_ - ay) - (y - ay) * (bx - ax)) = cc
  generalize a * a * ((bx - ax) * (bx - ax) + (by_ - ay) * (by_ - ay)) = al
  generalize (x - ax) * (by_ - ay) - (y - ay) * (bx - ax) = c
  generalize (x - ax) * (bx - ax) + (y - ay) * (by_ - ay) = d
  generalize (bx - ax) * (bx - ax) + (by_ - ay) * (by_ - ay) = ll
  generalize (x - ax) * (x - ax) + (y - ay) * (y - ay) = f
  generalize a * a = aa
  generalize b * b = bb
  by_cases h1 : kd = 1
  · simp only [if_pos h1]; exact ⟨_, rfl, by simp⟩
  simp only [if_neg h1]
  by_cases h2 : kd = 2
  · simp only [if_pos h2]
    by_cases c1 : f ≤ bb <;> by_cases c2 : a = 0 <;> by_cases c3 : f ≤ aa <;> simp [c1, c2, c3]
  simp only [if_neg h2]
  by_cases h3 : kd = 3
  · simp only [if_pos h3]
    by_cases c1 : min ax bx ≤ x ∧ x ≤ max ax bx
    · simp only [decide_eq_true c1, if_true]
      refine ⟨_, rfl, ?_⟩
      rw [decide_eq_true_eq]
      omega
    · simp only [decide_eq_false c1, Bool.false_eq_true, if_false]
      refine ⟨_, rfl, ?_⟩
      constructor
      · intro h; cases h
      · intro h; exfalso; omega
  simp only [if_neg h3]
  by_cases h4 : kd = 4
  · simp only [if_pos h4]
    by_cases c1 : f ≤ aa
    · simp only [decide_eq_true c1, if_true]
      by_cases c2 : x - ax = 0 ∧ y - ay = 0
      · rw [if_pos (by simpa using c2)]; exact ⟨_, rfl, by simp [c1, c2]⟩
      · rw [if_neg (by simpa using c2)]
        by_cases c3 : d > 0
        · rw [if_pos c3]
          by_cases c4 : max c (-c) ≤ d
          · rw [if_pos c4]; exact ⟨_, rfl, ⟨fun _ => ⟨c1, Or.inr ⟨c3, c4⟩⟩, fun _ => rfl⟩⟩
          · rw [if_neg c4]; exact ⟨_, rfl, ⟨fun h => (by cases h), fun h => (h.2.elim c2 (fun h => c4 h.2)).elim⟩⟩
        · rw [if_neg c3]; exact ⟨_, rfl, ⟨fun h => (by cases h), fun h => (h.2.elim c2 (fun h => c3 h.1)).elim⟩⟩
    · simp [c1]
  simp only [if_neg h4]
  by_cases c1 : ll = 0
  · simp only [if_pos c1]
    by_cases c2 : f ≤ aa <;> simp [c2]
  simp only [if_neg c1]
  by_cases c2 : 0 ≤ d ∧ d ≤ ll
  · simp only [decide_eq_true c2, if_true]
    by_cases c3 : cc ≤ al <;> simp [c2, c3]
  · simp only [decide_eq_false c2, Bool.false_eq_true, if_false]
    exact ⟨_, rfl, ⟨fun h => (by cases h), fun h => (c2 h.1).elim⟩⟩
theorem sq_nn (z : Int) : 0 ≤ z * z := by
  rcases Int.lt_or_le z 0 with h | h
  · have := Int.mul_nonneg (show 0 ≤ -z by omega) (show 0 ≤ -z by omega)
    rwa [Int.neg_mul_neg] at this
  · exact Int.mul_nonneg h h
theorem inB_iff {kd ax ay bx by_ a b x y : Int} : inB kd ax ay bx by_ a b x y = true ↔ (Nr x ∧ Nr y) ∧ inQ kd (x - ax) (y - ay) (bx - ax) (by_ - ay) a b := by
  unfold inB; rw [decide_eq_true_eq]
theorem inQ1 {dx dy tx ty a b : Int} : inQ 1 dx dy tx ty a b ↔ dx * dx + dy * dy ≤ a * a := by
  unfold inQ; rw [if_pos rfl]
theorem inQ2 {dx dy tx ty a b : Int} : inQ 2 dx dy tx ty a b ↔ dx * dx + dy * dy ≤ b * b ∧ (a = 0 ∨ ¬ dx * dx + dy * dy ≤ a * a) := by
  unfold inQ; rw [if_neg (by omega), if_pos rfl]
theorem ring_circle {ax ay i o x y : Int} (h1 : 1 ≤ i) (h2 : i ≤ o) : inB 1 ax ay 0 0 o 0 x y = (inB 2 ax ay 0 0 i o x y || inB 1 ax ay 0 0 i 0 x y) := by
  have := Int.mul_le_mul h2 h2 (by omega) (by omega)
  rw [Bool.eq_iff_iff, Bool.or_eq_true, inB_iff, inB_iff, inB_iff, inQ1, inQ1, inQ2]
  generalize (x - ax) * (x - ax) + (y - ay) * (y - ay) = f
  generalize i * i = ii at *
  generalize o * o = oo at *
  constructor
  · rintro ⟨hn, h⟩
    by_cases c : f ≤ ii
    · exact .inr ⟨hn, c⟩
    · exact .inl ⟨hn, h, .inr c⟩
  · rintro (⟨hn, h, -⟩ | ⟨hn, h⟩)
    · exact ⟨hn, h⟩
    · exact ⟨hn, by omega⟩
theorem ring_hole {ax ay i o x y : Int} (h1 : 1 ≤ i) : (inB 2 ax ay 0 0 i o x y && inB 1 ax ay 0 0 i 0 x y) = false := by
  rw [Bool.eq_false_iff, Ne, Bool.and_eq_true, inB_iff, inB_iff, inQ1, inQ2]
  rintro ⟨⟨-, -, h⟩, -, h'⟩
  rcases h with h | h
  · omega
  · exact h h'
theorem box_back {ax ay bx by_ x y : Int} : inB 3 ax ay bx by_ 0 0 x y = inB 3 bx by_ ax ay 0 0 x y := by
  unfold inB inQ
  rw [decide_eq_decide]
  simp only [show ¬ (3 : Int) = 1 by omega, show ¬ (3 : Int) = 2 by omega, if_true, if_false]
  constructor <;> rintro ⟨h1, h2⟩ <;> exact ⟨h1, by omega⟩
theorem cone_circle {ax ay bx by_ o x y : Int} (h : inB 4 ax ay bx by_ o 0 x y = true) : inB 1 ax ay 0 0 o 0 x y = true := by
  unfold inB inQ at *
  simp only [show ¬ (4 : Int) = 1 by omega, show ¬ (4 : Int) = 2 by omega, show ¬ (4 : Int) = 3 by omega, if_true, if_false] at h
  have h := of_decide_eq_true h
  exact decide_eq_true ⟨h.1, by rw [if_pos rfl]; exact h.2.1⟩
theorem cone_behind {ax ay bx by_ o x y : Int} (h : inB 4 ax ay bx by_ o 0 x y = true) (h' : inB 4 ax ay (2 * ax - bx) (2 * ay - by_) o 0 x y = true) : x = ax ∧ y = ay := by
  unfold inB inQ at *
  simp only [show ¬ (4 : Int) = 1 by omega, show ¬ (4 : Int) = 2 by omega, show ¬ (4 : Int) = 3 by omega, if_true, if_false] at h h'
  have h := (of_decide_eq_true h).2.2
  have h' := (of_decide_eq_true h').2.2
  rcases h with h | h
  · omega
  rcases h' with h' | h'
  · omega
  exfalso
  have e1 : 2 * ax - bx - ax = -(bx - ax) := by omega
  have e2 : 2 * ay - by_ - ay = -(by_ - ay) := by omega
  have h1 := h.1
  have h2 := h'.1
  rw [e1, e2, Int.mul_neg, Int.mul_neg] at h2
  omega
theorem cone_at {ax ay bx by_ o : Int} (h1 : Nr ax) (h2 : Nr ay) : inB 4 ax ay bx by_ o 0 ax ay = true := by
  unfold inB inQ
  simp only [show ¬ (4 : Int) = 1 by omega, show ¬ (4 : Int) = 2 by omega, show ¬ (4 : Int) = 3 by omega, if_true, if_false]
  have := sq_nn o
  exact decide_eq_true ⟨⟨h1, h2⟩, by rw [show ax - ax = 0 by omega, show ay - ay = 0 by omega]; simpa using this, Or.inl ⟨by omega, by omega⟩⟩
theorem beam_at {ax ay bx by_ : Int} (h1 : Nr ax) (h2 : Nr ay) : inB 5 ax ay bx by_ 0 0 ax ay = true := by
  unfold inB inQ
  simp only [show ¬ (5 : Int) = 1 by omega, show ¬ (5 : Int) = 2 by omega, show ¬ (5 : Int) = 3 by omega, show ¬ (5 : Int) = 4 by omega, if_true, if_false]
  have g1 := sq_nn (bx - ax)
  have g2 := sq_nn (by_ - ay)
  refine decide_eq_true ⟨⟨h1, h2⟩, ?_⟩
  rw [show ax - ax = 0 by omega, show ay - ay = 0 by omega]
  split
  · omega
  · simp only [Int.zero_mul]; omega
theorem beam_end {ax ay bx by_ : Int} (h1 : Nr bx) (h2 : Nr by_) : inB 5 ax ay bx by_ 0 0 bx by_ = true := by
  unfold inB inQ
  simp only [show ¬ (5 : Int) = 1 by omega, show ¬ (5 : Int) = 2 by omega, show ¬ (5 : Int) = 3 by omega, show ¬ (5 : Int) = 4 by omega, if_true, if_false]
  have g1 := sq_nn (bx - ax)
  have g2 := sq_nn (by_ - ay)
  refine decide_eq_true ⟨⟨h1, h2⟩, ?_⟩
  split
  · omega
  · rw [Int.mul_comm (by_ - ay) (bx - ax), show (bx - ax) * (by_ - ay) - (bx - ax) * (by_ - ay) = 0 by omega]
    simp only [Int.zero_mul]; omega
theorem part_le {d t q L : Int} (h : d * L = t * q) (h0 : 0 ≤ q) (h1 : q ≤ L) (hL : 0 < L) : min 0 t ≤ d ∧ d ≤ max 0 t := by
  have key : ∀ d t : Int, 0 ≤ t → d * L = t * q → 0 ≤ d ∧ d ≤ t := by
    intro d t ht h
    have a1 : 0 ≤ t * q := Int.mul_nonneg ht h0
    have a2 : t * q ≤ t * L := Int.mul_le_mul_of_nonneg_left h1 ht
    constructor
    · rcases Int.lt_or_le d 0 with c | c
      · have := Int.mul_neg_of_neg_of_pos c hL; omega
      · exact c
    · rcases Int.lt_or_le t d with c | c
      · have := Int.mul_lt_mul_of_pos_right c hL; omega
      · exact c
  rcases Int.lt_or_le t 0 with c | c
  · have := key (-d) (-t) (by omega) (by rw [Int.neg_mul, Int.neg_mul, h]); omega
  · have := key d t c h; omega
theorem beam_box {ax ay bx by_ x y : Int} (h : inB 5 ax ay bx by_ 0 0 x y = true) : inB 3 ax ay bx by_ 0 0 x y = true := by
  unfold inB inQ at *
  simp only [show ¬ (5 : Int) = 1 by omega, show ¬ (5 : Int) = 2 by omega, show ¬ (5 : Int) = 3 by omega, show ¬ (5 : Int) = 4 by omega, show ¬ (3 : Int) = 1 by omega, show ¬ (3 : Int) = 2 by omega, if_true, if_false] at *
  obtain ⟨hn, h⟩ := of_decide_eq_true h
  refine decide_eq_true ⟨hn, ?_⟩
  generalize x - ax = dx at *
  generalize y - ay = dy at *
  generalize bx - ax = tx at *
  generalize by_ - ay = ty at *
  have g1 := sq_nn tx
  have g2 := sq_nn ty
  split at h
  · have z1 := (@sq_zero dx dy).1 (by have := sq_nn dx; have := sq_nn dy; omega)
    omega
  · obtain ⟨⟨h1, h2⟩, h3⟩ := h
    simp only [Int.zero_mul] at h3
    have c0 : dx * ty - dy * tx = 0 := by
      have := sq_nn (dx * ty - dy * tx)
      have : (dx * ty - dy * tx) * (dx * ty - dy * tx) = 0 := by omega
      simpa using Int.mul_eq_zero.1 this
    have c1 : dx * ty = dy * tx := by omega
    have L0 : 0 < tx * tx + ty * ty := by omega
    have e1 : dx * (tx * tx + ty * ty) = tx * (dx * tx + dy * ty) := by
      rw [Int.mul_add, Int.mul_add, ← Int.mul_assoc dx ty ty, c1, ← Int.mul_assoc dx tx tx, ← Int.mul_assoc tx dx tx, ← Int.mul_assoc tx dy ty, Int.mul_comm tx dx, Int.mul_comm tx dy]
    have e2 : dy * (tx * tx + ty * ty) = ty * (dx * tx + dy * ty) := by
      rw [Int.mul_add, Int.mul_add, ← Int.mul_assoc dy tx tx, ← c1, ← Int.mul_assoc dy ty ty, ← Int.mul_assoc ty dx tx, ← Int.mul_assoc ty dy ty, Int.mul_comm ty dx, Int.mul_comm ty dy]
    exact ⟨part_le e1 h1 h2 L0, part_le e2 h1 h2 L0⟩
theorem box_at {ax ay bx by_ : Int} (h1 : Nr ax) (h2 : Nr ay) : inB 3 ax ay bx by_ 0 0 ax ay = true := by
  unfold inB inQ
  simp only [show ¬ (3 : Int) = 1 by omega, show ¬ (3 : Int) = 2 by omega, if_true, if_false]
  exact decide_eq_true ⟨⟨h1, h2⟩, by omega⟩
theorem box_end {ax ay bx by_ : Int} (h1 : Nr bx) (h2 : Nr by_) : inB 3 ax ay bx by_ 0 0 bx by_ = true := by
  unfold inB inQ
  simp only [show ¬ (3 : Int) = 1 by omega, show ¬ (3 : Int) = 2 by omega, if_true, if_false]
  exact decide_eq_true ⟨⟨h1, h2⟩, by omega⟩
end Go.Proofs.Ytofodbnnminmkaa.Pure
