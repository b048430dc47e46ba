/- Zone: what becomes of a row of zones (what ZoneStays needs). Zone: who was hit; a row that is added to, shifted, and dropped from. ZoneStays, in plain Lean. -/
import Derived.Test.YtiadhonhjnbliaaSumX
import Derived.Test.YtiadhonhjnbliaaXZTx7
import Derived.Test.YtiadhonhjnbliaaXZTx4
import Derived.Test.YtiadhonhjnbliaaXZTx6
import Derived.Test.YtiadhonhjnbliaaXZTx5
import Derived.Test.YtiadhonhjnbliaaXZTx15
import Derived.Test.YtiadhonhjnbliaaXZTx13
import Derived.Test.YtiadhonhjnbliaaXZTx9
import Derived.Test.YtiadhonhjnbliaaXZTx8
import Derived.Test.YtiadhonhjnbliaaXZTx11
import Derived.Test.YtiadhonhjnbliaaXZTx10
import Derived.Test.YtiadhonhjnbliaaXZTx12
import Derived.Test.YtiadhonhjnbliaaXZTx16
import Derived.Test.YtiadhonhjnbliaaXZTx14
import Derived.Test.YtiadhonhjnbliaaXZTx18
import Derived.Test.YtiadhonhjnbliaaXZTx19
set_option linter.unusedSimpArgs false
set_option linter.unusedVariables false
set_option linter.unusedSectionVars false
namespace Go.Proofs.Ytiadhonhjnbliaa.Pure
open Go.RowKit Go.Proofs.Ytiadhonhjnbliaa.XZT Go.Proofs.YtiadhonhjnbliaaW.PrintWords Go.Proofs.YtiadhonhjnbliaaW.PrintLast

/-- With rounds enough it is so. -/
def Ev (P : Nat → Prop) : Prop := ∃ K, ∀ k, K ≤ k → P k
theorem Ev.of {α : Type} {f : Nat → Option α} (hm : ∀ k, LeO (f k) (f (k + 1))) {K : Nat} {v : α} (h : f K = some v) : Ev (fun k => f k = some v) := by
  refine ⟨K, fun k hk => ?_⟩
  obtain ⟨d, rfl⟩ := Nat.exists_eq_add_of_le hk
  induction d with
  | zero => exact h
  | succ d ih => exact hm _ _ (ih (by omega))
theorem small_ev : Ev (fun k => barrowlaw33_small.f k = some true) := Ev.of barrowlaw33_small.mono (K := 60) (by decide +kernel)
abbrev In64 (a : Int) : Prop := -9223372036854775808 ≤ a ∧ a ≤ 9223372036854775807
theorem mn_min (a b : Int) : mn a b = min a b := by unfold mn; split <;> omega
theorem mx_max (a b : Int) : mx a b = max a b := by unfold mx; split <;> omega
theorem wrap64_in {x : Int} (h : In64 x) : wrap64 x = x := by unfold wrap64; omega
end Go.Proofs.Ytiadhonhjnbliaa.Pure
namespace Go.Proofs.Ytiadhonhjnbliaa.Pure
open Go.RowKit Go.Proofs.Ytiadhonhjnbliaa.XZT Go.Proofs.YtiadhonhjnbliaaW.PrintWords Go.Proofs.YtiadhonhjnbliaaW.PrintLast

abbrev Nr (x : Int) : Prop := -256 ≤ x ∧ x ≤ 512
def Rt (kd ax ay bx by_ a b : Int) : Prop := (1 ≤ kd ∧ kd ≤ 5) ∧ (Nr ax ∧ Nr ay) ∧ (Nr bx ∧ Nr by_) ∧ (0 ≤ a ∧ a ≤ 512) ∧ (0 ≤ b ∧ b ≤ 512)
instance (kd ax ay bx by_ a b : Int) : Decidable (Rt kd ax ay bx by_ a b) := by unfold Rt; infer_instance
theorem within_eq (x lo hi : Int) : area_within.f x lo hi = some (decide (lo ≤ x ∧ x ≤ hi)) := by
  unfold area_within.f
  by_cases h : x ≥ lo
  · rw [if_pos h]; congr 1; rw [decide_eq_decide]; omega
  · rw [if_neg h]; congr 1; symm; rw [decide_eq_false_iff_not]; omega
theorem anear_eq (x y : Int) : area_near.f x y = some (decide (Nr x ∧ Nr y)) := by
  unfold area_near.f
  rw [within_eq, within_eq]
  by_cases h1 : Nr x <;> by_cases h2 : Nr y <;> simp [h1, h2]
theorem aright_eq (kd ax ay bx by_ a b : Int) : area_Right.f kd ax ay bx by_ a b = some (decide (Rt kd ax ay bx by_ a b)) := by
  unfold area_Right.f Rt
  rw [within_eq, anear_eq, anear_eq, within_eq, within_eq]
  by_cases h1 : 1 ≤ kd ∧ kd ≤ 5 <;> by_cases h2 : Nr ax ∧ Nr ay <;> by_cases h3 : Nr bx ∧ Nr by_ <;> by_cases h4 : 0 ≤ a ∧ a ≤ 512 <;> simp [h1, h2, h3, h4]
theorem mulb {p q A : Int} (hp : -A ≤ p ∧ p ≤ A) (hq : -A ≤ q ∧ q ≤ A) : -(A * A) ≤ p * q ∧ p * q ≤ A * A := by
  have key : ∀ p q : Int, 0 ≤ p → p ≤ A → 0 ≤ q → q ≤ A → 0 ≤ p * q ∧ p * q ≤ A * A := fun p q h1 h2 h3 h4 =>
    ⟨Int.mul_nonneg h1 h3, Int.mul_le_mul h2 h4 h3 (by omega)⟩
  rcases Int.lt_or_le p 0 with h | h
  · rcases Int.lt_or_le q 0 with h' | h'
    · have := key (-p) (-q) (by omega) (by omega) (by omega) (by omega)
      rw [Int.neg_mul_neg] at this; omega
    · have := key (-p) q (by omega) (by omega) (by omega) (by omega)
      rw [Int.neg_mul] at this; omega
  · rcases Int.lt_or_le q 0 with h' | h'
    · have := key p (-q) (by omega) (by omega) (by omega) (by omega)
      rw [Int.mul_neg] at this; omega
    · have := key p q (by omega) (by omega) (by omega) (by omega)
      omega
theorem m768 {p q : Int} (hp : -768 ≤ p ∧ p ≤ 768) (hq : -768 ≤ q ∧ q ≤ 768) : -589824 ≤ p * q ∧ p * q ≤ 589824 := mulb hp hq
theorem m2M {p q : Int} (hp : -2000000 ≤ p ∧ p ≤ 2000000) (hq : -2000000 ≤ q ∧ q ≤ 2000000) : -4000000000000 ≤ p * q ∧ p * q ≤ 4000000000000 := mulb hp hq
theorem near_small (k : Nat) {ax ay x y r : Int} (h1 : Nr ax) (h2 : Nr ay) (h3 : Nr x) (h4 : Nr y) (hr : 0 ≤ r ∧ r ≤ 512) :
    grid_Near.f (k + 1) ax ay x y r = some (decide ((x - ax) * (x - ax) + (y - ay) * (y - ay) ≤ r * r)) := by
  unfold grid_Near.f grid_Square.f grid_far.f
  have sq : ∀ p q : Int, (max p q - min p q) * (max p q - min p q) = (q - p) * (q - p) := by
    intro p q
    rcases Int.lt_or_le p q with h | h
    · rw [show max p q - min p q = q - p by omega]
    · rw [show max p q - min p q = -(q - p) by omega, Int.neg_mul_neg]
  have b1 := m768 (p := x - ax) (q := x - ax) (by omega) (by omega)
  have b2 := m768 (p := y - ay) (q := y - ay) (by omega) (by omega)
  have b3 := m768 (p := r) (q := r) (by omega) (by omega)
  rw [if_pos (by omega), mx_max, mn_min, mx_max, mn_min, sub_eq k _ _ (by omega) (by omega), sub_eq k _ _ (by omega) (by omega), satv_in (by omega), satv_in (by omega)]
  simp only [Option.bind_some]
  rw [mul_eq _ _ (by omega) (by omega), mul_eq _ _ (by omega) (by omega), mul_eq r r (by omega) (by omega), sq, sq, satv_in (by omega), satv_in (by omega), satv_in (by omega)]
  simp only [Option.bind_some]
  rw [add_eq k _ _ (by omega) (by omega), satv_in (by omega)]
  rfl
def inQ (kd dx dy tx ty a b : Int) : Prop :=
  if kd = 1 then dx * dx + dy * dy ≤ a * a
  else if kd = 2 then dx * dx + dy * dy ≤ b * b ∧ (a = 0 ∨ ¬ dx * dx + dy * dy ≤ a * a)
  else if kd = 3 then (min 0 tx ≤ dx ∧ dx ≤ max 0 tx) ∧ (min 0 ty ≤ dy ∧ dy ≤ max 0 ty)
  else if kd = 4 then dx * dx + dy * dy ≤ a * a ∧ ((dx = 0 ∧ dy = 0) ∨ (0 < dx * tx + dy * ty ∧ max (dx * ty - dy * tx) (-(dx * ty - dy * tx)) ≤ dx * tx + dy * ty))
  else if tx * tx + ty * ty = 0 then dx * dx + dy * dy ≤ a * a
  else (0 ≤ dx * tx + dy * ty ∧ dx * tx + dy * ty ≤ tx * tx + ty * ty) ∧ (dx * ty - dy * tx) * (dx * ty - dy * tx) ≤ a * a * (tx * tx + ty * ty)
instance (kd dx dy tx ty a b : Int) : Decidable (inQ kd dx dy tx ty a b) := by unfold inQ; infer_instance
def inR (kd ax ay bx by_ a b x y : Int) : Bool := decide ((Nr x ∧ Nr y) ∧ inQ kd (x - ax) (y - ay) (bx - ax) (by_ - ay) a b)
theorem suff_ {o : Option Bool} {N Q : Prop} [Decidable (N ∧ Q)] (hn' : N) (h : ∃ v : Bool, o = some v ∧ (v = true ↔ Q)) : o = some (decide (N ∧ Q)) := by
  obtain ⟨v, h1, h2⟩ := h
  rw [h1]
  congr 1
  rw [Bool.eq_iff_iff, h2, decide_eq_true_eq]
  exact ⟨fun q => ⟨hn', q⟩, fun q => q.2⟩
theorem inR_eq (k : Nat) {kd ax ay bx by_ a b : Int} (hr : Rt kd ax ay bx by_ a b) (x y : Int) : area_In.f (k + 1) kd ax ay bx by_ a b x y = some (inR kd ax ay bx by_ a b x y) := by
  unfold area_In.f inR
  rw [aright_eq, anear_eq, decide_eq_true hr]
  simp only [Option.bind_some, if_true]
  by_cases hn : Nr x ∧ Nr y
  rotate_left
  · rw [decide_eq_false hn]; simp [hn]
  rw [decide_eq_true hn]
  obtain ⟨⟨k1, k2⟩, ⟨r1, r2⟩, ⟨r3, r4⟩, ⟨r5, r6⟩, ⟨r7, r8⟩⟩ := hr
  have hn' := hn
  obtain ⟨n1, n2⟩ := hn
  have e1 : wrap64 (x - ax) = x - ax := wrap64_in (by omega)
  have e2 : wrap64 (y - ay) = y - ay := wrap64_in (by omega)
  have e3 : wrap64 (bx - ax) = bx - ax := wrap64_in (by omega)
  have e4 : wrap64 (by_ - ay) = by_ - ay := wrap64_in (by omega)
  have N := fun k r => @near_small k ax ay x y r r1 r2 n1 n2
  have p1 := m768 (p := x - ax) (q := x - ax) (by omega) (by omega)
  have p2 := m768 (p := y - ay) (q := y - ay) (by omega) (by omega)
  have p3 := m768 (p := x - ax) (q := bx - ax) (by omega) (by omega)
  have p4 := m768 (p := y - ay) (q := by_ - ay) (by omega) (by omega)
  have p5 := m768 (p := x - ax) (q := by_ - ay) (by omega) (by omega)
  have p6 := m768 (p := y - ay) (q := bx - ax) (by omega) (by omega)
  have p7 := m768 (p := bx - ax) (q := bx - ax) (by omega) (by omega)
  have p8 := m768 (p := by_ - ay) (q := by_ - ay) (by omega) (by omega)
  have p9 := m768 (p := a) (q := a) (by omega) (by omega)
  have q1 := m2M (p := (x - ax) * (by_ - ay) - (y - ay) * (bx - ax)) (q := (x - ax) * (by_ - ay) - (y - ay) * (bx - ax)) (by omega) (by omega)
  have q2 := m2M (p := a * a) (q := (bx - ax) * (bx - ax) + (by_ - ay) * (by_ - ay)) (by omega) (by omega)
  simp only [Option.bind_some, if_true, Bool.not_true, area_less.f, Bool.false_eq_true, if_false, area_cone.f, area_beam.f, area_box.f, area_dot.f, area_cross.f, within_eq, mx_max, mn_min, e1, e2, e3, e4]
  rw [wrap64_in (x := (x - ax) * (x - ax)) (by omega), wrap64_in (x := (y - ay) * (y - ay)) (by omega), wrap64_in (x := (x - ax) * (bx - ax)) (by omega), wrap64_in (x := (y - ay) * (by_ - ay)) (by omega), wrap64_in (x := (x - ax) * (by_ - ay)) (by omega), wrap64_in (x := (y - ay) * (bx - ax)) (by omega), wrap64_in (x := (bx - ax) * (bx - ax)) (by omega), wrap64_in (x := (by_ - ay) * (by_ - ay)) (by omega), wrap64_in (x := a * a) (by omega)]
  rw [wrap64_in (x := (x - ax) * (x - ax) + (y - ay) * (y - ay)) (by omega), wrap64_in (x := (x - ax) * (bx - ax) + (y - ay) * (by_ - ay)) (by omega), wrap64_in (x := (x - ax) * (by_ - ay) - (y - ay) * (bx - ax)) (by omega), wrap64_in (x := (bx - ax) * (bx - ax) + (by_ - ay) * (by_ - ay)) (by omega)]
  rw [wrap64_in (x := -((x - ax) * (by_ - ay) - (y - ay) * (bx - ax))) (by omega), wrap64_in (x := ((x - ax) * (by_ - ay) - (y - ay) * (bx - ax)) * ((x - ax) * (by_ - ay) - (y - ay) * (bx - ax))) (by omega), wrap64_in (x := a * a * ((bx - ax) * (bx - ax) + (by_ - ay) * (by_ - ay))) (by omega)]
  simp only [N _ a ⟨r5, r6⟩, N _ b ⟨r7, r8⟩, Option.bind_some]
  refine suff_ (hn' := hn') ?_
  unfold inQ
  generalize ((x - ax) * (by_ - ay) - (y - ay) * (bx - ax)) * ((x - ax) * (by_ - ay) - (y - ay) * (bx - ax)) = cc
  generalize a * a * ((bx - ax) * (bx - ax) + (by_ - ay) * (by_ - ay)) = al
  generalize (x - ax) * (by_ - ay) - (y - ay) * (bx - ax) = c
  generalize (x - ax) * (bx - ax) + (y - ay) * (by_ - ay) = d
  generalize (bx - ax) * (bx - ax) + (by_ - ay) * (by_ - ay) = ll
  generalize (x - ax) * (x - ax) + (y - ay) * (y - ay) = f
  generalize a * a = aa
  generalize b * b = bb
  by_cases h1 : kd = 1
  · simp only [if_pos h1]; exact ⟨_, rfl, by simp⟩
  simp only [if_neg h1]
  by_cases h2 : kd = 2
  · simp only [if_pos h2]
    by_cases c1 : f ≤ bb <;> by_cases c2 : a = 0 <;> by_cases c3 : f ≤ aa <;> simp [c1, c2, c3]
  simp only [if_neg h2]
  by_cases h3 : kd = 3
  · simp only [if_pos h3]
    by_cases c1 : min ax bx ≤ x ∧ x ≤ max ax bx
    · simp only [decide_eq_true c1, if_true]
      refine ⟨_, rfl, ?_⟩
      rw [decide_eq_true_eq]
      omega
    · simp only [decide_eq_false c1, Bool.false_eq_true, if_false]
      refine ⟨_, rfl, ?_⟩
      constructor
      · intro h; cases h
      · intro h; exfalso; omega
  simp only [if_neg h3]
  by_cases h4 : kd = 4
  · simp only [if_pos h4]
    by_cases c1 : f ≤ aa
    · simp only [decide_eq_true c1, if_true]
      by_cases c2 : x - ax = 0 ∧ y - ay = 0
      · rw [if_pos (by simpa using c2)]; exact ⟨_, rfl, by simp [c1, c2]⟩
      · rw [if_neg (by simpa using c2)]
        by_cases c3 : d > 0
        · rw [if_pos c3]
          by_cases c4 : max c (-c) ≤ d
          · rw [if_pos c4]; exact ⟨_, rfl, ⟨fun _ => ⟨c1, Or.inr ⟨c3, c4⟩⟩, fun _ => rfl⟩⟩
          · rw [if_neg c4]; exact ⟨_, rfl, ⟨fun h => (by cases h), fun h => (h.2.elim c2 (fun h => c4 h.2)).elim⟩⟩
        · rw [if_neg c3]; exact ⟨_, rfl, ⟨fun h => (by cases h), fun h => (h.2.elim c2 (fun h => c3 h.1)).elim⟩⟩
    · simp [c1]
  simp only [if_neg h4]
  by_cases c1 : ll = 0
  · simp only [if_pos c1]
    by_cases c2 : f ≤ aa <;> simp [c2]
  simp only [if_neg c1]
  by_cases c2 : 0 ≤ d ∧ d ≤ ll
  · simp only [decide_eq_true c2, if_true]
    by_cases c3 : cc ≤ al <;> simp [c2, c3]
  · simp only [decide_eq_false c2, Bool.false_eq_true, if_false]
    exact ⟨_, rfl, ⟨fun h => (by cases h), fun h => (c2 h.1).elim⟩⟩
end Go.Proofs.Ytiadhonhjnbliaa.Pure
namespace Go.Proofs.Ytiadhonhjnbliaa.Pure
open Go.RowKit Go.Proofs.Ytiadhonhjnbliaa.XZT Go.Proofs.YtiadhonhjnbliaaW.PrintWords Go.Proofs.YtiadhonhjnbliaaW.PrintLast Go.Proofs.YtiadhonhjnbliaaW.PrintMore

theorem rd37 (L : List S37) (i : Nat) (h : i < L.length) : rd_T37 L (i : Int) = L[i] := by
  unfold rd_T37
  rw [Int.toNat_natCast, List.getD_eq_getElem?_getD, List.getElem?_eq_getElem h]
  rfl
theorem rd44 (L : List S44) (i : Nat) (h : i < L.length) : rd_T44 L (i : Int) = L[i] := by
  unfold rd_T44
  rw [Int.toNat_natCast, List.getD_eq_getElem?_getD, List.getElem?_eq_getElem h]
  rfl
theorem rd56 (L : List S56) (i : Nat) (h : i < L.length) : rd_T56 L (i : Int) = L[i] := by
  unfold rd_T56
  rw [Int.toNat_natCast, List.getD_eq_getElem?_getD, List.getElem?_eq_getElem h]
  rfl
theorem inT_eq (k : Nat) (kd ax ay bx by_ a b x y : Int) : area_In.f (k + 1) kd ax ay bx by_ a b x y = some (decide (Rt kd ax ay bx by_ a b) && inR kd ax ay bx by_ a b x y) := by
  by_cases hr : Rt kd ax ay bx by_ a b
  · rw [inR_eq k hr, decide_eq_true hr]; rfl
  · unfold area_In.f
    rw [aright_eq, decide_eq_false hr]; rfl
def inB (z : S37) (u : S44) : Bool := decide (Rt z.f1.f0 z.f1.f1.f0 z.f1.f1.f1 z.f1.f2.f0 z.f1.f2.f1 z.f1.f3 z.f1.f4) && inR z.f1.f0 z.f1.f1.f0 z.f1.f1.f1 z.f1.f2.f0 z.f1.f2.f1 z.f1.f3 z.f1.f4 u.f7.f0 u.f7.f1
theorem inB_eq (z : S37) (u : S44) (k : Nat) : area_In.f (k + 1) z.f1.f0 z.f1.f1.f0 z.f1.f1.f1 z.f1.f2.f0 z.f1.f2.f1 z.f1.f3 z.f1.f4 u.f7.f0 u.f7.f1 = some (inB z u) := inT_eq k _ _ _ _ _ _ _ _ _
/-- The zone hits the being. -/
def hitB (z : S37) (u : S44) : Bool := inB z u && (decide (u.f3 > 0) && (decide (z.f7 = 0) || decide (z.f7 = u.f1)))
theorem hit_eq (k : Nat) (z : S37) (u : S44) : zone_hits_1_i1.f (k + 1) u.f0 u.f1 u.f2 u.f3 u.f4 u.f5 u.f6 u.f7.f0 u.f7.f1 u.f8 z.f0 z.f1.f0 z.f1.f1.f0 z.f1.f1.f1 z.f1.f2.f0 z.f1.f2.f1 z.f1.f3 z.f1.f4 z.f2 z.f3 z.f4 z.f5.f0 z.f5.f1 z.f5.f2 z.f6 z.f7 = some (hitB z u) := by
  unfold zone_hits_1_i1.f hitB
  rw [inB_eq z u k]
  by_cases h1 : u.f3 > 0
  · by_cases h2 : z.f7 = 0
    · simp [h1, h2]
    · by_cases h3 : z.f7 = u.f1
      · rw [if_pos h1, if_neg h2, if_pos h3]; simp [h1, h3]
      · rw [if_pos h1, if_neg h2, if_neg h3]; simp [h2, h3]
  · rw [if_neg h1]; simp [h1]
def hitsL (z : S37) (U : List S44) : List S56 := (U.filter (hitB z)).map fun u => ⟨z.f0, u.f0⟩
def due (now : Int) (z : S37) : Prop := z.f4 ≤ now ∧ z.f4 ≤ z.f2
instance (now : Int) (z : S37) : Decidable (due now z) := by unfold due; infer_instance
def nxt (now : Int) (z : S37) : S37 := { z with f4 := if due now z then satv (z.f4 + z.f3) else z.f4 }
def aft (now : Int) (z : S37) : List S37 := if z.f2 ≤ now then [] else [nxt now z]
def hzl (now : Int) (U : List S44) (z : S37) : List S56 := if due now z then hitsL z U else []
theorem hitsL_no {z : S37} {u : S44} {V : List S44} (h : hitB z u = false) : hitsL z (u :: V) = hitsL z V := by unfold hitsL; rw [List.filter_cons, h]; rfl
theorem hitsL_yes {z : S37} {u : S44} {V : List S44} (h : hitB z u = true) : hitsL z (u :: V) = ⟨z.f0, u.f0⟩ :: hitsL z V := by unfold hitsL; rw [List.filter_cons, h]; rfl
theorem aft_no {now : Int} {z : S37} (h : z.f2 ≤ now) : aft now z = [] := by unfold aft; rw [if_pos h]
theorem aft_yes {now : Int} {z : S37} (h : ¬ z.f2 ≤ now) : aft now z = [nxt now z] := by unfold aft; rw [if_neg h]
section
variable {L : List S37} {U : List S44} {now : Int} (hL : L.length ≤ 60) (hU : U.length ≤ 60) (hz : ∀ z ∈ L, In64 z.f3 ∧ In64 z.f4)
include hL hU hz
theorem nat_next {i : Nat} (h : i < 100) : wrap64 ((i : Int) + 1) = ((i + 1 : Nat) : Int) := by rw [wrap64_in (by omega)]; omega
/-- Past the units, on to the next zone. -/
theorem tick_units (z : S37) (i : Nat) (hi : i < L.length) (e : L[i] = z) (out : List S37) : ∀ (n j : Nat) (acc : List S56) (k : Nat), j + n = U.length → acc.length + n < 8796093022208 →
    zone_Tick.l1 (k + n + 2) L U now out i z.f0 z.f1.f0 z.f1.f1.f0 z.f1.f1.f1 z.f1.f2.f0 z.f1.f2.f1 z.f1.f3 z.f1.f4 z.f2 z.f3 z.f4 z.f5.f0 z.f5.f1 z.f5.f2 z.f6 z.f7 acc j =
      zone_Tick.l1 (k + 2) L U now out i z.f0 z.f1.f0 z.f1.f1.f0 z.f1.f1.f1 z.f1.f2.f0 z.f1.f2.f1 z.f1.f3 z.f1.f4 z.f2 z.f3 z.f4 z.f5.f0 z.f5.f1 z.f5.f2 z.f6 z.f7 (acc ++ hitsL z (U.drop j)) U.length := by
  intro n
  induction n with
  | zero =>
    intro j acc k hn ha
    rw [List.drop_eq_nil_of_le (by omega), show j = U.length by omega]
    simp [hitsL]
  | succ n ih =>
    intro j acc k hn ha
    have hj : j < U.length := by omega
    rw [show k + (n + 1) + 2 = (k + n + 2) + 1 by omega]
    conv => lhs; rw [zone_Tick.l1]
    rw [if_pos (by omega), if_pos (by omega), rd37 L i hi, rd44 U j hj, e, hit_eq (k + n + 1) z U[j], nat_next hL hU hz (show j < 100 by omega), List.drop_eq_getElem_cons hj]
    simp only [Option.bind_some]
    cases hb : hitB z U[j]
    · simp only [Bool.false_eq_true, if_false]
      rw [ih (j + 1) acc k (by omega) (by omega), hitsL_no hb]
    · simp only [if_true, List.length_cons, List.length_nil]
      rw [if_pos (by omega), ih (j + 1) _ k (by omega) (by rw [List.length_append]; simp; omega), hitsL_yes hb, List.append_assoc]
      rfl
theorem hits_len (z : S37) (V : List S44) : (hitsL z V).length ≤ V.length := by
  unfold hitsL
  rw [List.length_map]
  exact List.length_filter_le _ _
theorem tick_zones : ∀ (n i : Nat) (out : List S37) (acc : List S56) (k : Nat), i + n = L.length → out.length ≤ i → acc.length ≤ 60 * i → 70 * n + 5 ≤ k →
    zone_Tick.l0 k L U now out acc i = some (out ++ (L.drop i).flatMap (aft now), acc ++ (L.drop i).flatMap (hzl now U)) := by
  intro n
  induction n with
  | zero =>
    intro i out acc k hn ho ha hk
    obtain ⟨k, rfl⟩ : ∃ q, k = q + 1 := ⟨k - 1, by omega⟩
    rw [zone_Tick.l0, if_neg (by omega), List.drop_eq_nil_of_le (by omega)]
    simp
  | succ n ih =>
    intro i out acc k hn ho ha hk
    have hi : i < L.length := by omega
    obtain ⟨k, rfl⟩ : ∃ q, k = (q + U.length + 2) + 1 := ⟨k - U.length - 3, by omega⟩
    obtain ⟨z3, z4⟩ := hz L[i] (List.getElem_mem _)
    rw [zone_Tick.l0, if_pos (by omega), if_pos (by omega), rd37 L i hi, List.drop_eq_getElem_cons hi]
    generalize hzz : L[i] = z at *
    have fin : ∀ (acc' : List S56) (k' : Nat), acc'.length ≤ 60 * (i + 1) → 70 * n + 5 ≤ k' → ∀ z' : S37, z' = nxt now z → acc' = acc ++ hzl now U z →
        (if z.f2 ≤ now then zone_Tick.l0 k' L U now out acc' (wrap64 ((i : Int) + 1)) else ((some ([z'] : List S37)).bind fun y => (if out.length + y.length < 1099511627776 then ((some (out ++ y : List S37)).bind fun y' => zone_Tick.l0 k' L U now y' acc' (wrap64 ((i : Int) + 1))) else none))) = some (out ++ (z :: L.drop (i + 1)).flatMap (aft now), acc ++ (z :: L.drop (i + 1)).flatMap (hzl now U)) := by
      intro acc' k' hl' hk' z' hz' hacc
      rw [nat_next hL hU hz (show i < 100 by omega), List.flatMap_cons, List.flatMap_cons]
      by_cases h2 : z.f2 ≤ now
      · rw [if_pos h2, aft_no h2, List.nil_append, ih (i + 1) out acc' k' (by omega) (by omega) hl' hk', hacc, List.append_assoc]
      · rw [if_neg h2, aft_yes h2]
        simp only [Option.bind_some, List.length_cons, List.length_nil]
        rw [if_pos (by omega), ih (i + 1) (out ++ [z']) acc' k' (by omega) (by rw [List.length_append]; simp; omega) hl' hk', hacc, hz', List.append_assoc, List.append_assoc]
    by_cases hd : due now z
    · obtain ⟨d1, d2⟩ := id hd
      rw [if_pos d1, if_pos d2]
      simp only [zone_hits.f, Option.bind_some]
      have hh : (hitsL z U).length ≤ 60 := Nat.le_trans (hits_len hL hU hz z U) hU
      have hu := tick_units hL hU hz (now := now) z i hi hzz out U.length 0 acc k (by omega) (by omega)
      rw [show ((0 : Nat) : Int) = 0 from rfl] at hu
      rw [hu, List.drop_zero, zone_Tick.l1, if_neg (by omega), rd37 L i hi, hzz, add_eq k _ _ z4 z3, Option.bind_some]
      exact fin _ (k + 1) (by rw [List.length_append]; omega) (by omega) _ (by unfold nxt; rw [if_pos hd]) (by unfold hzl; rw [if_pos hd])
    · have hnx : nxt now z = z := by unfold nxt; rw [if_neg hd]
      have hhz : acc = acc ++ hzl now U z := by unfold hzl; rw [if_neg hd]; simp
      by_cases d1 : z.f4 ≤ now
      · rw [if_pos d1, if_neg (fun d2 => hd ⟨d1, d2⟩)]
        exact fin acc (k + U.length + 2) (by omega) (by omega) _ (by rw [hnx]) hhz
      · rw [if_neg d1]
        exact fin acc (k + U.length + 2) (by omega) (by omega) _ (by rw [hnx]) hhz
end
theorem same37 : ∀ (L : List S37) (n i k : Nat), i + n = L.length → n < k → L.length ≤ 70000 → barrowref33_Same.l0 k L L i = some true
  | L, 0, i, k, h, hk, _ => by
    obtain ⟨k, rfl⟩ : ∃ q, k = q + 1 := ⟨k - 1, by omega⟩
    rw [barrowref33_Same.l0, if_neg (by omega)]
  | L, n + 1, i, k, h, hk, hl => by
    obtain ⟨k, rfl⟩ : ∃ q, k = q + 1 := ⟨k - 1, by omega⟩
    rw [barrowref33_Same.l0, if_pos (by omega), if_pos (by omega), if_pos (by omega), if_neg (by simp), wrap64_in (by omega)]
    have := same37 L n (i + 1) k (by omega) (by omega) hl
    rwa [show ((i + 1 : Nat) : Int) = (i : Int) + 1 by omega] at this
theorem same37_eq (L : List S37) (k : Nat) (hl : L.length ≤ 70000) (hk : 80000 ≤ k) : barrowref33_Same.f k L L = some true := by
  unfold barrowref33_Same.f
  rw [if_pos rfl]
  exact same37 L L.length 0 k (by omega) (by omega) hl
end Go.Proofs.Ytiadhonhjnbliaa.Pure
namespace Go.Proofs.Ytiadhonhjnbliaa.Pure
open Go.RowKit Go.Proofs.Ytiadhonhjnbliaa.XZT Go.Proofs.YtiadhonhjnbliaaW.PrintWords Go.Proofs.YtiadhonhjnbliaaW.PrintLast Go.Proofs.YtiadhonhjnbliaaW.PrintMore
theorem satv64 (x : Int) : In64 (satv x) := by unfold satv; (repeat' split) <;> constructor <;> omega
def mayP (z : S37) : Prop := Rt z.f1.f0 z.f1.f1.f0 z.f1.f1.f1 z.f1.f2.f0 z.f1.f2.f1 z.f1.f3 z.f1.f4 ∧ 1 ≤ z.f3 ∧ z.f3 ≤ 1000000 ∧ 0 ≤ z.f7 ∧ z.f7 ≤ 2
instance (z : S37) : Decidable (mayP z) := by unfold mayP; infer_instance
theorem may_val (i a b c d e f g u v n x y w s q : Int) : zone_may.f i a b c d e f g u v n x y w s q = some (decide (Rt a b c d e f g ∧ 1 ≤ v ∧ v ≤ 1000000 ∧ 0 ≤ q ∧ q ≤ 2)) := by
  unfold zone_may.f
  rw [aright_eq, Option.bind_some]
  by_cases h1 : Rt a b c d e f g
  · rw [decide_eq_true h1, if_pos rfl]
    by_cases h2 : v ≥ 1
    · by_cases h3 : v ≤ 1000000
      · by_cases h4 : q ≥ 0
        · by_cases h5 : q ≤ 2
          · rw [if_pos h2, if_pos h3, if_pos h4, if_pos h5, decide_eq_true ⟨h1, h2, h3, h4, h5⟩]
          · rw [if_pos h2, if_pos h3, if_pos h4, if_neg h5, decide_eq_false (fun h => h5 h.2.2.2.2)]
        · rw [if_pos h2, if_pos h3, if_neg h4, decide_eq_false (fun h => h4 h.2.2.2.1)]
      · rw [if_pos h2, if_neg h3, decide_eq_false (fun h => h3 h.2.2.1)]
    · rw [if_neg h2, decide_eq_false (fun h => h2 h.2.1)]
  · rw [decide_eq_false h1, if_neg (by decide), decide_eq_false (fun h => h1 h.1)]
/-- Rising numbers, and each may be. -/
def upL : Int → List S37 → Prop
  | _, [] => True
  | a, z :: l => a < z.f0 ∧ mayP z ∧ upL z.f0 l
theorem upL_lower {a b : Int} (h : a ≤ b) : ∀ {l : List S37}, upL b l → upL a l
  | [], _ => trivial
  | z :: l, ⟨h1, h2, h3⟩ => ⟨by omega, h2, h3⟩
theorem upL_snoc {z : S37} (hz : mayP z) : ∀ {l : List S37} {a : Int}, upL a l → (∀ y ∈ l, y.f0 < z.f0) → a < z.f0 → upL a (l ++ [z])
  | [], a, _, _, h => ⟨h, hz, trivial⟩
  | y :: l, a, ⟨h1, h2, h3⟩, hy, h => ⟨h1, h2, upL_snoc hz h3 (fun x hx => hy x (List.mem_cons_of_mem _ hx)) (hy y List.mem_cons_self)⟩
theorem upL_aft (now : Int) : ∀ {l : List S37} {a : Int}, upL a l → upL a (l.flatMap (aft now))
  | [], _, _ => trivial
  | z :: l, a, ⟨h1, h2, h3⟩ => by
    rw [List.flatMap_cons]
    by_cases c : z.f2 ≤ now
    · rw [aft_no c]; exact upL_aft now (upL_lower (by omega) h3)
    · rw [aft_yes c]; exact ⟨h1, h2, upL_aft now h3⟩
theorem upL_last : ∀ {l : List S37} {a : Int} (h : upL a l) (hn : l ≠ []), a < (l.getLast hn).f0 ∧ ∀ y ∈ l, y.f0 ≤ (l.getLast hn).f0
  | [z], a, ⟨h1, _, _⟩, _ => ⟨h1, fun y hy => by rw [List.mem_singleton] at hy; subst hy; exact Int.le_refl _⟩
  | z :: y :: l, a, ⟨h1, h2, h3⟩, _ => by
    obtain ⟨q1, q2⟩ := upL_last h3 (by simp)
    rw [List.getLast_cons (by simp)]
    refine ⟨by omega, fun x hx => ?_⟩
    rcases List.mem_cons.1 hx with rfl | hx
    · omega
    · exact q2 x hx
theorem right_l0 (L : List S37) (hl : L.length ≤ 1000) : ∀ (n i : Nat) (a : Int), i + n = L.length → ∃ v : Bool, (v = true ↔ upL a (L.drop i) ∧ L.length ≤ 32) ∧ ∀ k, n < k → zone_Right.l0 k L a i = some v := by
  intro n
  induction n with
  | zero =>
    intro i a hi
    refine ⟨decide (L.length ≤ 32), ?_, fun k hk => ?_⟩
    · rw [List.drop_of_length_le (by omega), decide_eq_true_eq]; exact ⟨fun h => ⟨trivial, h⟩, fun h => h.2⟩
    · obtain ⟨k, rfl⟩ : ∃ q, k = q + 1 := ⟨k - 1, by omega⟩
      rw [zone_Right.l0, if_neg (by omega)]
      by_cases c : L.length ≤ 32
      · rw [if_pos (by omega), decide_eq_true c]
      · rw [if_neg (by omega), decide_eq_false c]
  | succ n ih =>
    intro i a hi
    have hil : i < L.length := by omega
    obtain ⟨v, h1, h2⟩ := ih (i + 1) (L[i]).f0 (by omega)
    rw [List.drop_eq_getElem_cons hil]
    by_cases c : (L[i]).f0 ≤ a
    · refine ⟨false, ⟨fun h => (by cases h), fun h => by have := h.1.1; omega⟩, fun k hk => ?_⟩
      obtain ⟨k, rfl⟩ : ∃ q, k = q + 1 := ⟨k - 1, by omega⟩
      rw [zone_Right.l0, if_pos (by omega), if_pos (by omega), rd37 L i hil, if_pos c]
    · by_cases q : mayP L[i] <;> unfold mayP at q
      · refine ⟨v, ⟨fun h => ?_, fun h => h1.2 ⟨h.1.2.2, h.2⟩⟩, fun k hk => ?_⟩
        · obtain ⟨g1, g2⟩ := h1.1 h
          exact ⟨⟨by omega, q, g1⟩, g2⟩
        · obtain ⟨k, rfl⟩ : ∃ q, k = q + 1 := ⟨k - 1, by omega⟩
          rw [zone_Right.l0, if_pos (by omega), if_pos (by omega), rd37 L i hil, if_neg c, may_val, Option.bind_some, decide_eq_true q, if_pos rfl, wrap64_in (by omega), show ((i : Int) + 1) = ((i + 1 : Nat) : Int) by omega]
          exact h2 k (by omega)
      · refine ⟨false, ⟨fun h => (by cases h), fun h => (q h.1.2.1).elim⟩, fun k hk => ?_⟩
        obtain ⟨k, rfl⟩ : ∃ q, k = q + 1 := ⟨k - 1, by omega⟩
        rw [zone_Right.l0, if_pos (by omega), if_pos (by omega), rd37 L i hil, if_neg c, may_val, Option.bind_some, decide_eq_false q, if_neg (by decide)]
theorem right_val (L : List S37) (hl : L.length ≤ 1000) : ∃ v : Bool, (v = true ↔ upL 0 L ∧ L.length ≤ 32) ∧ ∀ k, 2000 < k → zone_Right.f k L = some v := by
  obtain ⟨v, h1, h2⟩ := right_l0 L hl L.length 0 0 (by omega)
  exact ⟨v, by rwa [List.drop_zero] at h1, fun k hk => h2 k (by omega)⟩
theorem right_true {L : List S37} (h : upL 0 L) (hl : L.length ≤ 32) {k : Nat} (hk : 2000 < k) : zone_Right.f k L = some true := by
  obtain ⟨v, h1, h2⟩ := right_val L (by omega)
  rw [h2 k hk, h1.2 ⟨h, hl⟩]
theorem clone_val {L : List S37} (hl : L.length ≤ 1000) : api_Zone_30.f L = some L := by
  unfold api_Zone_30.f
  rw [Option.bind_some, if_pos (by simp; omega), List.nil_append]
theorem find_l0 (L : List S37) (z : S37) (hl : L.length ≤ 1000) (hn : ∀ y ∈ L, y.f0 ≠ z.f0) : ∀ (n i k : Nat), i + n = L.length → n + 1 < k → api_Zone_48_i1.l0 k (L ++ [z]) z.f0 i = some (L.length : Int) := by
  have hlen : (L ++ [z]).length = L.length + 1 := by simp
  intro n
  induction n with
  | zero =>
    intro i k hi hk
    obtain ⟨k, rfl⟩ : ∃ q, k = q + 1 := ⟨k - 1, by omega⟩
    obtain rfl : i = L.length := by omega
    rw [api_Zone_48_i1.l0, if_pos (by omega), if_pos (by omega), rd37 _ _ (by omega)]
    unfold zone_find_1_i1.f
    rw [show (L ++ [z])[L.length] = z by simp, if_pos rfl, Option.bind_some, if_pos rfl]
  | succ n ih =>
    intro i k hi hk
    obtain ⟨k, rfl⟩ : ∃ q, k = q + 1 := ⟨k - 1, by omega⟩
    have hil : i < L.length := by omega
    rw [api_Zone_48_i1.l0, if_pos (by omega), if_pos (by omega), rd37 _ _ (by omega)]
    unfold zone_find_1_i1.f
    rw [List.getElem_append_left hil, if_neg (hn _ (List.getElem_mem hil)), Option.bind_some, if_neg (by decide), wrap64_in (by omega), show ((i : Int) + 1) = ((i + 1 : Nat) : Int) by omega]
    exact ih (i + 1) k (by omega) (by omega)
theorem find_val {L : List S37} {z : S37} (hl : L.length ≤ 1000) (hn : ∀ y ∈ L, y.f0 ≠ z.f0) {k : Nat} (hk : 2000 < k) : zone_find.f k (L ++ [z]) z.f0 = some (L.length : Int) := by
  unfold zone_find.f api_Zone_48_i1.f
  have := find_l0 L z hl hn L.length 0 k (by omega) (by omega)
  rw [show ((0 : Nat) : Int) = 0 from rfl] at this
  rw [this]; rfl
theorem drop_val {L : List S37} {z : S37} (hl : L.length ≤ 900) (hn : ∀ y ∈ L, y.f0 ≠ z.f0) {k : Nat} (hk : 2000 < k) : zone_Drop.f k (L ++ [z]) z.f0 = some (L, true) := by
  unfold zone_Drop.f
  rw [clone_val (by simp; omega), Option.bind_some, find_val (by omega) hn hk, Option.bind_some, if_neg (by omega)]
  unfold slices_Delete.f
  rw [wrap64_in (by omega), if_pos ⟨by omega, by simp; omega, rfl⟩, Int.toNat_natCast, Option.bind_some]
  congr 2
  rw [List.eraseIdx_append_of_length_le (Nat.le_refl _), Nat.sub_self]
  simp
/-- A zone at another place. -/
def at_ (z : S37) (t s p q : Int) : S37 := { z with f1 := { z.f1 with f1 := ⟨p, q⟩, f2 := ⟨t, s⟩ } }
theorem shift_val {L : List S37} {z : S37} (hl : L.length ≤ 900) (hn : ∀ y ∈ L, y.f0 ≠ z.f0) (p q : Int) (hp : In64 p) (hq : In64 q) (h1 : In64 z.f1.f1.f0) (h2 : In64 z.f1.f1.f1) (h3 : In64 z.f1.f2.f0) (h4 : In64 z.f1.f2.f1) {k : Nat} (hk : 2000 < k) :
    zone_Shift.f k (L ++ [z]) z.f0 p q = if Rt z.f1.f0 p q (satv (z.f1.f2.f0 + satv (p - z.f1.f1.f0))) (satv (z.f1.f2.f1 + satv (q - z.f1.f1.f1))) z.f1.f3 z.f1.f4
      then some (L ++ [at_ z (satv (z.f1.f2.f0 + satv (p - z.f1.f1.f0))) (satv (z.f1.f2.f1 + satv (q - z.f1.f1.f1))) p q], 0) else some ([], 1) := by
  have hlen : (L ++ [z]).length = L.length + 1 := by simp
  have hset : ∀ y : S37, (L ++ [z]).set L.length y = L ++ [y] := fun y => by
    rw [List.set_append_right _ _ (Nat.le_refl _), Nat.sub_self]; rfl
  have hset' : ∀ x y : S37, (L ++ [x]).set L.length y = L ++ [y] := fun x y => by
    rw [List.set_append_right _ _ (Nat.le_refl _), Nat.sub_self]; rfl
  have hrd : ∀ y : S37, rd_T37 (L ++ [y]) (L.length : Int) = y := fun y => by
    rw [rd37 _ _ (by simp)]; simp
  obtain ⟨k, rfl⟩ : ∃ j, k = j + 1 := ⟨k - 1, by omega⟩
  unfold zone_Shift.f zone_moved.f
  rw [clone_val (by simp; omega), Option.bind_some, find_val (by omega) hn hk, Option.bind_some, if_neg (by omega), if_pos (by omega), if_pos (by omega)]
  simp only [hrd, Int.toNat_natCast, hset, hset']
  rw [sub_eq k p _ hp h1, Option.bind_some, add_eq k _ _ h3 (satv64 _), Option.bind_some, Option.bind_some, sub_eq k q _ hq h2, Option.bind_some, add_eq k _ _ h4 (satv64 _), Option.bind_some, Option.bind_some, Option.bind_some]
  simp only [hset']
  simp only [Option.bind_some, hrd]
  rw [aright_eq, Option.bind_some]
  by_cases c : Rt z.f1.f0 p q (satv (z.f1.f2.f0 + satv (p - z.f1.f1.f0))) (satv (z.f1.f2.f1 + satv (q - z.f1.f1.f1))) z.f1.f3 z.f1.f4
  · rw [decide_eq_true c, if_pos rfl, if_pos c]; rfl
  · rw [decide_eq_false c, if_neg (by decide), if_neg c]
end Go.Proofs.Ytiadhonhjnbliaa.Pure
namespace Go.Proofs.Ytiadhonhjnbliaa.Pure
open Go.RowKit Go.Proofs.Ytiadhonhjnbliaa.XZT Go.Proofs.YtiadhonhjnbliaaW.PrintWords Go.Proofs.YtiadhonhjnbliaaW.PrintLast Go.Proofs.YtiadhonhjnbliaaW.PrintMore
def condB (z : S37) (u : S44) (h : S56) : Bool := decide (z.f0 = h.f0) && decide (u.f0 = h.f1) && inB z u && decide (u.f3 > 0)
theorem own_l2 {L N : List S37} {U : List S44} {H : List S56} (hL : L.length ≤ 60) (hU : U.length ≤ 60) (hH : H.length ≤ 4000) (i j : Nat) (hi : i < H.length) (hj : j < L.length) : ∀ (n q k : Nat) (b : Bool), q + n = U.length → n + 1 < k →
    ∃ k', k ≤ k' + n + 1 ∧ barrowlaw33_ZoneStays.l2 k U i j b q true L N H = barrowlaw33_ZoneStays.l1 k' U i (b || (U.drop q).any fun u => condB L[j] u H[i]) (j + 1 : Nat) true L N H := by
  intro n
  induction n with
  | zero =>
    intro q k b hq hk
    obtain ⟨k, rfl⟩ : ∃ z, k = z + 1 := ⟨k - 1, by omega⟩
    refine ⟨k, by omega, ?_⟩
    rw [barrowlaw33_ZoneStays.l2, if_neg (by omega), List.drop_of_length_le (by omega), wrap64_in (by omega), show ((j : Int) + 1) = ((j + 1 : Nat) : Int) by omega]
    simp
  | succ n ih =>
    intro q k b hq hk
    obtain ⟨k, rfl⟩ : ∃ z, k = z + 2 := ⟨k - 2, by omega⟩
    have hql : q < U.length := by omega
    rw [barrowlaw33_ZoneStays.l2, if_pos (by omega), List.drop_eq_getElem_cons hql, wrap64_in (x := (q : Int) + 1) (by omega), show ((q : Int) + 1) = ((q + 1 : Nat) : Int) by omega]
    cases b with
    | true =>
      obtain ⟨k', h1, h2⟩ := ih (q + 1) (k + 1) true (by omega) (by omega)
      refine ⟨k', by omega, ?_⟩
      rw [if_pos rfl]
      rw [Bool.true_or] at h2 ⊢
      exact h2
    | false =>
      obtain ⟨k', h1, h2⟩ := ih (q + 1) (k + 1) (condB L[j] U[q] H[i]) (by omega) (by omega)
      refine ⟨k', by omega, ?_⟩
      rw [if_neg (by decide), if_pos (by omega), if_pos (by omega), if_pos (by omega), if_pos (by omega), rd37 L j hj, rd56 H i hi, rd44 U q hql, List.any_cons, Bool.false_or]
      refine Eq.trans ?_ h2
      unfold condB
      by_cases c1 : (L[j]).f0 = (H[i]).f0
      · rw [if_pos c1, if_pos (by omega)]
        by_cases c2 : (U[q]).f0 = (H[i]).f1
        · rw [if_pos c2, inB_eq, Option.bind_some]
          cases c3 : inB L[j] U[q]
          · rw [if_neg (by decide), decide_eq_true c1, decide_eq_true c2]; rfl
          · rw [if_pos rfl, decide_eq_true c1, decide_eq_true c2]; rfl
        · rw [if_neg c2, decide_eq_false c2, decide_eq_true c1]; rfl
      · rw [if_neg c1, decide_eq_false c1]; rfl
theorem own_l1 {L N : List S37} {U : List S44} {H : List S56} (hL : L.length ≤ 60) (hU : U.length ≤ 60) (hH : H.length ≤ 4000) (i : Nat) (hi : i < H.length) : ∀ (n j k : Nat) (b : Bool), j + n = L.length → 64 * n + 70 < k →
    ∃ k', k ≤ k' + 64 * n + 1 ∧ barrowlaw33_ZoneStays.l1 k U i b j true L N H = if (b || (L.drop j).any fun z => U.any fun u => condB z u H[i]) = true then barrowlaw33_ZoneStays.l0 k' U (i + 1 : Nat) true L N H else none := by
  intro n
  induction n with
  | zero =>
    intro j k b hj hk
    obtain ⟨k, rfl⟩ : ∃ z, k = z + 1 := ⟨k - 1, by omega⟩
    refine ⟨k, by omega, ?_⟩
    rw [barrowlaw33_ZoneStays.l1, if_neg (by omega), List.drop_of_length_le (by omega), wrap64_in (by omega), show ((i : Int) + 1) = ((i + 1 : Nat) : Int) by omega]
    simp
  | succ n ih =>
    intro j k b hj hk
    obtain ⟨k, rfl⟩ : ∃ z, k = z + 1 := ⟨k - 1, by omega⟩
    have hjl : j < L.length := by omega
    obtain ⟨k1, a1, a2⟩ := own_l2 (N := N) hL hU hH i j hi hjl U.length 0 k b (by omega) (by omega)
    obtain ⟨k2, b1, b2⟩ := ih (j + 1) k1 (b || U.any fun u => condB L[j] u H[i]) (by omega) (by omega)
    refine ⟨k2, by omega, ?_⟩
    rw [List.drop_zero] at a2
    rw [barrowlaw33_ZoneStays.l1, if_pos (by omega), List.drop_eq_getElem_cons hjl, List.any_cons, ← Bool.or_assoc]
    exact a2.trans b2
theorem own_l0 {L N : List S37} {U : List S44} {H : List S56} (hL : L.length ≤ 60) (hU : U.length ≤ 60) (hH : H.length ≤ 4000) (hN : upL 0 N) (hN2 : N.length ≤ 32) (hN3 : N.length ≤ L.length) (hh : ∀ h ∈ H, ∃ z ∈ L, ∃ u ∈ U, condB z u h = true) : ∀ (n i k : Nat), i + n = H.length → 5000 * n + 5000 < k →
    barrowlaw33_ZoneStays.l0 k U i true L N H = some true := by
  intro n
  induction n with
  | zero =>
    intro i k hi hk
    obtain ⟨k, rfl⟩ : ∃ z, k = z + 1 := ⟨k - 1, by omega⟩
    rw [barrowlaw33_ZoneStays.l0, if_neg (by omega), if_pos rfl, right_true hN hN2 (by omega), Option.bind_some, if_pos rfl, if_pos (by omega)]
  | succ n ih =>
    intro i k hi hk
    obtain ⟨k, rfl⟩ : ∃ z, k = z + 1 := ⟨k - 1, by omega⟩
    have hil : i < H.length := by omega
    obtain ⟨k1, a1, a2⟩ := own_l1 (N := N) hL hU hH i hil L.length 0 k false (by omega) (by omega)
    obtain ⟨z, hz, u, hu, hc⟩ := hh _ (List.getElem_mem hil)
    rw [List.drop_zero, Bool.false_or, if_pos (by
      rw [List.any_eq_true]
      refine ⟨z, hz, ?_⟩
      rw [List.any_eq_true]
      exact ⟨u, hu, hc⟩)] at a2
    rw [barrowlaw33_ZoneStays.l0, if_pos (by omega)]
    exact a2.trans (ih (i + 1) k1 (by omega) (by omega))
theorem ro_l2 {L N : List S37} {U : List S44} {H : List S56} (hL : L.length ≤ 60) (hU : U.length ≤ 60) (hH : H.length ≤ 4000) (i j : Nat) (hi : i < H.length) (hj : j < L.length) : ∀ (n q k : Nat) (b : Bool), q + n = U.length → n + 1 < k →
    ∃ k', k ≤ k' + n + 1 ∧ barrowlaw33_ZoneStays.l102 k L U i j true N H b q = barrowlaw33_ZoneStays.l101 k' L U i (b || (U.drop q).any fun u => condB L[j] u H[i]) (j + 1 : Nat) true N H := by
  intro n
  induction n with
  | zero =>
    intro q k b hq hk
    obtain ⟨k, rfl⟩ : ∃ z, k = z + 1 := ⟨k - 1, by omega⟩
    refine ⟨k, by omega, ?_⟩
    rw [barrowlaw33_ZoneStays.l102, if_neg (by omega), List.drop_of_length_le (by omega), wrap64_in (by omega), show ((j : Int) + 1) = ((j + 1 : Nat) : Int) by omega]
    simp
  | succ n ih =>
    intro q k b hq hk
    obtain ⟨k, rfl⟩ : ∃ z, k = z + 2 := ⟨k - 2, by omega⟩
    have hql : q < U.length := by omega
    rw [barrowlaw33_ZoneStays.l102, if_pos (by omega), List.drop_eq_getElem_cons hql, wrap64_in (x := (q : Int) + 1) (by omega), show ((q : Int) + 1) = ((q + 1 : Nat) : Int) by omega]
    cases b with
    | true =>
      obtain ⟨k', h1, h2⟩ := ih (q + 1) (k + 1) true (by omega) (by omega)
      refine ⟨k', by omega, ?_⟩
      rw [if_pos rfl]
      rw [Bool.true_or] at h2 ⊢
      exact h2
    | false =>
      obtain ⟨k', h1, h2⟩ := ih (q + 1) (k + 1) (condB L[j] U[q] H[i]) (by omega) (by omega)
      refine ⟨k', by omega, ?_⟩
      rw [if_neg (by decide), if_pos (by omega), if_pos (by omega), if_pos (by omega), if_pos (by omega), rd37 L j hj, rd56 H i hi, rd44 U q hql, List.any_cons, Bool.false_or]
      refine Eq.trans ?_ h2
      unfold condB
      by_cases c1 : (L[j]).f0 = (H[i]).f0
      · rw [if_pos c1, if_pos (by omega)]
        by_cases c2 : (U[q]).f0 = (H[i]).f1
        · rw [if_pos c2, inB_eq, Option.bind_some]
          cases c3 : inB L[j] U[q]
          · rw [if_neg (by decide), decide_eq_true c1, decide_eq_true c2]; rfl
          · rw [if_pos rfl, decide_eq_true c1, decide_eq_true c2]; rfl
        · rw [if_neg c2, decide_eq_false c2, decide_eq_true c1]; rfl
      · rw [if_neg c1, decide_eq_false c1]; rfl
theorem ro_l1 {L N : List S37} {U : List S44} {H : List S56} (hL : L.length ≤ 60) (hU : U.length ≤ 60) (hH : H.length ≤ 4000) (i : Nat) (hi : i < H.length) : ∀ (n j k : Nat) (b : Bool), j + n = L.length → 64 * n + 70 < k →
    ∃ k', k ≤ k' + 64 * n + 1 ∧ barrowlaw33_ZoneStays.l101 k L U i b j true N H = if (b || (L.drop j).any fun z => U.any fun u => condB z u H[i]) = true then barrowlaw33_ZoneStays.l100 k' L U (i + 1 : Nat) true N H else none := by
  intro n
  induction n with
  | zero =>
    intro j k b hj hk
    obtain ⟨k, rfl⟩ : ∃ z, k = z + 1 := ⟨k - 1, by omega⟩
    refine ⟨k, by omega, ?_⟩
    rw [barrowlaw33_ZoneStays.l101, if_neg (by omega), List.drop_of_length_le (by omega), wrap64_in (by omega), show ((i : Int) + 1) = ((i + 1 : Nat) : Int) by omega]
    simp
  | succ n ih =>
    intro j k b hj hk
    obtain ⟨k, rfl⟩ : ∃ z, k = z + 1 := ⟨k - 1, by omega⟩
    have hjl : j < L.length := by omega
    obtain ⟨k1, a1, a2⟩ := ro_l2 (N := N) hL hU hH i j hi hjl U.length 0 k b (by omega) (by omega)
    obtain ⟨k2, b1, b2⟩ := ih (j + 1) k1 (b || U.any fun u => condB L[j] u H[i]) (by omega) (by omega)
    refine ⟨k2, by omega, ?_⟩
    rw [List.drop_zero] at a2
    rw [barrowlaw33_ZoneStays.l101, if_pos (by omega), List.drop_eq_getElem_cons hjl, List.any_cons, ← Bool.or_assoc]
    exact a2.trans b2
theorem ro_l0 {L N : List S37} {U : List S44} {H : List S56} (hL : L.length ≤ 60) (hU : U.length ≤ 60) (hH : H.length ≤ 4000) (hN : upL 0 N) (hN2 : N.length ≤ 32) (hN3 : N.length ≤ L.length) (hh : ∀ h ∈ H, ∃ z ∈ L, ∃ u ∈ U, condB z u h = true) : ∀ (n i k : Nat), i + n = H.length → 5000 * n + 5000 < k →
    barrowlaw33_ZoneStays.l100 k L U i true N H = some true := by
  intro n
  induction n with
  | zero =>
    intro i k hi hk
    obtain ⟨k, rfl⟩ : ∃ z, k = z + 1 := ⟨k - 1, by omega⟩
    rw [barrowlaw33_ZoneStays.l100, if_neg (by omega), if_pos rfl, right_true hN hN2 (by omega), Option.bind_some, if_pos rfl, if_pos (by omega)]
  | succ n ih =>
    intro i k hi hk
    obtain ⟨k, rfl⟩ : ∃ z, k = z + 1 := ⟨k - 1, by omega⟩
    have hil : i < H.length := by omega
    obtain ⟨k1, a1, a2⟩ := ro_l1 (N := N) hL hU hH i hil L.length 0 k false (by omega) (by omega)
    obtain ⟨z, hz, u, hu, hc⟩ := hh _ (List.getElem_mem hil)
    rw [List.drop_zero, Bool.false_or, if_pos (by
      rw [List.any_eq_true]
      refine ⟨z, hz, ?_⟩
      rw [List.any_eq_true]
      exact ⟨u, hu, hc⟩)] at a2
    rw [barrowlaw33_ZoneStays.l100, if_pos (by omega)]
    exact a2.trans (ih (i + 1) k1 (by omega) (by omega))
theorem hits_of {now : Int} {U : List S44} {L : List S37} : ∀ h ∈ L.flatMap (hzl now U), ∃ z ∈ L, ∃ u ∈ U, condB z u h = true := by
  intro h hh
  obtain ⟨z, hz, hm⟩ := List.mem_flatMap.1 hh
  unfold hzl at hm
  split at hm
  · unfold hitsL at hm
    obtain ⟨u, hu, rfl⟩ := List.mem_map.1 hm
    obtain ⟨hu1, hu2⟩ := List.mem_filter.1 hu
    refine ⟨z, hz, u, hu1, ?_⟩
    unfold hitB at hu2
    rw [Bool.and_eq_true, Bool.and_eq_true] at hu2
    unfold condB
    rw [decide_eq_true rfl, decide_eq_true rfl, hu2.1, hu2.2.1]
    rfl
  · cases hm
theorem flat_len {α β : Type} (f : α → List β) (m : Nat) : ∀ (L : List α), (∀ x ∈ L, (f x).length ≤ m) → (L.flatMap f).length ≤ L.length * m
  | [], _ => by simp
  | x :: L, h => by
    have h1 := h x (by simp)
    have h2 := flat_len f m L (fun y hy => h y (List.mem_cons_of_mem _ hy))
    rw [List.flatMap_cons, List.length_append, List.length_cons, Nat.add_mul]
    omega
end Go.Proofs.Ytiadhonhjnbliaa.Pure
namespace Go.Proofs.Ytiadhonhjnbliaa.Pure
open Go.RowKit Go.Proofs.Ytiadhonhjnbliaa.XZT Go.Proofs.YtiadhonhjnbliaaW.PrintWords Go.Proofs.YtiadhonhjnbliaaW.PrintLast Go.Proofs.YtiadhonhjnbliaaW.PrintMore
theorem add_val {L : List S37} (hu : upL 0 L) (hl : L.length ≤ 32) (hf : ∀ z ∈ L, In64 z.f0) (i0 kd ax ay tx ty A B un ev nx x y w s q now : Int) (hn : In64 now) (he : In64 ev) {k : Nat} (hk : 2001 < k) :
    ∃ m id e, zone_Add.f k L i0 kd ax ay tx ty A B un ev nx x y w s q now 5 = some (m, id, e) ∧ (e = 0 → ∃ z : S37, m = L ++ [z] ∧ z.f0 = id ∧ mayP z ∧ (∀ y ∈ L, y.f0 < z.f0) ∧ 0 < z.f0 ∧ L.length < 32 ∧ z.f1 = ⟨kd, ⟨ax, ay⟩, ⟨tx, ty⟩, A, B⟩ ∧ In64 z.f3 ∧ In64 z.f4) := by
  obtain ⟨k, rfl⟩ : ∃ j, k = j + 1 := ⟨k - 1, by omega⟩
  unfold zone_Add.f
  rw [right_true hu hl (show 2000 < k + 1 by omega), may_val]
  simp only [Option.bind_some]
  rw [if_neg (show ¬ (5 : Int) < 1 by omega), if_neg (show ¬ (5 : Int) < 1 by omega), add_eq k now 5 hn (by constructor <;> omega), add_eq k now ev hn he, clone_val (by omega)]
  simp only [Option.bind_some, if_true]
  by_cases c2 : Rt kd ax ay tx ty A B ∧ 1 ≤ ev ∧ ev ≤ 1000000 ∧ 0 ≤ q ∧ q ≤ 2
  rotate_left
  · rw [decide_eq_false c2]
    by_cases c1 : (L.length : Int) > 0
    · rw [if_pos c1, wrap64_in (by omega), if_pos (by omega), if_pos (by omega), if_neg (by decide)]
      exact ⟨_, _, _, rfl, fun h => by cases h⟩
    · rw [if_neg c1, if_neg (by decide)]
      exact ⟨_, _, _, rfl, fun h => by cases h⟩
  rw [decide_eq_true c2, if_pos rfl, if_pos rfl]
  by_cases c3 : (L.length : Int) ≥ 32
  · rw [if_pos c3, if_pos c3]
    by_cases c1 : (L.length : Int) > 0
    · rw [if_pos c1, wrap64_in (by omega), if_pos (by omega), if_pos (by omega)]
      exact ⟨_, _, _, rfl, fun h => by cases h⟩
    · rw [if_neg c1]
      exact ⟨_, _, _, rfl, fun h => by cases h⟩
  rw [if_neg c3, if_neg c3]
  by_cases c1 : (L.length : Int) > 0
  · have hne : L ≠ [] := by intro e; rw [e] at c1; simp at c1
    obtain ⟨g1, g2⟩ := upL_last hu hne
    have hlast : rd_T37 L ((L.length : Int) - 1) = L.getLast hne := by
      rw [show ((L.length : Int) - 1) = ((L.length - 1 : Nat) : Int) by omega, rd37 L _ (by omega), List.getLast_eq_getElem]
    have hin := hf _ (List.getLast_mem hne)
    rw [if_pos c1, wrap64_in (x := (L.length : Int) - 1) (by omega), if_pos (by omega), if_pos (by omega), hlast]
    by_cases c4 : (L.getLast hne).f0 = 9223372036854775807
    · rw [if_pos c4]
      exact ⟨_, _, _, rfl, fun h => by cases h⟩
    · rw [if_neg c4, wrap64_in (by omega), if_pos (by simp; omega)]
      refine ⟨_, _, _, rfl, fun _ => ⟨_, rfl, rfl, c2, fun y hy => ?_, ?_, by omega, rfl, he, satv64 _⟩⟩
      · have := g2 y hy
        show y.f0 < (L.getLast hne).f0 + 1
        omega
      · show 0 < (L.getLast hne).f0 + 1
        omega
  · have hnil : L = [] := List.eq_nil_of_length_eq_zero (by omega)
    subst hnil
    rw [if_neg c1, wrap64_in (x := 1) (by omega), if_pos (by simp)]
    exact ⟨_, _, _, rfl, fun _ => ⟨_, rfl, rfl, c2, fun y hy => (by cases hy), by show (0 : Int) < 1; omega, by simp, rfl, he, satv64 _⟩⟩
theorem tick_val {L : List S37} {U : List S44} {now : Int} (hL : L.length ≤ 60) (hU : U.length ≤ 60) (hz : ∀ z ∈ L, In64 z.f3 ∧ In64 z.f4) {k : Nat} (hk : 5000 < k) : zone_Tick.f k L U now = some (L.flatMap (aft now), L.flatMap (hzl now U)) := by
  unfold zone_Tick.f
  have t1 := tick_zones hL hU hz (now := now) L.length 0 [] [] k (by omega) (by simp) (by simp) (by omega)
  rw [show ((0 : Nat) : Int) = 0 from rfl, List.drop_zero, List.nil_append, List.nil_append] at t1
  rw [t1]
theorem ZoneStays : barrowlaw33_ZoneStays.Pure := by
  intro L i0 kd ax ay tx ty A B un ev nx x y w s q U now px py h0 _ h1 h2 h3 h4 h5 h6 h7 _ h9 _ _ _ _ _ h15 hU hnow hpx hpy
  obtain ⟨K, hK⟩ := small_ev
  refine ⟨K + 20000000, ?_⟩
  unfold barrowlaw33_ZoneStays.f
  rw [hK (K + 20000000) (by omega), Option.bind_some]
  by_cases c1 : (L.length : Int) > 60
  · rw [if_pos c1]
  rw [if_neg c1]
  by_cases c2 : (U.length : Int) > 60
  · rw [if_pos c2]
  rw [if_neg c2]
  obtain ⟨v, v1, v2⟩ := right_val L (by omega)
  rw [v2 _ (by omega), Option.bind_some]
  cases v with
  | false => rw [if_neg (by decide)]
  | true =>
    obtain ⟨hu, hl⟩ := v1.1 rfl
    have hf : ∀ z ∈ L, In64 z.f0 ∧ In64 z.f3 ∧ In64 z.f4 := fun z hm => by
      obtain ⟨w0, -, -, w3, w4, -⟩ := h0.2.2 z hm
      exact ⟨i64_of w0, i64_of w3, i64_of w4⟩
    have go : ∀ (M : List S37), upL 0 M → M.length ≤ 32 → (∀ z ∈ M, In64 z.f3 ∧ In64 z.f4) → upL 0 (M.flatMap (aft now)) ∧ (M.flatMap (aft now)).length ≤ M.length ∧ (M.flatMap (hzl now U)).length ≤ 2000 := fun M q1 q2 q3 => by
      refine ⟨upL_aft now q1, ?_, ?_⟩
      · have := flat_len (aft now) 1 M (fun z _ => by unfold aft; split <;> simp)
        omega
      · have := flat_len (hzl now U) 60 M (fun z _ => by
          unfold hzl
          split
          · exact Nat.le_trans (hits_len (L := M) (U := U) (by omega) (by omega) q3 z U) (by omega)
          · simp)
        omega
    rw [if_pos rfl]
    obtain ⟨m, id, e, a1, a2⟩ := add_val hu hl (fun z hz => (hf z hz).1) i0 kd ax ay tx ty A B un ev nx x y w s q now (i64_of hnow) (i64_of h9) (k := K + 20000000) (by omega)
    rw [a1, Option.bind_some]
    by_cases ce : e = 0
    rotate_left
    · rw [if_neg ce, tick_val (by omega) (by omega) (fun z hz => (hf z hz).2) (by omega), Option.bind_some]
      obtain ⟨g1, g2, g3⟩ := go L hu hl (fun z hz => (hf z hz).2)
      have := ro_l0 (L := L) (N := L.flatMap (aft now)) (U := U) (H := L.flatMap (hzl now U)) (by omega) (by omega) (by omega) g1 (by omega) g2 hits_of (L.flatMap (hzl now U)).length 0 (K + 20000000) (by omega) (by omega)
      exact this
    · rw [if_pos ce]
      obtain ⟨z, rfl, rfl, z1, z2, z3, z4, z5, z6, z7⟩ := a2 ce
      have hne : ∀ y ∈ L, y.f0 ≠ z.f0 := fun y hy => by have := z2 y hy; omega
      have hum := upL_snoc z1 hu z2 z3
      have hlm : (L ++ [z]).length ≤ 32 := by simp; omega
      have hfm : ∀ t ∈ L ++ [z], In64 t.f3 ∧ In64 t.f4 := fun t ht => by
        rcases List.mem_append.1 ht with ht | ht
        · exact (hf t ht).2
        · rw [List.mem_singleton] at ht; subst ht; exact ⟨z6, z7⟩
      have fin : ∀ k, 15000000 < k → barrowlaw33_ZoneStays.l899 k U now true (L ++ [z]) = some true := by
        intro k hk
        obtain ⟨k, rfl⟩ : ∃ j, k = j + 1 := ⟨k - 1, by omega⟩
        obtain ⟨g1, g2, g3⟩ := go (L ++ [z]) hum hlm hfm
        rw [barrowlaw33_ZoneStays.l899, tick_val (by omega) (by omega) hfm (by omega), Option.bind_some]
        exact own_l0 (L := L ++ [z]) (N := (L ++ [z]).flatMap (aft now)) (U := U) (H := (L ++ [z]).flatMap (hzl now U)) (by omega) (by omega) (by omega) g1 (by omega) g2 hits_of ((L ++ [z]).flatMap (hzl now U)).length 0 k (by omega) (by omega)
      have hat := z5
      obtain ⟨zz, ⟨b0, ⟨b1, b2⟩, ⟨b3, b4⟩, b5, b6⟩, c2, c3, c4, c5, c6, c7⟩ := z
      simp only [S33.mk.injEq, S31.mk.injEq] at hat
      obtain ⟨rfl, ⟨rfl, rfl⟩, ⟨rfl, rfl⟩, rfl, rfl⟩ := hat
      obtain ⟨r1, r2, r3, r4, r5⟩ := id z1
      obtain ⟨rk, ⟨ra1, ra2⟩, ⟨rt1, rt2⟩, rA, rB⟩ := id r1
      simp only at ra1 ra2 rt1 rt2
      have ib1 : In64 b1 := by constructor <;> omega
      have ib2 : In64 b2 := by constructor <;> omega
      have ib3 : In64 b3 := by constructor <;> omega
      have ib4 : In64 b4 := by constructor <;> omega
      rw [drop_val (by omega) hne (by omega), Option.bind_some, right_true hum hlm (by omega), Option.bind_some, if_pos rfl, if_pos rfl, same37_eq L _ (by omega) (by omega), Option.bind_some, if_pos rfl]
      rw [shift_val (by omega) hne px py (i64_of hpx) (i64_of hpy) ib1 ib2 ib3 ib4 (by omega)]
      simp only
      split
      rotate_left
      · rw [Option.bind_some, if_neg (by decide)]
        exact fin _ (by omega)
      · rename_i hrt
        obtain ⟨sk, ⟨sa1, sa2⟩, ⟨st1, st2⟩, -, -⟩ := id hrt
        have d1 : satv (px - b1) = px - b1 := satv_in (by constructor <;> omega)
        have d2 : satv (py - b2) = py - b2 := satv_in (by constructor <;> omega)
        have d3 : satv (b1 - px) = b1 - px := satv_in (by constructor <;> omega)
        have d4 : satv (b2 - py) = b2 - py := satv_in (by constructor <;> omega)
        rw [d1] at st1
        rw [d2] at st2
        rw [d1, d2] at hrt
        have d5 : satv (b3 + (px - b1)) = b3 + (px - b1) := satv_in (by constructor <;> omega)
        have d6 : satv (b4 + (py - b2)) = b4 + (py - b2) := satv_in (by constructor <;> omega)
        rw [d5] at st1
        rw [d6] at st2
        rw [d5, d6] at hrt
        rw [d1, d2, d5, d6, Option.bind_some, if_pos rfl]
        have hsf : (at_ (⟨zz, ⟨b0, ⟨b1, b2⟩, ⟨b3, b4⟩, b5, b6⟩, c2, c3, c4, c5, c6, c7⟩ : S37) (b3 + (px - b1)) (b4 + (py - b2)) px py).f0 = zz := rfl
        have sv := shift_val (L := L) (z := at_ (⟨zz, ⟨b0, ⟨b1, b2⟩, ⟨b3, b4⟩, b5, b6⟩, c2, c3, c4, c5, c6, c7⟩ : S37) (b3 + (px - b1)) (b4 + (py - b2)) px py) (by omega) hne b1 b2 (by constructor <;> omega) (by constructor <;> omega) (by show In64 px; constructor <;> omega) (by show In64 py; constructor <;> omega) (by show In64 (b3 + (px - b1)); constructor <;> omega) (by show In64 (b4 + (py - b2)); constructor <;> omega) (k := K + 20000000) (by omega)
        simp only [at_, d3, d4] at sv
        rw [show b3 + (px - b1) + (b1 - px) = b3 by omega, show b4 + (py - b2) + (b2 - py) = b4 by omega, satv_in (show -9223372036854775808 ≤ b3 ∧ b3 ≤ 9223372036854775807 by constructor <;> omega), satv_in (show -9223372036854775808 ≤ b4 ∧ b4 ≤ 9223372036854775807 by constructor <;> omega), if_pos r1] at sv
        simp only [at_]
        rw [sv, Option.bind_some]
        have hus : upL 0 (L ++ [(⟨zz, ⟨b0, ⟨px, py⟩, ⟨b3 + (px - b1), b4 + (py - b2)⟩, b5, b6⟩, c2, c3, c4, c5, c6, c7⟩ : S37)]) := upL_snoc (z := (⟨zz, ⟨b0, ⟨px, py⟩, ⟨b3 + (px - b1), b4 + (py - b2)⟩, b5, b6⟩, c2, c3, c4, c5, c6, c7⟩ : S37)) ⟨hrt, r2, r3, r4, r5⟩ hu z2 z3
        rw [right_true hus (by simp; omega) (by omega), Option.bind_some, if_pos rfl, if_pos rfl, same37_eq _ _ (by simp; omega) (by omega), Option.bind_some, if_pos rfl]
        exact fin _ (by omega)
end Go.Proofs.Ytiadhonhjnbliaa.Pure
