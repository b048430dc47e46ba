/- Zone: what one zone does with one being in one beat of the clock. -/
import Derived.Test.YtiadhonhjnbliaaSumX
import Derived.Test.YtiadhonhjnbliaaXZNx5
import Derived.Test.YtiadhonhjnbliaaXZNx7
import Derived.Test.YtiadhonhjnbliaaXZNx4
import Derived.Test.YtiadhonhjnbliaaXZNx12
import Derived.Test.YtiadhonhjnbliaaXZNx9
import Derived.Test.YtiadhonhjnbliaaXZNx11
import Derived.Test.YtiadhonhjnbliaaXZNx10
import Derived.Test.YtiadhonhjnbliaaXZNx8
import Derived.Test.YtiadhonhjnbliaaXZNx25
import Derived.Test.YtiadhonhjnbliaaXZNx26
set_option linter.unusedSimpArgs false
set_option linter.unusedVariables false
namespace Go.Proofs.Ytiadhonhjnbliaa.Pure
open Go.RowKit Go.Proofs.Ytiadhonhjnbliaa.XZN Go.Proofs.YtiadhonhjnbliaaW.PrintWords Go.Proofs.YtiadhonhjnbliaaW.PrintLast

/-- With rounds enough it is so. -/
def Ev (P : Nat → Prop) : Prop := ∃ K, ∀ k, K ≤ k → P k
theorem Ev.of {α : Type} {f : Nat → Option α} (hm : ∀ k, LeO (f k) (f (k + 1))) {K : Nat} {v : α} (h : f K = some v) : Ev (fun k => f k = some v) := by
  refine ⟨K, fun k hk => ?_⟩
  obtain ⟨d, rfl⟩ := Nat.exists_eq_add_of_le hk
  induction d with
  | zero => exact h
  | succ d ih => exact hm _ _ (ih (by omega))
theorem small_ev : Ev (fun k => barrowlaw33_small.f k = some true) := Ev.of barrowlaw33_small.mono (K := 60) (by decide +kernel)
abbrev In64 (a : Int) : Prop := -9223372036854775808 ≤ a ∧ a ≤ 9223372036854775807
theorem mn_min (a b : Int) : mn a b = min a b := by unfold mn; split <;> omega
theorem mx_max (a b : Int) : mx a b = max a b := by unfold mx; split <;> omega
theorem wrap64_in {x : Int} (h : In64 x) : wrap64 x = x := by unfold wrap64; omega
/-- The being stands in the circle. -/
def inc (a : Int) : Bool := decide (-3 ≤ a ∧ a ≤ 3)
theorem near3 (k : Nat) (a : Int) (ha : -256 ≤ a ∧ a ≤ 512) : grid_Near.f (k + 1) 0 0 a 0 3 = some (inc a) := by
  unfold grid_Near.f grid_Square.f grid_far.f
  rw [mx_max, mn_min, mx_max, mn_min, sub_eq k _ _ (by omega) (by omega), sub_eq k _ _ (by omega) (by omega), satv_in (by omega), satv_in (by omega)]
  simp only [Option.bind_some]
  have hm : ∀ d : Int, 0 ≤ d → d ≤ 512 → 0 ≤ d * d ∧ d * d ≤ 262144 := fun d h1 h2 => ⟨Int.mul_nonneg h1 h1, by
    have := Int.mul_le_mul h2 h2 h1 (by decide : (0 : Int) ≤ 512); omega⟩
  have h1 := hm (max 0 a - min 0 a) (by omega) (by omega)
  rw [mul_eq _ _ (by omega) (by omega), mul_eq _ _ (by omega) (by omega), mul_eq 3 3 (by omega) (by omega), satv_in (by omega), satv_in (by omega), satv_in (by omega)]
  simp only [Option.bind_some]
  rw [add_eq k _ _ (by omega) (by omega), satv_in (by omega)]
  simp only [Option.bind_some]
  rw [if_pos (by omega)]
  congr 1
  unfold inc
  rw [decide_eq_decide]
  generalize hd : max 0 a - min 0 a = d at h1
  have h0 : 0 ≤ d := by omega
  rw [show max (0 : Int) 0 - min 0 0 = 0 by omega]
  constructor
  · intro h
    have : ¬ 4 ≤ d := fun h4 => by
      have := Int.mul_le_mul h4 h4 (by omega) h0
      omega
    omega
  · intro h
    have := Int.mul_le_mul (show d ≤ 3 by omega) (show d ≤ 3 by omega) h0 (by omega)
    omega
theorem in_eq (k : Nat) (a : Int) (ha : In64 a) : area_In.f (k + 1) 1 0 0 0 0 3 0 a 0 = some (inc a) := by
  unfold area_In.f
  rw [show area_Right.f 1 0 0 0 0 3 0 = some true from by decide +kernel]
  simp only [Option.bind_some, if_true, area_near.f, area_within.f, area_less.f]
  by_cases h1 : -256 ≤ a
  · rw [if_pos h1]
    by_cases h2 : a ≤ 512
    · rw [decide_eq_true h2]
      simp only [Option.bind_some, if_true]
      rw [if_pos (by omega), decide_eq_true (by omega : (0 : Int) ≤ 512)]
      simp only [Option.bind_some, if_true]
      rw [near3 k a ⟨h1, h2⟩]
      rfl
    · rw [decide_eq_false h2]
      simp only [Option.bind_some, Bool.false_eq_true, if_false]
      congr 1
      symm
      exact decide_eq_false (by omega)
  · rw [if_neg h1]
    simp only [Option.bind_some, Bool.false_eq_true, if_false]
    congr 1
    symm
    exact decide_eq_false (by omega)
def zn (u e n : Int) : S37 := ⟨1, ⟨1, ⟨0, 0⟩, ⟨0, 0⟩, 3, 0⟩, u, e, n, ⟨0, 0, 0⟩, 0, 0⟩
def bd (a : Int) : S44 := ⟨5, 1, 0, 1, 0, 0, 0, ⟨a, 0⟩, 0⟩
/-- One zone, one being, one beat of the clock. -/
theorem tick_eq (k : Nat) (u e n a t : Int) (ha : In64 a) (hn : 0 ≤ n ∧ n ≤ 2000000) (he : 0 ≤ e ∧ e ≤ 100) :
    zone_Tick.f (k + 5) [zn u e n] [bd a] t = some (if u ≤ t then [] else [zn u e (if n ≤ t ∧ n ≤ u then n + e else n)], if (n ≤ t ∧ n ≤ u) ∧ inc a = true then [⟨1, 5⟩] else []) := by
  unfold zone_Tick.f
  have e0 : rd_T37 [zn u e n] 0 = zn u e n := rfl
  have e1 : rd_T44 [bd a] 0 = bd a := rfl
  have w1 : wrap64 (0 + 1) = 1 := by decide +kernel
  have fin : ∀ k z x y, zone_Tick.l0 (k + 1) [zn u e n] z t x y 1 = some (x, y) := by
    intro k z x y
    rw [zone_Tick.l0]
    simp only [List.length_cons, List.length_nil]
    rw [if_neg (by omega)]
  rw [zone_Tick.l0]
  simp only [List.length_cons, List.length_nil, e0]
  rw [if_pos (by omega), if_pos (by omega)]
  simp only [zn, w1]
  by_cases h1 : n ≤ t
  · rw [if_pos h1]
    by_cases h2 : n ≤ u
    · rw [if_pos h2]
      simp only [zone_hits.f, Option.bind_some]
      rw [zone_Tick.l1]
      simp only [List.length_cons, List.length_nil, e1]
      rw [if_pos (by omega), if_pos (by omega)]
      simp only [bd, zone_hits_1_i1.f]
      rw [if_pos (by omega), if_pos trivial, in_eq (k + 2) a ha]
      simp only [Option.bind_some, w1]
      have stop : ∀ y, zone_Tick.l1 (k + 3) [zn u e n] [bd a] t [] 0 1 1 0 0 0 0 3 0 u e n 0 0 0 0 0 y 1 = some (if u ≤ t then [] else [zn u e (n + e)], y) := by
        intro y
        rw [zone_Tick.l1]
        simp only [List.length_cons, List.length_nil, e0]
        rw [if_neg (by omega)]
        simp only [zn]
        rw [add_eq (k + 1) n e (by omega) (by omega), satv_in (by omega)]
        simp only [Option.bind_some, w1]
        by_cases h3 : u ≤ t
        · rw [if_pos h3, if_pos h3]
          exact fin (k + 1) _ _ _
        · rw [if_neg h3, if_neg h3]
          simp only [List.length_cons, List.length_nil, Option.bind_some]
          rw [if_pos (by omega)]
          exact fin (k + 1) _ _ _
      simp only [zn, bd] at stop
      cases hi : inc a
      · simp only [Bool.false_eq_true, if_false, and_false, stop]
        simp only [h1, h2, and_self, if_true]
      · simp only [if_true, List.length_cons, List.length_nil, Option.bind_some, stop, List.nil_append]
        rw [if_pos (by omega)]
        simp only [h1, h2, and_self, if_true]
        rfl
    · rw [if_neg h2]
      have hu : ¬ (n ≤ t ∧ n ≤ u) := fun h => h2 h.2
      by_cases h3 : u ≤ t
      · rw [if_pos h3]
        simp only [if_pos h3, if_neg hu, hu, false_and, if_false]
        exact fin (k + 3) _ _ _
      · rw [if_neg h3]
        simp only [if_neg h3, if_neg hu, hu, false_and, if_false, List.length_cons, List.length_nil, Option.bind_some]
        rw [if_pos (by omega)]
        exact fin (k + 3) _ _ _
  · rw [if_neg h1]
    have hu : ¬ (n ≤ t ∧ n ≤ u) := fun h => h1 h.1
    by_cases h3 : u ≤ t
    · rw [if_pos h3]
      simp only [if_pos h3, if_neg hu, hu, false_and, if_false]
      exact fin (k + 3) _ _ _
    · rw [if_neg h3]
      simp only [if_neg h3, if_neg hu, hu, false_and, if_false, List.length_cons, List.length_nil, Option.bind_some]
      rw [if_pos (by omega)]
      exact fin (k + 3) _ _ _
theorem may_eq (u e n : Int) (he : 1 ≤ e ∧ e ≤ 100) (b c i : Int) : zone_may.f i 1 0 0 0 0 3 0 u e n 0 0 0 0 0 = some true := by
  unfold zone_may.f
  rw [show area_Right.f 1 0 0 0 0 3 0 = some true from by decide +kernel]
  simp only [Option.bind_some, if_true]
  rw [if_pos (by omega), if_pos (by omega), if_pos (by omega), if_pos (by omega)]
theorem right0 (k : Nat) : zone_Right.f (k + 2) [] = some true := by
  unfold zone_Right.f
  rw [zone_Right.l0]
  rfl
theorem right1 (k : Nat) (u e n : Int) (he : 1 ≤ e ∧ e ≤ 100) : zone_Right.f (k + 2) [zn u e n] = some true := by
  unfold zone_Right.f
  have e0 : rd_T37 [zn u e n] 0 = zn u e n := rfl
  rw [zone_Right.l0]
  simp only [List.length_cons, List.length_nil, e0]
  rw [if_pos (by omega), if_pos (by omega), if_neg (show ¬ (zn u e n).f0 ≤ 0 by show ¬ (1 : Int) ≤ 0; omega)]
  simp only [zn]
  rw [may_eq u e n he 0 0]
  simp only [Option.bind_some, if_true, show wrap64 (0 + 1) = 1 from by decide +kernel]
  rw [zone_Right.l0]
  simp only [List.length_cons, List.length_nil]
  rw [if_neg (by omega), if_pos (by omega)]
theorem add_eq1 (k : Nat) (e f l : Int) (he : 1 ≤ e ∧ e ≤ 100) (hf : 0 ≤ f ∧ f ≤ 1048576) (hl : 1 ≤ l ∧ l ≤ 100) : zone_Add.f (k + 5) [] 0 1 0 0 0 0 3 0 0 e 0 0 0 0 0 0 f l = some ([zn (f + l) e (f + e)], 1, 0) := by
  unfold zone_Add.f
  rw [if_neg (by simp), right0 (k + 3)]
  simp only [Option.bind_some, if_true]
  rw [may_eq 0 e 0 he 0 0]
  simp only [Option.bind_some, if_true, List.length_nil]
  rw [if_neg (by omega), if_neg (by omega)]
  (try rw [if_neg (by omega)])
  rw [add_eq (k + 4) f l (by omega) (by omega), add_eq (k + 4) f e (by omega) (by omega), satv_in (by omega), satv_in (by omega), show wrap64 1 = 1 from by decide +kernel]
  simp only [Option.bind_some, api_Zone_30.f, List.length_nil, List.length_cons, List.nil_append]
  rw [if_pos (by omega)]
  simp only [Option.bind_some, List.length_nil, List.length_cons, List.nil_append]
  rw [if_pos (by omega)]
  rfl
end Go.Proofs.Ytiadhonhjnbliaa.Pure
