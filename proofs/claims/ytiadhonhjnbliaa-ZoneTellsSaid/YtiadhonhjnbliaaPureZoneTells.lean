/- ZoneTells, in plain Lean: the document says of rows of zones, and of what becomes of them, what the program does. -/
import Derived.Test.YtiadhonhjnbliaaSumX
import Derived.Test.YtiadhonhjnbliaaXZTx7
import Derived.Test.YtiadhonhjnbliaaXZTx4
import Derived.Test.YtiadhonhjnbliaaXZTx6
import Derived.Test.YtiadhonhjnbliaaXZTx5
import Derived.Test.YtiadhonhjnbliaaXZTx24
import Derived.Test.YtiadhonhjnbliaaXZTx13
import Derived.Test.YtiadhonhjnbliaaXZTx9
import Derived.Test.YtiadhonhjnbliaaXZTx8
import Derived.Test.YtiadhonhjnbliaaXZTx20
import Derived.Test.YtiadhonhjnbliaaXZTx11
import Derived.Test.YtiadhonhjnbliaaXZTx10
import Derived.Test.YtiadhonhjnbliaaXZTx12
import Derived.Test.YtiadhonhjnbliaaXZTx28
import Derived.Test.YtiadhonhjnbliaaXZTx15
import Derived.Test.YtiadhonhjnbliaaXZTx24
import Derived.Test.YtiadhonhjnbliaaXZTx16
import Derived.Test.YtiadhonhjnbliaaXZTx20
import Derived.Test.YtiadhonhjnbliaaXZTx21
import Derived.Test.YtiadhonhjnbliaaXZTx23
import Derived.Test.YtiadhonhjnbliaaXZTx25
import Derived.Test.YtiadhonhjnbliaaXZTx13
import Derived.Test.YtiadhonhjnbliaaXZTx31
set_option linter.unusedSimpArgs false
set_option linter.unusedVariables false
namespace Go.Proofs.Ytiadhonhjnbliaa.Pure
open Go.RowKit Go.Proofs.Ytiadhonhjnbliaa.XZT Go.Proofs.YtiadhonhjnbliaaW.PrintWords Go.Proofs.YtiadhonhjnbliaaW.PrintLast

/-- With rounds enough it is so. -/
def Ev (P : Nat → Prop) : Prop := ∃ K, ∀ k, K ≤ k → P k
theorem Ev.of {α : Type} {f : Nat → Option α} (hm : ∀ k, LeO (f k) (f (k + 1))) {K : Nat} {v : α} (h : f K = some v) : Ev (fun k => f k = some v) := by
  refine ⟨K, fun k hk => ?_⟩
  obtain ⟨d, rfl⟩ := Nat.exists_eq_add_of_le hk
  induction d with
  | zero => exact h
  | succ d ih => exact hm _ _ (ih (by omega))
theorem small_ev : Ev (fun k => barrowlaw33_small.f k = some true) := Ev.of barrowlaw33_small.mono (K := 60) (by decide +kernel)
abbrev In64 (a : Int) : Prop := -9223372036854775808 ≤ a ∧ a ≤ 9223372036854775807
theorem wrap64_in {x : Int} (h : In64 x) : wrap64 x = x := by unfold wrap64; omega
end Go.Proofs.Ytiadhonhjnbliaa.Pure
namespace Go.Proofs.Ytiadhonhjnbliaa.Pure
open Go.RowKit Go.Proofs.Ytiadhonhjnbliaa.XZT Go.Proofs.YtiadhonhjnbliaaW.PrintWords Go.Proofs.YtiadhonhjnbliaaW.PrintLast

abbrev Nr (x : Int) : Prop := -256 ≤ x ∧ x ≤ 512
def Rt (kd ax ay bx by_ a b : Int) : Prop := (1 ≤ kd ∧ kd ≤ 5) ∧ (Nr ax ∧ Nr ay) ∧ (Nr bx ∧ Nr by_) ∧ (0 ≤ a ∧ a ≤ 512) ∧ (0 ≤ b ∧ b ≤ 512)
instance (kd ax ay bx by_ a b : Int) : Decidable (Rt kd ax ay bx by_ a b) := by unfold Rt; infer_instance
theorem within_eq (x lo hi : Int) : area_within.f x lo hi = some (decide (lo ≤ x ∧ x ≤ hi)) := by
  unfold area_within.f
  by_cases h : x ≥ lo
  · rw [if_pos h]; congr 1; rw [decide_eq_decide]; omega
  · rw [if_neg h]; congr 1; symm; rw [decide_eq_false_iff_not]; omega
theorem anear_eq (x y : Int) : area_near.f x y = some (decide (Nr x ∧ Nr y)) := by
  unfold area_near.f
  rw [within_eq, within_eq]
  by_cases h1 : Nr x <;> by_cases h2 : Nr y <;> simp [h1, h2]
theorem aright_eq (kd ax ay bx by_ a b : Int) : area_Right.f kd ax ay bx by_ a b = some (decide (Rt kd ax ay bx by_ a b)) := by
  unfold area_Right.f Rt
  rw [within_eq, anear_eq, anear_eq, within_eq, within_eq]
  by_cases h1 : 1 ≤ kd ∧ kd ≤ 5 <;> by_cases h2 : Nr ax ∧ Nr ay <;> by_cases h3 : Nr bx ∧ Nr by_ <;> by_cases h4 : 0 ≤ a ∧ a ≤ 512 <;> simp [h1, h2, h3, h4]
end Go.Proofs.Ytiadhonhjnbliaa.Pure
namespace Go.Proofs.Ytiadhonhjnbliaa.Pure
open Go.RowKit Go.Proofs.Ytiadhonhjnbliaa.XZT Go.Proofs.YtiadhonhjnbliaaW.PrintWords Go.Proofs.YtiadhonhjnbliaaW.PrintLast Go.Proofs.YtiadhonhjnbliaaW.PrintMore

theorem rd37 (L : List S37) (i : Nat) (h : i < L.length) : rd_T37 L (i : Int) = L[i] := by
  unfold rd_T37
  rw [Int.toNat_natCast, List.getD_eq_getElem?_getD, List.getElem?_eq_getElem h]
  rfl
section
variable {L : List S37} {U : List S44} {now : Int} (hL : L.length ≤ 60) (hU : U.length ≤ 60) (hz : ∀ z ∈ L, In64 z.f3 ∧ In64 z.f4)
include hL hU hz
end
theorem same37 : ∀ (L : List S37) (n i k : Nat), i + n = L.length → n < k → L.length ≤ 70000 → barrowref33_Same.l0 k L L i = some true
  | L, 0, i, k, h, hk, _ => by
    obtain ⟨k, rfl⟩ : ∃ q, k = q + 1 := ⟨k - 1, by omega⟩
    rw [barrowref33_Same.l0, if_neg (by omega)]
  | L, n + 1, i, k, h, hk, hl => by
    obtain ⟨k, rfl⟩ : ∃ q, k = q + 1 := ⟨k - 1, by omega⟩
    rw [barrowref33_Same.l0, if_pos (by omega), if_pos (by omega), if_pos (by omega), if_neg (by simp), wrap64_in (by omega)]
    have := same37 L n (i + 1) k (by omega) (by omega) hl
    rwa [show ((i + 1 : Nat) : Int) = (i : Int) + 1 by omega] at this
theorem same37_eq (L : List S37) (k : Nat) (hl : L.length ≤ 70000) (hk : 80000 ≤ k) : barrowref33_Same.f k L L = some true := by
  unfold barrowref33_Same.f
  rw [if_pos rfl]
  exact same37 L L.length 0 k (by omega) (by omega) hl
end Go.Proofs.Ytiadhonhjnbliaa.Pure
namespace Go.Proofs.Ytiadhonhjnbliaa.Pure
open Go.RowKit Go.Proofs.Ytiadhonhjnbliaa.XZT Go.Proofs.YtiadhonhjnbliaaW.PrintWords Go.Proofs.YtiadhonhjnbliaaW.PrintLast Go.Proofs.YtiadhonhjnbliaaW.PrintMore
theorem satv64 (x : Int) : In64 (satv x) := by unfold satv; (repeat' split) <;> constructor <;> omega
def mayP (z : S37) : Prop := Rt z.f1.f0 z.f1.f1.f0 z.f1.f1.f1 z.f1.f2.f0 z.f1.f2.f1 z.f1.f3 z.f1.f4 ∧ 1 ≤ z.f3 ∧ z.f3 ≤ 1000000 ∧ 0 ≤ z.f7 ∧ z.f7 ≤ 2
instance (z : S37) : Decidable (mayP z) := by unfold mayP; infer_instance
theorem may_val (i a b c d e f g u v n x y w s q : Int) : zone_may.f i a b c d e f g u v n x y w s q = some (decide (Rt a b c d e f g ∧ 1 ≤ v ∧ v ≤ 1000000 ∧ 0 ≤ q ∧ q ≤ 2)) := by
  unfold zone_may.f
  rw [aright_eq, Option.bind_some]
  by_cases h1 : Rt a b c d e f g
  · rw [decide_eq_true h1, if_pos rfl]
    by_cases h2 : v ≥ 1
    · by_cases h3 : v ≤ 1000000
      · by_cases h4 : q ≥ 0
        · by_cases h5 : q ≤ 2
          · rw [if_pos h2, if_pos h3, if_pos h4, if_pos h5, decide_eq_true ⟨h1, h2, h3, h4, h5⟩]
          · rw [if_pos h2, if_pos h3, if_pos h4, if_neg h5, decide_eq_false (fun h => h5 h.2.2.2.2)]
        · rw [if_pos h2, if_pos h3, if_neg h4, decide_eq_false (fun h => h4 h.2.2.2.1)]
      · rw [if_pos h2, if_neg h3, decide_eq_false (fun h => h3 h.2.2.1)]
    · rw [if_neg h2, decide_eq_false (fun h => h2 h.2.1)]
  · rw [decide_eq_false h1, if_neg (by decide), decide_eq_false (fun h => h1 h.1)]
/-- Rising numbers, and each may be. -/
def upL : Int → List S37 → Prop
  | _, [] => True
  | a, z :: l => a < z.f0 ∧ mayP z ∧ upL z.f0 l
theorem right_l0 (L : List S37) (hl : L.length ≤ 1000) : ∀ (n i : Nat) (a : Int), i + n = L.length → ∃ v : Bool, (v = true ↔ upL a (L.drop i) ∧ L.length ≤ 32) ∧ ∀ k, n < k → zone_Right.l0 k L a i = some v := by
  intro n
  induction n with
  | zero =>
    intro i a hi
    refine ⟨decide (L.length ≤ 32), ?_, fun k hk => ?_⟩
    · rw [List.drop_of_length_le (by omega), decide_eq_true_eq]; exact ⟨fun h => ⟨trivial, h⟩, fun h => h.2⟩
    · obtain ⟨k, rfl⟩ : ∃ q, k = q + 1 := ⟨k - 1, by omega⟩
      rw [zone_Right.l0, if_neg (by omega)]
      by_cases c : L.length ≤ 32
      · rw [if_pos (by omega), decide_eq_true c]
      · rw [if_neg (by omega), decide_eq_false c]
  | succ n ih =>
    intro i a hi
    have hil : i < L.length := by omega
    obtain ⟨v, h1, h2⟩ := ih (i + 1) (L[i]).f0 (by omega)
    rw [List.drop_eq_getElem_cons hil]
    by_cases c : (L[i]).f0 ≤ a
    · refine ⟨false, ⟨fun h => (by cases h), fun h => by have := h.1.1; omega⟩, fun k hk => ?_⟩
      obtain ⟨k, rfl⟩ : ∃ q, k = q + 1 := ⟨k - 1, by omega⟩
      rw [zone_Right.l0, if_pos (by omega), if_pos (by omega), rd37 L i hil, if_pos c]
    · by_cases q : mayP L[i] <;> unfold mayP at q
      · refine ⟨v, ⟨fun h => ?_, fun h => h1.2 ⟨h.1.2.2, h.2⟩⟩, fun k hk => ?_⟩
        · obtain ⟨g1, g2⟩ := h1.1 h
          exact ⟨⟨by omega, q, g1⟩, g2⟩
        · obtain ⟨k, rfl⟩ : ∃ q, k = q + 1 := ⟨k - 1, by omega⟩
          rw [zone_Right.l0, if_pos (by omega), if_pos (by omega), rd37 L i hil, if_neg c, may_val, Option.bind_some, decide_eq_true q, if_pos rfl, wrap64_in (by omega), show ((i : Int) + 1) = ((i + 1 : Nat) : Int) by omega]
          exact h2 k (by omega)
      · refine ⟨false, ⟨fun h => (by cases h), fun h => (q h.1.2.1).elim⟩, fun k hk => ?_⟩
        obtain ⟨k, rfl⟩ : ∃ q, k = q + 1 := ⟨k - 1, by omega⟩
        rw [zone_Right.l0, if_pos (by omega), if_pos (by omega), rd37 L i hil, if_neg c, may_val, Option.bind_some, decide_eq_false q, if_neg (by decide)]
theorem clone_val {L : List S37} (hl : L.length ≤ 1000) : api_Zone_30.f L = some L := by
  unfold api_Zone_30.f
  rw [Option.bind_some, if_pos (by simp; omega), List.nil_append]
/-- A zone at another place. -/
def at_ (z : S37) (t s p q : Int) : S37 := { z with f1 := { z.f1 with f1 := ⟨p, q⟩, f2 := ⟨t, s⟩ } }
end Go.Proofs.Ytiadhonhjnbliaa.Pure
namespace Go.Proofs.Ytiadhonhjnbliaa.Pure
open Go.RowKit Go.Proofs.Ytiadhonhjnbliaa.XZT Go.Proofs.YtiadhonhjnbliaaW.PrintWords Go.Proofs.YtiadhonhjnbliaaW.PrintLast Go.Proofs.YtiadhonhjnbliaaW.PrintMore
theorem refadd_eq (k : Nat) (a b : Int) (ha : -9223372036854775808 ≤ a ∧ a ≤ 9223372036854775807) (hb : -9223372036854775808 ≤ b ∧ b ≤ 9223372036854775807) : barrowref01_Add.f (k + 1) a b = some (satv (a + b)) := by
  unfold barrowref01_Add.f satv
  simp only [barrowref01_Add.j0, wrap64]
  by_cases h1 : a > 0
  · rw [if_pos h1]
    by_cases h2 : b > (9223372036854775807 - a + 9223372036854775808) % 18446744073709551616 - 9223372036854775808
    · rw [if_pos (decide_eq_true h2), if_pos (by omega)]
    · rw [if_neg (by simpa using h2), if_neg (by omega), if_neg (by omega), if_neg (by omega)]; congr 1; omega
  · rw [if_neg h1, if_neg (by decide)]
    (repeat' split) <;> (first | rfl | omega | (congr 1; omega))
theorem refsub_eq (k : Nat) (a b : Int) (ha : -9223372036854775808 ≤ a ∧ a ≤ 9223372036854775807) (hb : -9223372036854775808 ≤ b ∧ b ≤ 9223372036854775807) : barrowref01_Sub.f (k + 1) a b = some (satv (a - b)) := by
  unfold barrowref01_Sub.f satv
  simp only [barrowref01_Sub.j0, wrap64]
  by_cases h1 : b < 0
  · rw [if_pos h1]
    by_cases h2 : a > (9223372036854775807 + b + 9223372036854775808) % 18446744073709551616 - 9223372036854775808
    · rw [if_pos (decide_eq_true h2), if_pos (by omega)]
    · rw [if_neg (by simpa using h2), if_neg (by omega), if_neg (by omega), if_neg (by omega)]; congr 1; omega
  · rw [if_neg h1, if_neg (by decide)]
    (repeat' split) <;> (first | rfl | omega | (congr 1; omega))
theorem ends_eq (x : Int) : barrowref32_ends.f x = some (decide (Nr x)) := by
  unfold barrowref32_ends.f
  by_cases h : x ≥ -256
  · rw [if_pos h]; congr 1; exact decide_eq_decide.2 ⟨fun q => ⟨h, q⟩, fun q => q.2⟩
  · rw [if_neg h, decide_eq_false (fun q => h q.1)]
theorem rright_eq (kd ax ay bx by_ a b : Int) : barrowref32_Right.f kd ax ay bx by_ a b = some (decide (Rt kd ax ay bx by_ a b)) := by
  unfold barrowref32_Right.f
  simp only [ends_eq, Option.bind_some]
  by_cases c1 : kd ≥ 1
  · by_cases c2 : kd ≤ 5
    · rw [if_pos c1, if_pos c2]
      by_cases n1 : Nr ax
      · by_cases n2 : Nr ay
        · by_cases n3 : Nr bx
          · by_cases n4 : Nr by_
            · simp only [decide_eq_true n1, decide_eq_true n2, decide_eq_true n3, decide_eq_true n4, if_true]
              by_cases c3 : a ≥ 0
              · by_cases c4 : a ≤ 512
                · by_cases c5 : b ≥ 0
                  · rw [if_pos c3, if_pos c4, if_pos c5]; congr 1; exact decide_eq_decide.2 ⟨fun q => ⟨⟨c1, c2⟩, ⟨n1, n2⟩, ⟨n3, n4⟩, ⟨c3, c4⟩, c5, q⟩, fun q => q.2.2.2.2.2⟩
                  · rw [if_pos c3, if_pos c4, if_neg c5, decide_eq_false (fun q => c5 q.2.2.2.2.1)]
                · rw [if_pos c3, if_neg c4, decide_eq_false (fun q => c4 q.2.2.2.1.2)]
              · rw [if_neg c3, decide_eq_false (fun q => c3 q.2.2.2.1.1)]
            · simp only [decide_eq_true n1, decide_eq_true n2, decide_eq_true n3, decide_eq_false n4, if_true]
              rw [if_neg (by decide), decide_eq_false (fun q => n4 q.2.2.1.2)]
          · simp only [decide_eq_true n1, decide_eq_true n2, decide_eq_false n3, if_true]
            rw [if_neg (by decide), decide_eq_false (fun q => n3 q.2.2.1.1)]
        · simp only [decide_eq_true n1, decide_eq_false n2, if_true]
          rw [if_neg (by decide), decide_eq_false (fun q => n2 q.2.1.2)]
      · simp only [decide_eq_false n1]
        rw [if_neg (by decide), decide_eq_false (fun q => n1 q.2.1.1)]
    · rw [if_pos c1, if_neg c2, decide_eq_false (fun q => c2 q.1.2)]
  · rw [if_neg c1, decide_eq_false (fun q => c1 q.1.1)]
theorem one_val (i a b c d e f g u v n x y w s q : Int) : barrowref33_one.f i a b c d e f g u v n x y w s q = some (decide (Rt a b c d e f g ∧ 1 ≤ v ∧ v ≤ 1000000 ∧ 0 ≤ q ∧ q ≤ 2)) := by
  unfold barrowref33_one.f
  rw [rright_eq, Option.bind_some]
  by_cases h1 : Rt a b c d e f g
  · rw [decide_eq_true h1, if_pos rfl]
    by_cases h2 : v ≥ 1
    · by_cases h3 : v ≤ 1000000
      · by_cases h4 : q ≥ 0
        · by_cases h5 : q ≤ 2
          · rw [if_pos h2, if_pos h3, if_pos h4, if_pos h5, decide_eq_true ⟨h1, h2, h3, h4, h5⟩]
          · rw [if_pos h2, if_pos h3, if_pos h4, if_neg h5, decide_eq_false (fun h => h5 h.2.2.2.2)]
        · rw [if_pos h2, if_pos h3, if_neg h4, decide_eq_false (fun h => h4 h.2.2.2.1)]
      · rw [if_pos h2, if_neg h3, decide_eq_false (fun h => h3 h.2.2.1)]
    · rw [if_neg h2, decide_eq_false (fun h => h2 h.2.1)]
  · rw [decide_eq_false h1, if_neg (by decide), decide_eq_false (fun h => h1 h.1)]
theorem rright_t (L : List S37) (x : Int) (k : Nat) : barrowref33_Right.l199 (k + 1) L x true = some false := by rw [barrowref33_Right.l199, if_pos rfl]
theorem rright_f (L : List S37) (i : Nat) (hi : i ≤ 1000) (k : Nat) : barrowref33_Right.l199 (k + 1) L i false = barrowref33_Right.l0 k L (i + 1 : Nat) := by
  rw [barrowref33_Right.l199, if_neg (by decide), wrap64_in (by omega), show ((i : Int) + 1) = ((i + 1 : Nat) : Int) by omega]
theorem rright_l0 (L : List S37) (hl : L.length ≤ 1000) : ∀ (n i : Nat) (a : Int), i + n = L.length → (i = 0 ∧ a = 0) ∨ (0 < i ∧ a = (rd_T37 L ((i : Int) - 1)).f0 ∧ 1 ≤ a) → ∃ v : Bool, (v = true ↔ upL a (L.drop i) ∧ L.length ≤ 32) ∧ ∀ k, 2 * n < k → barrowref33_Right.l0 k L i = some v := by
  intro n
  induction n with
  | zero =>
    intro i a hi _
    refine ⟨decide (L.length ≤ 32), ?_, fun k hk => ?_⟩
    · rw [List.drop_of_length_le (by omega), decide_eq_true_eq]; exact ⟨fun h => ⟨trivial, h⟩, fun h => h.2⟩
    · obtain ⟨k, rfl⟩ : ∃ q, k = q + 1 := ⟨k - 1, by omega⟩
      rw [barrowref33_Right.l0, if_neg (by omega)]
      by_cases c : L.length ≤ 32
      · rw [if_pos (by omega), decide_eq_true c]
      · rw [if_neg (by omega), decide_eq_false c]
  | succ n ih =>
    intro i a hi ha
    have hil : i < L.length := by omega
    rw [List.drop_eq_getElem_cons hil]
    by_cases q : mayP L[i] <;> unfold mayP at q
    rotate_left
    · refine ⟨false, ⟨fun h => (by cases h), fun h => (q h.1.2.1).elim⟩, fun k hk => ?_⟩
      obtain ⟨k, rfl⟩ : ∃ q, k = q + 1 + 1 := ⟨k - 2, by omega⟩
      rw [barrowref33_Right.l0, if_pos (by omega), if_pos (by omega), rd37 L i hil, one_val, Option.bind_some, decide_eq_false q, if_neg (by decide), rright_t]
    by_cases c1 : (L[i]).f0 < 1
    · refine ⟨false, ⟨fun h => (by cases h), fun h => by have := h.1.1; omega⟩, fun k hk => ?_⟩
      obtain ⟨k, rfl⟩ : ∃ q, k = q + 1 + 1 := ⟨k - 2, by omega⟩
      rw [barrowref33_Right.l0, if_pos (by omega), if_pos (by omega), rd37 L i hil, one_val, Option.bind_some, decide_eq_true q, if_pos rfl, if_pos c1, rright_t]
    obtain ⟨v, h1, h2⟩ := ih (i + 1) (L[i]).f0 (by omega) (.inr ⟨by omega, by rw [show ((i + 1 : Nat) : Int) - 1 = (i : Int) by omega, rd37 L i hil], by omega⟩)
    by_cases c0 : i = 0
    · subst c0
      have ha0 : a = 0 := by omega
      subst ha0
      refine ⟨v, ⟨fun h => ?_, fun h => h1.2 ⟨h.1.2.2, h.2⟩⟩, fun k hk => ?_⟩
      · obtain ⟨g1, g2⟩ := h1.1 h
        exact ⟨⟨by omega, q, g1⟩, g2⟩
      · obtain ⟨k, rfl⟩ : ∃ q, k = q + 1 + 1 := ⟨k - 2, by omega⟩
        rw [barrowref33_Right.l0, if_pos (by omega), if_pos (by omega), rd37 L 0 hil, one_val, Option.bind_some, decide_eq_true q, if_pos rfl, if_neg c1, if_neg (by omega), rright_f L 0 (by omega)]
        exact h2 k (by omega)
    · obtain ⟨_, hb, hc⟩ : 0 < i ∧ a = (rd_T37 L ((i : Int) - 1)).f0 ∧ 1 ≤ a := by
        rcases ha with ha | ha
        · omega
        · exact ha
      by_cases c : (L[i]).f0 ≤ a
      · refine ⟨false, ⟨fun h => (by cases h), fun h => by have := h.1.1; omega⟩, fun k hk => ?_⟩
        obtain ⟨k, rfl⟩ : ∃ q, k = q + 1 + 1 := ⟨k - 2, by omega⟩
        rw [barrowref33_Right.l0, if_pos (by omega), if_pos (by omega), rd37 L i hil, one_val, Option.bind_some, decide_eq_true q, if_pos rfl, if_neg c1, if_pos (by omega), wrap64_in (x := (i : Int) - 1) (by omega), Option.bind_some, if_pos (by omega), if_pos (by omega), ← hb, decide_eq_true c, rright_t]
      · refine ⟨v, ⟨fun h => ?_, fun h => h1.2 ⟨h.1.2.2, h.2⟩⟩, fun k hk => ?_⟩
        · obtain ⟨g1, g2⟩ := h1.1 h
          exact ⟨⟨by omega, q, g1⟩, g2⟩
        · obtain ⟨k, rfl⟩ : ∃ q, k = q + 1 + 1 := ⟨k - 2, by omega⟩
          rw [barrowref33_Right.l0, if_pos (by omega), if_pos (by omega), rd37 L i hil, one_val, Option.bind_some, decide_eq_true q, if_pos rfl, if_neg c1, if_pos (by omega), wrap64_in (x := (i : Int) - 1) (by omega), Option.bind_some, if_pos (by omega), if_pos (by omega), ← hb, decide_eq_false c, rright_f L i (by omega)]
          exact h2 k (by omega)
/-- Both say the same of a row. -/
theorem both_right (L : List S37) (hl : L.length ≤ 1000) : ∃ v : Bool, ∀ k, 2000 < k → zone_Right.f k L = some v ∧ barrowref33_Right.f k L = some v := by
  obtain ⟨v, h1, h2⟩ := right_l0 L hl L.length 0 0 (by omega)
  obtain ⟨u, g1, g2⟩ := rright_l0 L hl L.length 0 0 (by omega) (.inl ⟨rfl, rfl⟩)
  have e : v = u := by
    cases v <;> cases u
    · rfl
    · exact absurd (h1.2 (g1.1 rfl)) (by decide)
    · exact absurd (g1.2 (h1.1 rfl)) (by decide)
    · rfl
  subst e
  exact ⟨v, fun k hk => ⟨h2 k (by omega), g2 k (by omega)⟩⟩
theorem copy_val {L : List S37} (hl : L.length ≤ 1000) : barrowref33_Copy.f L = some L := by
  unfold barrowref33_Copy.f
  rw [Option.bind_some, if_pos (by simp; omega), List.nil_append]
  try rfl
/-! ### where a number stands -/
def fi : List S37 → Int → Nat → Int
  | [], _, _ => -1
  | z :: l, id, i => if z.f0 = id then (i : Int) else fi l id (i + 1)
theorem fi_is : ∀ (l : List S37) (id : Int) (i : Nat), fi l id i = -1 ∨ ∃ j : Nat, i ≤ j ∧ j < i + l.length ∧ fi l id i = j
  | [], id, i => .inl rfl
  | z :: l, id, i => by
    rw [fi]
    split
    · exact .inr ⟨i, by omega, by simp, rfl⟩
    · rcases fi_is l id (i + 1) with h | ⟨j, h1, h2, h3⟩
      · exact .inl h
      · exact .inr ⟨j, by omega, by simp; omega, h3⟩
theorem zfind_l0 (L : List S37) (id : Int) (hl : L.length ≤ 1000) : ∀ (n i k : Nat), i + n = L.length → n < k → api_Zone_48_i1.l0 k L id i = some (fi (L.drop i) id i) := by
  intro n
  induction n with
  | zero =>
    intro i k hi hk
    obtain ⟨k, rfl⟩ : ∃ q, k = q + 1 := ⟨k - 1, by omega⟩
    rw [api_Zone_48_i1.l0, if_neg (by omega), List.drop_of_length_le (by omega)]; rfl
  | succ n ih =>
    intro i k hi hk
    obtain ⟨k, rfl⟩ : ∃ q, k = q + 1 := ⟨k - 1, by omega⟩
    have hil : i < L.length := by omega
    rw [api_Zone_48_i1.l0, if_pos (by omega), if_pos (by omega), rd37 _ _ hil, List.drop_eq_getElem_cons hil, fi]
    unfold zone_find_1_i1.f
    by_cases c : (L[i]).f0 = id
    · rw [if_pos c, if_pos c, Option.bind_some, if_pos rfl]
    · rw [if_neg c, if_neg c, Option.bind_some, if_neg (by decide), wrap64_in (by omega), show ((i : Int) + 1) = ((i + 1 : Nat) : Int) by omega]
      exact ih (i + 1) k (by omega) (by omega)
theorem rfind_l0 (L : List S37) (id : Int) (hl : L.length ≤ 1000) : ∀ (n i k : Nat), i + n = L.length → n < k → barrowref33_find.l0 k L id i = some (fi (L.drop i) id i) := by
  intro n
  induction n with
  | zero =>
    intro i k hi hk
    obtain ⟨k, rfl⟩ : ∃ q, k = q + 1 := ⟨k - 1, by omega⟩
    rw [barrowref33_find.l0, if_neg (by omega), List.drop_of_length_le (by omega)]; rfl
  | succ n ih =>
    intro i k hi hk
    obtain ⟨k, rfl⟩ : ∃ q, k = q + 1 := ⟨k - 1, by omega⟩
    have hil : i < L.length := by omega
    rw [barrowref33_find.l0, if_pos (by omega), if_pos (by omega), rd37 _ _ hil, List.drop_eq_getElem_cons hil, fi]
    by_cases c : (L[i]).f0 = id
    · rw [if_pos c, if_pos c]
    · rw [if_neg c, if_neg c, wrap64_in (by omega), show ((i : Int) + 1) = ((i + 1 : Nat) : Int) by omega]
      exact ih (i + 1) k (by omega) (by omega)
theorem zfind_val {L : List S37} (id : Int) (hl : L.length ≤ 1000) {k : Nat} (hk : 2000 < k) : zone_find.f k L id = some (fi L id 0) := by
  unfold zone_find.f api_Zone_48_i1.f
  have := zfind_l0 L id hl L.length 0 k (by omega) (by omega)
  rw [show ((0 : Nat) : Int) = 0 from rfl, List.drop_zero] at this
  rw [this]; rfl
theorem rfind_val {L : List S37} (id : Int) (hl : L.length ≤ 1000) {k : Nat} (hk : 2000 < k) : barrowref33_find.f k L id = some (fi L id 0) := by
  unfold barrowref33_find.f
  have := rfind_l0 L id hl L.length 0 k (by omega) (by omega)
  rw [show ((0 : Nat) : Int) = 0 from rfl, List.drop_zero] at this
  exact this
/-! ### Drop -/
def dropS (L : List S37) (id : Int) : List S37 × Bool := if fi L id 0 < 0 then (L, false) else (L.eraseIdx (fi L id 0).toNat, true)
theorem zdrop_is {L : List S37} (id : Int) (hl : L.length ≤ 900) {k : Nat} (hk : 2000 < k) : zone_Drop.f k L id = some (dropS L id) := by
  unfold zone_Drop.f dropS
  rw [clone_val (by omega), Option.bind_some, zfind_val id (by omega) hk, Option.bind_some]
  rcases fi_is L id 0 with h | ⟨j, h1, h2, h3⟩
  · rw [h, if_pos (by decide), if_pos (by decide)]
  · have hneg : ¬ ((j : Int) < 0) := by omega
    rw [h3, if_neg hneg, if_neg hneg]
    unfold slices_Delete.f
    rw [wrap64_in (by omega), if_pos ⟨by omega, by omega, rfl⟩, Option.bind_some]
theorem rdrop_is {L : List S37} (id : Int) (hl : L.length ≤ 900) {k : Nat} (hk : 2000 < k) : barrowref33_Drop.f k L id = some (dropS L id) := by
  unfold barrowref33_Drop.f dropS
  rw [rfind_val id (by omega) hk, Option.bind_some]
  rcases fi_is L id 0 with h | ⟨j, h1, h2, h3⟩
  · rw [h, if_pos (by decide), if_pos (by decide), copy_val (by omega), Option.bind_some]
  · have hneg : ¬ ((j : Int) < 0) := by omega
    rw [h3, if_neg hneg, if_neg hneg, if_pos (by omega), if_pos (by omega), Int.toNat_natCast, Option.bind_some, copy_val (by rw [List.length_take]; omega), Option.bind_some, wrap64_in (by omega), Option.bind_some, if_pos (by omega), if_pos (by omega), Option.bind_some, show ((j : Int) + 1).toNat = j + 1 by omega, if_pos (by rw [List.length_take, List.length_drop]; omega), Option.bind_some, List.eraseIdx_eq_take_drop_succ]
/-! ### Shift -/
def shiftS (L : List S37) (id p q : Int) : List S37 × Int := if fi L id 0 < 0 then ([], 5) else
  let z := rd_T37 L (fi L id 0)
  if Rt z.f1.f0 p q (satv (z.f1.f2.f0 + satv (p - z.f1.f1.f0))) (satv (z.f1.f2.f1 + satv (q - z.f1.f1.f1))) z.f1.f3 z.f1.f4 then (L.set (fi L id 0).toNat (at_ z (satv (z.f1.f2.f0 + satv (p - z.f1.f1.f0))) (satv (z.f1.f2.f1 + satv (q - z.f1.f1.f1))) p q), 0) else ([], 1)
theorem rd37_set {L : List S37} {j : Nat} (h : j < L.length) (y : S37) : rd_T37 (L.set j y) (j : Int) = y := by
  rw [rd37 _ _ (by simpa using h)]; simp
def okZ (z : S37) : Prop := In64 z.f1.f1.f0 ∧ In64 z.f1.f1.f1 ∧ In64 z.f1.f2.f0 ∧ In64 z.f1.f2.f1
theorem zshift_is {L : List S37} (id p q : Int) (hl : L.length ≤ 900) (hz : ∀ z ∈ L, okZ z) (hp : In64 p) (hq : In64 q) {k : Nat} (hk : 2000 < k) : zone_Shift.f k L id p q = some (shiftS L id p q) := by
  obtain ⟨k, rfl⟩ : ∃ j, k = j + 1 := ⟨k - 1, by omega⟩
  unfold zone_Shift.f zone_moved.f shiftS
  rw [clone_val (by omega), Option.bind_some, zfind_val id (by omega) hk, Option.bind_some]
  rcases fi_is L id 0 with h | ⟨j, h1, h2, h3⟩
  · rw [h, if_pos (by decide), if_pos (by decide)]
  have hj : j < L.length := by omega
  have hneg : ¬ ((j : Int) < 0) := by omega
  rw [h3, if_neg hneg, if_neg hneg, if_pos (by omega), if_pos (by omega)]
  obtain ⟨z, hzz⟩ : ∃ z, z = rd_T37 L (j : Int) := ⟨_, rfl⟩
  obtain ⟨i1, i2, i3, i4⟩ := hz z (by rw [hzz, rd37 L j hj]; exact List.getElem_mem hj)
  rw [← hzz]
  simp only [Int.toNat_natCast, rd37_set hj, List.set_set]
  rw [sub_eq k p _ hp i1, Option.bind_some, add_eq k _ _ i3 (satv64 _), Option.bind_some, Option.bind_some, sub_eq k q _ hq i2, Option.bind_some, add_eq k _ _ i4 (satv64 _), Option.bind_some, Option.bind_some, Option.bind_some]
  simp only [Option.bind_some, rd37_set hj, List.set_set]
  rw [aright_eq, Option.bind_some]
  by_cases c : Rt z.f1.f0 p q (satv (z.f1.f2.f0 + satv (p - z.f1.f1.f0))) (satv (z.f1.f2.f1 + satv (q - z.f1.f1.f1))) z.f1.f3 z.f1.f4
  · rw [decide_eq_true c, if_pos rfl, if_pos c]; rfl
  · rw [decide_eq_false c, if_neg (by decide), if_neg c]
theorem rshift_is {L : List S37} (id p q : Int) (hl : L.length ≤ 900) (hz : ∀ z ∈ L, okZ z) (hp : In64 p) (hq : In64 q) {k : Nat} (hk : 2000 < k) : barrowref33_Shift.f k L id p q = some (shiftS L id p q) := by
  obtain ⟨k, rfl⟩ : ∃ j, k = j + 1 := ⟨k - 1, by omega⟩
  unfold barrowref33_Shift.f shiftS
  rw [rfind_val id (by omega) hk, Option.bind_some]
  rcases fi_is L id 0 with h | ⟨j, h1, h2, h3⟩
  · rw [h, if_pos (by decide), if_pos (by decide)]
  have hj : j < L.length := by omega
  have hneg : ¬ ((j : Int) < 0) := by omega
  rw [h3, if_neg hneg, if_neg hneg, copy_val (by omega), Option.bind_some, if_pos (by omega), if_pos (by omega)]
  obtain ⟨z, hzz⟩ : ∃ z, z = rd_T37 L (j : Int) := ⟨_, rfl⟩
  obtain ⟨i1, i2, i3, i4⟩ := hz z (by rw [hzz, rd37 L j hj]; exact List.getElem_mem hj)
  rw [← hzz]
  simp only [Int.toNat_natCast, rd37_set hj, List.set_set]
  rw [Option.bind_some, refsub_eq k p _ hp i1, Option.bind_some, refadd_eq k _ _ i3 (satv64 _), Option.bind_some, refsub_eq k q _ hq i2, Option.bind_some, refadd_eq k _ _ i4 (satv64 _), Option.bind_some]
  simp only [Option.bind_some, rd37_set hj, List.set_set]
  rw [rright_eq, Option.bind_some]
  by_cases c : Rt z.f1.f0 p q (satv (z.f1.f2.f0 + satv (p - z.f1.f1.f0))) (satv (z.f1.f2.f1 + satv (q - z.f1.f1.f1))) z.f1.f3 z.f1.f4
  · rw [decide_eq_true c, if_pos rfl, if_pos c]; rfl
  · rw [decide_eq_false c, if_neg (by decide), if_neg c]
theorem shift_len {L : List S37} (id p q : Int) : (shiftS L id p q).1.length ≤ L.length := by
  unfold shiftS
  split
  · simp
  · dsimp only
    split
    · simp
    · simp
theorem drop_len {L : List S37} (id : Int) : (dropS L id).1.length ≤ L.length := by
  unfold dropS
  split
  · exact Nat.le_refl _
  · exact List.length_eraseIdx_le _ _
/-! ### Of -/
def ofS (s : Int) (L : List S37) : List Int := (L.filter fun z => decide (z.f6 = s)).map fun z => z.f0
theorem of_cons (s : Int) (z : S37) (L : List S37) : ofS s (z :: L) = if z.f6 = s then z.f0 :: ofS s L else ofS s L := by
  unfold ofS
  by_cases c : z.f6 = s
  · rw [List.filter_cons, if_pos (decide_eq_true c), if_pos c]; rfl
  · rw [List.filter_cons, if_neg (by simpa using c), if_neg c]
theorem zof_l0 (L : List S37) (s : Int) (hl : L.length ≤ 1000) : ∀ (n i k : Nat) (acc : List Int), i + n = L.length → acc.length ≤ i → n < k → zone_Of.l0 k s acc L (L.length : Int) i = some (acc ++ ofS s (L.drop i)) := by
  intro n
  induction n with
  | zero =>
    intro i k acc hi _ hk
    obtain ⟨k, rfl⟩ : ∃ q, k = q + 1 := ⟨k - 1, by omega⟩
    rw [zone_Of.l0, if_neg (by omega), List.drop_of_length_le (by omega)]
    simp [ofS]
  | succ n ih =>
    intro i k acc hi ha hk
    obtain ⟨k, rfl⟩ : ∃ q, k = q + 1 := ⟨k - 1, by omega⟩
    have hil : i < L.length := by omega
    rw [zone_Of.l0, if_pos (by omega), if_pos (by omega), if_pos (by omega), rd37 _ _ hil, List.drop_eq_getElem_cons hil, of_cons, wrap64_in (by omega), show ((i : Int) + 1) = ((i + 1 : Nat) : Int) by omega]
    by_cases c : (L[i]).f6 = s
    · rw [if_pos c, if_pos c, if_pos (by omega), ih (i + 1) k _ (by omega) (by simp; omega) (by omega), List.append_assoc]; rfl
    · rw [if_neg c, if_neg c]
      exact ih (i + 1) k acc (by omega) (by omega) (by omega)
theorem rof_l0 (L : List S37) (s : Int) (hl : L.length ≤ 1000) : ∀ (n i k : Nat) (acc : List Int), i + n = L.length → acc.length ≤ i → n < k → barrowref33_Of.l0 k L s acc i = some (acc ++ ofS s (L.drop i)) := by
  intro n
  induction n with
  | zero =>
    intro i k acc hi _ hk
    obtain ⟨k, rfl⟩ : ∃ q, k = q + 1 := ⟨k - 1, by omega⟩
    rw [barrowref33_Of.l0, if_neg (by omega), List.drop_of_length_le (by omega)]
    simp [ofS]
  | succ n ih =>
    intro i k acc hi ha hk
    obtain ⟨k, rfl⟩ : ∃ q, k = q + 1 := ⟨k - 1, by omega⟩
    have hil : i < L.length := by omega
    rw [barrowref33_Of.l0, if_pos (by omega), if_pos (by omega), rd37 _ _ hil, List.drop_eq_getElem_cons hil, of_cons, wrap64_in (by omega), show ((i : Int) + 1) = ((i + 1 : Nat) : Int) by omega]
    by_cases c : (L[i]).f6 = s
    · rw [if_pos c, if_pos c, if_pos (by omega), ih (i + 1) k _ (by omega) (by simp; omega) (by omega), List.append_assoc]; rfl
    · rw [if_neg c, if_neg c]
      exact ih (i + 1) k acc (by omega) (by omega) (by omega)
theorem zof_is (L : List S37) (s : Int) (hl : L.length ≤ 1000) {k : Nat} (hk : 2000 < k) : zone_Of.f k L s = some (ofS s L) := by
  have := zof_l0 L s hl L.length 0 k [] (by omega) (by simp) (by omega)
  rw [List.drop_zero] at this
  exact this
theorem rof_is (L : List S37) (s : Int) (hl : L.length ≤ 1000) {k : Nat} (hk : 2000 < k) : barrowref33_Of.f k L s = some (ofS s L) := by
  have := rof_l0 L s hl L.length 0 k [] (by omega) (by simp) (by omega)
  rw [List.drop_zero] at this
  exact this
theorem of_len (s : Int) (L : List S37) : (ofS s L).length ≤ L.length := by
  unfold ofS
  rw [List.length_map]
  exact List.length_filter_le _ _
theorem nsame_l0 (l : List Int) (hl : l.length ≤ 100000) : ∀ (m i k : Nat), i + m = l.length → m < k → barrowref02_Same.l0 k l l (i : Int) = some true := by
  intro m
  induction m with
  | zero =>
    intro i k hi hk
    obtain ⟨k, rfl⟩ : ∃ q, k = q + 1 := ⟨k - 1, by omega⟩
    rw [barrowref02_Same.l0, if_neg (by omega)]
  | succ m ih =>
    intro i k hi hk
    obtain ⟨k, rfl⟩ : ∃ q, k = q + 1 := ⟨k - 1, by omega⟩
    rw [barrowref02_Same.l0, if_pos (by omega), if_pos (by omega), if_pos (by omega), if_pos rfl, wrap64_in (by omega), show ((i : Int) + 1) = ((i + 1 : Nat) : Int) by omega]
    exact ih (i + 1) k (by omega) (by omega)
theorem nsame_is (l : List Int) (hl : l.length ≤ 100000) (k : Nat) (hk : l.length < k) : barrowref02_Same.f k l l = some true := by
  unfold barrowref02_Same.f
  rw [if_pos rfl]
  exact nsame_l0 l hl l.length 0 k (by omega) hk
/-! ### Add -/
def addS (v : Bool) (L : List S37) (kd ax ay tx ty A B ev x y w s q now ticks : Int) : List S37 × Int × Int :=
  if v = true ∧ (Rt kd ax ay tx ty A B ∧ 1 ≤ ev ∧ ev ≤ 1000000 ∧ 0 ≤ q ∧ q ≤ 2) ∧ ¬ ticks < 1 then
    (if (L.length : Int) ≥ 32 then ([], 0, 4)
    else if (L.length : Int) > 0 then (if (rd_T37 L ((L.length : Int) - 1)).f0 = 9223372036854775807 then ([], 0, 4)
      else (L ++ [⟨satv ((rd_T37 L ((L.length : Int) - 1)).f0 + 1), ⟨kd, ⟨ax, ay⟩, ⟨tx, ty⟩, A, B⟩, satv (now + ticks), ev, satv (now + ev), ⟨x, y, w⟩, s, q⟩], satv ((rd_T37 L ((L.length : Int) - 1)).f0 + 1), 0))
    else (L ++ [⟨1, ⟨kd, ⟨ax, ay⟩, ⟨tx, ty⟩, A, B⟩, satv (now + ticks), ev, satv (now + ev), ⟨x, y, w⟩, s, q⟩], 1, 0))
  else ([], 0, 1)
theorem satv_in' {x : Int} (h : In64 x) : satv x = x := by unfold satv; rw [if_neg (by omega), if_neg (by omega)]
theorem zadd_is {L : List S37} (hl : L.length ≤ 900) (hf : ∀ z ∈ L, In64 z.f0) {v : Bool} (i0 kd ax ay tx ty A B un ev nx x y w s q now ticks : Int) (hn : In64 now) (he : In64 ev) (ht : In64 ticks) {k : Nat} (hk : 2001 < k) (hv : zone_Right.f k L = some v) :
    zone_Add.f k L i0 kd ax ay tx ty A B un ev nx x y w s q now ticks = some (addS v L kd ax ay tx ty A B ev x y w s q now ticks) := by
  obtain ⟨k, rfl⟩ : ∃ j, k = j + 1 := ⟨k - 1, by omega⟩
  unfold zone_Add.f addS
  rw [hv, may_val, add_eq k now ticks hn ht, add_eq k now ev hn he, clone_val (by omega)]
  simp only [Option.bind_some]
  cases v with
  | false =>
    rw [if_neg (show ¬ (false = true ∧ _) from fun h => by cases h.1)]
    by_cases c1 : (L.length : Int) > 0
    · rw [if_pos c1, wrap64_in (by omega), if_pos (by omega), if_pos (by omega), if_neg (by decide)]
    · rw [if_neg c1, if_neg (by decide)]
  | true =>
    by_cases c2 : Rt kd ax ay tx ty A B ∧ 1 ≤ ev ∧ ev ≤ 1000000 ∧ 0 ≤ q ∧ q ≤ 2
    rotate_left
    · rw [decide_eq_false c2, if_neg (show ¬ (true = true ∧ _) from fun h => c2 h.2.1)]
      by_cases c1 : (L.length : Int) > 0
      · rw [if_pos c1, wrap64_in (by omega), if_pos (by omega), if_pos (by omega), if_pos rfl, if_neg (by decide)]
      · rw [if_neg c1, if_pos rfl, if_neg (by decide)]
    rw [decide_eq_true c2]
    by_cases c5 : ticks < 1
    · rw [if_neg (show ¬ (true = true ∧ _) from fun h => h.2.2 c5)]
      by_cases c1 : (L.length : Int) > 0
      · rw [if_pos c1, wrap64_in (by omega), if_pos (by omega), if_pos (by omega), if_pos rfl, if_pos rfl, if_pos c5]
      · rw [if_neg c1, if_pos rfl, if_pos rfl, if_pos c5]
    rw [if_pos (show true = true ∧ (Rt kd ax ay tx ty A B ∧ 1 ≤ ev ∧ ev ≤ 1000000 ∧ 0 ≤ q ∧ q ≤ 2) ∧ ¬ ticks < 1 from ⟨rfl, c2, c5⟩)]
    by_cases c1 : (L.length : Int) > 0
    · rw [if_pos c1, wrap64_in (x := (L.length : Int) - 1) (by omega), if_pos (by omega), if_pos (by omega), if_pos rfl, if_pos rfl, if_neg c5]
      by_cases c3 : (L.length : Int) ≥ 32
      · rw [if_pos c3, if_pos c3]
      rw [if_neg c3, if_neg c3, if_pos c1]
      have hin : In64 (rd_T37 L ((L.length : Int) - 1)).f0 := by
        rw [show ((L.length : Int) - 1) = ((L.length - 1 : Nat) : Int) by omega, rd37 L _ (by omega)]
        exact hf _ (List.getElem_mem _)
      by_cases c4 : (rd_T37 L ((L.length : Int) - 1)).f0 = 9223372036854775807
      · rw [if_pos c4, if_pos c4]
      rw [if_neg c4, if_neg c4, wrap64_in (x := (rd_T37 L ((L.length : Int) - 1)).f0 + 1) (by constructor <;> omega), if_pos (by simp; omega), satv_in' (x := (rd_T37 L ((L.length : Int) - 1)).f0 + 1) (by constructor <;> omega)]
    · have h32 : ¬ ((L.length : Int) ≥ 32) := by omega
      rw [if_neg c1, if_pos rfl, if_pos rfl, if_neg c5, if_neg h32, if_neg h32, if_neg c1, wrap64_in (x := 1) (by omega), if_pos (by simp; omega)]
theorem radd_is {L : List S37} (hl : L.length ≤ 900) (hf : ∀ z ∈ L, In64 z.f0) {v : Bool} (i0 kd ax ay tx ty A B un ev nx x y w s q now ticks : Int) (hn : In64 now) (he : In64 ev) (ht : In64 ticks) {k : Nat} (hk : 2003 < k) (hv : barrowref33_Right.f k L = some v) :
    barrowref33_Add.f k L i0 kd ax ay tx ty A B un ev nx x y w s q now ticks = some (addS v L kd ax ay tx ty A B ev x y w s q now ticks) := by
  obtain ⟨k, rfl⟩ : ∃ j, k = j + 1 + 1 := ⟨k - 2, by omega⟩
  unfold barrowref33_Add.f addS
  rw [hv, one_val]
  simp only [Option.bind_some]
  cases v with
  | false => rw [if_neg (by decide), if_neg (show ¬ (false = true ∧ _) from fun h => by cases h.1)]
  | true =>
    rw [if_pos rfl]
    by_cases c5 : ticks < 1
    · rw [if_pos c5, if_neg (show ¬ (true = true ∧ _) from fun h => h.2.2 c5)]
    rw [if_neg c5]
    by_cases c2 : Rt kd ax ay tx ty A B ∧ 1 ≤ ev ∧ ev ≤ 1000000 ∧ 0 ≤ q ∧ q ≤ 2
    rotate_left
    · rw [decide_eq_false c2, if_neg (by decide), if_neg (show ¬ (true = true ∧ _) from fun h => c2 h.2.1)]
    rw [decide_eq_true c2, if_pos rfl, if_pos (show true = true ∧ (Rt kd ax ay tx ty A B ∧ 1 ≤ ev ∧ ev ≤ 1000000 ∧ 0 ≤ q ∧ q ≤ 2) ∧ ¬ ticks < 1 from ⟨rfl, c2, c5⟩)]
    have full : barrowref33_Add.l199 (k + 1 + 1) L kd ax ay tx ty A B ev x y w s q now ticks true = some ([], 0, 4) := by rw [barrowref33_Add.l199, if_pos rfl]
    by_cases c3 : (L.length : Int) ≥ 32
    · rw [if_pos c3, if_pos c3, full]
    rw [if_neg c3, if_neg c3]
    by_cases c1 : (L.length : Int) > 0
    · rw [if_pos c1, if_pos c1, wrap64_in (x := (L.length : Int) - 1) (by omega), if_pos (by omega), if_pos (by omega)]
      have hin : In64 (rd_T37 L ((L.length : Int) - 1)).f0 := by
        rw [show ((L.length : Int) - 1) = ((L.length - 1 : Nat) : Int) by omega, rd37 L _ (by omega)]
        exact hf _ (List.getElem_mem _)
      by_cases c4 : (rd_T37 L ((L.length : Int) - 1)).f0 = 9223372036854775807
      · rw [if_pos c4, beq_iff_eq.2 c4, full]
      · rw [if_neg c4, beq_eq_false_iff_ne.2 c4, barrowref33_Add.l199, if_neg (by decide), if_pos c1, wrap64_in (x := (L.length : Int) - 1) (by omega), Option.bind_some, if_pos (by omega), if_pos (by omega), refadd_eq k _ 1 hin (by constructor <;> omega), Option.bind_some, refadd_eq k now ticks hn ht, Option.bind_some, refadd_eq k now ev hn he, Option.bind_some, copy_val (by omega), Option.bind_some, Option.bind_some, if_pos (by simp; omega), Option.bind_some]
    · rw [if_neg c1, if_neg c1, barrowref33_Add.l199, if_neg (by decide), if_neg c1, refadd_eq k now ticks hn ht, Option.bind_some, refadd_eq k now ev hn he, Option.bind_some, copy_val (by omega), Option.bind_some, Option.bind_some, if_pos (by simp; omega), Option.bind_some]
theorem add_len {v : Bool} {L : List S37} (kd ax ay tx ty A B ev x y w s q now ticks : Int) : (addS v L kd ax ay tx ty A B ev x y w s q now ticks).1.length ≤ L.length + 1 := by
  unfold addS
  (repeat' split) <;> simp
end Go.Proofs.Ytiadhonhjnbliaa.Pure
namespace Go.Proofs.Ytiadhonhjnbliaa.Pure
open Go.RowKit Go.Proofs.Ytiadhonhjnbliaa.XZT Go.Proofs.YtiadhonhjnbliaaW.PrintWords Go.Proofs.YtiadhonhjnbliaaW.PrintLast Go.Proofs.YtiadhonhjnbliaaW.PrintMore
theorem tells_l1 (L M : List S37) (s : Int) (hl : L.length ≤ 60) (hM : M.length ≤ 60) : ∀ (n i k : Nat) (y : List S37), i + n = M.length → 100000 + n < k → barrowlaw33_ZoneTells.l1 k L s i y true L M true = some true := by
  intro n
  induction n with
  | zero =>
    intro i k y hi hk
    obtain ⟨k, rfl⟩ : ∃ q, k = q + 1 := ⟨k - 1, by omega⟩
    obtain ⟨v, hv⟩ := both_right L (by omega)
    have := of_len s L
    rw [barrowlaw33_ZoneTells.l1, if_neg (by omega), if_pos rfl, if_pos rfl, (hv k (by omega)).1, Option.bind_some, (hv k (by omega)).2, Option.bind_some, if_pos (by simp), zof_is L s (by omega) (by omega), Option.bind_some, rof_is L s (by omega) (by omega), Option.bind_some, nsame_is _ (by omega) _ (by omega), Option.bind_some, if_pos rfl, same37_eq L _ (by omega) (by omega), Option.bind_some]
  | succ n ih =>
    intro i k y hi hk
    obtain ⟨k, rfl⟩ : ∃ q, k = q + 1 := ⟨k - 1, by omega⟩
    rw [barrowlaw33_ZoneTells.l1, if_pos (by omega), if_pos (by omega), Option.bind_some, wrap64_in (by omega), show ((i : Int) + 1) = ((i + 1 : Nat) : Int) by omega]
    exact ih (i + 1) k _ (by omega) (by omega)
theorem tells_l0 (L D M : List S37) (s : Int) (hl : L.length ≤ 60) (hD : D.length ≤ 60) (hM : M.length ≤ 60) : ∀ (n i k : Nat) (y : List S37), i + n = D.length → 110000 + n < k → barrowlaw33_ZoneTells.l0 k L s i y true L D M true = some true := by
  intro n
  induction n with
  | zero =>
    intro i k y hi hk
    obtain ⟨k, rfl⟩ : ∃ q, k = q + 1 := ⟨k - 1, by omega⟩
    rw [barrowlaw33_ZoneTells.l0, if_neg (by omega)]
    exact tells_l1 L M s hl hM M.length 0 k M (by omega) (by omega)
  | succ n ih =>
    intro i k y hi hk
    obtain ⟨k, rfl⟩ : ∃ q, k = q + 1 := ⟨k - 1, by omega⟩
    rw [barrowlaw33_ZoneTells.l0, if_pos (by omega), if_pos (by omega), Option.bind_some, wrap64_in (by omega), show ((i : Int) + 1) = ((i + 1 : Nat) : Int) by omega]
    exact ih (i + 1) k _ (by omega) (by omega)
theorem ZoneTells : barrowlaw33_ZoneTells.Pure := by
  intro L i0 kd ax ay tx ty A B un ev nx x y w s q now ticks px py h0 _ _ _ _ _ _ _ _ _ h9 _ _ _ _ _ _ hnow hticks hpx hpy
  obtain ⟨K, hK⟩ := small_ev
  refine ⟨K + 200000, ?_⟩
  unfold barrowlaw33_ZoneTells.f
  rw [hK (K + 200000) (by omega), Option.bind_some]
  by_cases c1 : (L.length : Int) > 60
  · rw [if_pos c1]
  rw [if_neg c1, Option.bind_some, if_pos (by simp; omega), Option.bind_some, List.nil_append]
  have hf : ∀ z ∈ L, In64 z.f0 := fun z hm => i64_of (h0.2.2 z hm).1
  have hz : ∀ z ∈ L, okZ z := fun z hm => by
    obtain ⟨-, ⟨-, ⟨w1, w2⟩, ⟨w3, w4⟩, -⟩, -⟩ := h0.2.2 z hm
    exact ⟨i64_of w1, i64_of w2, i64_of w3, i64_of w4⟩
  obtain ⟨v, hv⟩ := both_right L (by omega)
  have a1 := zadd_is (by omega) hf i0 kd ax ay tx ty A B un ev nx x y w s q now ticks (i64_of hnow) (i64_of h9) (i64_of hticks) (k := K + 200000) (by omega) (hv _ (by omega)).1
  have a2 := radd_is (by omega) hf i0 kd ax ay tx ty A B un ev nx x y w s q now ticks (i64_of hnow) (i64_of h9) (i64_of hticks) (k := K + 200000) (by omega) (hv _ (by omega)).2
  have al := add_len (v := v) (L := L) kd ax ay tx ty A B ev x y w s q now ticks
  have dl := drop_len (L := L) ticks
  have sl := shift_len (L := L) ticks px py
  rw [a1, Option.bind_some, a2, Option.bind_some, zdrop_is ticks (by omega) (by omega), Option.bind_some, rdrop_is ticks (by omega) (by omega), Option.bind_some, zshift_is ticks px py (by omega) hz (i64_of hpx) (i64_of hpy) (by omega), Option.bind_some, rshift_is ticks px py (by omega) hz (i64_of hpx) (i64_of hpy) (by omega), Option.bind_some, same37_eq _ _ (by omega) (by omega), Option.bind_some, if_pos rfl, if_pos rfl, if_pos rfl, same37_eq _ _ (by omega) (by omega), Option.bind_some, if_pos rfl, if_pos (by simp), same37_eq _ _ (by omega) (by omega), Option.bind_some, if_pos rfl, if_pos rfl]
  obtain ⟨k, hk⟩ : ∃ k, K + 200000 = k + 1 := ⟨K + 199999, by omega⟩
  rw [hk, barrowlaw33_ZoneTells.l299]
  exact tells_l0 L _ _ s (by omega) (by omega) (by omega) (dropS L ticks).1.length 0 k _ (by omega) (by omega)
end Go.Proofs.Ytiadhonhjnbliaa.Pure
