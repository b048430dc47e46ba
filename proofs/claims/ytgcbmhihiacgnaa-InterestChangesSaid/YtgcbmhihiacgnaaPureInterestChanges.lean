/- InterestChanges, in plain Lean. -/
import Derived.Test.YtgcbmhihiacgnaaInB
import Derived.Test.YtgcbmhihiacgnaaXINx17
import Derived.Test.YtgcbmhihiacgnaaXINx15
set_option linter.unusedSimpArgs false
set_option linter.unusedVariables false
namespace Go.Proofs.Ytgcbmhihiacgnaa.Pure
open Go.RowKit Go.Proofs.Ytgcbmhihiacgnaa.XIN Go.Proofs.YtgcbmhihiacgnaaW.PrintWords Go.Proofs.YtgcbmhihiacgnaaW.PrintLast Go.Proofs.YtgcbmhihiacgnaaS
theorem lhas_l0 (l : List Int) (u : Int) (hl : l.length ≤ 100000) : ∀ (n i k : Nat), i + n = l.length → n < k → barrowlaw24_has.l0 k l u i = some (decide (u ∈ l.drop i)) := by
  intro n
  induction n with
  | zero =>
    intro i k hi hk
    obtain ⟨k, rfl⟩ : ∃ q, k = q + 1 := ⟨k - 1, by omega⟩
    rw [barrowlaw24_has.l0, if_neg (by omega), List.drop_of_length_le (by omega)]
    simp
  | succ n ih =>
    intro i k hi hk
    obtain ⟨k, rfl⟩ : ∃ q, k = q + 1 := ⟨k - 1, by omega⟩
    rw [barrowlaw24_has.l0, if_pos (by omega), if_pos (by omega), rd_drop (l := l) (by omega), wrap64_in (by omega), succ_cast]
    by_cases e : rd l i = u
    · rw [if_pos e]; simp [e]
    · rw [if_neg e, ih (i + 1) k (by omega) (by omega)]; simp [Ne.symm e]
theorem lhas_eq (l : List Int) (u : Int) (hl : l.length ≤ 100000) {k : Nat} (hk : l.length < k) : barrowlaw24_has.f k l u = some (decide (u ∈ l)) := by
  have := lhas_l0 l u hl l.length 0 k (by omega) (by omega)
  rw [List.drop_zero] at this
  exact this
theorem rd_mem {l : List Int} {i : Nat} (h : i < l.length) : rd l i ∈ l := List.drop_subset i l (by rw [rd_drop h]; simp)
theorem rd_get {l : List Int} {i : Nat} (h : i < l.length) : rd l i = l[i] := by
  unfold rd
  rw [Int.toNat_natCast, List.getD_eq_getElem?_getD, List.getElem?_eq_getElem h]
  rfl
theorem wov_up (l m : List Int) : (wov l m).Pairwise (· < ·) := canonv_up _
set_option linter.unusedSectionVars false
section
variable (l m : List Int) (hl : l.length ≤ 80) (hm : m.length ≤ 80)
include hl hm
theorem wlen : (wov l m).length ≤ 80 := Nat.le_trans (canonv_len _) (Nat.le_trans (List.length_filter_le _ _) hl)
theorem changes_l3 : ∀ (n i k : Nat), i + n = (wov m l).length → 12000 + n < k → barrowlaw24_InterestChanges.l3 k l m true (wov l m) (wov m l) i = some true := by
  have w1 := wlen l m hl hm
  have w2 := wlen m l hm hl
  intro n
  induction n with
  | zero =>
    intro i k hi hk
    obtain ⟨k, rfl⟩ : ∃ q, k = q + 1 := ⟨k - 1, by omega⟩
    rw [barrowlaw24_InterestChanges.l3, if_neg (by omega), change_eq m l (by omega) (by omega) (by omega), Option.bind_some, if_pos rfl, same_eq (wov m l) (wov m l) (by omega) (by omega), Option.bind_some, if_pos (by simp), same_eq (wov l m) (wov l m) (by omega) (by omega), Option.bind_some]
    simp
  | succ n ih =>
    intro i k hi hk
    obtain ⟨k, rfl⟩ : ∃ q, k = q + 1 := ⟨k - 1, by omega⟩
    have hmem := (mem_wov m l _).1 (rd_mem (l := wov m l) (i := i) (by omega))
    rw [barrowlaw24_InterestChanges.l3, if_pos (by omega), if_pos (by omega), lhas_eq m _ (by omega) (by omega), Option.bind_some, if_pos (by simpa using hmem.1)]
    by_cases c : (i : Int) > 0
    · have hlt : rd (wov m l) ((i - 1 : Nat) : Int) < rd (wov m l) (i : Int) := by
        rw [rd_get (by omega), rd_get (by omega)]
        exact List.pairwise_iff_getElem.1 (wov_up _ _) _ _ (by omega) (by omega) (by omega)
      rw [if_pos c, Option.bind_some, wrap64_in (by omega), show ((i : Int) - 1) = ((i - 1 : Nat) : Int) by omega, if_pos (by omega), if_pos (by omega), if_neg (by omega), wrap64_in (by omega), succ_cast]
      exact ih (i + 1) k (by omega) (by omega)
    · rw [if_neg c, wrap64_in (by omega), succ_cast]
      exact ih (i + 1) k (by omega) (by omega)
theorem changes_l2 : ∀ (n i k : Nat), i + n = (wov l m).length → 13000 + n < k → barrowlaw24_InterestChanges.l2 k l m true (wov l m) (wov m l) i = some true := by
  have w1 := wlen l m hl hm
  have w2 := wlen m l hm hl
  intro n
  induction n with
  | zero =>
    intro i k hi hk
    obtain ⟨k, rfl⟩ : ∃ q, k = q + 1 := ⟨k - 1, by omega⟩
    rw [barrowlaw24_InterestChanges.l2, if_neg (by omega)]
    exact changes_l3 l m hl hm (wov m l).length 0 k (by omega) (by omega)
  | succ n ih =>
    intro i k hi hk
    obtain ⟨k, rfl⟩ : ∃ q, k = q + 1 := ⟨k - 1, by omega⟩
    have hmem := (mem_wov l m _).1 (rd_mem (l := wov l m) (i := i) (by omega))
    rw [barrowlaw24_InterestChanges.l2, if_pos (by omega), if_pos (by omega), lhas_eq l _ (by omega) (by omega), Option.bind_some, if_pos (by simpa using hmem.1)]
    by_cases c : (i : Int) > 0
    · have hlt : rd (wov l m) ((i - 1 : Nat) : Int) < rd (wov l m) (i : Int) := by
        rw [rd_get (by omega), rd_get (by omega)]
        exact List.pairwise_iff_getElem.1 (wov_up _ _) _ _ (by omega) (by omega) (by omega)
      rw [if_pos c, Option.bind_some, wrap64_in (by omega), show ((i : Int) - 1) = ((i - 1 : Nat) : Int) by omega, if_pos (by omega), if_pos (by omega), if_neg (by omega), wrap64_in (by omega), succ_cast]
      exact ih (i + 1) k (by omega) (by omega)
    · rw [if_neg c, wrap64_in (by omega), succ_cast]
      exact ih (i + 1) k (by omega) (by omega)
theorem changes_l1 : ∀ (n i k : Nat), i + n = m.length → 14000 + n < k → barrowlaw24_InterestChanges.l1 k l m true (wov l m) (wov m l) i = some true := by
  have w1 := wlen l m hl hm
  have w2 := wlen m l hm hl
  intro n
  induction n with
  | zero =>
    intro i k hi hk
    obtain ⟨k, rfl⟩ : ∃ q, k = q + 1 := ⟨k - 1, by omega⟩
    rw [barrowlaw24_InterestChanges.l1, if_neg (by omega)]
    exact changes_l2 l m hl hm (wov l m).length 0 k (by omega) (by omega)
  | succ n ih =>
    intro i k hi hk
    obtain ⟨k, rfl⟩ : ∃ q, k = q + 1 := ⟨k - 1, by omega⟩
    have hx := rd_mem (l := m) (i := i) (by omega)
    rw [barrowlaw24_InterestChanges.l1, if_pos (by omega), if_pos (by omega), lhas_eq (wov m l) _ (by omega) (by omega), Option.bind_some, lhas_eq l _ (by omega) (by omega), Option.bind_some, if_neg (by simp [mem_wov, hx]), lhas_eq (wov l m) _ (by omega) (by omega), Option.bind_some, if_neg (by simp [mem_wov, hx]), wrap64_in (by omega), succ_cast]
    exact ih (i + 1) k (by omega) (by omega)
theorem changes_l0 : ∀ (n i k : Nat), i + n = l.length → 15000 + n < k → barrowlaw24_InterestChanges.l0 k l m true (wov l m) (wov m l) i = some true := by
  have w1 := wlen l m hl hm
  have w2 := wlen m l hm hl
  intro n
  induction n with
  | zero =>
    intro i k hi hk
    obtain ⟨k, rfl⟩ : ∃ q, k = q + 1 := ⟨k - 1, by omega⟩
    rw [barrowlaw24_InterestChanges.l0, if_neg (by omega)]
    exact changes_l1 l m hl hm m.length 0 k (by omega) (by omega)
  | succ n ih =>
    intro i k hi hk
    obtain ⟨k, rfl⟩ : ∃ q, k = q + 1 := ⟨k - 1, by omega⟩
    have hx := rd_mem (l := l) (i := i) (by omega)
    rw [barrowlaw24_InterestChanges.l0, if_pos (by omega), if_pos (by omega), lhas_eq (wov l m) _ (by omega) (by omega), Option.bind_some, lhas_eq m _ (by omega) (by omega), Option.bind_some, if_neg (by simp [mem_wov, hx]), lhas_eq (wov m l) _ (by omega) (by omega), Option.bind_some, if_neg (by simp [mem_wov, hx]), wrap64_in (by omega), succ_cast]
    exact ih (i + 1) k (by omega) (by omega)
end
theorem InterestChanges : barrowlaw24_InterestChanges.Pure := by
  intro l m h1 h2
  refine ⟨20000, ?_⟩
  unfold barrowlaw24_InterestChanges.f
  rw [small_eq (by omega), Option.bind_some]
  split
  · rfl
  · split
    · rfl
    · rename_i c1 c2
      have hl : l.length ≤ 80 := by omega
      have hm : m.length ≤ 80 := by omega
      rw [change_eq l m (by omega) (by omega) (by omega), Option.bind_some]
      exact changes_l0 l m hl hm l.length 0 20000 (by omega) (by omega)
end Go.Proofs.Ytgcbmhihiacgnaa.Pure
