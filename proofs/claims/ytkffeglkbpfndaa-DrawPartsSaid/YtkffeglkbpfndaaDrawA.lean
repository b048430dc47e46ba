/- What the program's fair draws, feeds and streams come to, as plain functions of lists. -/
import Derived.Test.YtkffeglkbpfndaaXDRx
namespace Go.Proofs.Ytkffeglkbpfndaa.Pure
open Go.RowKit Go.Proofs.Ytkffeglkbpfndaa.XDR Go.Proofs.YtkffeglkbpfndaaW.PrintWords Go.Proofs.YtkffeglkbpfndaaW.PrintLast
set_option linter.unusedVariables false
theorem rd_drop {l : List Int} {i : Nat} {x : Int} {xs : List Int} (h : l.drop i = x :: xs) : i < l.length ∧ rd l (i : Int) = x ∧ l.drop (i + 1) = xs := by
  have h1 : i < l.length := by
    rcases Nat.lt_or_ge i l.length with h1 | h1
    · exact h1
    · rw [List.drop_eq_nil_of_le h1] at h; cases h
  rw [List.drop_eq_getElem_cons h1] at h
  injection h with h2 h3
  refine ⟨h1, ?_, h3⟩
  unfold rd
  simp [h1, h2]
theorem drop_nil {l : List Int} {i : Nat} (h : l.drop i = []) : l.length ≤ i := List.drop_eq_nil_iff.1 h
def okw (x : Int) : Bool := decide (0 ≤ x) && decide (x < 4294967296)
theorem word_is (x : Int) : draw_word.f x = some (okw x) := by
  unfold draw_word.f okw
  split <;> rename_i h
  · simp [show 0 ≤ x from h]
  · simp [show ¬ 0 ≤ x from h]
def fairS (e n : Int) : List Int → Int → Int × Int × Bool
  | [], _ => (0, 0, false)
  | x :: xs, i => if okw x = true then (if x ≥ e then fairS e n xs (i + 1) else (Int.tmod x n, i + 1, true)) else (0, 0, false)
def fair (l : List Int) (n : Int) : Int × Int × Bool := if n < 1 then (0, 0, false) else if n > 4294967296 then (0, 0, false) else fairS (4294967296 - 4294967296 % n) n l 0
theorem wrap_end {n : Int} (h : 1 ≤ n) (h2 : n ≤ 4294967296) : wrap64 (4294967296 - ((4294967296 : Int) % n)) = 4294967296 - 4294967296 % n := by
  have h3 := Int.emod_nonneg 4294967296 (show n ≠ 0 by omega)
  have h4 := Int.emod_lt_of_pos 4294967296 (show 0 < n by omega)
  unfold wrap64; omega
theorem wrap_i {i : Nat} (h : i ≤ 140737488355328) : wrap64 ((i : Int) + 1) = ((i + 1 : Nat) : Int) := by unfold wrap64; omega
theorem fair_l0 (l : List Int) (n : Int) (hn : 1 ≤ n) (hn2 : n ≤ 4294967296) (hl : l.length ≤ 140737488355328) : ∀ (r : List Int) (i k : Nat), l.drop i = r → r.length < k → i ≤ l.length → draw_Fair.l0 k l n (i : Int) = some (fairS (4294967296 - 4294967296 % n) n r i) := by
  intro r
  induction r with
  | nil =>
    intro i k h hk hi
    obtain ⟨k, rfl⟩ : ∃ m, k = m + 1 := ⟨k - 1, by simp at hk; omega⟩
    have := drop_nil h
    simp only [draw_Fair.l0, fairS]
    rw [if_neg (by omega)]
  | cons x xs ih =>
    intro i k h hk hi
    simp only [List.length_cons] at hk
    obtain ⟨k, rfl⟩ : ∃ m, k = m + 1 := ⟨k - 1, by omega⟩
    obtain ⟨h1, h2, h3⟩ := rd_drop h
    simp only [draw_Fair.l0, fairS]
    rw [if_pos (by omega), if_pos (by omega), h2, word_is, Option.bind_some, wrap_end hn hn2, wrap_i (by omega), ih (i + 1) k h3 (by omega) (by omega)]
    split
    · split
      · simp
      · rw [if_neg (by omega)]; simp
    · rfl
theorem fair_is (l : List Int) (n : Int) (hl : l.length ≤ 140737488355328) (k : Nat) (hk : l.length < k) : draw_Fair.f k l n = some (fair l n) := by
  unfold draw_Fair.f fair
  split
  · rfl
  · split
    · rfl
    · rw [if_neg (by omega)]
      exact fair_l0 l n (by omega) (by omega) hl l 0 k (by simp) hk (by omega)
theorem fairS_used (e n : Int) : ∀ (l : List Int) (i : Int), (fairS e n l i).2.1 = 0 ∨ (i + 1 ≤ (fairS e n l i).2.1 ∧ (fairS e n l i).2.1 ≤ i + l.length)
  | [], i => .inl rfl
  | x :: xs, i => by
    simp only [fairS, List.length_cons]
    split
    · split
      · rcases fairS_used e n xs (i + 1) with h | h
        · exact .inl h
        · right; omega
      · right; dsimp only; omega
    · exact .inl rfl
theorem fairS_is (e n : Int) : ∀ (l : List Int) (i : Int), (fairS e n l i).2.2 = true ∨ fairS e n l i = (0, 0, false)
  | [], i => .inr rfl
  | x :: xs, i => by
    simp only [fairS]
    split
    · split
      · exact fairS_is e n xs (i + 1)
      · exact .inl rfl
    · exact .inr rfl
theorem fair_used (l : List Int) (n : Int) : 0 ≤ (fair l n).2.1 ∧ (fair l n).2.1 ≤ l.length := by
  unfold fair
  split
  · simp
  · split
    · simp
    · rcases fairS_used (4294967296 - 4294967296 % n) n l 0 with h | h <;> omega
theorem fairS_pos (e n : Int) : ∀ (l : List Int) (i : Int), 0 ≤ i → (fairS e n l i).2.2 = true → 0 < (fairS e n l i).2.1
  | [], i, _, h => by cases h
  | x :: xs, i, hi, h => by
    simp only [fairS] at h ⊢
    split
    · rename_i h1
      rw [if_pos h1] at h
      split
      · rename_i h2; rw [if_pos h2] at h; exact fairS_pos e n xs (i + 1) (by omega) h
      · dsimp only; omega
    · rename_i h1; rw [if_neg h1] at h; cases h
theorem fairS_in (e n : Int) (hn : 0 < n) : ∀ (l : List Int) (i : Int), 0 ≤ (fairS e n l i).1 ∧ ((fairS e n l i).1 < n)
  | [], i => ⟨Int.le_refl 0, hn⟩
  | x :: xs, i => by
    simp only [fairS]
    split
    · rename_i h1
      split
      · exact fairS_in e n hn xs (i + 1)
      · simp [okw] at h1
        dsimp only
        rw [Int.tmod_eq_emod_of_nonneg h1.1]
        exact ⟨Int.emod_nonneg _ (by omega), Int.emod_lt_of_pos _ hn⟩
    · exact ⟨Int.le_refl 0, hn⟩
def belowS (l : List Int) (n : Int) : Int × Bool × List Int := ((fair l n).1, (fair l n).2.2, l.drop (fair l n).2.1.toNat)
theorem below_is (l : List Int) (n : Int) (hl : l.length ≤ 140737488355328) (k : Nat) (hk : l.length < k) : draw_Stream_Below.f k l n = some (belowS l n) := by
  unfold draw_Stream_Below.f
  have h := fair_used l n
  rw [fair_is l n hl k hk, Option.bind_some, if_pos h.1, if_pos h.2, Option.bind_some]
  rfl
def feedS (l ws : List Int) : Int × List Int := if ws.all okw = true then (if (ws.length : Int) > wrap64 (4096 - (l.length : Int)) then (4, l) else (0, l ++ ws)) else (1, l)
theorem feed_l0 (l ws : List Int) (hl : l.length ≤ 140737488355328) (hw : ws.length ≤ 140737488355328) : ∀ (r : List Int) (i k : Nat), ws.drop i = r → r.length < k → i ≤ ws.length → draw_Stream_Feed.l0 k l ws (i : Int) = some (if r.all okw = true then (if (ws.length : Int) > wrap64 (4096 - (l.length : Int)) then (4, l) else (0, l ++ ws)) else (1, l)) := by
  intro r
  induction r with
  | nil =>
    intro i k h hk hi
    obtain ⟨k, rfl⟩ : ∃ m, k = m + 1 := ⟨k - 1, by simp at hk; omega⟩
    have := drop_nil h
    simp only [draw_Stream_Feed.l0, List.all_nil, if_true]
    rw [if_neg (by omega)]
    split
    · rfl
    · rename_i c
      rw [if_pos (by unfold wrap64 at c; omega)]; rfl
  | cons x xs ih =>
    intro i k h hk hi
    simp only [List.length_cons] at hk
    obtain ⟨k, rfl⟩ : ∃ m, k = m + 1 := ⟨k - 1, by omega⟩
    obtain ⟨h1, h2, h3⟩ := rd_drop h
    simp only [draw_Stream_Feed.l0]
    rw [if_pos (by omega), if_pos (by omega), h2, word_is, Option.bind_some, wrap_i (by omega), ih (i + 1) k h3 (by omega) (by omega), List.all_cons]
    cases okw x
    · simp
    · simp
theorem feed_is (l ws : List Int) (hl : l.length ≤ 140737488355328) (hw : ws.length ≤ 140737488355328) (k : Nat) (hk : ws.length < k) : draw_Stream_Feed.f k l ws = some (feedS l ws) := feed_l0 l ws hl hw ws 0 k (by simp) hk (by omega)
theorem small_is : ∀ k, 20 ≤ k → barrowlaw02_small.f k = some true := fun k hk => at_rounds barrowlaw02_small.mono hk (by decide +kernel)
end Go.Proofs.Ytkffeglkbpfndaa.Pure
