/- What the program's fair draws, feeds and streams come to, as plain functions of lists. -/
import Derived.Test.YtkffeglkbpfndaaXPLx1
import Derived.Test.YtkffeglkbpfndaaXPLx3
import Derived.Test.YtkffeglkbpfndaaXPLx5
import Derived.Test.YtkffeglkbpfndaaXPLx2
import Derived.Test.YtkffeglkbpfndaaXPLx4
namespace Go.Proofs.Ytkffeglkbpfndaa.Pure
open Go.RowKit Go.Proofs.Ytkffeglkbpfndaa.XPL Go.Proofs.YtkffeglkbpfndaaW.PrintWords Go.Proofs.YtkffeglkbpfndaaW.PrintLast
set_option linter.unusedVariables false
theorem rd_drop {l : List Int} {i : Nat} {x : Int} {xs : List Int} (h : l.drop i = x :: xs) : i < l.length ∧ rd l (i : Int) = x ∧ l.drop (i + 1) = xs := by
  have h1 : i < l.length := by
    rcases Nat.lt_or_ge i l.length with h1 | h1
    · exact h1
    · rw [List.drop_eq_nil_of_le h1] at h; cases h
  rw [List.drop_eq_getElem_cons h1] at h
  injection h with h2 h3
  refine ⟨h1, ?_, h3⟩
  unfold rd
  simp [h1, h2]
theorem drop_nil {l : List Int} {i : Nat} (h : l.drop i = []) : l.length ≤ i := List.drop_eq_nil_iff.1 h
def okw (x : Int) : Bool := decide (0 ≤ x) && decide (x < 4294967296)
theorem word_is (x : Int) : draw_word.f x = some (okw x) := by
  unfold draw_word.f okw
  split <;> rename_i h
  · simp [show 0 ≤ x from h]
  · simp [show ¬ 0 ≤ x from h]
def fairS (e n : Int) : List Int → Int → Int × Int × Bool
  | [], _ => (0, 0, false)
  | x :: xs, i => if okw x = true then (if x ≥ e then fairS e n xs (i + 1) else (Int.tmod x n, i + 1, true)) else (0, 0, false)
def fair (l : List Int) (n : Int) : Int × Int × Bool := if n < 1 then (0, 0, false) else if n > 4294967296 then (0, 0, false) else fairS (4294967296 - 4294967296 % n) n l 0
theorem wrap_end {n : Int} (h : 1 ≤ n) (h2 : n ≤ 4294967296) : wrap64 (4294967296 - ((4294967296 : Int) % n)) = 4294967296 - 4294967296 % n := by
  have h3 := Int.emod_nonneg 4294967296 (show n ≠ 0 by omega)
  have h4 := Int.emod_lt_of_pos 4294967296 (show 0 < n by omega)
  unfold wrap64; omega
theorem wrap_i {i : Nat} (h : i ≤ 140737488355328) : wrap64 ((i : Int) + 1) = ((i + 1 : Nat) : Int) := by unfold wrap64; omega
theorem fair_l0 (l : List Int) (n : Int) (hn : 1 ≤ n) (hn2 : n ≤ 4294967296) (hl : l.length ≤ 140737488355328) : ∀ (r : List Int) (i k : Nat), l.drop i = r → r.length < k → i ≤ l.length → draw_Fair.l0 k l n (i : Int) = some (fairS (4294967296 - 4294967296 % n) n r i) := by
  intro r
  induction r with
  | nil =>
    intro i k h hk hi
    obtain ⟨k, rfl⟩ : ∃ m, k = m + 1 := ⟨k - 1, by simp at hk; omega⟩
    have := drop_nil h
    simp only [draw_Fair.l0, fairS]
    rw [if_neg (by omega)]
  | cons x xs ih =>
    intro i k h hk hi
    simp only [List.length_cons] at hk
    obtain ⟨k, rfl⟩ : ∃ m, k = m + 1 := ⟨k - 1, by omega⟩
    obtain ⟨h1, h2, h3⟩ := rd_drop h
    simp only [draw_Fair.l0, fairS]
    rw [if_pos (by omega), if_pos (by omega), h2, word_is, Option.bind_some, wrap_end hn hn2, wrap_i (by omega), ih (i + 1) k h3 (by omega) (by omega)]
    split
    · split
      · simp
      · rw [if_neg (by omega)]; simp
    · rfl
theorem fair_is (l : List Int) (n : Int) (hl : l.length ≤ 140737488355328) (k : Nat) (hk : l.length < k) : draw_Fair.f k l n = some (fair l n) := by
  unfold draw_Fair.f fair
  split
  · rfl
  · split
    · rfl
    · rw [if_neg (by omega)]
      exact fair_l0 l n (by omega) (by omega) hl l 0 k (by simp) hk (by omega)
theorem fairS_used (e n : Int) : ∀ (l : List Int) (i : Int), (fairS e n l i).2.1 = 0 ∨ (i + 1 ≤ (fairS e n l i).2.1 ∧ (fairS e n l i).2.1 ≤ i + l.length)
  | [], i => .inl rfl
  | x :: xs, i => by
    simp only [fairS, List.length_cons]
    split
    · split
      · rcases fairS_used e n xs (i + 1) with h | h
        · exact .inl h
        · right; omega
      · right; dsimp only; omega
    · exact .inl rfl
theorem fairS_is (e n : Int) : ∀ (l : List Int) (i : Int), (fairS e n l i).2.2 = true ∨ fairS e n l i = (0, 0, false)
  | [], i => .inr rfl
  | x :: xs, i => by
    simp only [fairS]
    split
    · split
      · exact fairS_is e n xs (i + 1)
      · exact .inl rfl
    · exact .inr rfl
theorem fair_used (l : List Int) (n : Int) : 0 ≤ (fair l n).2.1 ∧ (fair l n).2.1 ≤ l.length := by
  unfold fair
  split
  · simp
  · split
    · simp
    · rcases fairS_used (4294967296 - 4294967296 % n) n l 0 with h | h <;> omega
theorem fairS_pos (e n : Int) : ∀ (l : List Int) (i : Int), 0 ≤ i → (fairS e n l i).2.2 = true → 0 < (fairS e n l i).2.1
  | [], i, _, h => by cases h
  | x :: xs, i, hi, h => by
    simp only [fairS] at h ⊢
    split
    · rename_i h1
      rw [if_pos h1] at h
      split
      · rename_i h2; rw [if_pos h2] at h; exact fairS_pos e n xs (i + 1) (by omega) h
      · dsimp only; omega
    · rename_i h1; rw [if_neg h1] at h; cases h
theorem fairS_in (e n : Int) (hn : 0 < n) : ∀ (l : List Int) (i : Int), 0 ≤ (fairS e n l i).1 ∧ ((fairS e n l i).1 < n)
  | [], i => ⟨Int.le_refl 0, hn⟩
  | x :: xs, i => by
    simp only [fairS]
    split
    · rename_i h1
      split
      · exact fairS_in e n hn xs (i + 1)
      · simp [okw] at h1
        dsimp only
        rw [Int.tmod_eq_emod_of_nonneg h1.1]
        exact ⟨Int.emod_nonneg _ (by omega), Int.emod_lt_of_pos _ hn⟩
    · exact ⟨Int.le_refl 0, hn⟩
def belowS (l : List Int) (n : Int) : Int × Bool × List Int := ((fair l n).1, (fair l n).2.2, l.drop (fair l n).2.1.toNat)
theorem below_is (l : List Int) (n : Int) (hl : l.length ≤ 140737488355328) (k : Nat) (hk : l.length < k) : draw_Stream_Below.f k n l = some (belowS l n) := by
  unfold draw_Stream_Below.f
  have h := fair_used l n
  rw [fair_is l n hl k hk, Option.bind_some, if_pos h.1, if_pos h.2, Option.bind_some]
  rfl
def feedS (l ws : List Int) : Int × List Int := if ws.all okw = true then (if (ws.length : Int) > wrap64 (4096 - (l.length : Int)) then (4, l) else (0, l ++ ws)) else (1, l)
theorem feed_l0 (l ws : List Int) (hl : l.length ≤ 140737488355328) (hw : ws.length ≤ 140737488355328) : ∀ (r : List Int) (i k : Nat), ws.drop i = r → r.length < k → i ≤ ws.length → draw_Stream_Feed.l0 k ws l (i : Int) = some (if r.all okw = true then (if (ws.length : Int) > wrap64 (4096 - (l.length : Int)) then (4, l) else (0, l ++ ws)) else (1, l)) := by
  intro r
  induction r with
  | nil =>
    intro i k h hk hi
    obtain ⟨k, rfl⟩ : ∃ m, k = m + 1 := ⟨k - 1, by simp at hk; omega⟩
    have := drop_nil h
    simp only [draw_Stream_Feed.l0, List.all_nil, if_true]
    rw [if_neg (by omega)]
    split
    · rfl
    · rename_i c
      rw [if_pos (by unfold wrap64 at c; omega)]; rfl
  | cons x xs ih =>
    intro i k h hk hi
    simp only [List.length_cons] at hk
    obtain ⟨k, rfl⟩ : ∃ m, k = m + 1 := ⟨k - 1, by omega⟩
    obtain ⟨h1, h2, h3⟩ := rd_drop h
    simp only [draw_Stream_Feed.l0]
    rw [if_pos (by omega), if_pos (by omega), h2, word_is, Option.bind_some, wrap_i (by omega), ih (i + 1) k h3 (by omega) (by omega), List.all_cons]
    cases okw x
    · simp
    · simp
theorem feed_is (l ws : List Int) (hl : l.length ≤ 140737488355328) (hw : ws.length ≤ 140737488355328) (k : Nat) (hk : ws.length < k) : draw_Stream_Feed.f k ws l = some (feedS l ws) := feed_l0 l ws hl hw ws 0 k (by simp) hk (by omega)
theorem small_is : ∀ k, 20 ≤ k → barrowlaw02_small.f k = some true := fun k hk => at_rounds barrowlaw02_small.mono hk (by decide +kernel)
theorem ref_l0 (l : List Int) (n : Int) (hn : 1 ≤ n) (hn2 : n ≤ 4294967296) (hl : l.length ≤ 140737488355328) : ∀ (r : List Int) (i k : Nat), l.drop i = r → 2 * r.length < k → i ≤ l.length → barrowref02_Fair.l0 k l n (i : Int) = some (fairS (4294967296 - 4294967296 % n) n r i) := by
  intro r
  induction r with
  | nil =>
    intro i k h hk hi
    obtain ⟨k, rfl⟩ : ∃ m, k = m + 1 := ⟨k - 1, by simp at hk; omega⟩
    have := drop_nil h
    simp only [barrowref02_Fair.l0, fairS]
    rw [if_neg (by omega)]
  | cons x xs ih =>
    intro i k h hk hi
    simp only [List.length_cons] at hk
    obtain ⟨k, rfl⟩ : ∃ m, k = m + 1 + 1 := ⟨k - 2, by omega⟩
    obtain ⟨h1, h2, h3⟩ := rd_drop h
    simp only [barrowref02_Fair.l0, fairS, barrowref02_Fair.j2]
    rw [if_pos (by omega), if_pos (by omega), h2, wrap_end hn hn2, wrap_i (by omega), ih (i + 1) k h3 (by omega) (by omega)]
    unfold okw
    by_cases c : x < 0
    · rw [if_pos c]
      simp [show ¬ 0 ≤ x by omega]
    · rw [if_neg c]
      by_cases c2 : x ≥ 4294967296
      · simp [c2, show ¬ x < 4294967296 by omega]
      · simp only [decide_eq_true_eq, show 0 ≤ x by omega, show x < 4294967296 by omega, decide_true, Bool.and_self, if_true]
        rw [if_neg c2, if_pos (by omega), if_pos (by omega), if_neg (by omega)]
        by_cases c3 : x ≥ 4294967296 - 4294967296 % n
        · rw [if_neg (by omega), if_pos c3]; simp
        · rw [if_pos (by omega), if_neg c3]; simp
theorem ref_is (l : List Int) (n : Int) (hl : l.length ≤ 140737488355328) (k : Nat) (hk : 2 * l.length + 1 < k) : barrowref02_Fair.f k l n = some (fair l n) := by
  obtain ⟨k, rfl⟩ : ∃ m, k = m + 1 := ⟨k - 1, by omega⟩
  unfold barrowref02_Fair.f fair
  split
  · simp [barrowref02_Fair.j0]
  · simp only [barrowref02_Fair.j0, decide_eq_true_eq]
    split
    · rfl
    · exact ref_l0 l n (by omega) (by omega) hl l 0 k (by simp) (by omega) (by omega)
/-! ### the document's stream is the program's -/
theorem fair_not {l : List Int} {n : Int} (h : ¬ (fair l n).2.2 = true) : (fair l n).2.1 = 0 := by
  unfold fair at h ⊢
  split
  · rfl
  · rename_i c1
    rw [if_neg c1] at h
    split
    · rfl
    · rename_i c2
      rw [if_neg c2] at h
      rcases fairS_is (4294967296 - 4294967296 % n) n l 0 with q | q
      · exact absurd q h
      · rw [q]
theorem rbelow_is (l : List Int) (n : Int) (hl : l.length ≤ 100000) (k : Nat) (hk : 2 * l.length + 1 < k) : barrowref02_Stream_Below.f k n l = some (belowS l n) := by
  unfold barrowref02_Stream_Below.f
  have h := fair_used l n
  rw [ref_is l n (by omega) k hk, Option.bind_some]
  unfold belowS
  by_cases c : (fair l n).2.2 = true
  · rw [if_pos c, Option.bind_some, if_pos h.1, if_pos h.2, Option.bind_some, if_pos (by simp; omega), Option.bind_some, List.nil_append, c]
  · rw [if_neg c, fair_not c, Bool.eq_false_iff.2 c]
    rfl
theorem rfeed_l0 (l ws : List Int) (hl : l.length ≤ 4096) (hw : ws.length ≤ 8192) : ∀ (r : List Int) (i k : Nat), ws.drop i = r → r.length < k → i ≤ ws.length → barrowref02_Stream_Feed.l0 k ws l (i : Int) = some (if r.all okw = true then (if (ws.length : Int) > wrap64 (4096 - (l.length : Int)) then (4, l) else (0, l ++ ws)) else (1, l)) := by
  intro r
  induction r with
  | nil =>
    intro i k h hk hi
    obtain ⟨k, rfl⟩ : ∃ m, k = m + 1 := ⟨k - 1, by simp at hk; omega⟩
    have := drop_nil h
    simp only [barrowref02_Stream_Feed.l0, List.all_nil, if_true]
    rw [if_neg (by omega)]
    split
    · rfl
    · rename_i c
      rw [if_pos (by omega)]; rfl
  | cons x xs ih =>
    intro i k h hk hi
    simp only [List.length_cons] at hk
    obtain ⟨k, rfl⟩ : ∃ m, k = m + 1 := ⟨k - 1, by omega⟩
    obtain ⟨h1, h2, h3⟩ := rd_drop h
    simp only [barrowref02_Stream_Feed.l0]
    rw [if_pos (by omega), if_pos (by omega), h2, wrap_i (by omega), ih (i + 1) k h3 (by omega) (by omega), List.all_cons]
    unfold okw
    by_cases c1 : x < 0
    · rw [if_pos c1, decide_eq_false (show ¬ 0 ≤ x by omega)]; simp
    · rw [if_neg c1, decide_eq_true (show 0 ≤ x by omega)]
      by_cases c2 : x ≥ 4294967296
      · rw [if_pos c2, decide_eq_false (show ¬ x < 4294967296 by omega)]; simp
      · rw [if_neg c2, decide_eq_true (show x < 4294967296 by omega)]; simp
theorem rfeed_is (l ws : List Int) (hl : l.length ≤ 4096) (hw : ws.length ≤ 8192) (k : Nat) (hk : ws.length < k) : barrowref02_Stream_Feed.f k ws l = some (feedS l ws) := rfeed_l0 l ws hl hw ws 0 k (by simp) hk (by omega)
theorem feed_len {l ws : List Int} (hl : l.length ≤ 4096) : (feedS l ws).2.length ≤ 4096 := by
  unfold feedS
  split
  · split
    · exact hl
    · rename_i c
      have : wrap64 (4096 - (l.length : Int)) = 4096 - (l.length : Int) := by unfold wrap64; omega
      rw [this] at c
      simp; omega
  · exact hl
theorem below_len {l : List Int} (n : Int) (hl : l.length ≤ 4096) : (belowS l n).2.2.length ≤ 4096 := by
  unfold belowS
  simp only [List.length_drop]
  omega
/-! ### Pick -/
def sumS : Int → List Int → Option Int
  | a, [] => some a
  | a, x :: xs => if x < 0 then none else if x > 4294967296 - a then none else sumS (a + x) xs
def findS : Int → List Int → Int → Int × Bool
  | _, [], _ => (0, false)
  | d, x :: xs, i => if d < x then (i, true) else findS (d - x) xs (i + 1)
def pickS (l s : List Int) : Int × Bool × List Int := match sumS 0 l with
  | none => (0, false, s)
  | some n => if (belowS s n).2.1 = true then ((findS (belowS s n).1 l 0).1, (findS (belowS s n).1 l 0).2, (belowS s n).2.2) else (0, false, (belowS s n).2.2)
theorem sumS_all : ∀ (l : List Int) (a t : Int), sumS a l = some t → 0 ≤ a → a ≤ 4294967296 → (∀ w ∈ l, 0 ≤ w) ∧ a ≤ t ∧ t ≤ 4294967296
  | [], a, t, h, h0, h1 => by
    cases h
    exact ⟨fun w hw => (by cases hw), Int.le_refl _, h1⟩
  | x :: xs, a, t, h, h0, h1 => by
    rw [sumS] at h
    split at h
    · cases h
    · split at h
      · cases h
      · obtain ⟨g1, g2, g3⟩ := sumS_all xs (a + x) t h (by omega) (by omega)
        refine ⟨fun w hw => ?_, by omega, g3⟩
        rcases List.mem_cons.1 hw with rfl | hw
        · omega
        · exact g1 w hw
theorem sum_l0 (l : List Int) (hl : l.length ≤ 300) : ∀ (r : List Int) (i k : Nat) (acc : Int), l.drop i = r → r.length < k → 0 ≤ acc → acc ≤ 4294967296 → draw_sum.l0 k acc l (l.length : Int) (i : Int) = some (match sumS acc r with | none => (0, false) | some t => (t, true)) := by
  intro r
  induction r with
  | nil =>
    intro i k acc h hk h0 h1
    obtain ⟨k, rfl⟩ : ∃ q, k = q + 1 := ⟨k - 1, by simp at hk; omega⟩
    have := drop_nil h
    rw [draw_sum.l0, if_neg (by omega), sumS]
  | cons x xs ih =>
    intro i k acc h hk h0 h1
    simp only [List.length_cons] at hk
    obtain ⟨k, rfl⟩ : ∃ q, k = q + 1 := ⟨k - 1, by omega⟩
    obtain ⟨g1, g2, g3⟩ := rd_drop h
    rw [draw_sum.l0, if_pos (by omega), if_pos (by omega), if_pos (by omega), g2, show wrap64 (4294967296 - acc) = 4294967296 - acc by unfold wrap64; omega, sumS]
    by_cases c1 : x < 0
    · rw [if_pos c1, if_pos c1]
    rw [if_neg c1, if_neg c1]
    by_cases c2 : x > 4294967296 - acc
    · rw [if_pos c2, if_pos c2]
    rw [if_neg c2, if_neg c2, show wrap64 (acc + x) = acc + x by unfold wrap64; omega, wrap_i (by omega)]
    exact ih (i + 1) k (acc + x) g3 (by omega) (by omega) (by omega)
theorem pick_l0 (l s : List Int) (hl : l.length ≤ 300) : ∀ (r : List Int) (i k : Nat) (d : Int), l.drop i = r → r.length < k → (∀ w ∈ r, 0 ≤ w) → -1000000000000 ≤ d → d ≤ 4294967296 → draw_Stream_Pick.l0 k l s d (i : Int) = some ((findS d r i).1, (findS d r i).2, s) := by
  intro r
  induction r with
  | nil =>
    intro i k d h hk _ h0 h1
    obtain ⟨k, rfl⟩ : ∃ q, k = q + 1 := ⟨k - 1, by simp at hk; omega⟩
    have := drop_nil h
    rw [draw_Stream_Pick.l0, if_neg (by omega), findS]
  | cons x xs ih =>
    intro i k d h hk hw h0 h1
    simp only [List.length_cons] at hk
    obtain ⟨k, rfl⟩ : ∃ q, k = q + 1 := ⟨k - 1, by omega⟩
    obtain ⟨g1, g2, g3⟩ := rd_drop h
    have hx := hw x List.mem_cons_self
    rw [draw_Stream_Pick.l0, if_pos (by omega), if_pos (by omega), g2, findS]
    by_cases c1 : d < x
    · rw [if_pos c1, if_pos c1]
    rw [if_neg c1, if_neg c1]
    by_cases c0 : 0 ≤ d
    · rw [show wrap64 (d - x) = d - x by unfold wrap64; omega, wrap_i (by omega), ih (i + 1) k (d - x) g3 (by omega) (fun w hw' => hw w (List.mem_cons_of_mem _ hw')) (by omega) (by omega)]
      rw [show ((i + 1 : Nat) : Int) = (i : Int) + 1 by omega]
    · omega
theorem fair_in0 (l : List Int) (n : Int) (hn : n ≤ 4294967296) : 0 ≤ (fair l n).1 ∧ (fair l n).1 ≤ 4294967296 := by
  unfold fair
  split
  · simp
  · split
    · simp
    · have := fairS_in (4294967296 - 4294967296 % n) n (by omega) l 0
      omega
theorem pick_is (l s : List Int) (hl : l.length ≤ 300) (hs : s.length ≤ 4096) (k : Nat) (hk : 10000 < k) : draw_Stream_Pick.f k l s = some (pickS l s) := by
  unfold draw_Stream_Pick.f draw_sum.f pickS
  have h1 := sum_l0 l hl l 0 k 0 (by simp) (by omega) (by omega) (by omega)
  rw [show ((0 : Nat) : Int) = 0 from rfl] at h1
  rw [h1, Option.bind_some]
  cases hq : sumS 0 l with
  | none => rfl
  | some t =>
    obtain ⟨w1, w2, w3⟩ := sumS_all l 0 t hq (by omega) (by omega)
    simp only
    rw [if_pos trivial, below_is _ _ (by omega) _ (by omega), Option.bind_some]
    by_cases hb : (belowS s t).2.1 = true
    · rw [if_pos hb, if_pos hb]
      have f := fair_in0 s t w3
      exact pick_l0 l _ hl l 0 k _ (by simp) (by omega) w1 (by unfold belowS; dsimp only; omega) (by unfold belowS; dsimp only; omega)
    · rw [if_neg hb, if_neg hb]
theorem rpick_l1 (l s : List Int) (hl : l.length ≤ 300) (b : Bool) : ∀ (r : List Int) (i k : Nat) (d up : Int), l.drop i = r → r.length < k → (∀ w ∈ r, 0 ≤ w) → 0 ≤ d → d ≤ 4294967296 → 0 ≤ up → (∃ t, sumS up r = some t) → up ≤ 4294967296 → barrowref02_Stream_Pick.l1 k l d b s up (i : Int) = some (if b = true then ((findS (d - up) r i).1, (findS (d - up) r i).2, s) else (0, false, s)) := by
  intro r
  induction r with
  | nil =>
    intro i k d up h hk _ h0 h1 _ _ _
    obtain ⟨k, rfl⟩ : ∃ q, k = q + 1 := ⟨k - 1, by simp at hk; omega⟩
    have := drop_nil h
    rw [barrowref02_Stream_Pick.l1, if_neg (by omega), findS]
    cases b <;> rfl
  | cons x xs ih =>
    intro i k d up h hk hw h0 h1 hu ht hu2
    simp only [List.length_cons] at hk
    obtain ⟨k, rfl⟩ : ∃ q, k = q + 1 := ⟨k - 1, by omega⟩
    obtain ⟨g1, g2, g3⟩ := rd_drop h
    have hx := hw x List.mem_cons_self
    obtain ⟨t, ht⟩ := ht
    rw [sumS, if_neg (by omega)] at ht
    by_cases c2 : x > 4294967296 - up
    · rw [if_pos c2] at ht; cases ht
    rw [if_neg c2] at ht
    rw [barrowref02_Stream_Pick.l1, if_pos (by omega), g2]
    cases b with
    | false => rfl
    | true =>
      rw [if_pos rfl, if_pos rfl, if_pos (by omega), show wrap64 (up + x) = up + x by unfold wrap64; omega, findS]
      by_cases c1 : d - up < x
      · rw [if_pos (by omega), if_pos c1]
      · rw [if_neg (by omega), if_neg c1, wrap_i (by omega), ih (i + 1) k d (up + x) g3 (by omega) (fun w hw' => hw w (List.mem_cons_of_mem _ hw')) h0 h1 (by omega) ⟨t, ht⟩ (by omega), if_pos rfl, show ((i + 1 : Nat) : Int) = (i : Int) + 1 by omega, show d - (up + x) = d - up - x by omega]
theorem rpick_l0 (l s : List Int) (hl : l.length ≤ 300) (hs : s.length ≤ 4096) (hall : ∀ t, sumS 0 l = some t → ∀ w ∈ l, 0 ≤ w) : ∀ (r : List Int) (i k : Nat) (acc : Int), l.drop i = r → 10000 + r.length < k → 0 ≤ acc → acc ≤ 4294967296 → sumS acc r = sumS 0 l → barrowref02_Stream_Pick.l0 k l s acc (i : Int) = some (pickS l s) := by
  intro r
  induction r with
  | nil =>
    intro i k acc h hk h0 h1 he
    obtain ⟨k, rfl⟩ : ∃ q, k = q + 1 := ⟨k - 1, by simp at hk; omega⟩
    have := drop_nil h
    have hq : sumS 0 l = some acc := by rw [← he, sumS]
    rw [barrowref02_Stream_Pick.l0, if_neg (by omega), rbelow_is _ _ (by omega) _ (by omega), Option.bind_some]
    have f := fair_in0 s acc h1
    have q := rpick_l1 l (belowS s acc).2.2 hl (belowS s acc).2.1 l 0 k (belowS s acc).1 0 (by simp) (by omega) (hall _ hq) (by unfold belowS; exact f.1) (by unfold belowS; exact f.2) (Int.le_refl 0) ⟨acc, hq⟩ (by omega)
    rw [show ((0 : Nat) : Int) = 0 from rfl, Int.sub_zero] at q
    rw [q]
    unfold pickS
    rw [hq]
  | cons x xs ih =>
    intro i k acc h hk h0 h1 he
    simp only [List.length_cons] at hk
    obtain ⟨k, rfl⟩ : ∃ q, k = q + 1 := ⟨k - 1, by omega⟩
    obtain ⟨g1, g2, g3⟩ := rd_drop h
    rw [barrowref02_Stream_Pick.l0, if_pos (by omega), if_pos (by omega), g2, show wrap64 (4294967296 - acc) = 4294967296 - acc by unfold wrap64; omega]
    rw [sumS] at he
    by_cases c1 : x < 0
    · rw [if_pos c1] at he
      rw [if_pos c1]
      unfold pickS; rw [← he]
    rw [if_neg c1] at he
    rw [if_neg c1]
    by_cases c2 : x > 4294967296 - acc
    · rw [if_pos c2] at he
      rw [if_pos c2]
      unfold pickS; rw [← he]
    rw [if_neg c2] at he
    rw [if_neg c2, show wrap64 (acc + x) = acc + x by unfold wrap64; omega, wrap_i (by omega)]
    exact ih (i + 1) k (acc + x) g3 (by omega) (by omega) (by omega) he
theorem rpick_is (l s : List Int) (hl : l.length ≤ 300) (hs : s.length ≤ 4096) (k : Nat) (hk : 10300 < k) : barrowref02_Stream_Pick.f k l s = some (pickS l s) :=
  rpick_l0 l s hl hs (fun t h => (sumS_all l 0 t h (by omega) (by omega)).1) l 0 k 0 (by simp) (by omega) (by omega) (by omega) rfl
theorem pick_len {l s : List Int} (hs : s.length ≤ 4096) : (pickS l s).2.2.length ≤ 4096 := by
  unfold pickS
  split
  · exact hs
  · split
    · exact below_len _ hs
    · exact below_len _ hs
/-! ### Deal -/
def loopS (o : List Int) : Nat → List Int → List Int → List Int × Bool × List Int
  | 0, y, s => (y, true, s)
  | m + 1, y, s => if (belowS s ((m + 1 : Nat) + 1 : Int)).2.1 = true then loopS o m ((y.set (m + 1) (rd y (belowS s ((m + 1 : Nat) + 1 : Int)).1)).set (belowS s ((m + 1 : Nat) + 1 : Int)).1.toNat (rd y ((m + 1 : Nat) : Int))) (belowS s ((m + 1 : Nat) + 1 : Int)).2.2 else ([], false, o)
def upS (n : Nat) : List Int := (List.range n).map fun i : Nat => (i : Int)
def dealS (n : Int) (s : List Int) : List Int × Bool × List Int := if n < 0 then ([], false, s) else if n > 256 then ([], false, s) else loopS s (n.toNat - 1) (upS n.toNat) s
theorem loop_len (o : List Int) (ho : o.length ≤ 4096) : ∀ (m : Nat) (y s : List Int), s.length ≤ 4096 → (loopS o m y s).2.2.length ≤ 4096
  | 0, y, s, h => h
  | m + 1, y, s, h => by
    rw [loopS]
    split
    · exact loop_len o ho m _ _ (below_len _ h)
    · exact ho
theorem deal_len {n : Int} {s : List Int} (hs : s.length ≤ 4096) : (dealS n s).2.2.length ≤ 4096 := by
  unfold dealS
  split
  · exact hs
  · split
    · exact hs
    · exact loop_len s hs _ _ _ hs
theorem below_in (s : List Int) (n : Int) (h0 : 1 ≤ n) : 0 ≤ (belowS s n).1 ∧ (belowS s n).1 < n := by
  unfold belowS fair
  dsimp only
  rw [if_neg (by omega)]
  split
  · exact ⟨Int.le_refl 0, by simp; omega⟩
  · exact fairS_in _ _ (by omega) _ _
theorem deal_l1 {n : Nat} (hn : n ≤ 256) (o z : List Int) (hz : z.length = n) : ∀ (m k : Nat) (y s : List Int), m < n ∨ m = 0 → s.length ≤ 4096 → 10000 + m < k →
    draw_Stream_Deal.l1 k o z (m : Int) y s = some (loopS o m y s) := by
  intro m
  induction m with
  | zero =>
    intro k y s _ hs hk
    obtain ⟨k, rfl⟩ : ∃ q, k = q + 1 := ⟨k - 1, by omega⟩
    rw [draw_Stream_Deal.l1, if_neg (by simp), loopS]
  | succ m ih =>
    intro k y s hm hs hk
    obtain ⟨k, rfl⟩ : ∃ q, k = q + 1 := ⟨k - 1, by omega⟩
    obtain ⟨q1, q2⟩ := below_in s (((m + 1 : Nat) : Int) + 1) (by omega)
    rw [draw_Stream_Deal.l1, if_pos (by omega), show wrap64 (((m + 1 : Nat) : Int) + 1) = ((m + 1 : Nat) : Int) + 1 by unfold wrap64; omega, below_is _ _ (by omega) _ (by omega), Option.bind_some, loopS]
    by_cases hb : (belowS s (((m + 1 : Nat) : Int) + 1)).2.1 = true
    · rw [if_pos hb, if_pos hb, if_pos q1, if_pos (by omega), if_pos (by omega), if_pos (by omega), Option.bind_some, Option.bind_some, show wrap64 (((m + 1 : Nat) : Int) - 1) = (m : Int) by unfold wrap64; omega, Int.toNat_natCast]
      exact ih k _ _ (by omega) (below_len _ hs) (by omega)
    · rw [if_neg hb, if_neg hb]
theorem rdeal_l1 {n : Nat} (hn : n ≤ 256) (o z : List Int) (hz : z.length = n) : ∀ (m k : Nat) (y s : List Int), m < n ∨ m = 0 → s.length ≤ 4096 → 10000 + m < k →
    barrowref02_Stream_Deal.l1 k o z (m : Int) y s = some (loopS o m y s) := by
  intro m
  induction m with
  | zero =>
    intro k y s _ hs hk
    obtain ⟨k, rfl⟩ : ∃ q, k = q + 1 := ⟨k - 1, by omega⟩
    rw [barrowref02_Stream_Deal.l1, if_neg (by simp), loopS]
  | succ m ih =>
    intro k y s hm hs hk
    obtain ⟨k, rfl⟩ : ∃ q, k = q + 1 := ⟨k - 1, by omega⟩
    obtain ⟨q1, q2⟩ := below_in s (((m + 1 : Nat) : Int) + 1) (by omega)
    rw [barrowref02_Stream_Deal.l1, if_pos (by omega), show wrap64 (((m + 1 : Nat) : Int) + 1) = ((m + 1 : Nat) : Int) + 1 by unfold wrap64; omega, rbelow_is _ _ (by omega) _ (by omega), Option.bind_some, loopS]
    by_cases hb : (belowS s (((m + 1 : Nat) : Int) + 1)).2.1 = true
    · rw [if_pos hb, if_pos hb, if_pos q1, if_pos (by omega), if_pos (by omega), if_pos (by omega), Option.bind_some, Option.bind_some, show wrap64 (((m + 1 : Nat) : Int) - 1) = (m : Int) by unfold wrap64; omega, Int.toNat_natCast]
      exact ih k _ _ (by omega) (below_len _ hs) (by omega)
    · rw [if_neg hb, if_neg hb]
theorem up_set (i m : Nat) : ((upS i ++ List.replicate (m + 1) 0).set i (i : Int)) = upS (i + 1) ++ List.replicate m 0 := by
  have hl : (upS i).length = i := by simp [upS]
  rw [List.set_append_right _ _ (by omega), hl, Nat.sub_self, List.replicate_succ, List.set_cons_zero]
  unfold upS
  rw [List.range_succ, List.map_append, List.append_assoc]
  rfl
theorem deal_l0 {n : Nat} (hn : n ≤ 256) (s z : List Int) (hz : z.length = n) (hs : s.length ≤ 4096) : ∀ (m i k : Nat), i + m = n → 20000 + m < k →
    draw_Stream_Deal.l0 k (n : Int) s z (i : Int) (upS i ++ List.replicate m 0) = some (loopS s (n - 1) (upS n) s) := by
  intro m
  induction m with
  | zero =>
    intro i k hi hk
    obtain ⟨k, rfl⟩ : ∃ q, k = q + 1 := ⟨k - 1, by omega⟩
    rw [draw_Stream_Deal.l0, if_neg (by omega), show List.replicate 0 (0 : Int) = [] from rfl, List.append_nil, show i = n by omega]
    by_cases h0 : n = 0
    · subst h0
      obtain ⟨k, rfl⟩ : ∃ q, k = q + 1 := ⟨k - 1, by omega⟩
      rw [draw_Stream_Deal.l1, if_neg (by unfold wrap64; omega)]
      rfl
    · rw [show wrap64 ((n : Int) - 1) = ((n - 1 : Nat) : Int) by unfold wrap64; omega]
      exact deal_l1 hn s z hz (n - 1) k _ s (by omega) hs (by omega)
  | succ m ih =>
    intro i k hi hk
    obtain ⟨k, rfl⟩ : ∃ q, k = q + 1 := ⟨k - 1, by omega⟩
    rw [draw_Stream_Deal.l0, if_pos (by omega), if_pos (by omega), Option.bind_some, wrap_i (by omega), Int.toNat_natCast, up_set]
    exact ih (i + 1) k (by omega) (by omega)
theorem deal_is (n : Int) (s : List Int) (hs : s.length ≤ 4096) (k : Nat) (hk : 21000 < k) : draw_Stream_Deal.f k n s = some (dealS n s) := by
  unfold draw_Stream_Deal.f dealS
  by_cases c1 : n < 0
  · rw [if_pos c1, if_pos c1]
  rw [if_neg c1, if_neg c1]
  by_cases c2 : n > 256
  · rw [if_pos c2, if_pos c2]
  rw [if_neg c2, if_neg c2, if_pos (by omega), if_pos (by omega), Option.bind_some]
  obtain ⟨m, rfl⟩ : ∃ m : Nat, n = m := ⟨_, (Int.toNat_of_nonneg (by omega)).symm⟩
  rw [Int.toNat_natCast]
  have q := deal_l0 (n := m) (by omega) s (List.replicate m 0) (by simp) hs m 0 k (by omega) (by omega)
  rw [show upS 0 = [] from rfl, List.nil_append] at q
  exact q
theorem rdeal_l0 {n : Nat} (hn : n ≤ 256) (s : List Int) (hs : s.length ≤ 4096) : ∀ (m i k : Nat), i + m = n → 20000 + m < k →
    barrowref02_Stream_Deal.l0 k (n : Int) s (upS i) (i : Int) = some (loopS s (n - 1) (upS n) s) := by
  intro m
  induction m with
  | zero =>
    intro i k hi hk
    obtain ⟨k, rfl⟩ : ∃ q, k = q + 1 := ⟨k - 1, by omega⟩
    rw [barrowref02_Stream_Deal.l0, if_neg (by omega), show i = n by omega]
    by_cases h0 : n = 0
    · subst h0
      obtain ⟨k, rfl⟩ : ∃ q, k = q + 1 := ⟨k - 1, by omega⟩
      rw [barrowref02_Stream_Deal.l1, if_neg (by unfold wrap64; omega)]
      rfl
    · rw [show wrap64 ((n : Int) - 1) = ((n - 1 : Nat) : Int) by unfold wrap64; omega]
      exact rdeal_l1 hn s (upS n) (by simp [upS]) (n - 1) k _ s (by omega) hs (by omega)
  | succ m ih =>
    intro i k hi hk
    obtain ⟨k, rfl⟩ : ∃ q, k = q + 1 := ⟨k - 1, by omega⟩
    rw [barrowref02_Stream_Deal.l0, if_pos (by omega), Option.bind_some, if_pos (by simp [upS]; omega), Option.bind_some, wrap_i (by omega), show upS i ++ [(i : Int)] = upS (i + 1) by unfold upS; rw [List.range_succ, List.map_append]; rfl]
    exact ih (i + 1) k (by omega) (by omega)
theorem rdeal_is (n : Int) (s : List Int) (hs : s.length ≤ 4096) (k : Nat) (hk : 21000 < k) : barrowref02_Stream_Deal.f k n s = some (dealS n s) := by
  unfold barrowref02_Stream_Deal.f dealS
  by_cases c1 : n < 0
  · rw [if_pos c1, if_pos c1]
  rw [if_neg c1, if_neg c1]
  by_cases c2 : n > 256
  · rw [if_pos c2, if_pos c2]
  rw [if_neg c2, if_neg c2]
  obtain ⟨m, rfl⟩ : ∃ m : Nat, n = m := ⟨_, (Int.toNat_of_nonneg (by omega)).symm⟩
  have q := rdeal_l0 (n := m) (by omega) s hs m 0 k (by omega) (by omega)
  rw [show upS 0 = [] from rfl] at q
  rw [Int.toNat_natCast]
  exact q
theorem loop_row (o : List Int) : ∀ (m : Nat) (y s : List Int), (loopS o m y s).1.length ≤ y.length
  | 0, y, s => Nat.le_refl _
  | m + 1, y, s => by
    rw [loopS]
    split
    · exact Nat.le_trans (loop_row o m _ _) (by simp)
    · simp
theorem deal_row (n : Int) (s : List Int) : (dealS n s).1.length ≤ 256 := by
  unfold dealS
  split
  · simp
  · split
    · simp
    · exact Nat.le_trans (loop_row _ _ _ _) (by simp [upS]; omega)
theorem same_l0 (l : List Int) (hl : l.length ≤ 100000) : ∀ (m i k : Nat), i + m = l.length → m < k → barrowref02_Same.l0 k l l (i : Int) = some true := by
  intro m
  induction m with
  | zero =>
    intro i k hi hk
    obtain ⟨k, rfl⟩ : ∃ q, k = q + 1 := ⟨k - 1, by omega⟩
    rw [barrowref02_Same.l0, if_neg (by omega)]
  | succ m ih =>
    intro i k hi hk
    obtain ⟨k, rfl⟩ : ∃ q, k = q + 1 := ⟨k - 1, by omega⟩
    rw [barrowref02_Same.l0, if_pos (by omega), if_pos (by omega), if_pos (by omega), if_pos rfl, wrap_i (by omega)]
    exact ih (i + 1) k (by omega) (by omega)
theorem same_is (l : List Int) (hl : l.length ≤ 100000) (k : Nat) (hk : l.length < k) : barrowref02_Same.f k l l = some true := by
  unfold barrowref02_Same.f
  rw [if_pos rfl]
  exact same_l0 l hl l.length 0 k (by omega) hk
end Go.Proofs.Ytkffeglkbpfndaa.Pure
