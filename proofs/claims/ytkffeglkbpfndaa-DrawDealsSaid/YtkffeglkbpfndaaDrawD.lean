/- What the program's fair draws, feeds and streams come to, as plain functions of lists. -/
import Derived.Test.YtkffeglkbpfndaaXDPx1
import Derived.Test.YtkffeglkbpfndaaXDPx2
import Derived.Test.YtkffeglkbpfndaaXDPx3
namespace Go.Proofs.Ytkffeglkbpfndaa.Pure
open Go.RowKit Go.Proofs.Ytkffeglkbpfndaa.XDP Go.Proofs.YtkffeglkbpfndaaW.PrintWords Go.Proofs.YtkffeglkbpfndaaW.PrintLast
set_option linter.unusedVariables false
theorem rd_drop {l : List Int} {i : Nat} {x : Int} {xs : List Int} (h : l.drop i = x :: xs) : i < l.length ∧ rd l (i : Int) = x ∧ l.drop (i + 1) = xs := by
  have h1 : i < l.length := by
    rcases Nat.lt_or_ge i l.length with h1 | h1
    · exact h1
    · rw [List.drop_eq_nil_of_le h1] at h; cases h
  rw [List.drop_eq_getElem_cons h1] at h
  injection h with h2 h3
  refine ⟨h1, ?_, h3⟩
  unfold rd
  simp [h1, h2]
theorem drop_nil {l : List Int} {i : Nat} (h : l.drop i = []) : l.length ≤ i := List.drop_eq_nil_iff.1 h
def okw (x : Int) : Bool := decide (0 ≤ x) && decide (x < 4294967296)
theorem word_is (x : Int) : draw_word.f x = some (okw x) := by
  unfold draw_word.f okw
  split <;> rename_i h
  · simp [show 0 ≤ x from h]
  · simp [show ¬ 0 ≤ x from h]
def fairS (e n : Int) : List Int → Int → Int × Int × Bool
  | [], _ => (0, 0, false)
  | x :: xs, i => if okw x = true then (if x ≥ e then fairS e n xs (i + 1) else (Int.tmod x n, i + 1, true)) else (0, 0, false)
def fair (l : List Int) (n : Int) : Int × Int × Bool := if n < 1 then (0, 0, false) else if n > 4294967296 then (0, 0, false) else fairS (4294967296 - 4294967296 % n) n l 0
theorem wrap_end {n : Int} (h : 1 ≤ n) (h2 : n ≤ 4294967296) : wrap64 (4294967296 - ((4294967296 : Int) % n)) = 4294967296 - 4294967296 % n := by
  have h3 := Int.emod_nonneg 4294967296 (show n ≠ 0 by omega)
  have h4 := Int.emod_lt_of_pos 4294967296 (show 0 < n by omega)
  unfold wrap64; omega
theorem wrap_i {i : Nat} (h : i ≤ 140737488355328) : wrap64 ((i : Int) + 1) = ((i + 1 : Nat) : Int) := by unfold wrap64; omega
theorem fair_l0 (l : List Int) (n : Int) (hn : 1 ≤ n) (hn2 : n ≤ 4294967296) (hl : l.length ≤ 140737488355328) : ∀ (r : List Int) (i k : Nat), l.drop i = r → r.length < k → i ≤ l.length → draw_Fair.l0 k l n (i : Int) = some (fairS (4294967296 - 4294967296 % n) n r i) := by
  intro r
  induction r with
  | nil =>
    intro i k h hk hi
    obtain ⟨k, rfl⟩ : ∃ m, k = m + 1 := ⟨k - 1, by simp at hk; omega⟩
    have := drop_nil h
    simp only [draw_Fair.l0, fairS]
    rw [if_neg (by omega)]
  | cons x xs ih =>
    intro i k h hk hi
    simp only [List.length_cons] at hk
    obtain ⟨k, rfl⟩ : ∃ m, k = m + 1 := ⟨k - 1, by omega⟩
    obtain ⟨h1, h2, h3⟩ := rd_drop h
    simp only [draw_Fair.l0, fairS]
    rw [if_pos (by omega), if_pos (by omega), h2, word_is, Option.bind_some, wrap_end hn hn2, wrap_i (by omega), ih (i + 1) k h3 (by omega) (by omega)]
    split
    · split
      · simp
      · rw [if_neg (by omega)]; simp
    · rfl
theorem fair_is (l : List Int) (n : Int) (hl : l.length ≤ 140737488355328) (k : Nat) (hk : l.length < k) : draw_Fair.f k l n = some (fair l n) := by
  unfold draw_Fair.f fair
  split
  · rfl
  · split
    · rfl
    · rw [if_neg (by omega)]
      exact fair_l0 l n (by omega) (by omega) hl l 0 k (by simp) hk (by omega)
theorem fairS_used (e n : Int) : ∀ (l : List Int) (i : Int), (fairS e n l i).2.1 = 0 ∨ (i + 1 ≤ (fairS e n l i).2.1 ∧ (fairS e n l i).2.1 ≤ i + l.length)
  | [], i => .inl rfl
  | x :: xs, i => by
    simp only [fairS, List.length_cons]
    split
    · split
      · rcases fairS_used e n xs (i + 1) with h | h
        · exact .inl h
        · right; omega
      · right; dsimp only; omega
    · exact .inl rfl
theorem fairS_is (e n : Int) : ∀ (l : List Int) (i : Int), (fairS e n l i).2.2 = true ∨ fairS e n l i = (0, 0, false)
  | [], i => .inr rfl
  | x :: xs, i => by
    simp only [fairS]
    split
    · split
      · exact fairS_is e n xs (i + 1)
      · exact .inl rfl
    · exact .inr rfl
theorem fair_used (l : List Int) (n : Int) : 0 ≤ (fair l n).2.1 ∧ (fair l n).2.1 ≤ l.length := by
  unfold fair
  split
  · simp
  · split
    · simp
    · rcases fairS_used (4294967296 - 4294967296 % n) n l 0 with h | h <;> omega
theorem fairS_pos (e n : Int) : ∀ (l : List Int) (i : Int), 0 ≤ i → (fairS e n l i).2.2 = true → 0 < (fairS e n l i).2.1
  | [], i, _, h => by cases h
  | x :: xs, i, hi, h => by
    simp only [fairS] at h ⊢
    split
    · rename_i h1
      rw [if_pos h1] at h
      split
      · rename_i h2; rw [if_pos h2] at h; exact fairS_pos e n xs (i + 1) (by omega) h
      · dsimp only; omega
    · rename_i h1; rw [if_neg h1] at h; cases h
theorem fairS_in (e n : Int) (hn : 0 < n) : ∀ (l : List Int) (i : Int), 0 ≤ (fairS e n l i).1 ∧ ((fairS e n l i).1 < n)
  | [], i => ⟨Int.le_refl 0, hn⟩
  | x :: xs, i => by
    simp only [fairS]
    split
    · rename_i h1
      split
      · exact fairS_in e n hn xs (i + 1)
      · simp [okw] at h1
        dsimp only
        rw [Int.tmod_eq_emod_of_nonneg h1.1]
        exact ⟨Int.emod_nonneg _ (by omega), Int.emod_lt_of_pos _ hn⟩
    · exact ⟨Int.le_refl 0, hn⟩
def belowS (l : List Int) (n : Int) : Int × Bool × List Int := ((fair l n).1, (fair l n).2.2, l.drop (fair l n).2.1.toNat)
theorem below_is (l : List Int) (n : Int) (hl : l.length ≤ 140737488355328) (k : Nat) (hk : l.length < k) : draw_Stream_Below.f k n l = some (belowS l n) := by
  unfold draw_Stream_Below.f
  have h := fair_used l n
  rw [fair_is l n hl k hk, Option.bind_some, if_pos h.1, if_pos h.2, Option.bind_some]
  rfl
def feedS (l ws : List Int) : Int × List Int := if ws.all okw = true then (if (ws.length : Int) > wrap64 (4096 - (l.length : Int)) then (4, l) else (0, l ++ ws)) else (1, l)
theorem feed_l0 (l ws : List Int) (hl : l.length ≤ 140737488355328) (hw : ws.length ≤ 140737488355328) : ∀ (r : List Int) (i k : Nat), ws.drop i = r → r.length < k → i ≤ ws.length → draw_Stream_Feed.l0 k ws l (i : Int) = some (if r.all okw = true then (if (ws.length : Int) > wrap64 (4096 - (l.length : Int)) then (4, l) else (0, l ++ ws)) else (1, l)) := by
  intro r
  induction r with
  | nil =>
    intro i k h hk hi
    obtain ⟨k, rfl⟩ : ∃ m, k = m + 1 := ⟨k - 1, by simp at hk; omega⟩
    have := drop_nil h
    simp only [draw_Stream_Feed.l0, List.all_nil, if_true]
    rw [if_neg (by omega)]
    split
    · rfl
    · rename_i c
      rw [if_pos (by unfold wrap64 at c; omega)]; rfl
  | cons x xs ih =>
    intro i k h hk hi
    simp only [List.length_cons] at hk
    obtain ⟨k, rfl⟩ : ∃ m, k = m + 1 := ⟨k - 1, by omega⟩
    obtain ⟨h1, h2, h3⟩ := rd_drop h
    simp only [draw_Stream_Feed.l0]
    rw [if_pos (by omega), if_pos (by omega), h2, word_is, Option.bind_some, wrap_i (by omega), ih (i + 1) k h3 (by omega) (by omega), List.all_cons]
    cases okw x
    · simp
    · simp
theorem feed_is (l ws : List Int) (hl : l.length ≤ 140737488355328) (hw : ws.length ≤ 140737488355328) (k : Nat) (hk : ws.length < k) : draw_Stream_Feed.f k ws l = some (feedS l ws) := feed_l0 l ws hl hw ws 0 k (by simp) hk (by omega)
theorem small_is : ∀ k, 20 ≤ k → barrowlaw02_small.f k = some true := fun k hk => at_rounds barrowlaw02_small.mono hk (by decide +kernel)
/-! ### what is dealt -/
theorem rd_set {y : List Int} {i : Nat} (hi : i < y.length) (v : Int) (a : Nat) : rd (y.set i v) (a : Int) = if a = i then v else rd y (a : Int) := by
  unfold rd
  simp only [Int.toNat_natCast, List.getD_eq_getElem?_getD, List.getElem?_set]
  by_cases h : i = a
  · subst h; simp [hi]
  · rw [if_neg h, if_neg (fun e => h e.symm)]
def Good (y : List Int) : Prop := (∀ a : Nat, a < y.length → 0 ≤ rd y (a : Int) ∧ rd y (a : Int) < y.length) ∧ ∀ a b : Nat, a < y.length → b < y.length → rd y (a : Int) = rd y (b : Int) → a = b
theorem good_swap {y : List Int} (h : Good y) {i j : Nat} (hi : i < y.length) (hj : j < y.length) : Good ((y.set i (rd y (j : Int))).set j (rd y (i : Int))) := by
  have e : ∀ a : Nat, rd ((y.set i (rd y (j : Int))).set j (rd y (i : Int))) (a : Int) = if a = j then rd y (i : Int) else if a = i then rd y (j : Int) else rd y (a : Int) := fun a => by
    rw [rd_set (by simpa using hj), rd_set hi]
  obtain ⟨h1, h2⟩ := h
  refine ⟨fun a ha => ?_, fun a b ha hb hab => ?_⟩
  · simp only [List.length_set] at ha ⊢
    rw [e]
    split
    · exact h1 i hi
    · split
      · exact h1 j hj
      · exact h1 a ha
  · simp only [List.length_set] at ha hb
    rw [e, e] at hab
    by_cases a1 : a = j
    · rw [if_pos a1] at hab
      by_cases b1 : b = j
      · omega
      · rw [if_neg b1] at hab
        by_cases b2 : b = i
        · rw [if_pos b2] at hab
          have := h2 _ _ hi hj hab; omega
        · rw [if_neg b2] at hab
          have := h2 _ _ hi hb hab; omega
    · rw [if_neg a1] at hab
      by_cases a2 : a = i
      · rw [if_pos a2] at hab
        by_cases b1 : b = j
        · rw [if_pos b1] at hab
          have := h2 _ _ hj hi hab; omega
        · rw [if_neg b1] at hab
          by_cases b2 : b = i
          · omega
          · rw [if_neg b2] at hab
            have := h2 _ _ hj hb hab; omega
      · rw [if_neg a2] at hab
        by_cases b1 : b = j
        · rw [if_pos b1] at hab
          have := h2 _ _ ha hi hab; omega
        · rw [if_neg b1] at hab
          by_cases b2 : b = i
          · rw [if_pos b2] at hab
            have := h2 _ _ ha hj hab; omega
          · rw [if_neg b2] at hab
            exact h2 _ _ ha hb hab
theorem fair_in {l : List Int} {n : Int} (h0 : 1 ≤ n) : 0 ≤ (fair l n).1 ∧ (fair l n).1 < n := by
  unfold fair
  rw [if_neg (by omega)]
  split
  · exact ⟨Int.le_refl 0, by simp; omega⟩
  · exact fairS_in _ _ (by omega) _ _
theorem deal_l1 {n : Nat} (hn : n ≤ 256) (o z : List Int) (hz : z.length = n) : ∀ (m k : Nat) (y s : List Int), m < n ∨ m = 0 → y.length = n → Good y → s.length ≤ 4096 → 5000 + m < k →
    ∃ r b t, draw_Stream_Deal.l1 k o z (m : Int) y s = some (r, b, t) ∧ ((b = true ∧ r.length = n ∧ Good r ∧ t.length ≤ 4096) ∨ (b = false ∧ r = [] ∧ t = o ∧ 0 < m)) := by
  intro m
  induction m with
  | zero =>
    intro k y s _ hy hg hs hk
    obtain ⟨k, rfl⟩ : ∃ q, k = q + 1 := ⟨k - 1, by omega⟩
    refine ⟨y, true, s, ?_, .inl ⟨rfl, hy, hg, hs⟩⟩
    rw [draw_Stream_Deal.l1, if_neg (by simp)]
  | succ m ih =>
    intro k y s hm hy hg hs hk
    obtain ⟨k, rfl⟩ : ∃ q, k = q + 1 := ⟨k - 1, by omega⟩
    have hmn : m + 1 < n := by omega
    obtain ⟨q1, q2⟩ := fair_in (l := s) (n := ((m + 1 : Nat) : Int) + 1) (by omega)
    have u1 := fair_used s (((m + 1 : Nat) : Int) + 1)
    rw [draw_Stream_Deal.l1, if_pos (by omega), show wrap64 (((m + 1 : Nat) : Int) + 1) = ((m + 1 : Nat) : Int) + 1 by unfold wrap64; omega, below_is _ _ (by omega) _ (by omega), Option.bind_some]
    unfold belowS
    by_cases hb : (fair s (((m + 1 : Nat) : Int) + 1)).2.2 = true
    · obtain ⟨d, hd⟩ : ∃ d : Nat, (fair s (((m + 1 : Nat) : Int) + 1)).1 = d := ⟨_, (Int.toNat_of_nonneg q1).symm⟩
      simp only [hd]
      rw [hd] at q2
      obtain ⟨r, b, t, h1, h2⟩ := ih k ((y.set (m + 1) (rd y (d : Int))).set d (rd y ((m + 1 : Nat) : Int))) (s.drop (fair s (((m + 1 : Nat) : Int) + 1)).2.1.toNat) (by omega) (by simpa using hy) (good_swap hg (by omega) (by omega)) (by rw [List.length_drop]; omega) (by omega)
      refine ⟨r, b, t, ?_, ?_⟩
      · rw [if_pos hb, if_pos (by omega), if_pos (by omega), if_pos (by omega), if_pos (by omega), Option.bind_some, Option.bind_some, show wrap64 (((m + 1 : Nat) : Int) - 1) = (m : Int) by unfold wrap64; omega, Int.toNat_natCast, Int.toNat_natCast]
        exact h1
      · rcases h2 with h2 | ⟨h2, h3, h4, _⟩
        · exact .inl h2
        · exact .inr ⟨h2, h3, h4, by omega⟩
    · refine ⟨[], false, o, ?_, .inr ⟨rfl, rfl, rfl, by omega⟩⟩
      simp only
      rw [if_neg hb]
theorem deal_l0 {n : Nat} (hn : n ≤ 256) (s z : List Int) (hz : z.length = n) (hs : s.length ≤ 4096) : ∀ (m i k : Nat) (y : List Int), i + m = n → y.length = n → (∀ a : Nat, a < i → rd y (a : Int) = a) → 6000 + m < k →
    ∃ r b t, draw_Stream_Deal.l0 k (n : Int) s z (i : Int) y = some (r, b, t) ∧ ((b = true ∧ r.length = n ∧ Good r ∧ t.length ≤ 4096) ∨ (b = false ∧ r = [] ∧ t = s ∧ 0 < n)) := by
  intro m
  induction m with
  | zero =>
    intro i k y hi hy hg hk
    obtain ⟨k, rfl⟩ : ∃ q, k = q + 1 := ⟨k - 1, by omega⟩
    have good : Good y := ⟨fun a ha => by rw [hg a (by omega)]; omega, fun a b ha hb h => by rw [hg a (by omega), hg b (by omega)] at h; omega⟩
    rw [draw_Stream_Deal.l0, if_neg (by omega)]
    by_cases h0 : n = 0
    · subst h0
      obtain ⟨k, rfl⟩ : ∃ q, k = q + 1 := ⟨k - 1, by omega⟩
      refine ⟨y, true, s, ?_, .inl ⟨rfl, hy, good, hs⟩⟩
      rw [draw_Stream_Deal.l1, if_neg (by unfold wrap64; omega)]
    · obtain ⟨r, b, t, h1, h2⟩ := deal_l1 hn s z hz (n - 1) k y s (by omega) hy good hs (by omega)
      refine ⟨r, b, t, ?_, ?_⟩
      · rw [show wrap64 ((n : Int) - 1) = ((n - 1 : Nat) : Int) by unfold wrap64; omega]
        exact h1
      · rcases h2 with h2 | ⟨h2, h3, h4, _⟩
        · exact .inl h2
        · exact .inr ⟨h2, h3, h4, by omega⟩
  | succ m ih =>
    intro i k y hi hy hg hk
    obtain ⟨k, rfl⟩ : ∃ q, k = q + 1 := ⟨k - 1, by omega⟩
    rw [draw_Stream_Deal.l0, if_pos (by omega), if_pos (by omega), Option.bind_some, wrap_i (by omega), Int.toNat_natCast]
    refine ih (i + 1) k (y.set i (i : Int)) (by omega) (by simpa using hy) (fun a ha => ?_) (by omega)
    rw [rd_set (by omega)]
    split
    · omega
    · exact hg a (by omega)
theorem deal_is (n : Int) (s : List Int) (hs : s.length ≤ 4096) (k : Nat) (hk : 7000 < k) :
    ∃ r b t, draw_Stream_Deal.f k n s = some (r, b, t) ∧ t.length ≤ 4096 ∧ ((b = true ∧ (r.length : Int) = n ∧ Good r) ∨ (b = false ∧ r = [] ∧ n ≠ 0)) ∧ r.length ≤ 256 := by
  unfold draw_Stream_Deal.f
  by_cases c1 : n < 0
  · exact ⟨[], false, s, by rw [if_pos c1], hs, .inr ⟨rfl, rfl, by omega⟩, by simp⟩
  rw [if_neg c1]
  by_cases c2 : n > 256
  · exact ⟨[], false, s, by rw [if_pos c2], hs, .inr ⟨rfl, rfl, by omega⟩, by simp⟩
  rw [if_neg c2, if_pos (by omega), if_pos (by omega), Option.bind_some]
  obtain ⟨m, rfl⟩ : ∃ m : Nat, n = m := ⟨_, (Int.toNat_of_nonneg (by omega)).symm⟩
  rw [Int.toNat_natCast]
  obtain ⟨r, b, t, h1, h2⟩ := deal_l0 (n := m) (by omega) s (List.replicate m 0) (by simp) hs m 0 k (List.replicate m 0) (by omega) (by simp) (fun a ha => by omega) (by omega)
  rcases h2 with ⟨rfl, h3, h4, h5⟩ | ⟨rfl, rfl, rfl, h5⟩
  · exact ⟨r, true, t, h1, h5, .inl ⟨rfl, by omega, h4⟩, by omega⟩
  · exact ⟨[], false, t, h1, hs, .inr ⟨rfl, rfl, by omega⟩, by simp⟩
/-! ### what is picked -/
theorem sum_l0 (l : List Int) (hl : l.length ≤ 300) : ∀ (r : List Int) (i k : Nat) (acc : Int), l.drop i = r → r.length < k → 0 ≤ acc → acc ≤ 4294967296 → ∃ t b, draw_sum.l0 k acc l (l.length : Int) (i : Int) = some (t, b) ∧ (b = true → (∀ w ∈ r, 0 ≤ w ∧ w ≤ 4294967296) ∧ 0 ≤ t ∧ t ≤ 4294967296) := by
  intro r
  induction r with
  | nil =>
    intro i k acc h hk h0 h1
    obtain ⟨k, rfl⟩ : ∃ q, k = q + 1 := ⟨k - 1, by simp at hk; omega⟩
    have := drop_nil h
    refine ⟨acc, true, ?_, fun _ => ⟨fun w hw => (by cases hw), h0, h1⟩⟩
    rw [draw_sum.l0, if_neg (by omega)]
  | cons x xs ih =>
    intro i k acc h hk h0 h1
    simp only [List.length_cons] at hk
    obtain ⟨k, rfl⟩ : ∃ q, k = q + 1 := ⟨k - 1, by omega⟩
    obtain ⟨g1, g2, g3⟩ := rd_drop h
    rw [draw_sum.l0, if_pos (by omega), if_pos (by omega), if_pos (by omega), g2, show wrap64 (4294967296 - acc) = 4294967296 - acc by unfold wrap64; omega]
    by_cases c1 : x < 0
    · exact ⟨0, false, by rw [if_pos c1], fun e => by cases e⟩
    rw [if_neg c1]
    by_cases c2 : x > 4294967296 - acc
    · exact ⟨0, false, by rw [if_pos c2], fun e => by cases e⟩
    rw [if_neg c2, show wrap64 (acc + x) = acc + x by unfold wrap64; omega, wrap_i (by omega)]
    obtain ⟨t, b, e1, e2⟩ := ih (i + 1) k (acc + x) g3 (by omega) (by omega) (by omega)
    refine ⟨t, b, e1, fun hb => ⟨fun w hw => ?_, (e2 hb).2⟩⟩
    rcases List.mem_cons.1 hw with rfl | hw
    · omega
    · exact (e2 hb).1 w hw
theorem pick_l0 (l s : List Int) (hl : l.length ≤ 300) : ∀ (r : List Int) (i k : Nat) (d : Int), l.drop i = r → r.length < k → (∀ w ∈ r, 0 ≤ w ∧ w ≤ 4294967296) → 0 ≤ d → d ≤ 4294967296 → ∃ j b t, draw_Stream_Pick.l0 k l s d (i : Int) = some (j, b, t) ∧ ((b = false ∧ j = 0) ∨ (b = true ∧ 0 ≤ j ∧ j < l.length ∧ rd l j > 0)) := by
  intro r
  induction r with
  | nil =>
    intro i k d h hk _ h0 h1
    obtain ⟨k, rfl⟩ : ∃ q, k = q + 1 := ⟨k - 1, by simp at hk; omega⟩
    have := drop_nil h
    refine ⟨0, false, s, ?_, .inl ⟨rfl, rfl⟩⟩
    rw [draw_Stream_Pick.l0, if_neg (by omega)]
  | cons x xs ih =>
    intro i k d h hk hw h0 h1
    simp only [List.length_cons] at hk
    obtain ⟨k, rfl⟩ : ∃ q, k = q + 1 := ⟨k - 1, by omega⟩
    obtain ⟨g1, g2, g3⟩ := rd_drop h
    have hx := hw x List.mem_cons_self
    rw [draw_Stream_Pick.l0, if_pos (by omega), if_pos (by omega), g2]
    by_cases c1 : d < x
    · exact ⟨(i : Int), true, s, by rw [if_pos c1], .inr ⟨rfl, by omega, by omega, by rw [g2]; omega⟩⟩
    rw [if_neg c1, show wrap64 (d - x) = d - x by unfold wrap64; omega, wrap_i (by omega)]
    exact ih (i + 1) k (d - x) g3 (by omega) (fun w hw' => hw w (List.mem_cons_of_mem _ hw')) (by omega) (by omega)
theorem pick_is (l s : List Int) (hl : l.length ≤ 300) (hs : s.length ≤ 4096) (k : Nat) (hk : 5000 < k) : ∃ j b t, draw_Stream_Pick.f k l s = some (j, b, t) ∧ ((b = false ∧ j = 0) ∨ (b = true ∧ 0 ≤ j ∧ j < l.length ∧ rd l j > 0)) := by
  unfold draw_Stream_Pick.f draw_sum.f
  obtain ⟨t, b, h1, h2⟩ := sum_l0 l hl l 0 k 0 (by simp) (by omega) (by omega) (by omega)
  rw [show ((0 : Nat) : Int) = 0 from rfl] at h1
  rw [h1, Option.bind_some]
  cases b with
  | false => exact ⟨0, false, s, rfl, .inl ⟨rfl, rfl⟩⟩
  | true =>
    obtain ⟨w1, w2, w3⟩ := h2 rfl
    rw [if_pos rfl, below_is _ _ (by omega) _ (by omega), Option.bind_some]
    unfold belowS
    by_cases hb : (fair s t).2.2 = true
    · have ht : 1 ≤ t := by
        rcases Int.lt_or_le t 1 with c | c
        · unfold fair at hb; rw [if_pos c] at hb; cases hb
        · exact c
      obtain ⟨q1, q2⟩ := fair_in (l := s) (n := t) ht
      simp only
      rw [if_pos hb]
      exact pick_l0 l _ hl l 0 k _ (by simp) (by omega) w1 q1 (by omega)
    · simp only
      rw [if_neg hb]
      exact ⟨0, false, _, rfl, .inl ⟨rfl, rfl⟩⟩
end Go.Proofs.Ytkffeglkbpfndaa.Pure
