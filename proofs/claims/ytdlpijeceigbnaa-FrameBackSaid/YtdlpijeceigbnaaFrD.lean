/- Frames: bytes that come in parts make the same frames. -/
import Derived.Test.YtdlpijeceigbnaaFrC
set_option linter.unusedSimpArgs false
set_option linter.unusedVariables false
namespace Go.Proofs.Ytdlpijeceigbnaa.Pure
open Go.RowKit Go.Proofs.Ytdlpijeceigbnaa.XFR Go.Proofs.YtdlpijeceigbnaaW.PrintWords Go.Proofs.YtdlpijeceigbnaaW.PrintLast Go.Proofs.YtdlpijeceigbnaaW.PrintMore

theorem sc_ten (b : List Int) (hb : Bytes b) : ∀ r i v c, sc b r i = some (v, c) → c ≤ 10 ∧ i < c ∧ rd b ((c - 1 : Nat) : Int) < 128 ∧ (c = 10 → 9223372036854775808 ≤ v)
  | 0, _, _, _, h => by simp [sc] at h
  | r + 1, i, v, c, h => by
    rw [sc] at h
    split at h
    · have := sc_ten b hb r (i + 1) v c h
      omega
    · split at h
      · simp at h
      · rename_i h1 h2
        simp only [Option.some.injEq, Prod.mk.injEq] at h
        obtain ⟨rfl, rfl⟩ := h
        refine ⟨by omega, by omega, by rw [Nat.add_sub_cancel]; omega, fun h9 => ?_⟩
        obtain rfl : i = 9 := by omega
        have hr := rd_range hb (9 : Nat)
        have hx : rd b ((9 : Nat) : Int) = 1 := by omega
        rw [lo, hx]
        have e : (128 : Nat) ^ 9 = 9223372036854775808 := by decide
        omega
theorem rd_append (b c : List Int) (j : Nat) (h : j < b.length) : rd (b ++ c) j = rd b j := by
  unfold rd
  rw [Int.toNat_natCast, List.getD_eq_getElem?_getD, List.getD_eq_getElem?_getD, List.getElem?_append_left h]
theorem lo_append (b c : List Int) : ∀ i, i ≤ b.length → lo (b ++ c) i = lo b i
  | 0, _ => rfl
  | i + 1, h => by rw [lo, lo, lo_append b c i (by omega), rd_append b c i (by omega)]
theorem sc_append (b c : List Int) : ∀ r i v n, i + r = b.length → sc b r i = some (v, n) → sc (b ++ c) (r + c.length) i = some (v, n)
  | 0, _, _, _, _, h => by simp [sc] at h
  | r + 1, i, v, n, hi, h => by
    rw [show r + 1 + c.length = (r + c.length) + 1 by omega, sc]
    rw [sc] at h
    rw [rd_append b c i (by omega)]
    split at h
    · rw [if_pos (by assumption)]
      exact sc_append b c r (i + 1) v n (by omega) h
    · rw [if_neg (by assumption)]
      split at h
      · simp at h
      · rw [if_neg (by assumption), lo_append b c (i + 1) (by omega)]
        exact h
theorem sc_bad (b c : List Int) : ∀ r i, i + r = b.length → sc b r i = none → lows (b.drop i) = true → sc (b ++ c) (r + c.length) i = none
  | 0, i, hi, _, h => by rw [List.drop_eq_nil_of_le (by omega)] at h; simp [lows] at h
  | r + 1, i, hi, h, hl => by
    rw [show r + 1 + c.length = (r + c.length) + 1 by omega, sc]
    rw [sc] at h
    rw [rd_append b c i (by omega)]
    rw [drop_succ (by omega)] at hl
    split at h
    · rename_i h1
      rw [if_pos h1]
      refine sc_bad b c r (i + 1) (by omega) h ?_
      simpa [lows, show ¬ rd b i < 128 by omega] using hl
    · rw [if_neg (by assumption)]
      split at h
      · rw [if_pos (by assumption)]
      · simp at h
theorem rdS_zero (b : List Int) : rdS b 0 = sc b b.length 0 := by
  unfold rdS
  rw [if_pos ⟨by omega, by omega⟩]
  simp
theorem uintS_nine {b : List Int} (hb : Bytes b) {v nx : Int} (h : uintS b 0 = (v, nx, 0)) : nx ≤ 9 := by
  unfold uintS at h
  rw [rdS_zero] at h
  cases hs : sc b b.length 0 with
  | none => rw [hs] at h; simp at h
  | some p =>
    obtain ⟨w, c⟩ := p
    rw [hs] at h
    have := sc_ten b hb _ _ _ _ hs
    simp only [] at h
    split at h
    · simp at h
    · simp only [Prod.mk.injEq] at h
      omega
theorem uintS_append_ok {b : List Int} (c : List Int) {v nx : Int} (h : uintS b 0 = (v, nx, 0)) : uintS (b ++ c) 0 = (v, nx, 0) := by
  rw [← h]
  unfold uintS at h ⊢
  rw [rdS_zero] at h ⊢
  rw [rdS_zero]
  cases hs : sc b b.length 0 with
  | none => rw [hs] at h; simp at h
  | some p =>
    obtain ⟨w, n⟩ := p
    rw [List.length_append, sc_append b c _ _ _ _ (by omega) hs]
theorem lows_append (b c : List Int) : lows (b ++ c) = (lows b || lows c) := by unfold lows; rw [List.any_append]
theorem lows_false {b : List Int} (h : lows b = false) (j : Nat) (hj : j < b.length) : ¬ rd b j < 128 := by
  intro hlt
  unfold lows at h
  rw [List.any_eq_false] at h
  have := h (b[j]) (List.getElem_mem hj)
  have e : rd b j = b[j] := by
    unfold rd
    rw [Int.toNat_natCast, List.getD_eq_getElem?_getD, List.getElem?_eq_getElem hj]
    rfl
  rw [e] at hlt
  simp [hlt] at this
theorem uintS_append_bad {b : List Int} (c : List Int) (hb : Bytes (b ++ c)) (h : uintS b 0 = (0, 0, 2)) (ho : opn b = false) : uintS (b ++ c) 0 = (0, 0, 2) ∧ opn (b ++ c) = false := by
  have ho2 : opn (b ++ c) = false := by
    unfold opn at ho ⊢
    rw [lows_append]
    by_cases h9 : b.length < 9
    · simp [h9] at ho
      simp [ho]
    · rw [decide_eq_false (show ¬ (b ++ c).length < 9 by rw [List.length_append]; omega)]
      rfl
  refine ⟨?_, ho2⟩
  unfold uintS at h ⊢
  rw [rdS_zero] at h ⊢
  cases hs : sc b b.length 0 with
  | some p =>
    obtain ⟨w, n⟩ := p
    rw [hs] at h
    rw [List.length_append, sc_append b c _ _ _ _ (by omega) hs]
    exact h
  | none =>
    by_cases hl : lows b = true
    · rw [List.length_append, sc_bad b c _ 0 (by omega) hs (by rw [List.drop_zero]; exact hl)]
    · have hl' : lows b = false := by simpa using hl
      have h9 : ¬ b.length < 9 := by
        intro h9
        unfold opn at ho
        simp [h9, hl'] at ho
      cases hs2 : sc (b ++ c) (b ++ c).length 0 with
      | none => rfl
      | some p =>
        obtain ⟨w, n⟩ := p
        obtain ⟨q1, q2, q3, q4⟩ := sc_ten _ hb _ _ _ _ hs2
        have hn : n = 10 := by
          by_cases hn : n - 1 < b.length
          · rw [rd_append b c _ hn] at q3
            exact absurd q3 (lows_false hl' _ hn)
          · omega
        simp only []
        rw [if_pos (by have := q4 hn; omega)]
/-- More rounds than bytes: it is all one. -/
theorem frS_fuel : ∀ (n m : Nat) (b : List Int), Bytes b → b.length < n → b.length < m → frS n b = frS m b
  | 0, _, b, _, h, _ => by omega
  | _ + 1, 0, b, _, _, h => by omega
  | n + 1, m + 1, b, hb, h1, h2 => by
    rw [frS, frS]
    rcases uintS_facts hb 0 with h | ⟨v, nx, h, g1, g2, g3, g4, g5⟩
    · rw [h]
      simp
    · rw [h]
      simp only [if_true]
      split
      · rfl
      · split
        · rfl
        · rw [frS_fuel n m (b.drop (nx + v).toNat) (bytes_drop hb _) (by rw [List.length_drop]; omega) (by rw [List.length_drop]; omega)]
/-- Bytes behind bytes. -/
theorem frS_append : ∀ (n m : Nat) (b c : List Int), Bytes (b ++ c) → b.length < n → (b ++ c).length < m →
    frS m (b ++ c) = if (frS n b).2.1 = 0 then ((frS n b).1 ++ (frS (((frS n b).2.2 ++ c).length + 1) ((frS n b).2.2 ++ c)).1, (frS (((frS n b).2.2 ++ c).length + 1) ((frS n b).2.2 ++ c)).2) else frS n b
  | 0, _, b, c, _, h, _ => by omega
  | _ + 1, 0, b, c, _, _, h => by omega
  | n + 1, m + 1, b, c, hb, h1, h2 => by
    have hb1 : Bytes b := fun x hx => hb x (List.mem_append_left _ hx)
    have stay : frS (n + 1) b = ([], 0, b) → frS (m + 1) (b ++ c) = if (frS (n + 1) b).2.1 = 0 then ((frS (n + 1) b).1 ++ (frS (((frS (n + 1) b).2.2 ++ c).length + 1) ((frS (n + 1) b).2.2 ++ c)).1, (frS (((frS (n + 1) b).2.2 ++ c).length + 1) ((frS (n + 1) b).2.2 ++ c)).2) else frS (n + 1) b := by
      intro e
      rw [e]
      simp only [if_true, List.nil_append]
      exact frS_fuel (m + 1) _ _ hb h2 (Nat.lt_succ_self _)
    rcases uintS_facts hb1 0 with h | ⟨v, nx, h, g1, g2, g3, g4, g5⟩
    · by_cases ho : opn b = true
      · refine stay ?_
        rw [frS, h]
        simp [ho]
      · have ho' : opn b = false := by simpa using ho
        obtain ⟨h3, h4⟩ := uintS_append_bad c hb h ho'
        have e1 : frS (n + 1) b = ([], 2, []) := by rw [frS, h]; simp [ho']
        have e2 : frS (m + 1) (b ++ c) = ([], 2, []) := by rw [frS, h3]; simp [h4]
        rw [e1, e2]
        simp
    · have h3 := uintS_append_ok c h
      by_cases hv : v > 4096
      · have e1 : frS (n + 1) b = ([], 3, []) := by rw [frS, h]; simp [hv]
        have e2 : frS (m + 1) (b ++ c) = ([], 3, []) := by rw [frS, h3]; simp [hv]
        rw [e1, e2]
        simp
      · by_cases hw : v > (b.length : Int) - nx
        · refine stay ?_
          rw [frS, h]
          simp only [if_true]
          rw [if_neg hv, if_pos hw]
        · have hd : (b ++ c).drop (nx + v).toNat = b.drop (nx + v).toNat ++ c := List.drop_append_of_le_length (by omega)
          have ht : ((b ++ c).drop nx.toNat).take v.toNat = (b.drop nx.toNat).take v.toNat := by
            rw [List.drop_append_of_le_length (by omega), List.take_append_of_le_length (by rw [List.length_drop]; omega)]
          have hla : (b ++ c).length = b.length + c.length := List.length_append
          have ih := frS_append n m (b.drop (nx + v).toNat) c (by rw [← hd]; exact bytes_drop hb _) (by rw [List.length_drop]; omega) (by rw [← hd, List.length_drop]; omega)
          rw [frS, frS, h, h3]
          simp only [if_true]
          rw [if_neg hv, if_neg hv, if_neg hw, if_neg (by rw [List.length_append]; omega), hd, ht, ih]
          by_cases hc : (frS n (b.drop (nx + v).toNat)).2.1 = 0
          · rw [if_pos hc]
            simp only [hc, if_true, List.cons_append]
          · rw [if_neg hc]
            simp only [hc, if_false]
/-- What becomes of bytes: the codes, what waits. -/
theorem frS_codes : ∀ (n : Nat) (b : List Int), Bytes b → b.length < n → ((frS n b).2.1 = 0 ∧ (frS n b).2.2.length ≤ 4104 ∨ ((frS n b).2.1 = 2 ∨ (frS n b).2.1 = 3) ∧ (frS n b).2.2 = []) ∧ ∀ x ∈ (frS n b).1, x.length ≤ 4096
  | 0, b, _, h => by omega
  | n + 1, b, hb, hn => by
    rw [frS]
    rcases uintS_facts hb 0 with h | ⟨v, nx, h, g1, g2, g3, g4, g5⟩
    · rw [h]
      simp only []
      rw [if_neg (show ¬ ((2 : Int) = 0) by decide)]
      by_cases ho : opn b = true
      · rw [if_pos ho]
        refine ⟨Or.inl ⟨rfl, ?_⟩, by simp⟩
        unfold opn at ho
        simp at ho
        show b.length ≤ 4104
        omega
      · rw [if_neg ho]
        exact ⟨Or.inr ⟨Or.inl rfl, rfl⟩, by simp⟩
    · have h9 := uintS_nine hb h
      rw [h]
      simp only [if_true]
      split
      · exact ⟨Or.inr ⟨Or.inr rfl, rfl⟩, by simp⟩
      · split
        · exact ⟨Or.inl ⟨rfl, by show b.length ≤ 4104; omega⟩, by simp⟩
        · obtain ⟨i1, i2⟩ := frS_codes n (b.drop (nx + v).toNat) (bytes_drop hb _) (by rw [List.length_drop]; omega)
          refine ⟨i1, fun x hx => ?_⟩
          simp only [List.mem_cons] at hx
          rcases hx with rfl | hx
          · rw [List.length_take]; omega
          · exact i2 x hx
end Go.Proofs.Ytdlpijeceigbnaa.Pure
