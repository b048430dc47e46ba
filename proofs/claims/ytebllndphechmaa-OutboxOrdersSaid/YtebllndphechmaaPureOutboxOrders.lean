/- A box: what is drained is what was put, in order, until something is lost. -/
import Derived.Test.YtebllndphechmaaOutA
import Derived.Test.YtebllndphechmaaXOBx5
set_option linter.unusedSimpArgs false
set_option linter.unusedVariables false
set_option linter.unusedSectionVars false
namespace Go.Proofs.Ytebllndphechmaa.Pure
open Go.RowKit Go.Proofs.Ytebllndphechmaa.XOB Go.Proofs.YtebllndphechmaaW.PrintWords Go.Proofs.YtebllndphechmaaW.PrintLast Go.Proofs.YtebllndphechmaaW.PrintMore

/-- The load of a number. -/
def enc (n : Nat) : List Int := [(n : Int) % 256, ((n / 256 : Nat) : Int) % 256]
def encs (q n : Nat) : List (List Int) := (List.range n).map fun j => enc (q + j)
theorem encs_len (q n : Nat) : (encs q n).length = n := by simp [encs]
theorem enc_eq (n : Nat) (h : n ≤ 100000) : enc n = [(n : Int) % 256, wrap64 (Int.tdiv (n : Int) 256) % 256] := by
  unfold enc
  have e : Int.tdiv (n : Int) 256 = ((n / 256 : Nat) : Int) := by rw [show (256 : Int) = ((256 : Nat) : Int) from rfl, Int.ofNat_tdiv]
  rw [e, w64 (by omega) (by omega)]
theorem encs_at (q m j : Nat) (h : j < m) : rd_L1 (encs q m) j = enc (q + j) := by
  rw [rdL_get (by rw [encs_len]; exact h)]
  simp [encs]
theorem encs_push (q n p : Nat) (h : p = q + n) : encs q n ++ [enc p] = encs q (n + 1) := by
  subst h
  simp [encs, List.range_succ]
theorem encs_take (q n m : Nat) (h : m ≤ n) : (encs q n).take m = encs q m := by
  unfold encs
  rw [← List.map_take, List.take_range, Nat.min_eq_left h]
theorem encs_drop (q n m : Nat) (h : m ≤ n) : (encs q n).drop m = encs (q + m) (n - m) := by
  apply List.ext_getElem
  · simp [encs]
  · intro j h1 h2
    simp [encs, Nat.add_assoc]
/-- Behind i steps, p were put, and q came. -/
abbrev Ata (l1 : List S29) (i p q : Nat) : Prop := Ev (fun k => barrowlaw26_OutboxOrders.l0 k l1 p q i (64, encs q (p - q)) false true = some true)
theorem ord_a2 (l1 : List S29) (i p q m : Nat) (hi : i < l1.length) (hl : l1.length ≤ 100) (hp : p ≤ 10000) (hm : q + m ≤ p) (h : Ata l1 (i + 1) p (q + m)) :
    ∀ (n j : Nat), j + n = m → Ev (fun k => barrowlaw26_OutboxOrders.l2 k l1 i p ((q + j : Nat) : Int) j false true (encs q m) (64, encs (q + m) (p - (q + m))) = some true) := by
  intro n
  induction n with
  | zero =>
    intro j hj
    obtain rfl : j = m := by omega
    refine h.step fun k hk => ?_
    rw [barrowlaw26_OutboxOrders.l2, if_neg (by rw [encs_len]; omega)]
    simp only [outbox_Box_Len_i1.f, outbox_Box_Lost_i1.f, Option.bind_some]
    rw [if_pos (by rw [w64 (by omega) (by omega), encs_len]; omega), if_neg (by decide), w64 (by omega) (by omega)]
    exact hk
  | succ n ih =>
    intro j hj
    refine (ih (j + 1) (by omega)).step fun k hk => ?_
    rw [barrowlaw26_OutboxOrders.l2, if_pos (by rw [encs_len]; omega), if_pos (by omega), Option.bind_some, Option.bind_some, encs_at q m j (by omega), if_pos (by rw [enc_eq (q + j) (by omega)]), w64 (by omega) (by omega), w64 (by omega) (by omega)]
    exact hk
theorem ord_a1 (l1 : List S29) (i p0 q : Nat) (hi : i < l1.length) (hl : l1.length ≤ 100) (hp0 : p0 ≤ 64 * i) (hq : q ≤ p0)
    (h : ∀ p m, p ≤ q + 64 → q + m ≤ p → (p : Int) ≤ (q + m : Nat) + 64 → Ata l1 (i + 1) p (q + m)) :
    ∀ (n p x : Nat), (p : Int) + n = q + 64 → q ≤ p → x ≤ p → Ev (fun k => barrowlaw26_OutboxOrders.l1 k l1 q i p x (64, encs q (p - q)) false true = some true) := by
  intro n
  induction n with
  | zero =>
    intro p x hn hqp hx
    by_cases cx : (x : Int) < Go.bits .and .i64 (rd_T29 l1 i).f0 15
    · refine (Ev.ge 200).step fun k hk => ?_
      rw [barrowlaw26_OutboxOrders.l1, if_pos (by omega), if_pos (by omega), if_pos cx]
      simp only [outbox_Box_Len_i1.f, outbox_Box_Lost_i1.f, Option.bind_some]
      rw [if_pos (by rw [encs_len]; omega), put_eq k _ false 64 _ (by simp) (by rw [encs_len]; omega)]
      simp only [Option.bind_some]
      have e1 : putS [(p : Int) % 256, wrap64 (Int.tdiv (p : Int) 256) % 256] false 64 (encs q (p - q)) = (false, true, []) := by
        unfold putS
        rw [if_neg (by decide), if_neg (by rw [encs_len]; omega)]
      rw [e1]
      simp only [beq_iff_eq, Bool.false_eq_true, if_false, if_true, List.length_nil]
      rw [if_pos (by omega), drain_eq k _ true 64 [] (by simp) (by simp; omega)]
      simp only [Option.bind_some, List.take_nil, List.drop_nil, List.length_nil]
      rw [if_pos (by omega), put_eq k _ true 64 [] (by simp) (by simp; omega)]
      simp [putS]
    · refine ((ord_a2 l1 i p q (many (Go.bits .and .i64 (rd_T29 l1 i).f1 15) (encs q (p - q)).length) hi hl (by omega) (by have := many_le (Go.bits .and .i64 (rd_T29 l1 i).f1 15) (encs q (p - q)).length; rw [encs_len] at this ⊢; omega) (h p _ (by omega) (by have := many_le (Go.bits .and .i64 (rd_T29 l1 i).f1 15) (encs q (p - q)).length; rw [encs_len] at this ⊢; omega) (by omega)) _ 0 (Nat.zero_add _)).and (Ev.ge 200)).step fun k hk => ?_
      rw [barrowlaw26_OutboxOrders.l1, if_pos (by omega), if_pos (by omega), if_neg cx]
      simp only [outbox_Box_Len_i1.f, outbox_Box_Lost_i1.f, Option.bind_some]
      rw [if_neg (by rw [encs_len]; omega), if_pos (by rw [encs_len, w64 (by omega) (by omega)]; omega), drain_eq k _ false 64 _ (by rw [encs_len]; omega) (by rw [encs_len]; omega), Option.bind_some, encs_take, encs_drop, Nat.sub_sub]
      · simpa using hk.1
      · exact Nat.le_trans (many_le _ _) (by rw [encs_len]; exact Nat.le_refl _)
      · exact Nat.le_trans (many_le _ _) (by rw [encs_len]; exact Nat.le_refl _)
  | succ n ih =>
    intro p x hn hqp hx
    by_cases cx : (x : Int) < Go.bits .and .i64 (rd_T29 l1 i).f0 15
    · refine ((ih (p + 1) (x + 1) (by omega) (by omega) (by omega)).and (Ev.ge 200)).step fun k hk => ?_
      rw [barrowlaw26_OutboxOrders.l1, if_pos (by omega), if_pos (by omega), if_pos cx]
      simp only [outbox_Box_Len_i1.f, outbox_Box_Lost_i1.f, Option.bind_some]
      rw [if_neg (by rw [encs_len]; omega), put_eq k _ false 64 _ (by simp) (by rw [encs_len]; omega)]
      simp only [Option.bind_some]
      have e1 : putS [(p : Int) % 256, wrap64 (Int.tdiv (p : Int) 256) % 256] false 64 (encs q (p - q)) = (true, false, encs q (p + 1 - q)) := by
        unfold putS
        rw [if_neg (by decide), if_pos (by rw [encs_len]; omega), ← enc_eq p (by omega), encs_push q (p - q) p (by omega), show p - q + 1 = p + 1 - q by omega]
      rw [e1]
      simp only [beq_iff_eq, Bool.true_eq_false, if_false]
      rw [w64 (by omega) (by omega), w64 (by omega) (by omega)]
      exact hk.1
    · refine ((ord_a2 l1 i p q (many (Go.bits .and .i64 (rd_T29 l1 i).f1 15) (encs q (p - q)).length) hi hl (by omega) (by have := many_le (Go.bits .and .i64 (rd_T29 l1 i).f1 15) (encs q (p - q)).length; rw [encs_len] at this ⊢; omega) (h p _ (by omega) (by have := many_le (Go.bits .and .i64 (rd_T29 l1 i).f1 15) (encs q (p - q)).length; rw [encs_len] at this ⊢; omega) (by omega)) _ 0 (Nat.zero_add _)).and (Ev.ge 200)).step fun k hk => ?_
      rw [barrowlaw26_OutboxOrders.l1, if_pos (by omega), if_pos (by omega), if_neg cx]
      simp only [outbox_Box_Len_i1.f, outbox_Box_Lost_i1.f, Option.bind_some]
      rw [if_neg (by rw [encs_len]; omega), if_pos (by rw [encs_len, w64 (by omega) (by omega)]; omega), drain_eq k _ false 64 _ (by rw [encs_len]; omega) (by rw [encs_len]; omega), Option.bind_some, encs_take, encs_drop, Nat.sub_sub]
      · simpa using hk.1
      · exact Nat.le_trans (many_le _ _) (by rw [encs_len]; exact Nat.le_refl _)
      · exact Nat.le_trans (many_le _ _) (by rw [encs_len]; exact Nat.le_refl _)
theorem ord_a0 (l1 : List S29) (hl : l1.length ≤ 100) : ∀ (n i p q : Nat), i + n = l1.length → p ≤ 64 * i → q ≤ p → (p : Int) ≤ q + 64 → Ata l1 i p q := by
  intro n
  induction n with
  | zero =>
    intro i p q hi hp hq hc0
    refine (Ev.ge 0).step fun k _ => ?_
    rw [barrowlaw26_OutboxOrders.l0, if_neg (by omega)]
  | succ n ih =>
    intro i p q hi hp hq hc0
    refine (ord_a1 l1 i p q (by omega) hl hp hq (fun p' m h1 h2 h3 => ih (i + 1) p' (q + m) (by omega) (by omega) h2 h3) ((q : Int) + 64 - p).toNat p 0 (by omega) hq (by omega)).step fun k hk => ?_
    rw [barrowlaw26_OutboxOrders.l0, if_pos (by omega)]
    exact hk
/-- Behind i steps, p were put, and q came. -/
abbrev Atb (l1 : List S29) (c : Int) (i p q : Nat) : Prop := Ev (fun k => barrowlaw26_OutboxOrders.l100 k c l1 true (c, encs q (p - q)) false p q i = some true)
theorem ord_b2 (l1 : List S29) (c : Int) (i p q m : Nat) (hi : i < l1.length) (hl : l1.length ≤ 100) (hp : p ≤ 10000) (hm : q + m ≤ p) (h : Atb l1 c (i + 1) p (q + m)) :
    ∀ (n j : Nat), j + n = m → Ev (fun k => barrowlaw26_OutboxOrders.l102 k c l1 true i false p (encs q m) (c, encs (q + m) (p - (q + m))) ((q + j : Nat) : Int) j = some true) := by
  intro n
  induction n with
  | zero =>
    intro j hj
    obtain rfl : j = m := by omega
    refine h.step fun k hk => ?_
    rw [barrowlaw26_OutboxOrders.l102, if_neg (by rw [encs_len]; omega)]
    simp only [outbox_Box_Len_i1.f, outbox_Box_Lost_i1.f, Option.bind_some]
    rw [if_pos (by rw [w64 (by omega) (by omega), encs_len]; omega), if_neg (by decide), w64 (by omega) (by omega)]
    exact hk
  | succ n ih =>
    intro j hj
    refine (ih (j + 1) (by omega)).step fun k hk => ?_
    rw [barrowlaw26_OutboxOrders.l102, if_pos (by rw [encs_len]; omega), if_pos (by omega), Option.bind_some, Option.bind_some, encs_at q m j (by omega), if_pos (by rw [enc_eq (q + j) (by omega)]), w64 (by omega) (by omega), w64 (by omega) (by omega)]
    exact hk
theorem ord_b1 (l1 : List S29) (c : Int) (hc : 1 ≤ c ∧ c ≤ 64) (i p0 q : Nat) (hi : i < l1.length) (hl : l1.length ≤ 100) (hp0 : p0 ≤ 64 * i) (hq : q ≤ p0)
    (h : ∀ p m, p ≤ q + 64 → q + m ≤ p → (p : Int) ≤ (q + m : Nat) + c → Atb l1 c (i + 1) p (q + m)) :
    ∀ (n p x : Nat), (p : Int) + n = q + c → q ≤ p → x ≤ p → Ev (fun k => barrowlaw26_OutboxOrders.l101 k c l1 true q i (c, encs q (p - q)) false p x = some true) := by
  intro n
  induction n with
  | zero =>
    intro p x hn hqp hx
    by_cases cx : (x : Int) < Go.bits .and .i64 (rd_T29 l1 i).f0 15
    · refine (Ev.ge 200).step fun k hk => ?_
      rw [barrowlaw26_OutboxOrders.l101, if_pos (by omega), if_pos (by omega), if_pos cx]
      simp only [outbox_Box_Len_i1.f, outbox_Box_Lost_i1.f, Option.bind_some]
      rw [if_pos (by rw [encs_len]; omega), put_eq k _ false c _ (by simp) (by rw [encs_len]; omega)]
      simp only [Option.bind_some]
      have e1 : putS [(p : Int) % 256, wrap64 (Int.tdiv (p : Int) 256) % 256] false c (encs q (p - q)) = (false, true, []) := by
        unfold putS
        rw [if_neg (by decide), if_neg (by rw [encs_len]; omega)]
      rw [e1]
      simp only [beq_iff_eq, Bool.false_eq_true, if_false, if_true, List.length_nil]
      rw [if_pos (by omega), drain_eq k _ true c [] (by simp) (by simp; omega)]
      simp only [Option.bind_some, List.take_nil, List.drop_nil, List.length_nil]
      rw [if_pos (by omega), put_eq k _ true c [] (by simp) (by simp; omega)]
      simp [putS]
    · refine ((ord_b2 l1 c i p q (many (Go.bits .and .i64 (rd_T29 l1 i).f1 15) (encs q (p - q)).length) hi hl (by omega) (by have := many_le (Go.bits .and .i64 (rd_T29 l1 i).f1 15) (encs q (p - q)).length; rw [encs_len] at this ⊢; omega) (h p _ (by omega) (by have := many_le (Go.bits .and .i64 (rd_T29 l1 i).f1 15) (encs q (p - q)).length; rw [encs_len] at this ⊢; omega) (by omega)) _ 0 (Nat.zero_add _)).and (Ev.ge 200)).step fun k hk => ?_
      rw [barrowlaw26_OutboxOrders.l101, if_pos (by omega), if_pos (by omega), if_neg cx]
      simp only [outbox_Box_Len_i1.f, outbox_Box_Lost_i1.f, Option.bind_some]
      rw [if_neg (by rw [encs_len]; omega), if_pos (by rw [encs_len, w64 (by omega) (by omega)]; omega), drain_eq k _ false c _ (by rw [encs_len]; omega) (by rw [encs_len]; omega), Option.bind_some, encs_take, encs_drop, Nat.sub_sub]
      · simpa using hk.1
      · exact Nat.le_trans (many_le _ _) (by rw [encs_len]; exact Nat.le_refl _)
      · exact Nat.le_trans (many_le _ _) (by rw [encs_len]; exact Nat.le_refl _)
  | succ n ih =>
    intro p x hn hqp hx
    by_cases cx : (x : Int) < Go.bits .and .i64 (rd_T29 l1 i).f0 15
    · refine ((ih (p + 1) (x + 1) (by omega) (by omega) (by omega)).and (Ev.ge 200)).step fun k hk => ?_
      rw [barrowlaw26_OutboxOrders.l101, if_pos (by omega), if_pos (by omega), if_pos cx]
      simp only [outbox_Box_Len_i1.f, outbox_Box_Lost_i1.f, Option.bind_some]
      rw [if_neg (by rw [encs_len]; omega), put_eq k _ false c _ (by simp) (by rw [encs_len]; omega)]
      simp only [Option.bind_some]
      have e1 : putS [(p : Int) % 256, wrap64 (Int.tdiv (p : Int) 256) % 256] false c (encs q (p - q)) = (true, false, encs q (p + 1 - q)) := by
        unfold putS
        rw [if_neg (by decide), if_pos (by rw [encs_len]; omega), ← enc_eq p (by omega), encs_push q (p - q) p (by omega), show p - q + 1 = p + 1 - q by omega]
      rw [e1]
      simp only [beq_iff_eq, Bool.true_eq_false, if_false]
      rw [w64 (by omega) (by omega), w64 (by omega) (by omega)]
      exact hk.1
    · refine ((ord_b2 l1 c i p q (many (Go.bits .and .i64 (rd_T29 l1 i).f1 15) (encs q (p - q)).length) hi hl (by omega) (by have := many_le (Go.bits .and .i64 (rd_T29 l1 i).f1 15) (encs q (p - q)).length; rw [encs_len] at this ⊢; omega) (h p _ (by omega) (by have := many_le (Go.bits .and .i64 (rd_T29 l1 i).f1 15) (encs q (p - q)).length; rw [encs_len] at this ⊢; omega) (by omega)) _ 0 (Nat.zero_add _)).and (Ev.ge 200)).step fun k hk => ?_
      rw [barrowlaw26_OutboxOrders.l101, if_pos (by omega), if_pos (by omega), if_neg cx]
      simp only [outbox_Box_Len_i1.f, outbox_Box_Lost_i1.f, Option.bind_some]
      rw [if_neg (by rw [encs_len]; omega), if_pos (by rw [encs_len, w64 (by omega) (by omega)]; omega), drain_eq k _ false c _ (by rw [encs_len]; omega) (by rw [encs_len]; omega), Option.bind_some, encs_take, encs_drop, Nat.sub_sub]
      · simpa using hk.1
      · exact Nat.le_trans (many_le _ _) (by rw [encs_len]; exact Nat.le_refl _)
      · exact Nat.le_trans (many_le _ _) (by rw [encs_len]; exact Nat.le_refl _)
theorem ord_b0 (l1 : List S29) (c : Int) (hc : 1 ≤ c ∧ c ≤ 64) (hl : l1.length ≤ 100) : ∀ (n i p q : Nat), i + n = l1.length → p ≤ 64 * i → q ≤ p → (p : Int) ≤ q + c → Atb l1 c i p q := by
  intro n
  induction n with
  | zero =>
    intro i p q hi hp hq hc0
    refine (Ev.ge 0).step fun k _ => ?_
    rw [barrowlaw26_OutboxOrders.l100, if_neg (by omega)]
  | succ n ih =>
    intro i p q hi hp hq hc0
    refine (ord_b1 l1 c hc i p q (by omega) hl hp hq (fun p' m h1 h2 h3 => ih (i + 1) p' (q + m) (by omega) (by omega) h2 h3) ((q : Int) + c - p).toNat p 0 (by omega) hq (by omega)).step fun k hk => ?_
    rw [barrowlaw26_OutboxOrders.l100, if_pos (by omega)]
    exact hk
theorem OutboxOrders : barrowlaw26_OutboxOrders.Pure := by
  intro a0 l1 _ h1
  refine Ev.get ?_
  by_cases hA : l1.length ≤ 100
  · by_cases c1 : a0 < 1
    · refine ((ord_a0 l1 hA l1.length 0 0 0 (by omega) (by omega) (by omega) (by omega)).and (small_ev.and (Ev.ge 1))).imp fun k hk => ?_
      obtain ⟨k, rfl⟩ : ∃ q, k = q + 1 := ⟨k - 1, by omega⟩
      unfold barrowlaw26_OutboxOrders.f
      have e : capv a0 = 64 := by unfold capv; rw [if_pos (.inl c1)]
      rw [hk.2.1, Option.bind_some, new_eq k a0, Option.bind_some, if_neg (by omega), if_pos c1, e]
      exact hk.1
    · by_cases c2 : a0 > 64
      · refine ((ord_a0 l1 hA l1.length 0 0 0 (by omega) (by omega) (by omega) (by omega)).and (small_ev.and (Ev.ge 1))).imp fun k hk => ?_
        obtain ⟨k, rfl⟩ : ∃ q, k = q + 1 := ⟨k - 1, by omega⟩
        unfold barrowlaw26_OutboxOrders.f
        have e : capv a0 = 64 := by unfold capv; rw [if_pos (.inr c2)]
        rw [hk.2.1, Option.bind_some, new_eq k a0, Option.bind_some, if_neg (by omega), if_neg c1, if_pos c2, e]
        exact hk.1
      · refine ((ord_b0 l1 a0 (by omega) hA l1.length 0 0 0 (by omega) (by omega) (by omega) (by omega)).and (small_ev.and (Ev.ge 1))).imp fun k hk => ?_
        obtain ⟨k, rfl⟩ : ∃ q, k = q + 1 := ⟨k - 1, by omega⟩
        unfold barrowlaw26_OutboxOrders.f
        have e : capv a0 = a0 := by unfold capv; rw [if_neg (by omega)]
        rw [hk.2.1, Option.bind_some, new_eq k a0, Option.bind_some, if_neg (by omega), if_neg c1, if_neg c2, e]
        exact hk.1
  · refine (small_ev.and (Ev.ge 1)).imp fun k hk => ?_
    obtain ⟨k, rfl⟩ : ∃ q, k = q + 1 := ⟨k - 1, by omega⟩
    unfold barrowlaw26_OutboxOrders.f
    rw [hk.1, Option.bind_some, new_eq k a0, Option.bind_some, if_pos (by omega), if_pos rfl]
end Go.Proofs.Ytebllndphechmaa.Pure
