/- Numbers as bytes (from wip/pack), for the frames. -/
import Derived.Test.YtdlpijeceigbnaaXFRx
import Derived.Laws.BitsLemmas
set_option linter.unusedSimpArgs false
set_option linter.unusedVariables false
namespace Go.Proofs.Ytdlpijeceigbnaa.Pure
open Go.RowKit Go.Proofs.Ytdlpijeceigbnaa.XFR Go.Proofs.YtdlpijeceigbnaaW.PrintWords Go.Proofs.YtdlpijeceigbnaaW.PrintLast Go.Proofs.YtdlpijeceigbnaaW.PrintMore
abbrev In64 (a : Int) : Prop := -9223372036854775808 ≤ a ∧ a ≤ 9223372036854775807
theorem i64_of {a : Int} (h : (Lit.int .i64 a).wf = true) : In64 a := by
  simp [Lit.wf, IntKind.min, IntKind.max, IntKind.bits, IntKind.signed] at h
  exact ⟨by omega, by omega⟩
theorem u8_of {a : Int} (h : (Lit.int .u8 a).wf = true) : 0 ≤ a ∧ a ≤ 255 := by
  simp [Lit.wf, IntKind.min, IntKind.max, IntKind.bits, IntKind.signed] at h
  omega
theorem u64_wrap (n : Int) : IntKind.u64.wrap n = n % 18446744073709551616 := by simp [IntKind.wrap, IntKind.bits, IntKind.signed]
/-- A number in groups of 7 bits, the lowest first. -/
def enc (n : Nat) : List Int := if h : n < 128 then [(n : Int)] else ((n % 128 + 128 : Nat) : Int) :: enc (n / 128)
termination_by n
decreasing_by omega
theorem enc_small {n : Nat} (h : n < 128) : enc n = [(n : Int)] := by rw [enc, dif_pos h]
theorem enc_big {n : Nat} (h : ¬ n < 128) : enc n = ((n % 128 + 128 : Nat) : Int) :: enc (n / 128) := by rw [enc, dif_neg h]
theorem enc_ne (n : Nat) : enc n ≠ [] := by
  rw [enc]; split <;> simp
theorem enc_len_pos (n : Nat) : 1 ≤ (enc n).length := by
  rw [enc]; split <;> simp
theorem enc_len (d : Nat) : ∀ n : Nat, n < 128 ^ (d + 1) → (enc n).length ≤ d + 1 := by
  induction d with
  | zero => intro n h; rw [enc_small (by omega)]; simp
  | succ d ih =>
    intro n h
    by_cases h1 : n < 128
    · rw [enc_small h1]; simp
    · rw [enc_big h1, List.length_cons]
      have := ih (n / 128) (by rw [Nat.pow_succ] at h; omega)
      omega
theorem enc_mono (d : Nat) : ∀ n m : Nat, n < 128 ^ (d + 1) → n ≤ m → (enc n).length ≤ (enc m).length := by
  induction d with
  | zero => intro n m h hm; rw [enc_small (by omega)]; have := enc_len_pos m; simpa using this
  | succ d ih =>
    intro n m h hm
    by_cases h1 : n < 128
    · rw [enc_small h1]; have := enc_len_pos m; simpa using this
    · rw [enc_big h1, enc_big (show ¬ m < 128 by omega), List.length_cons, List.length_cons]
      have := ih (n / 128) (m / 128) (by rw [Nat.pow_succ] at h; omega) (by omega)
      omega
theorem enc_range (d : Nat) : ∀ n : Nat, n < 128 ^ (d + 1) → ∀ x ∈ enc n, 0 ≤ x ∧ x ≤ 255 := by
  induction d with
  | zero => intro n h x hx; rw [enc_small (by omega)] at hx; simp at hx; omega
  | succ d ih =>
    intro n h x hx
    by_cases h1 : n < 128
    · rw [enc_small h1] at hx; simp at hx; omega
    · rw [enc_big h1] at hx
      rcases List.mem_cons.1 hx with rfl | hx
      · omega
      · exact ih (n / 128) (by rw [Nat.pow_succ] at h; omega) x hx
/-- No number's bytes begin another's. -/
theorem enc_prefix (d : Nat) : ∀ n m : Nat, n < 128 ^ (d + 1) → (enc n) <+: (enc m) → n = m := by
  induction d with
  | zero =>
    intro n m h hp
    rw [enc_small (by omega)] at hp
    by_cases h2 : m < 128
    · rw [enc_small h2] at hp
      obtain ⟨t, ht⟩ := hp
      simp at ht; omega
    · rw [enc_big h2] at hp
      obtain ⟨t, ht⟩ := hp
      simp at ht; omega
  | succ d ih =>
    intro n m h hp
    by_cases h1 : n < 128
    · rw [enc_small h1] at hp
      by_cases h2 : m < 128
      · rw [enc_small h2] at hp
        obtain ⟨t, ht⟩ := hp
        simp at ht; omega
      · rw [enc_big h2] at hp
        obtain ⟨t, ht⟩ := hp
        simp at ht; omega
    · rw [enc_big h1] at hp
      by_cases h2 : m < 128
      · rw [enc_small h2] at hp
        obtain ⟨t, ht⟩ := hp
        simp at ht; omega
      · rw [enc_big h2] at hp
        rw [List.cons_prefix_cons] at hp
        have := ih (n / 128) (m / 128) (by rw [Nat.pow_succ] at h; omega) hp.2
        have := hp.1
        omega
theorem enc_last (d : Nat) : ∀ n : Nat, n < 128 ^ (d + 1) → ∀ i : Nat, i + 1 = (enc n).length → (enc n).getD i 0 < 128 := by
  induction d with
  | zero =>
    intro n h i hi
    rw [enc_small (by omega)] at hi ⊢
    simp at hi; subst hi; simp; omega
  | succ d ih =>
    intro n h i hi
    by_cases h1 : n < 128
    · rw [enc_small h1] at hi ⊢
      simp at hi; subst hi; simp; omega
    · rw [enc_big h1] at hi ⊢
      rw [List.length_cons] at hi
      have hp := enc_len_pos (n / 128)
      obtain ⟨j, rfl⟩ : ∃ j, i = j + 1 := ⟨i - 1, by omega⟩
      rw [List.getD_cons_succ]
      exact ih (n / 128) (by rw [Nat.pow_succ] at h; omega) j (by omega)
theorem or128 (x : Int) (h0 : 0 ≤ x) (h1 : x < 256) : Go.bits .or .u8 x 128 = x % 128 + 128 := by
  obtain ⟨n, rfl⟩ := Int.eq_ofNat_of_zero_le h0
  have key : ∀ m : Fin 256, Go.bits .or .u8 ((m.val : Nat) : Int) 128 = ((m.val : Nat) : Int) % 128 + 128 := by decide +kernel
  exact key ⟨n, by omega⟩
theorem put_eq (d : Nat) : ∀ (k n : Nat) (l : List Int), n < 128 ^ (d + 1) → d < k → l.length + d + 1 < 140737488355328 → pack_put.l0 k l n = some (l ++ enc n) := by
  induction d with
  | zero =>
    intro k n l h hk hl
    obtain ⟨k, rfl⟩ : ∃ m, k = m + 1 := ⟨k - 1, by omega⟩
    simp only [pack_put.l0]
    rw [if_neg (by omega), if_pos (by omega), enc_small (by omega), show ((n : Int) % 256) = n by omega]
  | succ d ih =>
    intro k n l h hk hl
    obtain ⟨k, rfl⟩ : ∃ m, k = m + 1 := ⟨k - 1, by omega⟩
    simp only [pack_put.l0]
    by_cases h1 : n < 128
    · rw [if_neg (by omega), if_pos (by omega), enc_small h1, show ((n : Int) % 256) = n by omega]
    · rw [if_pos (by omega), if_pos (by omega), or128 _ (by omega) (by omega), enc_big h1]
      have := ih k (n / 128) (l ++ [((n % 128 + 128 : Nat) : Int)]) (by rw [Nat.pow_succ] at h; omega) (by omega) (by simp; omega)
      rw [show ((n : Int) % 256 % 128 + 128) = ((n % 128 + 128 : Nat) : Int) by omega, show ((n : Int) / 128) = ((n / 128 : Nat) : Int) by omega, this]
      simp
theorem clone_eq (l : List Int) (h : l.length < 140737488355328) : slices_Clone_byte_byte.f l = some l := by
  unfold slices_Clone_byte_byte.f
  simp [h]
/-- What Uint writes. -/
def nat0 (n : Int) : Nat := (max n 0).toNat
theorem pow10 : (18446744073709551616 : Nat) ≤ 128 ^ (9 + 1) := by decide
theorem uint_eq (k : Nat) (hk : 10 ≤ k) (l : List Int) (n : Int) (hn : In64 n) (h : l.length + 11 < 140737488355328) : pack_Uint.f k l n = some (l ++ enc (nat0 n)) := by
  unfold pack_Uint.f
  rw [clone_eq l (by omega)]
  simp only [Option.bind_some]
  have e : IntKind.u64.wrap (mx n 0) = ((nat0 n : Nat) : Int) := by rw [u64_wrap]; unfold mx nat0; split <;> omega
  unfold pack_put.f
  rw [e, put_eq 9 k (nat0 n) l (Nat.lt_of_lt_of_le (by unfold nat0; omega) pow10) (by omega) (by omega)]
  rfl
/-- Numbers with signs, laid onto those from 0 on. -/
abbrev Bytes (l : List Int) : Prop := ∀ x ∈ l, 0 ≤ x ∧ x ≤ 255
theorem rd_range {l : List Int} (h : Bytes l) (i : Int) : 0 ≤ rd l i ∧ rd l i ≤ 255 := by
  unfold rd
  rw [List.getD_eq_getElem?_getD]
  by_cases hi : i.toNat < l.length
  · rw [List.getElem?_eq_getElem hi]
    exact h _ (List.getElem_mem hi)
  · rw [List.getElem?_eq_none (by omega)]
    exact ⟨Int.le_refl _, by decide⟩
theorem rd_drop (l : List Int) (a i : Nat) : rd (l.drop a) (i : Int) = rd l ((a : Int) + i) := by
  unfold rd
  rw [List.getD_eq_getElem?_getD, List.getD_eq_getElem?_getD, List.getElem?_drop]
  congr 2
theorem bytes_drop {l : List Int} (h : Bytes l) (a : Nat) : Bytes (l.drop a) := fun x hx => h x (List.mem_of_mem_drop hx)
theorem and127 (x : Int) (h0 : 0 ≤ x) (h1 : x < 256) : Go.bits .and .u64 x 127 = x % 128 := by
  obtain ⟨n, rfl⟩ := Int.eq_ofNat_of_zero_le h0
  have key : ∀ m : Fin 256, Go.bits .and .u64 ((m.val : Nat) : Int) 127 = ((m.val : Nat) : Int) % 128 := by decide +kernel
  exact key ⟨n, by omega⟩
theorem pow_split (i : Nat) (h : i ≤ 9) : (18446744073709551616 : Nat) = 128 ^ i * 2 ^ (64 - 7 * i) := by
  rw [show (128 : Nat) = 2 ^ 7 by decide, ← Nat.pow_mul, ← Nat.pow_add, show 7 * i + (64 - 7 * i) = 64 by omega]
theorem or_shift (acc x i : Nat) (hi : i ≤ 9) (ha : acc < 128 ^ i) (hx : x < 128) :
    Go.bits .or .u64 (acc : Int) (shl .u64 (x : Int) (7 * (i : Int))) = ((acc + 128 ^ i * (x % 2 ^ (64 - 7 * i)) : Nat) : Int) := by
  have e : shl .u64 (x : Int) (7 * (i : Int)) = ((128 ^ i * (x % 2 ^ (64 - 7 * i)) : Nat) : Int) := by
    unfold shl
    rw [u64_wrap, show (7 * (i : Int)).toNat = 7 * i by omega, show min (7 * i) IntKind.u64.bits = 7 * i from Nat.min_eq_left (by simp [IntKind.bits]; omega)]
    rw [show (18446744073709551616 : Int) = ((18446744073709551616 : Nat) : Int) from rfl, show (x : Int) * (2 : Int) ^ (7 * i) = ((128 ^ i * x : Nat) : Int) by rw [show (128 : Nat) ^ i = 2 ^ (7 * i) by rw [Nat.pow_mul]]; push_cast; rw [Int.mul_comm], ← Int.natCast_emod]
    conv => lhs; rw [pow_split i hi, Nat.mul_mod_mul_left]
  have p64 := pow_split i hi
  have hy : 128 ^ i * (x % 2 ^ (64 - 7 * i)) < 18446744073709551616 := by
    rw [p64]
    exact Nat.mul_lt_mul_of_pos_left (Nat.mod_lt _ (Nat.two_pow_pos _)) (Nat.pow_pos (by decide))
  have hacc : acc < 18446744073709551616 := by
    refine Nat.lt_of_lt_of_le ha ?_
    rw [p64]
    exact Nat.le_mul_of_pos_right _ (Nat.two_pow_pos _)
  rw [e]
  obtain ⟨y, hye⟩ : ∃ y, x % 2 ^ (64 - 7 * i) = y := ⟨_, rfl⟩
  rw [hye] at hy ⊢
  show IntKind.u64.wrap (((BitVec.ofInt 64 (acc : Int)) ||| (BitVec.ofInt 64 ((128 ^ i * y : Nat) : Int))).toNat : Int) = _
  rw [u64_wrap, BitVec.ofInt_natCast, BitVec.ofInt_natCast, BitVec.toNat_or, BitVec.toNat_ofNat, BitVec.toNat_ofNat, Nat.mod_eq_of_lt hacc, Nat.mod_eq_of_lt hy]
  have ho : acc ||| 128 ^ i * y = acc + 128 ^ i * y := by
    rw [Nat.or_comm, show (128 : Nat) ^ i = 2 ^ (7 * i) by rw [Nat.pow_mul]] at *
    rw [← Nat.two_pow_add_eq_or_of_lt ha]
    omega
  rw [ho]
  have hs : acc + 128 ^ i * y < 18446744073709551616 := by
    have hyl : y < 2 ^ (64 - 7 * i) := by rw [← hye]; exact Nat.mod_lt _ (Nat.two_pow_pos _)
    rw [p64]
    calc acc + 128 ^ i * y < 128 ^ i + 128 ^ i * y := by omega
      _ = 128 ^ i * (y + 1) := by rw [Nat.mul_add]; omega
      _ ≤ 128 ^ i * 2 ^ (64 - 7 * i) := Nat.mul_le_mul_left _ hyl
  omega

/-- The number that the first bytes tell. -/
def lo (b : List Int) : Nat → Nat
  | 0 => 0
  | i + 1 => lo b i + 128 ^ i * (rd b i % 128).toNat
theorem lo_lt (b : List Int) (h : Bytes b) : ∀ i, lo b i < 128 ^ i
  | 0 => by simp [lo]
  | i + 1 => by
    have ih := lo_lt b h i
    have hr := rd_range h i
    have hx : (rd b i % 128).toNat ≤ 127 := by omega
    have := Nat.mul_le_mul_left (128 ^ i) hx
    rw [lo, Nat.pow_succ]
    omega
/-- What stands there: the bytes that say that more come are passed by. -/
def sc (b : List Int) : Nat → Nat → Option (Nat × Nat)
  | 0, _ => none
  | r + 1, i => if rd b i ≥ 128 then sc b r (i + 1) else if i > 9 ∨ (i > 0 ∧ rd b i = 0) ∨ (i = 9 ∧ rd b i > 1) then none else some (lo b (i + 1), i + 1)
theorem sc_far (b : List Int) : ∀ r i, 10 ≤ i → sc b r i = none
  | 0, _, _ => rfl
  | r + 1, i, h => by
    rw [sc]
    split
    · exact sc_far b r (i + 1) (by omega)
    · rw [if_pos (Or.inl (by omega))]
theorem sc_facts (b : List Int) (hb : Bytes b) : ∀ r i v c, sc b r i = some (v, c) → v < 18446744073709551616 ∧ i < c ∧ c ≤ i + r
  | 0, _, _, _, h => by simp [sc] at h
  | r + 1, i, v, c, h => by
    rw [sc] at h
    split at h
    · have := sc_facts b hb r (i + 1) v c h
      omega
    · split at h
      · simp at h
      · rename_i h1 h2
        simp only [Option.some.injEq, Prod.mk.injEq] at h
        obtain ⟨rfl, rfl⟩ := h
        refine ⟨?_, by omega, by omega⟩
        have hr := rd_range hb i
        by_cases h9 : i = 9
        · subst h9
          have hl := lo_lt b hb 9
          have hx : (rd b (9 : Nat) % 128).toNat ≤ 1 := by
            have : ¬ rd b (9 : Nat) > 1 := fun hh => h2 (Or.inr (Or.inr ⟨rfl, hh⟩))
            omega
          have := Nat.mul_le_mul_left (128 ^ 9) hx
          rw [lo]
          have e : (128 : Nat) ^ 9 = 9223372036854775808 := by decide
          omega
        · have hl := lo_lt b hb (i + 1)
          refine Nat.lt_of_lt_of_le hl (Nat.le_trans (Nat.pow_le_pow_right (by decide) (show i + 1 ≤ 9 by omega)) (by decide))
theorem take_l0 (b : List Int) (hb : Bytes b) (hlen : b.length < 140737488355328) : ∀ (r k i acc : Nat), i ≤ 10 → i + r = b.length → r + 3 ≤ k → (i ≤ 9 → acc = lo b i) →
    pack_take.l0 k b (acc : Int) (mn (b.length : Int) 10) i = some ((((sc b r i).getD (0, 0)).1 : Int), (((sc b r i).getD (0, 0)).2 : Int)) := by
  intro r
  induction r with
  | zero =>
    intro k i acc hi hr hk hacc
    obtain ⟨k, rfl⟩ : ∃ m, k = m + 1 := ⟨k - 1, by omega⟩
    simp only [pack_take.l0, sc]
    rw [if_neg (by unfold mn; split <;> omega)]
    rfl
  | succ r ih =>
    intro k i acc hi hr hk hacc
    obtain ⟨k, rfl⟩ : ∃ m, k = m + 2 := ⟨k - 2, by omega⟩
    simp only [pack_take.l0]
    by_cases h10 : i = 10
    · rw [if_neg (by unfold mn; split <;> omega), sc_far b _ i (by omega)]
      rfl
    · have hr8 := rd_range hb i
      have hw : IntKind.u64.wrap (rd b i) = rd b i := by rw [u64_wrap]; omega
      have h7 : wrap64 (7 * (i : Int)) = 7 * (i : Int) := by unfold wrap64; omega
      have h1 : wrap64 ((i : Int) + 1) = ((i + 1 : Nat) : Int) := by unfold wrap64; omega
      have hx : (rd b i % 128).toNat < 128 := by omega
      have hor := or_shift acc (rd b i % 128).toNat i (by omega) (by rw [hacc (by omega)]; exact lo_lt b hb i) hx
      rw [show (((rd b i % 128).toNat : Nat) : Int) = rd b i % 128 by omega] at hor
      rw [if_pos (by unfold mn; split <;> omega), if_pos (by omega), if_pos (by omega), h7, if_pos (by omega), hw, and127 _ hr8.1 (by omega), hor, h1]
      rw [sc]
      have hval : ¬ rd b i ≥ 128 → ¬ (i = 9 ∧ rd b i > 1) → acc + 128 ^ i * ((rd b i % 128).toNat % 2 ^ (64 - 7 * i)) = lo b (i + 1) := by
        intro hs h9
        rw [lo, hacc (by omega), Nat.mod_eq_of_lt]
        by_cases hi9 : i = 9
        · subst hi9
          have : rd b (9 : Nat) ≤ 1 := by omega
          show _ < 2
          omega
        · refine Nat.lt_of_lt_of_le hx ?_
          calc 128 = 2 ^ 7 := by decide
            _ ≤ 2 ^ (64 - 7 * i) := Nat.pow_le_pow_right (by decide) (by omega)
      by_cases hm : rd b i ≥ 128
      · rw [if_pos hm, if_pos hm]
        refine ih (k + 1) (i + 1) _ (by omega) (by omega) (by omega) fun h9 => ?_
        rw [lo, hacc (by omega), Nat.mod_eq_of_lt]
        refine Nat.lt_of_lt_of_le hx ?_
        calc 128 = 2 ^ 7 := by decide
          _ ≤ 2 ^ (64 - 7 * i) := Nat.pow_le_pow_right (by decide) (by omega)
      · rw [if_neg hm, if_neg hm]
        have hfin : ∀ g : Bool, g = decide (rd b i = 0 ∧ i > 0) → pack_take.j1 (k + 1) ((acc + 128 ^ i * ((rd b i % 128).toNat % 2 ^ (64 - 7 * i)) : Nat) : Int) i (rd b i) g =
            some ((((if i > 9 ∨ (i > 0 ∧ rd b i = 0) ∨ (i = 9 ∧ rd b i > 1) then none else some (lo b (i + 1), i + 1)).getD (0, 0)).1 : Int), (((if i > 9 ∨ (i > 0 ∧ rd b i = 0) ∨ (i = 9 ∧ rd b i > 1) then none else some (lo b (i + 1), i + 1)).getD (0, 0)).2 : Int)) := by
          intro g hg
          simp only [pack_take.j1]
          by_cases hz : rd b i = 0 ∧ i > 0
          · rw [if_pos (by rw [hg]; exact decide_eq_true hz), if_pos (Or.inr (Or.inl ⟨hz.2, hz.1⟩))]
            rfl
          · rw [if_neg (by rw [hg]; simpa using hz)]
            by_cases h9 : i = 9 ∧ rd b i > 1
            · rw [if_pos (by omega), if_pos h9.2, if_pos (Or.inr (Or.inr h9))]
              rfl
            · rw [if_neg (show ¬ (i > 9 ∨ (i > 0 ∧ rd b i = 0) ∨ (i = 9 ∧ rd b i > 1)) by omega), hval hm h9]
              by_cases h99 : (i : Int) = 9
              · rw [if_pos h99, if_neg (by omega), h1]; rfl
              · rw [if_neg h99, h1]; rfl
        by_cases hz : rd b i = 0
        · rw [if_pos hz]
          refine hfin _ ?_
          by_cases h0 : i > 0
          · rw [decide_eq_true (show (i : Int) > 0 by omega), decide_eq_true ⟨hz, h0⟩]
          · rw [decide_eq_false (show ¬ (i : Int) > 0 by omega), decide_eq_false (fun h => h0 h.2)]
        · rw [if_neg hz]
          exact hfin _ (by rw [decide_eq_false (fun h => hz h.1)])
/-- The same from behind: what the bytes from p on tell, n of them. -/
def hi (b : List Int) : Nat → Nat → Nat
  | _, 0 => 0
  | p, n + 1 => (rd b p % 128).toNat + 128 * hi b (p + 1) n
theorem lo_hi (b : List Int) : ∀ n p, lo b p + 128 ^ p * hi b p n = lo b (p + n)
  | 0, p => by simp [hi]
  | n + 1, p => by
    have := lo_hi b n (p + 1)
    rw [hi, show p + (n + 1) = p + 1 + n by omega, ← this, lo, Nat.mul_add, Nat.pow_succ, Nat.mul_assoc]
    omega
theorem ref_l1 (b : List Int) (hb : Bytes b) (hlen : b.length < 140737488355328) (at_ e : Nat) (he : at_ + e < b.length) : ∀ (p k n : Nat), p + n = e + 1 → p + 1 ≤ k →
    barrowref03_read.l1 k b at_ ((at_ + e : Nat) : Int) ((hi (b.drop at_) p n % 18446744073709551616 : Nat) : Int) ((at_ : Int) + p - 1) = some (((hi (b.drop at_) 0 (e + 1) % 18446744073709551616 : Nat) : Int), ((at_ + (e + 1) : Nat) : Int), true) := by
  intro p
  induction p with
  | zero =>
    intro k n hn hk
    obtain ⟨k, rfl⟩ : ∃ m, k = m + 1 := ⟨k - 1, by omega⟩
    obtain rfl : n = e + 1 := by omega
    simp only [barrowref03_read.l1]
    rw [if_neg (by omega), show wrap64 (((at_ + e : Nat) : Int) + 1) = ((at_ + (e + 1) : Nat) : Int) by unfold wrap64; omega]
  | succ p ih =>
    intro k n hn hk
    obtain ⟨k, rfl⟩ : ∃ m, k = m + 1 := ⟨k - 1, by omega⟩
    simp only [barrowref03_read.l1]
    have hd := rd_drop b at_ p
    have hr := rd_range hb ((at_ : Int) + p)
    have hh : hi (b.drop at_) p (n + 1) = (rd b ((at_ : Int) + p) % 128).toNat + 128 * hi (b.drop at_) (p + 1) n := by rw [hi, hd]
    have hih := ih k (n + 1) (by omega) (by omega)
    rw [show (at_ : Int) + ((p + 1 : Nat) : Int) - 1 = (at_ : Int) + p by omega, if_pos (by omega), if_pos (by omega), if_pos (by omega)]
    rw [show wrap64 ((at_ : Int) + p - 1) = (at_ : Int) + p - 1 by unfold wrap64; omega, Int.tmod_eq_emod_of_nonneg hr.1, u64_wrap, u64_wrap, u64_wrap]
    rw [← hih]
    congr 1
    rw [hh]
    obtain ⟨x, hx⟩ : ∃ x, rd b ((at_ : Int) + p) = x := ⟨_, rfl⟩
    obtain ⟨y, hy⟩ : ∃ y, hi (b.drop at_) (p + 1) n = y := ⟨_, rfl⟩
    rw [hx] at hr ⊢
    rw [hy]
    omega
theorem ref_l0 (b : List Int) (hb : Bytes b) (hlen : b.length < 140737488355328) (at_ : Nat) : ∀ (r k i : Nat), at_ + i + r = b.length → r + 14 ≤ k →
    barrowref03_read.l0 k b at_ ((at_ + i : Nat) : Int) = some (match sc (b.drop at_) r i with | none => (0, (at_ : Int), false) | some (v, c) => ((v : Int), ((at_ + c : Nat) : Int), true)) := by
  intro r
  induction r with
  | zero =>
    intro k i hr hk
    obtain ⟨k, rfl⟩ : ∃ m, k = m + 3 := ⟨k - 3, by omega⟩
    simp only [barrowref03_read.l0, barrowref03_read.j1, barrowref03_read.j2, sc]
    rw [if_neg (by omega), if_pos (by omega), if_true]
  | succ r ih =>
    intro k i hr hk
    obtain ⟨k, rfl⟩ : ∃ m, k = m + 1 := ⟨k - 1, by omega⟩
    simp only [barrowref03_read.l0]
    have hd := rd_drop b at_ i
    have hr8 := rd_range hb ((at_ : Int) + i)
    rw [sc, hd]
    rw [show ((at_ + i : Nat) : Int) = (at_ : Int) + i by omega]
    rw [if_pos (by omega), if_pos (by omega)]
    by_cases hm : rd b ((at_ : Int) + i) ≥ 128
    · rw [if_pos hm, if_pos hm, show wrap64 ((at_ : Int) + i + 1) = ((at_ + (i + 1) : Nat) : Int) by unfold wrap64; omega]
      exact ih k (i + 1) (by omega) (by omega)
    · rw [if_neg hm, if_neg hm]
      obtain ⟨k, rfl⟩ : ∃ m, k = m + 2 := ⟨k - 2, by omega⟩
      have hw : wrap64 ((at_ : Int) + i - at_) = i := by unfold wrap64; omega
      have hno : barrowref03_read.j2 (k + 1) b at_ ((at_ : Int) + i) true = some (0, (at_ : Int), false) := by
        simp only [barrowref03_read.j2]
        rw [if_true]
      have hyes : ¬ (i > 9 ∨ (i > 0 ∧ rd b ((at_ : Int) + i) = 0) ∨ (i = 9 ∧ rd b ((at_ : Int) + i) > 1)) → barrowref03_read.j2 (k + 1) b at_ ((at_ : Int) + i) false = some ((lo (b.drop at_) (i + 1) : Int), ((at_ + (i + 1) : Nat) : Int), true) := by
        intro hok
        simp only [barrowref03_read.j2]
        rw [if_neg (by decide)]
        have h1 := ref_l1 b hb hlen at_ i (by omega) (i + 1) k 0 (by omega) (by omega)
        rw [show ((at_ + i : Nat) : Int) = (at_ : Int) + i by omega, show (at_ : Int) + ((i + 1 : Nat) : Int) - 1 = (at_ : Int) + i by omega] at h1
        have h0 := lo_hi (b.drop at_) (i + 1) 0
        rw [show ((hi (b.drop at_) (i + 1) 0 % 18446744073709551616 : Nat) : Int) = 0 by simp [hi]] at h1
        rw [h1]
        have hf := (sc_facts (b.drop at_) (bytes_drop hb at_) 1 i (lo (b.drop at_) (i + 1)) (i + 1) (by rw [sc, hd, if_neg hm, if_neg hok])).1
        rw [show lo (b.drop at_) 0 = 0 from rfl, Nat.pow_zero, Nat.one_mul, Nat.zero_add, Nat.zero_add] at h0
        rw [h0, Nat.mod_eq_of_lt hf]
      simp only [barrowref03_read.j1]
      rw [if_neg (by omega), hw]
      by_cases h9 : (i : Int) > 9
      · rw [if_pos h9, hno, if_pos (Or.inl (by omega))]
      · rw [if_neg h9]
        by_cases h0 : i > 0
        · rw [if_pos (by omega), if_pos (by omega), if_pos (by omega)]
          by_cases hz : rd b ((at_ : Int) + i) = 0
          · rw [if_pos hz, hno, if_pos (Or.inr (Or.inl ⟨h0, hz⟩))]
          · rw [if_neg hz]
            by_cases h99 : (i : Int) = 9
            · rw [if_pos h99]
              by_cases hg : rd b ((at_ : Int) + i) > 1
              · rw [decide_eq_true hg, hno, if_pos (Or.inr (Or.inr ⟨by omega, hg⟩))]
              · rw [decide_eq_false hg, hyes (by omega), if_neg (by omega)]
            · rw [if_neg h99, hyes (by omega), if_neg (by omega)]
        · rw [if_neg (by omega), if_neg (by omega), hyes (by omega), if_neg (by omega)]
/-- What is read at a byte. -/
def rdS (b : List Int) (at_ : Int) : Option (Nat × Nat) := if 0 ≤ at_ ∧ at_ ≤ (b.length : Int) then sc (b.drop at_.toNat) (b.length - at_.toNat) 0 else none
theorem rdS_facts {b : List Int} (hb : Bytes b) {at_ : Int} {v c : Nat} (h : rdS b at_ = some (v, c)) : v < 18446744073709551616 ∧ 0 < c ∧ 0 ≤ at_ ∧ at_ + c ≤ b.length := by
  unfold rdS at h
  split at h
  · have := sc_facts _ (bytes_drop hb _) _ _ _ _ h
    omega
  · simp at h
theorem read_eq (k : Nat) (b : List Int) (hb : Bytes b) (hlen : b.length < 140737488355328) (hk : b.length + 5 ≤ k) (at_ : Int) : pack_read.f k b at_ = some (match rdS b at_ with | none => (0, at_, 2) | some (v, c) => ((v : Int), at_ + c, 0)) := by
  obtain ⟨k, rfl⟩ : ∃ m, k = m + 1 := ⟨k - 1, by omega⟩
  unfold pack_read.f rdS
  by_cases h0 : at_ < 0
  · rw [if_pos h0, if_neg (by omega)]
    simp only [pack_read.j0]
    rw [if_true]
  · rw [if_neg h0]
    simp only [pack_read.j0]
    by_cases h1 : at_ > (b.length : Int)
    · rw [if_neg (show ¬ (0 ≤ at_ ∧ at_ ≤ (b.length : Int)) by omega), decide_eq_true h1, if_pos rfl]
    · rw [if_pos (show 0 ≤ at_ ∧ at_ ≤ (b.length : Int) by omega), decide_eq_false h1, if_neg (by decide), if_pos (by omega), if_pos (by omega)]
      unfold pack_take.f
      have hd : (b.drop at_.toNat).length = b.length - at_.toNat := List.length_drop
      have ht := take_l0 (b.drop at_.toNat) (bytes_drop hb _) (by omega) (b.length - at_.toNat) k 0 0 (by omega) (by omega) (by omega) (fun _ => rfl)
      rw [show ((0 : Nat) : Int) = 0 from rfl] at ht
      rw [ht]
      simp only [Option.bind_some]
      cases hs : sc (b.drop at_.toNat) (b.length - at_.toNat) 0 with
      | none => simp
      | some vc =>
        obtain ⟨v, c⟩ := vc
        have hf := sc_facts _ (bytes_drop hb _) _ _ _ _ hs
        simp only [Option.getD_some]
        rw [if_neg (by omega), show wrap64 (at_ + (c : Int)) = at_ + c by unfold wrap64; omega]
theorem refread_eq (k : Nat) (b : List Int) (hb : Bytes b) (hlen : b.length < 140737488355328) (hk : b.length + 14 ≤ k) (at_ : Int) : barrowref03_read.f k b at_ = some (match rdS b at_ with | none => (0, at_, false) | some (v, c) => ((v : Int), at_ + c, true)) := by
  unfold barrowref03_read.f rdS
  by_cases h0 : at_ < 0
  · rw [if_pos h0, if_neg (by omega)]
  · rw [if_neg h0]
    obtain ⟨a, rfl⟩ : ∃ a : Nat, at_ = (a : Int) := ⟨at_.toNat, by omega⟩
    by_cases h1 : (a : Int) > (b.length : Int)
    · rw [if_neg (show ¬ (0 ≤ (a : Int) ∧ (a : Int) ≤ (b.length : Int)) by omega)]
      obtain ⟨k, rfl⟩ : ∃ m, k = m + 3 := ⟨k - 3, by omega⟩
      simp only [barrowref03_read.l0, barrowref03_read.j1, barrowref03_read.j2]
      rw [if_neg (by omega), if_pos (by omega), if_true]
    · rw [if_pos (show 0 ≤ (a : Int) ∧ (a : Int) ≤ (b.length : Int) by omega)]
      have := ref_l0 b hb hlen a (b.length - a) k 0 (by omega) (by omega)
      rw [show ((a + 0 : Nat) : Int) = (a : Int) from rfl] at this
      rw [this, Int.toNat_natCast]
      cases hs : sc (b.drop a) (b.length - a) 0 with
      | none => rfl
      | some vc => obtain ⟨v, c⟩ := vc; simp
/-- What ReadUint tells. -/
def uintS (b : List Int) (at_ : Int) : Int × Int × Int := match rdS b at_ with | none => (0, at_, 2) | some (v, c) => if (v : Int) > 9223372036854775807 then (0, at_, 2) else ((v : Int), at_ + c, 0)
theorem readuint_eq (k : Nat) (b : List Int) (hb : Bytes b) (hlen : b.length < 140737488355328) (hk : b.length + 14 ≤ k) (at_ : Int) : pack_ReadUint.f k b at_ = some (uintS b at_) := by
  unfold pack_ReadUint.f uintS
  rw [read_eq k b hb hlen (by omega) at_]
  simp only [Option.bind_some]
  cases hs : rdS b at_ with
  | none => simp
  | some vc =>
    obtain ⟨v, c⟩ := vc
    have hf := rdS_facts hb hs
    simp only []
    rw [if_true]
    by_cases h : (v : Int) > 9223372036854775807
    · rw [if_pos h, if_pos h]
    · rw [if_neg h, if_neg h, show wrap64 (v : Int) = v by unfold wrap64; omega]
theorem refreaduint_eq (k : Nat) (b : List Int) (hb : Bytes b) (hlen : b.length < 140737488355328) (hk : b.length + 14 ≤ k) (at_ : Int) : barrowref03_ReadUint.f k b at_ = some (uintS b at_) := by
  unfold barrowref03_ReadUint.f uintS
  rw [refread_eq k b hb hlen hk at_]
  simp only [Option.bind_some]
  cases hs : rdS b at_ with
  | none => simp
  | some vc =>
    obtain ⟨v, c⟩ := vc
    have hf := rdS_facts hb hs
    simp only []
    rw [if_true]
    by_cases h : (v : Int) > 9223372036854775807
    · rw [if_pos h, if_pos h]
    · rw [if_neg h, if_neg h, show wrap64 (v : Int) = v by unfold wrap64; omega]
theorem uintS_facts {b : List Int} (hb : Bytes b) (at_ : Int) : uintS b at_ = (0, at_, 2) ∨ ∃ v nx, uintS b at_ = (v, nx, 0) ∧ 0 ≤ v ∧ v ≤ 9223372036854775807 ∧ 0 ≤ at_ ∧ at_ < nx ∧ nx ≤ b.length := by
  unfold uintS
  cases hs : rdS b at_ with
  | none => exact Or.inl rfl
  | some vc =>
    obtain ⟨v, c⟩ := vc
    have hf := rdS_facts hb hs
    simp only []
    split
    · exact Or.inl rfl
    · exact Or.inr ⟨v, at_ + c, rfl, by omega, by omega, by omega, by omega, by omega⟩
/-- A number with its sign out of one from 0 on. -/
theorem digits_eq (d : Nat) : ∀ (k n : Nat) (l : List Int), n < 128 ^ (d + 1) → n < 18446744073709551616 → d < k → l.length + d + 1 < 140737488355328 → barrowref03_digits.l0 k l n = some (l ++ enc n) := by
  induction d with
  | zero =>
    intro k n l h h64 hk hl
    obtain ⟨k, rfl⟩ : ∃ m, k = m + 1 := ⟨k - 1, by omega⟩
    simp only [barrowref03_digits.l0]
    rw [if_neg (by omega), if_pos (by omega), enc_small (by omega), show ((n : Int) % 256) = n by omega]
  | succ d ih =>
    intro k n l h h64 hk hl
    obtain ⟨k, rfl⟩ : ∃ m, k = m + 1 := ⟨k - 1, by omega⟩
    simp only [barrowref03_digits.l0]
    by_cases h1 : n < 128
    · rw [if_neg (by omega), if_pos (by omega), enc_small h1, show ((n : Int) % 256) = n by omega]
    · rw [if_pos (by omega), if_pos (by omega), enc_big h1, Int.tmod_eq_emod_of_nonneg (by omega), Int.tdiv_eq_ediv_of_nonneg (by omega), u64_wrap, u64_wrap]
      have := ih k (n / 128) (l ++ [((n % 128 + 128 : Nat) : Int)]) (by rw [Nat.pow_succ] at h; omega) (by omega) (by omega) (by simp; omega)
      rw [show ((128 + (n : Int) % 128) % 18446744073709551616 % 256) = ((n % 128 + 128 : Nat) : Int) by omega, show ((n : Int) / 128 % 18446744073709551616) = ((n / 128 : Nat) : Int) by omega, this]
      simp
theorem front_eq (l : List Int) (h : l.length < 140737488355328) : barrowref03_front.f l = some l := by
  unfold barrowref03_front.f
  simp [h]
theorem refuint_eq (k : Nat) (hk : 10 ≤ k) (l : List Int) (n : Int) (hn : In64 n) (h : l.length + 11 < 140737488355328) : barrowref03_Uint.f k l n = some (l ++ enc (nat0 n)) := by
  unfold barrowref03_Uint.f
  rw [front_eq l (by omega)]
  simp only [Option.bind_some]
  have e : IntKind.u64.wrap (mx n 0) = ((nat0 n : Nat) : Int) := by rw [u64_wrap]; unfold mx nat0; split <;> omega
  unfold barrowref03_digits.f
  rw [e, digits_eq 9 k (nat0 n) l (Nat.lt_of_lt_of_le (by unfold nat0; omega) pow10) (by unfold nat0; omega) (by omega) (by omega)]
  rfl
theorem rd_mid (p : List Int) (x : Int) (r : List Int) : rd (p ++ x :: r) (p.length : Int) = x := by
  unfold rd
  rw [Int.toNat_natCast, List.getD_eq_getElem?_getD, List.getElem?_append_right (Nat.le_refl _), Nat.sub_self]
  rfl
theorem sc_enc (d : Nat) : ∀ (m : Nat) (p rest : List Int) (r : Nat), m < 128 ^ (d + 1) → p.length ≤ 9 → m < 2 ^ (64 - 7 * p.length) → (0 < p.length → 0 < m) → (enc m).length ≤ r →
    sc (p ++ (enc m ++ rest)) r p.length = some (lo (p ++ (enc m ++ rest)) p.length + 128 ^ p.length * m, p.length + (enc m).length) := by
  have small : ∀ (m : Nat) (p rest : List Int) (r : Nat), m < 128 → p.length ≤ 9 → m < 2 ^ (64 - 7 * p.length) → (0 < p.length → 0 < m) → (enc m).length ≤ r →
      sc (p ++ (enc m ++ rest)) r p.length = some (lo (p ++ (enc m ++ rest)) p.length + 128 ^ p.length * m, p.length + (enc m).length) := by
    intro m p rest r hm hp h2 h0 hr
    rw [enc_small hm] at hr ⊢
    obtain ⟨r, rfl⟩ : ∃ q, r = q + 1 := ⟨r - 1, by simp at hr; omega⟩
    have hx : rd (p ++ ([(m : Int)] ++ rest)) (p.length : Int) = m := rd_mid p m rest
    have h9 : ¬ (p.length = 9 ∧ (m : Int) > 1) := by
      rintro ⟨h, h'⟩
      rw [h] at h2
      have : (2 : Nat) ^ (64 - 7 * 9) = 2 := by decide
      omega
    rw [sc, hx, if_neg (by omega), if_neg (by omega), lo, hx, show ((m : Int) % 128).toNat = m by omega]
    rfl
  induction d with
  | zero => intro m p rest r h; exact small m p rest r (by omega)
  | succ d ih =>
    intro m p rest r h hp h2 h0 hr
    by_cases hm : m < 128
    · exact small m p rest r hm hp h2 h0 hr
    · rw [enc_big hm] at hr ⊢
      obtain ⟨r, rfl⟩ : ∃ q, r = q + 1 := ⟨r - 1, by simp at hr; omega⟩
      have hx : rd (p ++ (((m % 128 + 128 : Nat) : Int) :: enc (m / 128) ++ rest)) (p.length : Int) = ((m % 128 + 128 : Nat) : Int) := rd_mid p _ _
      have hp8 : p.length ≤ 8 := by
        refine Nat.le_of_not_lt fun h' => ?_
        have : p.length = 9 := by omega
        rw [this] at h2
        have : (2 : Nat) ^ (64 - 7 * 9) = 2 := by decide
        omega
      have e : p ++ (((m % 128 + 128 : Nat) : Int) :: enc (m / 128) ++ rest) = (p ++ [((m % 128 + 128 : Nat) : Int)]) ++ (enc (m / 128) ++ rest) := by simp
      have hpow : (2 : Nat) ^ (64 - 7 * p.length) = 128 * 2 ^ (64 - 7 * (p.length + 1)) := by
        rw [show (128 : Nat) = 2 ^ 7 by decide, ← Nat.pow_add]
        congr 1
        omega
      have hi' := ih (m / 128) (p ++ [((m % 128 + 128 : Nat) : Int)]) rest r (by rw [Nat.pow_succ] at h; omega) (by simp; omega) (by rw [List.length_append, List.length_singleton]; omega) (fun _ => by omega) (by simp at hr; omega)
      rw [List.length_append, List.length_singleton, ← e] at hi'
      rw [sc, hx, if_pos (by omega), hi', lo, hx, show ((((m % 128 + 128 : Nat) : Int)) % 128).toNat = m % 128 by omega, List.length_cons]
      congr 2
      · have := Nat.mod_add_div m 128
        rw [Nat.pow_succ, Nat.mul_assoc, Nat.add_assoc, ← Nat.mul_add, this]
      · omega
theorem rdS_enc (p rest : List Int) (m : Nat) (h : m < 18446744073709551616) : rdS (p ++ (enc m ++ rest)) (p.length : Int) = some (m, (enc m).length) := by
  unfold rdS
  rw [if_pos ⟨by omega, by simp; omega⟩, Int.toNat_natCast, List.drop_left]
  have := sc_enc 9 m [] rest ((p ++ (enc m ++ rest)).length - p.length) (Nat.lt_of_lt_of_le h pow10) (by simp) (by simpa using h) (by simp) (by simp)
  simp only [List.nil_append, List.length_nil, lo, Nat.pow_zero, Nat.one_mul, Nat.zero_add] at this
  exact this
theorem uintS_enc (p rest : List Int) (m : Nat) (h : m < 9223372036854775808) : uintS (p ++ (enc m ++ rest)) (p.length : Int) = ((m : Int), ((p ++ enc m).length : Int), 0) := by
  unfold uintS
  rw [rdS_enc p rest m (by omega)]
  simp only []
  rw [if_neg (by omega)]
  simp
end Go.Proofs.Ytdlpijeceigbnaa.Pure
