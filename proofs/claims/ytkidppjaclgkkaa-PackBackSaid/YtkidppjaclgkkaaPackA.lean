/- Numbers as bytes: plain numbers and lists. -/
import Derived.Test.YtkidppjaclgkkaaXPackx
import Derived.Laws.BitsLemmas
set_option linter.unusedSimpArgs false
namespace Go.Proofs.Ytkidppjaclgkkaa.Pure
open Go.RowKit Go.Proofs.Ytkidppjaclgkkaa.XPack Go.Proofs.YtkidppjaclgkkaaW.PrintWords Go.Proofs.YtkidppjaclgkkaaW.PrintLast Go.Proofs.YtkidppjaclgkkaaW.PrintMore

abbrev In64 (a : Int) : Prop := -9223372036854775808 ≤ a ∧ a ≤ 9223372036854775807
theorem i64_of {a : Int} (h : (Lit.int .i64 a).wf = true) : In64 a := by
  simp [Lit.wf, IntKind.min, IntKind.max, IntKind.bits, IntKind.signed] at h
  exact ⟨by omega, by omega⟩
theorem u8_of {a : Int} (h : (Lit.int .u8 a).wf = true) : 0 ≤ a ∧ a ≤ 255 := by
  simp [Lit.wf, IntKind.min, IntKind.max, IntKind.bits, IntKind.signed] at h
  omega
theorem u64_wrap (n : Int) : IntKind.u64.wrap n = n % 18446744073709551616 := by simp [IntKind.wrap, IntKind.bits, IntKind.signed]
/-- A number in groups of 7 bits, the lowest first. -/
def enc (n : Nat) : List Int := if h : n < 128 then [(n : Int)] else ((n % 128 + 128 : Nat) : Int) :: enc (n / 128)
termination_by n
decreasing_by omega
theorem enc_small {n : Nat} (h : n < 128) : enc n = [(n : Int)] := by rw [enc, dif_pos h]
theorem enc_big {n : Nat} (h : ¬ n < 128) : enc n = ((n % 128 + 128 : Nat) : Int) :: enc (n / 128) := by rw [enc, dif_neg h]
theorem enc_ne (n : Nat) : enc n ≠ [] := by
  rw [enc]; split <;> simp
theorem enc_len_pos (n : Nat) : 1 ≤ (enc n).length := by
  rw [enc]; split <;> simp
theorem enc_len (d : Nat) : ∀ n : Nat, n < 128 ^ (d + 1) → (enc n).length ≤ d + 1 := by
  induction d with
  | zero => intro n h; rw [enc_small (by omega)]; simp
  | succ d ih =>
    intro n h
    by_cases h1 : n < 128
    · rw [enc_small h1]; simp
    · rw [enc_big h1, List.length_cons]
      have := ih (n / 128) (by rw [Nat.pow_succ] at h; omega)
      omega
theorem enc_mono (d : Nat) : ∀ n m : Nat, n < 128 ^ (d + 1) → n ≤ m → (enc n).length ≤ (enc m).length := by
  induction d with
  | zero => intro n m h hm; rw [enc_small (by omega)]; have := enc_len_pos m; simpa using this
  | succ d ih =>
    intro n m h hm
    by_cases h1 : n < 128
    · rw [enc_small h1]; have := enc_len_pos m; simpa using this
    · rw [enc_big h1, enc_big (show ¬ m < 128 by omega), List.length_cons, List.length_cons]
      have := ih (n / 128) (m / 128) (by rw [Nat.pow_succ] at h; omega) (by omega)
      omega
theorem enc_range (d : Nat) : ∀ n : Nat, n < 128 ^ (d + 1) → ∀ x ∈ enc n, 0 ≤ x ∧ x ≤ 255 := by
  induction d with
  | zero => intro n h x hx; rw [enc_small (by omega)] at hx; simp at hx; omega
  | succ d ih =>
    intro n h x hx
    by_cases h1 : n < 128
    · rw [enc_small h1] at hx; simp at hx; omega
    · rw [enc_big h1] at hx
      rcases List.mem_cons.1 hx with rfl | hx
      · omega
      · exact ih (n / 128) (by rw [Nat.pow_succ] at h; omega) x hx
/-- No number's bytes begin another's. -/
theorem enc_prefix (d : Nat) : ∀ n m : Nat, n < 128 ^ (d + 1) → (enc n) <+: (enc m) → n = m := by
  induction d with
  | zero =>
    intro n m h hp
    rw [enc_small (by omega)] at hp
    by_cases h2 : m < 128
    · rw [enc_small h2] at hp
      obtain ⟨t, ht⟩ := hp
      simp at ht; omega
    · rw [enc_big h2] at hp
      obtain ⟨t, ht⟩ := hp
      simp at ht; omega
  | succ d ih =>
    intro n m h hp
    by_cases h1 : n < 128
    · rw [enc_small h1] at hp
      by_cases h2 : m < 128
      · rw [enc_small h2] at hp
        obtain ⟨t, ht⟩ := hp
        simp at ht; omega
      · rw [enc_big h2] at hp
        obtain ⟨t, ht⟩ := hp
        simp at ht; omega
    · rw [enc_big h1] at hp
      by_cases h2 : m < 128
      · rw [enc_small h2] at hp
        obtain ⟨t, ht⟩ := hp
        simp at ht; omega
      · rw [enc_big h2] at hp
        rw [List.cons_prefix_cons] at hp
        have := ih (n / 128) (m / 128) (by rw [Nat.pow_succ] at h; omega) hp.2
        have := hp.1
        omega
theorem enc_last (d : Nat) : ∀ n : Nat, n < 128 ^ (d + 1) → ∀ i : Nat, i + 1 = (enc n).length → (enc n).getD i 0 < 128 := by
  induction d with
  | zero =>
    intro n h i hi
    rw [enc_small (by omega)] at hi ⊢
    simp at hi; subst hi; simp; omega
  | succ d ih =>
    intro n h i hi
    by_cases h1 : n < 128
    · rw [enc_small h1] at hi ⊢
      simp at hi; subst hi; simp; omega
    · rw [enc_big h1] at hi ⊢
      rw [List.length_cons] at hi
      have hp := enc_len_pos (n / 128)
      obtain ⟨j, rfl⟩ : ∃ j, i = j + 1 := ⟨i - 1, by omega⟩
      rw [List.getD_cons_succ]
      exact ih (n / 128) (by rw [Nat.pow_succ] at h; omega) j (by omega)
theorem or128 (x : Int) (h0 : 0 ≤ x) (h1 : x < 256) : Go.bits .or .u8 x 128 = x % 128 + 128 := by
  obtain ⟨n, rfl⟩ := Int.eq_ofNat_of_zero_le h0
  have key : ∀ m : Fin 256, Go.bits .or .u8 ((m.val : Nat) : Int) 128 = ((m.val : Nat) : Int) % 128 + 128 := by decide +kernel
  exact key ⟨n, by omega⟩
theorem put_eq (d : Nat) : ∀ (k n : Nat) (l : List Int), n < 128 ^ (d + 1) → d < k → l.length + d + 1 < 140737488355328 → pack_put.l0 k l n = some (l ++ enc n) := by
  induction d with
  | zero =>
    intro k n l h hk hl
    obtain ⟨k, rfl⟩ : ∃ m, k = m + 1 := ⟨k - 1, by omega⟩
    simp only [pack_put.l0]
    rw [if_neg (by omega), if_pos (by omega), enc_small (by omega), show ((n : Int) % 256) = n by omega]
  | succ d ih =>
    intro k n l h hk hl
    obtain ⟨k, rfl⟩ : ∃ m, k = m + 1 := ⟨k - 1, by omega⟩
    simp only [pack_put.l0]
    by_cases h1 : n < 128
    · rw [if_neg (by omega), if_pos (by omega), enc_small h1, show ((n : Int) % 256) = n by omega]
    · rw [if_pos (by omega), if_pos (by omega), or128 _ (by omega) (by omega), enc_big h1]
      have := ih k (n / 128) (l ++ [((n % 128 + 128 : Nat) : Int)]) (by rw [Nat.pow_succ] at h; omega) (by omega) (by simp; omega)
      rw [show ((n : Int) % 256 % 128 + 128) = ((n % 128 + 128 : Nat) : Int) by omega, show ((n : Int) / 128) = ((n / 128 : Nat) : Int) by omega, this]
      simp
theorem clone_eq (l : List Int) (h : l.length < 140737488355328) : slices_Clone_byte_byte.f l = some l := by
  unfold slices_Clone_byte_byte.f
  simp [h]
/-- What Uint writes. -/
def nat0 (n : Int) : Nat := (max n 0).toNat
theorem pow10 : (18446744073709551616 : Nat) ≤ 128 ^ (9 + 1) := by decide
theorem uint_eq (k : Nat) (hk : 10 ≤ k) (l : List Int) (n : Int) (hn : In64 n) (h : l.length + 11 < 140737488355328) : pack_Uint.f k l n = some (l ++ enc (nat0 n)) := by
  unfold pack_Uint.f
  rw [clone_eq l (by omega)]
  simp only [Option.bind_some]
  have e : IntKind.u64.wrap (mx n 0) = ((nat0 n : Nat) : Int) := by rw [u64_wrap]; unfold mx nat0; split <;> omega
  unfold pack_put.f
  rw [e, put_eq 9 k (nat0 n) l (Nat.lt_of_lt_of_le (by unfold nat0; omega) pow10) (by omega) (by omega)]
  rfl
/-- Numbers with signs, laid onto those from 0 on. -/
def zig (n : Int) : Nat := if 0 ≤ n then (2 * n).toNat else (-2 * n - 1).toNat
theorem xor_u64 (a b : Nat) (ha : a < 18446744073709551616) (hb : b < 18446744073709551616) : Go.bits .xor .u64 (a : Int) (b : Int) = ((a ^^^ b : Nat) : Int) := by
  show IntKind.u64.wrap (((BitVec.ofInt 64 (a : Int)) ^^^ (BitVec.ofInt 64 (b : Int))).toNat : Int) = _
  rw [u64_wrap, BitVec.ofInt_natCast, BitVec.ofInt_natCast, BitVec.toNat_xor, BitVec.toNat_ofNat, BitVec.toNat_ofNat, Nat.mod_eq_of_lt ha, Nat.mod_eq_of_lt hb]
  have := Nat.xor_lt_two_pow (n := 64) ha hb
  have e : (2 : Nat) ^ 64 = 18446744073709551616 := by decide
  omega
theorem xor_zero (x : Int) (h0 : 0 ≤ x) (h1 : x < 18446744073709551616) : Go.bits .xor .u64 x 0 = x := by
  obtain ⟨n, rfl⟩ := Int.eq_ofNat_of_zero_le h0
  have := xor_u64 n 0 (by omega) (by decide)
  rw [Nat.xor_zero] at this
  exact this
theorem xor_ones (x : Int) (h0 : 0 ≤ x) (h1 : x < 18446744073709551616) : Go.bits .xor .u64 x 18446744073709551615 = 18446744073709551615 - x := by
  obtain ⟨n, rfl⟩ := Int.eq_ofNat_of_zero_le h0
  have := xor_u64 n 18446744073709551615 (by omega) (by decide)
  have e : n ^^^ 18446744073709551615 = 18446744073709551615 - n := by
    have h := congrArg BitVec.toNat (BitVec.xor_allOnes (x := BitVec.ofNat 64 n))
    rw [BitVec.toNat_xor, BitVec.toNat_not, BitVec.toNat_ofNat, Nat.mod_eq_of_lt (show n < 2 ^ 64 by omega), BitVec.toNat_allOnes] at h
    exact h
  rw [e] at this
  rw [show (18446744073709551615 : Int) = ((18446744073709551615 : Nat) : Int) from rfl, this]
  omega
theorem fold_eq (n : Int) (hn : In64 n) : pack_fold.f n = some (zig n : Int) := by
  unfold pack_fold.f zig
  simp only [u64_wrap]
  by_cases h : 0 ≤ n
  · rw [if_pos h, show n / 9223372036854775808 % 18446744073709551616 = 0 by omega, xor_zero _ (by omega) (by omega)]
    congr 1; omega
  · rw [if_neg h, show n / 9223372036854775808 % 18446744073709551616 = 18446744073709551615 by omega, xor_ones _ (by omega) (by omega)]
    congr 1; omega
theorem zig_lt (n : Int) (hn : In64 n) : zig n < 18446744073709551616 := by unfold zig; split <;> omega
theorem int_eq (k : Nat) (hk : 10 ≤ k) (l : List Int) (n : Int) (hn : In64 n) (h : l.length + 11 < 140737488355328) : pack_Int.f k l n = some (l ++ enc (zig n)) := by
  unfold pack_Int.f
  rw [clone_eq l (by omega), fold_eq n hn]
  simp only [Option.bind_some]
  unfold pack_put.f
  rw [put_eq 9 k (zig n) l (Nat.lt_of_lt_of_le (zig_lt n hn) pow10) (by omega) (by omega)]
  rfl
theorem pack_small : barrowlaw03_small.f 100 = some true := by decide +kernel
end Go.Proofs.Ytkidppjaclgkkaa.Pure
