/- What is written: the program's bytes are the document's, and what was lent stands as it did. -/
import Derived.Laws.BitsLemmas
import Derived.Test.YtkidppjaclgkkaaSL4
import Derived.Test.YtkidppjaclgkkaaXPWx1
import Derived.Test.YtkidppjaclgkkaaXPWx2
import Derived.Test.YtkidppjaclgkkaaXPWx3
import Derived.Test.YtkidppjaclgkkaaXPWx6
import Derived.Test.YtkidppjaclgkkaaXPWx8
import Derived.Test.YtkidppjaclgkkaaXPWx9
import Derived.Test.YtkidppjaclgkkaaXPWx10
set_option linter.unusedSimpArgs false
set_option linter.unusedVariables false
namespace Go.Proofs.Ytkidppjaclgkkaa.Pure
open Go.RowKit Go.Proofs.Ytkidppjaclgkkaa.XPW Go.Proofs.YtkidppjaclgkkaaW.PrintWords Go.Proofs.YtkidppjaclgkkaaW.PrintLast Go.Proofs.YtkidppjaclgkkaaW.PrintMore

abbrev In64 (a : Int) : Prop := -9223372036854775808 ≤ a ∧ a ≤ 9223372036854775807
theorem i64_of {a : Int} (h : (Lit.int .i64 a).wf = true) : In64 a := by
  simp [Lit.wf, IntKind.min, IntKind.max, IntKind.bits, IntKind.signed] at h
  exact ⟨by omega, by omega⟩
theorem u8_of {a : Int} (h : (Lit.int .u8 a).wf = true) : 0 ≤ a ∧ a ≤ 255 := by
  simp [Lit.wf, IntKind.min, IntKind.max, IntKind.bits, IntKind.signed] at h
  omega
theorem u64_wrap (n : Int) : IntKind.u64.wrap n = n % 18446744073709551616 := by simp [IntKind.wrap, IntKind.bits, IntKind.signed]
/-- A number in groups of 7 bits, the lowest first. -/
def enc (n : Nat) : List Int := if h : n < 128 then [(n : Int)] else ((n % 128 + 128 : Nat) : Int) :: enc (n / 128)
termination_by n
decreasing_by omega
theorem enc_small {n : Nat} (h : n < 128) : enc n = [(n : Int)] := by rw [enc, dif_pos h]
theorem enc_big {n : Nat} (h : ¬ n < 128) : enc n = ((n % 128 + 128 : Nat) : Int) :: enc (n / 128) := by rw [enc, dif_neg h]
theorem enc_ne (n : Nat) : enc n ≠ [] := by
  rw [enc]; split <;> simp
theorem enc_len_pos (n : Nat) : 1 ≤ (enc n).length := by
  rw [enc]; split <;> simp
theorem enc_len (d : Nat) : ∀ n : Nat, n < 128 ^ (d + 1) → (enc n).length ≤ d + 1 := by
  induction d with
  | zero => intro n h; rw [enc_small (by omega)]; simp
  | succ d ih =>
    intro n h
    by_cases h1 : n < 128
    · rw [enc_small h1]; simp
    · rw [enc_big h1, List.length_cons]
      have := ih (n / 128) (by rw [Nat.pow_succ] at h; omega)
      omega
theorem enc_mono (d : Nat) : ∀ n m : Nat, n < 128 ^ (d + 1) → n ≤ m → (enc n).length ≤ (enc m).length := by
  induction d with
  | zero => intro n m h hm; rw [enc_small (by omega)]; have := enc_len_pos m; simpa using this
  | succ d ih =>
    intro n m h hm
    by_cases h1 : n < 128
    · rw [enc_small h1]; have := enc_len_pos m; simpa using this
    · rw [enc_big h1, enc_big (show ¬ m < 128 by omega), List.length_cons, List.length_cons]
      have := ih (n / 128) (m / 128) (by rw [Nat.pow_succ] at h; omega) (by omega)
      omega
theorem enc_range (d : Nat) : ∀ n : Nat, n < 128 ^ (d + 1) → ∀ x ∈ enc n, 0 ≤ x ∧ x ≤ 255 := by
  induction d with
  | zero => intro n h x hx; rw [enc_small (by omega)] at hx; simp at hx; omega
  | succ d ih =>
    intro n h x hx
    by_cases h1 : n < 128
    · rw [enc_small h1] at hx; simp at hx; omega
    · rw [enc_big h1] at hx
      rcases List.mem_cons.1 hx with rfl | hx
      · omega
      · exact ih (n / 128) (by rw [Nat.pow_succ] at h; omega) x hx
/-- No number's bytes begin another's. -/
theorem enc_prefix (d : Nat) : ∀ n m : Nat, n < 128 ^ (d + 1) → (enc n) <+: (enc m) → n = m := by
  induction d with
  | zero =>
    intro n m h hp
    rw [enc_small (by omega)] at hp
    by_cases h2 : m < 128
    · rw [enc_small h2] at hp
      obtain ⟨t, ht⟩ := hp
      simp at ht; omega
    · rw [enc_big h2] at hp
      obtain ⟨t, ht⟩ := hp
      simp at ht; omega
  | succ d ih =>
    intro n m h hp
    by_cases h1 : n < 128
    · rw [enc_small h1] at hp
      by_cases h2 : m < 128
      · rw [enc_small h2] at hp
        obtain ⟨t, ht⟩ := hp
        simp at ht; omega
      · rw [enc_big h2] at hp
        obtain ⟨t, ht⟩ := hp
        simp at ht; omega
    · rw [enc_big h1] at hp
      by_cases h2 : m < 128
      · rw [enc_small h2] at hp
        obtain ⟨t, ht⟩ := hp
        simp at ht; omega
      · rw [enc_big h2] at hp
        rw [List.cons_prefix_cons] at hp
        have := ih (n / 128) (m / 128) (by rw [Nat.pow_succ] at h; omega) hp.2
        have := hp.1
        omega
theorem enc_last (d : Nat) : ∀ n : Nat, n < 128 ^ (d + 1) → ∀ i : Nat, i + 1 = (enc n).length → (enc n).getD i 0 < 128 := by
  induction d with
  | zero =>
    intro n h i hi
    rw [enc_small (by omega)] at hi ⊢
    simp at hi; subst hi; simp; omega
  | succ d ih =>
    intro n h i hi
    by_cases h1 : n < 128
    · rw [enc_small h1] at hi ⊢
      simp at hi; subst hi; simp; omega
    · rw [enc_big h1] at hi ⊢
      rw [List.length_cons] at hi
      have hp := enc_len_pos (n / 128)
      obtain ⟨j, rfl⟩ : ∃ j, i = j + 1 := ⟨i - 1, by omega⟩
      rw [List.getD_cons_succ]
      exact ih (n / 128) (by rw [Nat.pow_succ] at h; omega) j (by omega)
theorem or128 (x : Int) (h0 : 0 ≤ x) (h1 : x < 256) : Go.bits .or .u8 x 128 = x % 128 + 128 := by
  obtain ⟨n, rfl⟩ := Int.eq_ofNat_of_zero_le h0
  have key : ∀ m : Fin 256, Go.bits .or .u8 ((m.val : Nat) : Int) 128 = ((m.val : Nat) : Int) % 128 + 128 := by decide +kernel
  exact key ⟨n, by omega⟩
theorem put_eq (d : Nat) : ∀ (k n : Nat) (l : List Int), n < 128 ^ (d + 1) → d < k → l.length + d + 1 < 140737488355328 → pack_put.l0 k l n = some (l ++ enc n) := by
  induction d with
  | zero =>
    intro k n l h hk hl
    obtain ⟨k, rfl⟩ : ∃ m, k = m + 1 := ⟨k - 1, by omega⟩
    simp only [pack_put.l0]
    rw [if_neg (by omega), if_pos (by omega), enc_small (by omega), show ((n : Int) % 256) = n by omega]
  | succ d ih =>
    intro k n l h hk hl
    obtain ⟨k, rfl⟩ : ∃ m, k = m + 1 := ⟨k - 1, by omega⟩
    simp only [pack_put.l0]
    by_cases h1 : n < 128
    · rw [if_neg (by omega), if_pos (by omega), enc_small h1, show ((n : Int) % 256) = n by omega]
    · rw [if_pos (by omega), if_pos (by omega), or128 _ (by omega) (by omega), enc_big h1]
      have := ih k (n / 128) (l ++ [((n % 128 + 128 : Nat) : Int)]) (by rw [Nat.pow_succ] at h; omega) (by omega) (by simp; omega)
      rw [show ((n : Int) % 256 % 128 + 128) = ((n % 128 + 128 : Nat) : Int) by omega, show ((n : Int) / 128) = ((n / 128 : Nat) : Int) by omega, this]
      simp
theorem clone_eq (l : List Int) (h : l.length < 140737488355328) : slices_Clone_byte_byte.f l = some l := by
  unfold slices_Clone_byte_byte.f
  simp [h]
/-- What Uint writes. -/
def nat0 (n : Int) : Nat := (max n 0).toNat
theorem pow10 : (18446744073709551616 : Nat) ≤ 128 ^ (9 + 1) := by decide
theorem uint_eq (k : Nat) (hk : 10 ≤ k) (l : List Int) (n : Int) (hn : In64 n) (h : l.length + 11 < 140737488355328) : pack_Uint.f k l n = some (l ++ enc (nat0 n)) := by
  unfold pack_Uint.f
  rw [clone_eq l (by omega)]
  simp only [Option.bind_some]
  have e : IntKind.u64.wrap (mx n 0) = ((nat0 n : Nat) : Int) := by rw [u64_wrap]; unfold mx nat0; split <;> omega
  unfold pack_put.f
  rw [e, put_eq 9 k (nat0 n) l (Nat.lt_of_lt_of_le (by unfold nat0; omega) pow10) (by omega) (by omega)]
  rfl
/-- Numbers with signs, laid onto those from 0 on. -/
def zig (n : Int) : Nat := if 0 ≤ n then (2 * n).toNat else (-2 * n - 1).toNat
theorem xor_u64 (a b : Nat) (ha : a < 18446744073709551616) (hb : b < 18446744073709551616) : Go.bits .xor .u64 (a : Int) (b : Int) = ((a ^^^ b : Nat) : Int) := by
  show IntKind.u64.wrap (((BitVec.ofInt 64 (a : Int)) ^^^ (BitVec.ofInt 64 (b : Int))).toNat : Int) = _
  rw [u64_wrap, BitVec.ofInt_natCast, BitVec.ofInt_natCast, BitVec.toNat_xor, BitVec.toNat_ofNat, BitVec.toNat_ofNat, Nat.mod_eq_of_lt ha, Nat.mod_eq_of_lt hb]
  have := Nat.xor_lt_two_pow (n := 64) ha hb
  have e : (2 : Nat) ^ 64 = 18446744073709551616 := by decide
  omega
theorem xor_zero (x : Int) (h0 : 0 ≤ x) (h1 : x < 18446744073709551616) : Go.bits .xor .u64 x 0 = x := by
  obtain ⟨n, rfl⟩ := Int.eq_ofNat_of_zero_le h0
  have := xor_u64 n 0 (by omega) (by decide)
  rw [Nat.xor_zero] at this
  exact this
theorem xor_ones (x : Int) (h0 : 0 ≤ x) (h1 : x < 18446744073709551616) : Go.bits .xor .u64 x 18446744073709551615 = 18446744073709551615 - x := by
  obtain ⟨n, rfl⟩ := Int.eq_ofNat_of_zero_le h0
  have := xor_u64 n 18446744073709551615 (by omega) (by decide)
  have e : n ^^^ 18446744073709551615 = 18446744073709551615 - n := by
    have h := congrArg BitVec.toNat (BitVec.xor_allOnes (x := BitVec.ofNat 64 n))
    rw [BitVec.toNat_xor, BitVec.toNat_not, BitVec.toNat_ofNat, Nat.mod_eq_of_lt (show n < 2 ^ 64 by omega), BitVec.toNat_allOnes] at h
    exact h
  rw [e] at this
  rw [show (18446744073709551615 : Int) = ((18446744073709551615 : Nat) : Int) from rfl, this]
  omega
theorem fold_eq (n : Int) (hn : In64 n) : pack_fold.f n = some (zig n : Int) := by
  unfold pack_fold.f zig
  simp only [u64_wrap]
  by_cases h : 0 ≤ n
  · rw [if_pos h, show n / 9223372036854775808 % 18446744073709551616 = 0 by omega, xor_zero _ (by omega) (by omega)]
    congr 1; omega
  · rw [if_neg h, show n / 9223372036854775808 % 18446744073709551616 = 18446744073709551615 by omega, xor_ones _ (by omega) (by omega)]
    congr 1; omega
theorem zig_lt (n : Int) (hn : In64 n) : zig n < 18446744073709551616 := by unfold zig; split <;> omega
theorem int_eq (k : Nat) (hk : 10 ≤ k) (l : List Int) (n : Int) (hn : In64 n) (h : l.length + 11 < 140737488355328) : pack_Int.f k l n = some (l ++ enc (zig n)) := by
  unfold pack_Int.f
  rw [clone_eq l (by omega), fold_eq n hn]
  simp only [Option.bind_some]
  unfold pack_put.f
  rw [put_eq 9 k (zig n) l (Nat.lt_of_lt_of_le (zig_lt n hn) pow10) (by omega) (by omega)]
  rfl
theorem pack_small : barrowlaw03_small.f 100 = some true := by decide +kernel
theorem digits_eq (d : Nat) : ∀ (k n : Nat) (l : List Int), n < 128 ^ (d + 1) → n < 18446744073709551616 → d < k → l.length + d + 1 < 140737488355328 → barrowref03_digits.l0 k l n = some (l ++ enc n) := by
  induction d with
  | zero =>
    intro k n l h h64 hk hl
    obtain ⟨k, rfl⟩ : ∃ m, k = m + 1 := ⟨k - 1, by omega⟩
    simp only [barrowref03_digits.l0]
    rw [if_neg (by omega), if_pos (by omega), enc_small (by omega), show ((n : Int) % 256) = n by omega]
  | succ d ih =>
    intro k n l h h64 hk hl
    obtain ⟨k, rfl⟩ : ∃ m, k = m + 1 := ⟨k - 1, by omega⟩
    simp only [barrowref03_digits.l0]
    by_cases h1 : n < 128
    · rw [if_neg (by omega), if_pos (by omega), enc_small h1, show ((n : Int) % 256) = n by omega]
    · rw [if_pos (by omega), if_pos (by omega), enc_big h1, Int.tmod_eq_emod_of_nonneg (by omega), Int.tdiv_eq_ediv_of_nonneg (by omega), u64_wrap, u64_wrap]
      have := ih k (n / 128) (l ++ [((n % 128 + 128 : Nat) : Int)]) (by rw [Nat.pow_succ] at h; omega) (by omega) (by omega) (by simp; omega)
      rw [show ((128 + (n : Int) % 128) % 18446744073709551616 % 256) = ((n % 128 + 128 : Nat) : Int) by omega, show ((n : Int) / 128 % 18446744073709551616) = ((n / 128 : Nat) : Int) by omega, this]
      simp
theorem front_eq (l : List Int) (h : l.length < 140737488355328) : barrowref03_front.f l = some l := by
  unfold barrowref03_front.f
  simp [h]
theorem refuint_eq (k : Nat) (hk : 10 ≤ k) (l : List Int) (n : Int) (hn : In64 n) (h : l.length + 11 < 140737488355328) : barrowref03_Uint.f k l n = some (l ++ enc (nat0 n)) := by
  unfold barrowref03_Uint.f
  rw [front_eq l (by omega)]
  simp only [Option.bind_some]
  have e : IntKind.u64.wrap (mx n 0) = ((nat0 n : Nat) : Int) := by rw [u64_wrap]; unfold mx nat0; split <;> omega
  unfold barrowref03_digits.f
  rw [e, digits_eq 9 k (nat0 n) l (Nat.lt_of_lt_of_le (by unfold nat0; omega) pow10) (by unfold nat0; omega) (by omega) (by omega)]
  rfl
theorem signed_eq (n : Int) (hn : In64 n) : barrowref03_signed.f n = some (zig n : Int) := by
  unfold barrowref03_signed.f zig
  simp only [u64_wrap]
  by_cases h : 0 ≤ n
  · rw [if_neg (by omega), if_pos h]; congr 1; omega
  · rw [if_pos (by omega), if_neg h]; congr 1; unfold wrap64; omega
theorem refint_eq (k : Nat) (hk : 10 ≤ k) (l : List Int) (n : Int) (hn : In64 n) (h : l.length + 11 < 140737488355328) : barrowref03_Int.f k l n = some (l ++ enc (zig n)) := by
  unfold barrowref03_Int.f
  rw [front_eq l (by omega), signed_eq n hn]
  simp only [Option.bind_some]
  unfold barrowref03_digits.f
  rw [digits_eq 9 k (zig n) l (Nat.lt_of_lt_of_le (zig_lt n hn) pow10) (zig_lt n hn) (by omega) (by omega)]
  rfl
theorem rd_mid (p : List Int) (x : Int) (r : List Int) : rd (p ++ x :: r) (p.length : Int) = x := by
  unfold rd
  rw [Int.toNat_natCast, List.getD_eq_getElem?_getD, List.getElem?_append_right (Nat.le_refl _), Nat.sub_self]
  rfl
/-- Numbers, one behind another. -/
def encs (l : List Int) : List Int := (l.map fun x => enc (zig x)).flatten
theorem encs_cons (x : Int) (l : List Int) : encs (x :: l) = enc (zig x) ++ encs l := by simp [encs]
theorem enc_le10 (n : Nat) (h : n < 18446744073709551616) : (enc n).length ≤ 10 := enc_len 9 n (Nat.lt_of_lt_of_le h pow10)
theorem ints_put (l : List Int) (hl : l.length < 140737488355328) (hw : ∀ x ∈ l, In64 x) : ∀ (q p acc : List Int) (k : Nat), p ++ q = l → acc.length + 10 * q.length + 20 < 140737488355328 → q.length + 12 ≤ k → pack_Ints.l0 k acc l (l.length : Int) (p.length : Int) = some (acc ++ encs q) := by
  intro q
  induction q with
  | nil =>
    intro p acc k hp ha hk
    obtain ⟨k, rfl⟩ : ∃ m, k = m + 1 := ⟨k - 1, by omega⟩
    simp only [pack_Ints.l0]
    rw [if_neg (by rw [← hp]; simp)]
    simp [encs]
  | cons x q ih =>
    intro p acc k hp ha hk
    obtain ⟨k, rfl⟩ : ∃ m, k = m + 1 := ⟨k - 1, by omega⟩
    simp only [pack_Ints.l0]
    have hlen : l.length = p.length + (q.length + 1) := by rw [← hp]; simp
    have hx := hw x (by rw [← hp]; simp)
    rw [List.length_cons] at ha hk
    rw [if_pos (by omega), if_pos (by omega), if_pos (by omega), show rd l (p.length : Int) = x by rw [← hp]; exact rd_mid p x q, fold_eq x hx]
    simp only [Option.bind_some]
    unfold pack_put.f
    rw [put_eq 9 k (zig x) acc (Nat.lt_of_lt_of_le (zig_lt x hx) pow10) (by omega) (by omega)]
    simp only [Option.bind_some]
    have := enc_le10 (zig x) (zig_lt x hx)
    rw [show wrap64 ((p.length : Int) + 1) = ((p ++ [x]).length : Int) by unfold wrap64; simp; omega, ih (p ++ [x]) (acc ++ enc (zig x)) k (by rw [← hp]; simp) (by simp; omega) (by omega), encs_cons, List.append_assoc]
theorem text_eq (k : Nat) (hk : 10 ≤ k) (F : List Int) (s : ByteArray) (hs : s.size < 1000000) (hF : F.length < 100000000) : pack_Text.f k F s = some (F ++ enc s.size ++ bytesOf s) := by
  unfold pack_Text.f
  have es : nat0 (s.size : Int) = s.size := by unfold nat0; omega
  have c3 := enc_le10 s.size (by omega)
  rw [uint_eq k hk F (s.size : Int) ⟨by omega, by omega⟩ (by omega), es]
  simp only [Option.bind_some]
  rw [if_pos (by rw [List.length_append]; omega)]
theorem ints_eq (k : Nat) (F l : List Int) (hl : ∀ x ∈ l, In64 x) (hk : l.length + 20 ≤ k) (hll : l.length < 1000000) (hF : F.length < 100000000) : pack_Ints.f k F l = some (F ++ enc l.length ++ encs l) := by
  unfold pack_Ints.f
  have el : nat0 (l.length : Int) = l.length := by unfold nat0; omega
  have c4 := enc_le10 l.length (by omega)
  rw [uint_eq k (by omega) F (l.length : Int) ⟨by omega, by omega⟩ (by omega), el]
  simp only [Option.bind_some]
  have hput := ints_put l (by omega) hl l [] (F ++ enc l.length) k rfl (by rw [List.length_append]; omega) (by omega)
  rw [show (([] : List Int).length : Int) = 0 from rfl] at hput
  exact hput
theorem reftext_eq (k : Nat) (hk : 10 ≤ k) (F : List Int) (s : ByteArray) (hs : s.size < 1000000) (hF : F.length < 100000000) : barrowref03_Text.f k F s = some (F ++ enc s.size ++ bytesOf s) := by
  unfold barrowref03_Text.f
  have es : nat0 (s.size : Int) = s.size := by unfold nat0; omega
  have c3 := enc_le10 s.size (by omega)
  rw [refuint_eq k hk F (s.size : Int) ⟨by omega, by omega⟩ (by omega), es]
  simp only [Option.bind_some]
  rw [if_pos (by rw [List.length_append]; omega)]
theorem refints_put (l : List Int) (hl : l.length < 140737488355328) (hw : ∀ x ∈ l, In64 x) : ∀ (q p acc : List Int) (k : Nat), p ++ q = l → acc.length + 10 * q.length + 20 < 140737488355328 → q.length + 12 ≤ k → barrowref03_Ints.l0 k l acc (p.length : Int) = some (acc ++ encs q) := by
  intro q
  induction q with
  | nil =>
    intro p acc k hp ha hk
    obtain ⟨k, rfl⟩ : ∃ m, k = m + 1 := ⟨k - 1, by omega⟩
    simp only [barrowref03_Ints.l0]
    rw [if_neg (by rw [← hp]; simp)]
    simp [encs]
  | cons x q ih =>
    intro p acc k hp ha hk
    obtain ⟨k, rfl⟩ : ∃ m, k = m + 1 := ⟨k - 1, by omega⟩
    simp only [barrowref03_Ints.l0]
    have hlen : l.length = p.length + (q.length + 1) := by rw [← hp]; simp
    have hx := hw x (by rw [← hp]; simp)
    rw [List.length_cons] at ha hk
    rw [if_pos (by omega), if_pos (by omega), show rd l (p.length : Int) = x by rw [← hp]; exact rd_mid p x q, signed_eq x hx]
    simp only [Option.bind_some]
    unfold barrowref03_digits.f
    rw [digits_eq 9 k (zig x) acc (Nat.lt_of_lt_of_le (zig_lt x hx) pow10) (zig_lt x hx) (by omega) (by omega)]
    simp only [Option.bind_some]
    have := enc_le10 (zig x) (zig_lt x hx)
    rw [show wrap64 ((p.length : Int) + 1) = ((p ++ [x]).length : Int) by unfold wrap64; simp; omega, ih (p ++ [x]) (acc ++ enc (zig x)) k (by rw [← hp]; simp) (by simp; omega) (by omega), encs_cons, List.append_assoc]
theorem refints_eq (k : Nat) (F l : List Int) (hl : ∀ x ∈ l, In64 x) (hk : l.length + 20 ≤ k) (hll : l.length < 1000000) (hF : F.length < 100000000) : barrowref03_Ints.f k F l = some (F ++ enc l.length ++ encs l) := by
  unfold barrowref03_Ints.f
  have el : nat0 (l.length : Int) = l.length := by unfold nat0; omega
  have c4 := enc_le10 l.length (by omega)
  rw [refuint_eq k (by omega) F (l.length : Int) ⟨by omega, by omega⟩ (by omega), el]
  simp only [Option.bind_some]
  have hput := refints_put l (by omega) hl l [] (F ++ enc l.length) k rfl (by rw [List.length_append]; omega) (by omega)
  rw [show (([] : List Int).length : Int) = 0 from rfl] at hput
  exact hput
theorem kept_eq (b : List Int) : barrowlaw03_Kept.f b b = some (true, b) := by
  unfold barrowlaw03_Kept.f
  rw [decide_eq_true rfl]
theorem writes_l0 (b x y z : List Int) (hb : b.length ≤ 2048) (hx : b.length ≤ x.length) (hy : b.length ≤ y.length) (hlx : x.length ≤ 100000) : ∀ (n i k : Nat) (u v : List Int), i + n = b.length → n < k →
    barrowlaw03_PackWrites.l0 k b i u v true b x y z true b z = some true := by
  intro n
  induction n with
  | zero =>
    intro i k u v hi hk
    obtain ⟨k, rfl⟩ : ∃ m, k = m + 1 := ⟨k - 1, by omega⟩
    have e : (if (true : Bool) = true then (if (strOfNums z).toList = (strOfNums z).toList then (if (true : Bool) = true then ((barrowlaw03_Kept.f b b).bind fun bt => (some bt.1)) else (none)) else (none)) else (none)) = some true := by
      rw [if_pos rfl, if_pos rfl, if_pos rfl, kept_eq]
      rfl
    rw [barrowlaw03_PackWrites.l0]
    by_cases c : (i : Int) < (x.length : Int)
    · rw [if_pos c, if_neg (by omega)]
      exact e
    · rw [if_neg c]
      exact e
  | succ n ih =>
    intro i k u v hi hk
    obtain ⟨k, rfl⟩ : ∃ m, k = m + 1 := ⟨k - 1, by omega⟩
    rw [barrowlaw03_PackWrites.l0, if_pos (by omega), if_pos (by omega), if_pos (by omega), Option.bind_some, if_pos (by omega), Option.bind_some, show wrap64 ((i : Int) + 1) = ((i + 1 : Nat) : Int) by unfold wrap64; omega]
    exact ih (i + 1) k _ _ (by omega) (by omega)
theorem small_all (k : Nat) (hk : 100 ≤ k) : barrowlaw03_small.f k = some true := by
  obtain ⟨d, rfl⟩ := Nat.exists_eq_add_of_le hk
  clear hk
  induction d with
  | zero => exact pack_small
  | succ d ih => exact barrowlaw03_small.mono _ _ ih
theorem PackWrites : barrowlaw03_PackWrites.Pure := by
  intro l0 n s l h0 hn hs h3
  refine ⟨100000, ?_⟩
  have hn := i64_of hn
  have hl : ∀ x ∈ l, In64 x := fun x hx => i64_of (h3.2.2 x hx)
  unfold barrowlaw03_PackWrites.f
  rw [small_all _ (by omega), Option.bind_some]
  have hw : wrap64 ((l0.length : Int) + (s.size : Int)) = (l0.length : Int) + (s.size : Int) := by
    have := h0.2.1
    unfold wrap64; omega
  rw [hw]
  by_cases c1 : (l0.length : Int) + (s.size : Int) > 2048
  · rw [if_pos c1]
  rw [if_neg c1]
  by_cases c2 : (l.length : Int) > 300
  · rw [if_pos c2]
  rw [if_neg c2]
  have e1 : barrowlaw03_Lent.f l0 = some l0 := by unfold barrowlaw03_Lent.f; rw [if_pos (by omega)]
  have b1 := enc_le10 (nat0 n) (by unfold nat0; omega)
  rw [e1, Option.bind_some, uint_eq _ (by omega) l0 n hn (by omega), Option.bind_some, int_eq _ (by omega) l0 n hn (by omega), Option.bind_some, text_eq _ (by omega) l0 s (by omega) (by omega), Option.bind_some, ints_eq _ l0 l hl (by omega) (by omega) (by omega), Option.bind_some, kept_eq, Option.bind_some, refuint_eq _ (by omega) l0 n hn (by omega), Option.bind_some, if_pos rfl, refint_eq _ (by omega) l0 n hn (by omega), Option.bind_some, if_pos rfl, reftext_eq _ (by omega) l0 s (by omega) (by omega), Option.bind_some, if_pos rfl, refints_eq _ l0 l hl (by omega) (by omega) (by omega), Option.bind_some]
  exact writes_l0 l0 _ _ _ (by omega) (by simp) (by simp) (by rw [List.length_append]; omega) l0.length 0 _ _ _ (by omega) (by omega)
end Go.Proofs.Ytkidppjaclgkkaa.Pure
