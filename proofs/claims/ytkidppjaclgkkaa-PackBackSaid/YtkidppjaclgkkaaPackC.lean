/- What is read: numbers, texts and rows. -/
import Derived.Test.YtkidppjaclgkkaaPackB
set_option linter.unusedSimpArgs false
set_option linter.unusedVariables false
namespace Go.Proofs.Ytkidppjaclgkkaa.Pure
open Go.RowKit Go.Proofs.Ytkidppjaclgkkaa.XPack Go.Proofs.YtkidppjaclgkkaaW.PrintWords Go.Proofs.YtkidppjaclgkkaaW.PrintLast Go.Proofs.YtkidppjaclgkkaaW.PrintMore

/-- What ReadUint tells. -/
def uintS (b : List Int) (at_ : Int) : Int × Int × Int := match rdS b at_ with | none => (0, at_, 2) | some (v, c) => if (v : Int) > 9223372036854775807 then (0, at_, 2) else ((v : Int), at_ + c, 0)
theorem readuint_eq (k : Nat) (b : List Int) (hb : Bytes b) (hlen : b.length < 140737488355328) (hk : b.length + 14 ≤ k) (at_ : Int) : pack_ReadUint.f k b at_ = some (uintS b at_) := by
  unfold pack_ReadUint.f uintS
  rw [read_eq k b hb hlen (by omega) at_]
  simp only [Option.bind_some]
  cases hs : rdS b at_ with
  | none => simp
  | some vc =>
    obtain ⟨v, c⟩ := vc
    have hf := rdS_facts hb hs
    simp only []
    rw [if_true]
    by_cases h : (v : Int) > 9223372036854775807
    · rw [if_pos h, if_pos h]
    · rw [if_neg h, if_neg h, show wrap64 (v : Int) = v by unfold wrap64; omega]
theorem refreaduint_eq (k : Nat) (b : List Int) (hb : Bytes b) (hlen : b.length < 140737488355328) (hk : b.length + 14 ≤ k) (at_ : Int) : barrowref03_ReadUint.f k b at_ = some (uintS b at_) := by
  unfold barrowref03_ReadUint.f uintS
  rw [refread_eq k b hb hlen hk at_]
  simp only [Option.bind_some]
  cases hs : rdS b at_ with
  | none => simp
  | some vc =>
    obtain ⟨v, c⟩ := vc
    have hf := rdS_facts hb hs
    simp only []
    rw [if_true]
    by_cases h : (v : Int) > 9223372036854775807
    · rw [if_pos h, if_pos h]
    · rw [if_neg h, if_neg h, show wrap64 (v : Int) = v by unfold wrap64; omega]
theorem uintS_facts {b : List Int} (hb : Bytes b) (at_ : Int) : uintS b at_ = (0, at_, 2) ∨ ∃ v nx, uintS b at_ = (v, nx, 0) ∧ 0 ≤ v ∧ v ≤ 9223372036854775807 ∧ 0 ≤ at_ ∧ at_ < nx ∧ nx ≤ b.length := by
  unfold uintS
  cases hs : rdS b at_ with
  | none => exact Or.inl rfl
  | some vc =>
    obtain ⟨v, c⟩ := vc
    have hf := rdS_facts hb hs
    simp only []
    split
    · exact Or.inl rfl
    · exact Or.inr ⟨v, at_ + c, rfl, by omega, by omega, by omega, by omega, by omega⟩
/-- A number with its sign out of one from 0 on. -/
def unzig (n : Nat) : Int := if n % 2 = 0 then ((n / 2 : Nat) : Int) else -((n / 2 : Nat) : Int) - 1
theorem xor_i64_zero (x : Int) (h0 : 0 ≤ x) (h1 : x < 9223372036854775808) : Go.bits .xor .i64 x 0 = x := by
  obtain ⟨n, rfl⟩ := Int.eq_ofNat_of_zero_le h0
  show IntKind.i64.wrap (((BitVec.ofInt 64 (n : Int)) ^^^ (BitVec.ofInt 64 (0 : Int))).toNat : Int) = _
  rw [BitVec.ofInt_natCast, BitVec.toNat_xor, BitVec.toNat_ofNat, Nat.mod_eq_of_lt (show n < 2 ^ 64 by omega), show (BitVec.ofInt 64 (0 : Int)).toNat = 0 by decide, Nat.xor_zero]
  simp [IntKind.wrap, IntKind.bits, IntKind.signed]
  omega
theorem xor_i64_ones (x : Int) (h0 : 0 ≤ x) (h1 : x < 9223372036854775808) : Go.bits .xor .i64 x (-1) = -x - 1 := by
  obtain ⟨n, rfl⟩ := Int.eq_ofNat_of_zero_le h0
  show IntKind.i64.wrap (((BitVec.ofInt 64 (n : Int)) ^^^ (BitVec.ofInt 64 (-1 : Int))).toNat : Int) = _
  have e : n ^^^ 18446744073709551615 = 18446744073709551615 - n := by
    have h := congrArg BitVec.toNat (BitVec.xor_allOnes (x := BitVec.ofNat 64 n))
    rw [BitVec.toNat_xor, BitVec.toNat_not, BitVec.toNat_ofNat, Nat.mod_eq_of_lt (show n < 2 ^ 64 by omega), BitVec.toNat_allOnes] at h
    exact h
  rw [BitVec.ofInt_natCast, BitVec.toNat_xor, BitVec.toNat_ofNat, Nat.mod_eq_of_lt (show n < 2 ^ 64 by omega), show (BitVec.ofInt 64 (-1 : Int)).toNat = 18446744073709551615 by decide, e]
  simp [IntKind.wrap, IntKind.bits, IntKind.signed]
  omega
theorem and_one (n : Nat) (h : n < 18446744073709551616) : Go.bits .and .u64 (n : Int) 1 = ((n % 2 : Nat) : Int) := by
  show IntKind.u64.wrap (((BitVec.ofInt 64 (n : Int)) &&& (BitVec.ofInt 64 (1 : Int))).toNat : Int) = _
  rw [BitVec.ofInt_natCast, BitVec.toNat_and, BitVec.toNat_ofNat, Nat.mod_eq_of_lt (show n < 2 ^ 64 by omega), show (BitVec.ofInt 64 (1 : Int)).toNat = 1 by decide, Nat.and_one_is_mod, u64_wrap]
  omega
theorem unfold_eq (n : Nat) (h : n < 18446744073709551616) : pack_unfold.f (n : Int) = some (unzig n) := by
  unfold pack_unfold.f unzig
  rw [and_one n h, show wrap64 ((n : Int) / 2) = ((n / 2 : Nat) : Int) by unfold wrap64; omega]
  by_cases h2 : n % 2 = 0
  · rw [if_pos h2, h2, show wrap64 (-(wrap64 ((0 : Nat) : Int))) = 0 by unfold wrap64; omega, xor_i64_zero _ (by omega) (by omega)]
  · rw [if_neg h2, show n % 2 = 1 by omega, show wrap64 (-(wrap64 ((1 : Nat) : Int))) = -1 by unfold wrap64; omega, xor_i64_ones _ (by omega) (by omega)]
theorem unzig_zig (n : Int) (hn : In64 n) : unzig (zig n) = n := by unfold unzig zig; (repeat' split) <;> omega
/-- What ReadInt tells. -/
def intS (b : List Int) (at_ : Int) : Int × Int × Int := match rdS b at_ with | none => (0, at_, 2) | some (v, c) => (unzig v, at_ + c, 0)
theorem readint_eq (k : Nat) (b : List Int) (hb : Bytes b) (hlen : b.length < 140737488355328) (hk : b.length + 14 ≤ k) (at_ : Int) : pack_ReadInt.f k b at_ = some (intS b at_) := by
  unfold pack_ReadInt.f intS
  rw [read_eq k b hb hlen (by omega) at_]
  simp only [Option.bind_some]
  cases hs : rdS b at_ with
  | none =>
    simp only []
    have := unfold_eq 0 (by decide)
    rw [show ((0 : Nat) : Int) = 0 from rfl] at this
    rw [this]
    rfl
  | some vc =>
    obtain ⟨v, c⟩ := vc
    have hf := rdS_facts hb hs
    simp only []
    rw [unfold_eq v hf.1]
    rfl
theorem refreadint_eq (k : Nat) (b : List Int) (hb : Bytes b) (hlen : b.length < 140737488355328) (hk : b.length + 14 ≤ k) (at_ : Int) : barrowref03_ReadInt.f k b at_ = some (intS b at_) := by
  unfold barrowref03_ReadInt.f intS
  rw [refread_eq k b hb hlen hk at_]
  simp only [Option.bind_some]
  cases hs : rdS b at_ with
  | none => simp
  | some vc =>
    obtain ⟨v, c⟩ := vc
    have hf := rdS_facts hb hs
    simp only []
    rw [if_true, Int.tmod_eq_emod_of_nonneg (by omega), Int.tdiv_eq_ediv_of_nonneg (by omega), u64_wrap]
    unfold unzig
    by_cases h : (v : Int) % 2 = 1
    · rw [if_pos h, if_neg (by omega), show wrap64 ((wrap64 (-(wrap64 ((v : Int) / 2 % 18446744073709551616)))) - 1) = -((v / 2 : Nat) : Int) - 1 by unfold wrap64; omega]
    · rw [if_neg h, if_pos (by omega), show wrap64 ((v : Int) / 2 % 18446744073709551616) = ((v / 2 : Nat) : Int) by unfold wrap64; omega]
theorem intS_facts {b : List Int} (hb : Bytes b) (at_ : Int) : intS b at_ = (0, at_, 2) ∨ ∃ v nx, intS b at_ = (v, nx, 0) ∧ 0 ≤ at_ ∧ at_ < nx ∧ nx ≤ b.length := by
  unfold intS
  cases hs : rdS b at_ with
  | none => exact Or.inl rfl
  | some vc =>
    obtain ⟨v, c⟩ := vc
    have hf := rdS_facts hb hs
    exact Or.inr ⟨unzig v, at_ + c, rfl, by omega, by omega, by omega⟩
/-- What count tells. -/
def countS (b : List Int) (at_ most : Int) : Int × Int × Int := if (uintS b at_).2.2 = 0 then (if (uintS b at_).1 > most then (0, at_, 3) else uintS b at_) else uintS b at_
theorem count_eq (k : Nat) (b : List Int) (hb : Bytes b) (hlen : b.length < 140737488355328) (hk : b.length + 14 ≤ k) (at_ most : Int) : pack_count.f k b at_ most = some (countS b at_ most) := by
  unfold pack_count.f countS
  rw [readuint_eq k b hb hlen hk at_]
  simp only [Option.bind_some]
  (repeat' split) <;> rfl
/-- Texts are read alike. -/
theorem readtext_eq (k : Nat) (b : List Int) (hb : Bytes b) (hlen : b.length < 140737488355328) (hk : b.length + 14 ≤ k) (at_ most : Int) : ∃ r, pack_ReadText.f k b at_ most = some r ∧ barrowref03_ReadText.f k b at_ most = some r := by
  unfold pack_ReadText.f barrowref03_ReadText.f
  rw [count_eq k b hb hlen hk, refreaduint_eq k b hb hlen hk]
  simp only [Option.bind_some]
  unfold countS
  rcases uintS_facts hb at_ with h | ⟨v, nx, h, h0, h1, h2, h3, h4⟩
  · rw [h]
    exact ⟨_, rfl, rfl⟩
  · rw [h]
    simp only [if_true]
    by_cases hm : v > most
    · rw [if_pos hm, if_pos hm]
      exact ⟨_, rfl, rfl⟩
    · rw [if_neg hm, if_neg hm]
      simp only [if_true]
      have hw : wrap64 ((b.length : Int) - nx) = (b.length : Int) - nx := by unfold wrap64; omega
      rw [hw]
      by_cases hl : v > (b.length : Int) - nx
      · rw [if_pos hl]
        exact ⟨_, rfl, rfl⟩
      · have hw2 : wrap64 (nx + v) = nx + v := by unfold wrap64; omega
        rw [if_neg hl, hw2, if_pos (by omega), if_pos (by omega), if_pos (by omega)]
        exact ⟨_, rfl, rfl⟩
/-- Rows are read alike. -/
theorem ints_l0 (b : List Int) (hb : Bytes b) (hlen : b.length < 17592186044416) (at_ n : Int) (hn : 0 ≤ n ∧ n ≤ 9223372036854775807) : ∀ (m k : Nat) (nx : Int) (acc : List Int), nx ≤ b.length → (b.length : Int) - nx < m → acc.length ≤ nx → b.length + 15 + m ≤ k →
    ∃ r, pack_ReadInts.l0 k b at_ nx acc n (acc.length : Int) = some r ∧ barrowref03_ReadInts.l0 k b at_ n nx acc (acc.length : Int) = some r ∧ r.1.length ≤ b.length := by
  intro m
  induction m with
  | zero => intro k nx acc h1 h2 h3 hk; omega
  | succ m ih =>
    intro k nx acc h1 h2 h3 hk
    obtain ⟨k, rfl⟩ : ∃ m, k = m + 1 := ⟨k - 1, by omega⟩
    simp only [pack_ReadInts.l0, barrowref03_ReadInts.l0]
    by_cases hlt : (acc.length : Int) < n
    · rw [if_pos hlt, if_pos hlt, readint_eq k b hb (by omega) (by omega), refreadint_eq k b hb (by omega) (by omega)]
      simp only [Option.bind_some]
      rcases intS_facts hb nx with h | ⟨v, ny, h, h4, h5, h6⟩
      · rw [h]
        exact ⟨_, rfl, rfl, by simp⟩
      · rw [h]
        simp only [if_true]
        rw [if_pos (by omega), show wrap64 ((acc.length : Int) + 1) = ((acc ++ [v]).length : Int) by unfold wrap64; simp; omega]
        rw [if_pos (by omega)]
        exact ih k ny (acc ++ [v]) (by omega) (by omega) (by simp; omega) (by omega)
    · rw [if_neg hlt, if_neg hlt]
      exact ⟨_, rfl, rfl, by simp; omega⟩
theorem readints_eq (k : Nat) (b : List Int) (hb : Bytes b) (hlen : b.length < 17592186044416) (hk : 2 * b.length + 20 ≤ k) (at_ most : Int) : ∃ r, pack_ReadInts.f k b at_ most = some r ∧ barrowref03_ReadInts.f k b at_ most = some r ∧ r.1.length ≤ b.length := by
  unfold pack_ReadInts.f barrowref03_ReadInts.f
  rw [count_eq k b hb (by omega) (by omega), refreaduint_eq k b hb (by omega) (by omega)]
  simp only [Option.bind_some]
  unfold countS
  rcases uintS_facts hb at_ with h | ⟨v, nx, h, h0, h1, h2, h3, h4⟩
  · rw [h]
    exact ⟨_, rfl, rfl, by simp⟩
  · rw [h]
    simp only [if_true]
    by_cases hm : v > most
    · rw [if_pos hm, if_pos hm]
      exact ⟨_, rfl, rfl, by simp⟩
    · rw [if_neg hm, if_neg hm]
      simp only [if_true]
      exact ints_l0 b hb hlen at_ v ⟨h0, h1⟩ (b.length + 1) k nx [] h4 (by omega) (by simp; omega) (by omega)
theorem same_l0 (l : List Int) (hl : l.length < 140737488355328) : ∀ (m k i : Nat), i + m = l.length → m < k → barrowref02_Same.l0 k l l i = some true := by
  intro m
  induction m with
  | zero =>
    intro k i h hk
    obtain ⟨k, rfl⟩ : ∃ m, k = m + 1 := ⟨k - 1, by omega⟩
    simp only [barrowref02_Same.l0]
    rw [if_neg (by omega)]
  | succ m ih =>
    intro k i h hk
    obtain ⟨k, rfl⟩ : ∃ m, k = m + 1 := ⟨k - 1, by omega⟩
    simp only [barrowref02_Same.l0]
    rw [if_pos (by omega), if_pos (by omega), if_pos (by omega), if_true, show wrap64 ((i : Int) + 1) = ((i + 1 : Nat) : Int) by unfold wrap64; omega]
    exact ih k (i + 1) (by omega) (by omega)
theorem same_eq (k : Nat) (l : List Int) (hl : l.length < 140737488355328) (hk : l.length < k) : barrowref02_Same.f k l l = some true := by
  unfold barrowref02_Same.f
  rw [if_pos rfl]
  exact same_l0 l hl l.length k 0 (by omega) hk
theorem pack_small' (k : Nat) (hk : 100 ≤ k) : barrowlaw03_small.f k = some true := by
  obtain ⟨d, rfl⟩ : ∃ d, k = 100 + d := ⟨k - 100, by omega⟩
  induction d with
  | zero => exact pack_small
  | succ d ih => exact barrowlaw03_small.mono (100 + d) _ (ih (by omega))
end Go.Proofs.Ytkidppjaclgkkaa.Pure
