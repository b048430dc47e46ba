/- No written number is the beginning of another one, and greater ones have no fewer bytes: for all numbers of 64 bits. -/
import Derived.Test.YtkidppjaclgkkaaPackA
namespace Go.Proofs.Ytkidppjaclgkkaa.Pure
open Go.RowKit Go.Proofs.Ytkidppjaclgkkaa.XPack Go.Proofs.YtkidppjaclgkkaaW.PrintWords Go.Proofs.YtkidppjaclgkkaaW.PrintLast Go.Proofs.YtkidppjaclgkkaaW.PrintMore

/-- Bytes as a text, told apart. -/
theorem bytes_inj {a b : List Int} (ha : ∀ x ∈ a, 0 ≤ x ∧ x ≤ 255) (hb : ∀ x ∈ b, 0 ≤ x ∧ x ≤ 255) : (strOfNums a).toList = (strOfNums b).toList ↔ a = b := by
  constructor
  · intro h
    have e : ∀ l : List Int, (strOfNums l).toList = l.map fun n => UInt8.ofNat n.toNat := fun l => by
      rw [ByteArray.toList_eq]; rfl
    rw [e, e] at h
    have back : ∀ l : List Int, (∀ x ∈ l, 0 ≤ x ∧ x ≤ 255) → (l.map fun n => UInt8.ofNat n.toNat).map (fun u => (u.toNat : Int)) = l := by
      intro l hl
      rw [List.map_map]
      conv => rhs; rw [← List.map_id l]
      refine List.map_congr_left fun x hx => ?_
      have := hl x hx
      simp
      omega
    rw [← back a ha, ← back b hb, h]
  · rintro rfl; rfl
theorem PackApart : barrowlaw03_PackApart.Pure := by
  intro n m wn wm
  have hn := i64_of wn
  have hm := i64_of wm
  refine ⟨100, ?_⟩
  unfold barrowlaw03_PackApart.f
  rw [pack_small, uint_eq 100 (by decide) [] n hn (by simp), uint_eq 100 (by decide) [] m hm (by simp)]
  simp only [Option.bind_some, List.nil_append]
  have pa := enc_len_pos (nat0 n)
  have pb := enc_len_pos (nat0 m)
  by_cases h1 : n < 0
  · rw [if_pos h1, if_true, if_pos (by omega), show decide (((enc (nat0 m)).length : Int) ≥ 1) = true from decide_eq_true (by omega)]
  · rw [if_neg h1]
    by_cases h2 : m < 0
    · rw [if_pos h2, if_true, if_pos (by omega), show decide (((enc (nat0 m)).length : Int) ≥ 1) = true from decide_eq_true (by omega)]
    · rw [if_neg h2, if_neg (by omega), if_neg (by omega)]
      have bn : nat0 n < 128 ^ (8 + 1) := by
        have : (9223372036854775808 : Nat) ≤ 128 ^ (8 + 1) := by decide
        unfold nat0; omega
      have bm : nat0 m < 128 ^ (8 + 1) := by
        have : (9223372036854775808 : Nat) ≤ 128 ^ (8 + 1) := by decide
        unfold nat0; omega
      have l9 := enc_len 8 (nat0 n) bn
      have last := enc_last 8 (nat0 n) bn ((enc (nat0 n)).length - 1) (by omega)
      have hw : wrap64 (((enc (nat0 n)).length : Int) - 1) = ((enc (nat0 n)).length : Int) - 1 := by unfold wrap64; omega
      have hlast : rd (enc (nat0 n)) (((enc (nat0 n)).length : Int) - 1) < 128 := by
        unfold rd
        rw [show (((enc (nat0 n)).length : Int) - 1).toNat = (enc (nat0 n)).length - 1 by omega]
        exact last
      have tail : (if ((enc (nat0 n)).length : Int) ≤ 9 then (if 0 ≤ (wrap64 (((enc (nat0 n)).length : Int) - 1)) then (if (wrap64 (((enc (nat0 n)).length : Int) - 1)) < ((enc (nat0 n)).length : Int) then (some (decide ((rd (enc (nat0 n)) (wrap64 (((enc (nat0 n)).length : Int) - 1))) < 128))) else (none)) else (none)) else (none)) = some true := by
        rw [hw, if_pos (by omega), if_pos (by omega), if_pos (by omega), decide_eq_true hlast]
      have mono := enc_mono 8 (nat0 m) (nat0 n) bm
      have mono2 := enc_mono 8 (nat0 n) (nat0 m) bn
      by_cases h3 : ((enc (nat0 n)).length : Int) ≤ ((enc (nat0 m)).length : Int)
      · rw [if_pos h3, if_pos (by omega), if_true]
        have hb : ((strOfNums (enc (nat0 n))).toList == (strOfNums ((enc (nat0 m)).take ((enc (nat0 n)).length : Int).toNat)).toList) = (n == m) := by
          rw [Bool.eq_iff_iff, beq_iff_eq, beq_iff_eq, Int.toNat_natCast, bytes_inj (enc_range 8 _ bn) (fun x hx => enc_range 8 _ bm x (List.mem_of_mem_take hx))]
          constructor
          · intro h
            have : enc (nat0 n) <+: enc (nat0 m) := by rw [h]; exact List.take_prefix _ _
            have := enc_prefix 8 _ _ bn this
            unfold nat0 at this; omega
          · rintro rfl
            rw [List.take_length]
        rw [hb, if_pos (by simp)]
        by_cases h4 : n > m
        · rw [if_pos h4]; exact tail
        · rw [if_neg h4]; exact tail
      · have hlt : m < n := by
          refine Int.not_le.1 fun h => h3 ?_
          have := mono2 (by unfold nat0; omega)
          omega
        rw [if_neg h3, if_true, if_pos (by simp; omega), if_pos (by omega)]; exact tail
end Go.Proofs.Ytkidppjaclgkkaa.Pure
