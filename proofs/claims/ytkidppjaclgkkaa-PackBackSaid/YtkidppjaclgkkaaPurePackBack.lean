/- What is written is read, whatever stands ahead and behind. -/
import Derived.Test.YtkidppjaclgkkaaPackC
set_option linter.unusedSimpArgs false
set_option linter.unusedVariables false
namespace Go.Proofs.Ytkidppjaclgkkaa.Pure
open Go.RowKit Go.Proofs.Ytkidppjaclgkkaa.XPack Go.Proofs.YtkidppjaclgkkaaW.PrintWords Go.Proofs.YtkidppjaclgkkaaW.PrintLast Go.Proofs.YtkidppjaclgkkaaW.PrintMore

theorem rd_mid (p : List Int) (x : Int) (r : List Int) : rd (p ++ x :: r) (p.length : Int) = x := by
  unfold rd
  rw [Int.toNat_natCast, List.getD_eq_getElem?_getD, List.getElem?_append_right (Nat.le_refl _), Nat.sub_self]
  rfl
theorem sc_enc (d : Nat) : ∀ (m : Nat) (p rest : List Int) (r : Nat), m < 128 ^ (d + 1) → p.length ≤ 9 → m < 2 ^ (64 - 7 * p.length) → (0 < p.length → 0 < m) → (enc m).length ≤ r →
    sc (p ++ (enc m ++ rest)) r p.length = some (lo (p ++ (enc m ++ rest)) p.length + 128 ^ p.length * m, p.length + (enc m).length) := by
  have small : ∀ (m : Nat) (p rest : List Int) (r : Nat), m < 128 → p.length ≤ 9 → m < 2 ^ (64 - 7 * p.length) → (0 < p.length → 0 < m) → (enc m).length ≤ r →
      sc (p ++ (enc m ++ rest)) r p.length = some (lo (p ++ (enc m ++ rest)) p.length + 128 ^ p.length * m, p.length + (enc m).length) := by
    intro m p rest r hm hp h2 h0 hr
    rw [enc_small hm] at hr ⊢
    obtain ⟨r, rfl⟩ : ∃ q, r = q + 1 := ⟨r - 1, by simp at hr; omega⟩
    have hx : rd (p ++ ([(m : Int)] ++ rest)) (p.length : Int) = m := rd_mid p m rest
    have h9 : ¬ (p.length = 9 ∧ (m : Int) > 1) := by
      rintro ⟨h, h'⟩
      rw [h] at h2
      have : (2 : Nat) ^ (64 - 7 * 9) = 2 := by decide
      omega
    rw [sc, hx, if_neg (by omega), if_neg (by omega), lo, hx, show ((m : Int) % 128).toNat = m by omega]
    rfl
  induction d with
  | zero => intro m p rest r h; exact small m p rest r (by omega)
  | succ d ih =>
    intro m p rest r h hp h2 h0 hr
    by_cases hm : m < 128
    · exact small m p rest r hm hp h2 h0 hr
    · rw [enc_big hm] at hr ⊢
      obtain ⟨r, rfl⟩ : ∃ q, r = q + 1 := ⟨r - 1, by simp at hr; omega⟩
      have hx : rd (p ++ (((m % 128 + 128 : Nat) : Int) :: enc (m / 128) ++ rest)) (p.length : Int) = ((m % 128 + 128 : Nat) : Int) := rd_mid p _ _
      have hp8 : p.length ≤ 8 := by
        refine Nat.le_of_not_lt fun h' => ?_
        have : p.length = 9 := by omega
        rw [this] at h2
        have : (2 : Nat) ^ (64 - 7 * 9) = 2 := by decide
        omega
      have e : p ++ (((m % 128 + 128 : Nat) : Int) :: enc (m / 128) ++ rest) = (p ++ [((m % 128 + 128 : Nat) : Int)]) ++ (enc (m / 128) ++ rest) := by simp
      have hpow : (2 : Nat) ^ (64 - 7 * p.length) = 128 * 2 ^ (64 - 7 * (p.length + 1)) := by
        rw [show (128 : Nat) = 2 ^ 7 by decide, ← Nat.pow_add]
        congr 1
        omega
      have hi' := ih (m / 128) (p ++ [((m % 128 + 128 : Nat) : Int)]) rest r (by rw [Nat.pow_succ] at h; omega) (by simp; omega) (by rw [List.length_append, List.length_singleton]; omega) (fun _ => by omega) (by simp at hr; omega)
      rw [List.length_append, List.length_singleton, ← e] at hi'
      rw [sc, hx, if_pos (by omega), hi', lo, hx, show ((((m % 128 + 128 : Nat) : Int)) % 128).toNat = m % 128 by omega, List.length_cons]
      congr 2
      · have := Nat.mod_add_div m 128
        rw [Nat.pow_succ, Nat.mul_assoc, Nat.add_assoc, ← Nat.mul_add, this]
      · omega
theorem rdS_enc (p rest : List Int) (m : Nat) (h : m < 18446744073709551616) : rdS (p ++ (enc m ++ rest)) (p.length : Int) = some (m, (enc m).length) := by
  unfold rdS
  rw [if_pos ⟨by omega, by simp; omega⟩, Int.toNat_natCast, List.drop_left]
  have := sc_enc 9 m [] rest ((p ++ (enc m ++ rest)).length - p.length) (Nat.lt_of_lt_of_le h pow10) (by simp) (by simpa using h) (by simp) (by simp)
  simp only [List.nil_append, List.length_nil, lo, Nat.pow_zero, Nat.one_mul, Nat.zero_add] at this
  exact this
theorem uintS_enc (p rest : List Int) (m : Nat) (h : m < 9223372036854775808) : uintS (p ++ (enc m ++ rest)) (p.length : Int) = ((m : Int), ((p ++ enc m).length : Int), 0) := by
  unfold uintS
  rw [rdS_enc p rest m (by omega)]
  simp only []
  rw [if_neg (by omega)]
  simp
theorem intS_enc (p rest : List Int) (n : Int) (h : In64 n) : intS (p ++ (enc (zig n) ++ rest)) (p.length : Int) = (n, ((p ++ enc (zig n)).length : Int), 0) := by
  unfold intS
  rw [rdS_enc p rest _ (zig_lt n h)]
  simp only []
  rw [unzig_zig n h]
  simp
/-- Numbers, one behind another. -/
def encs (l : List Int) : List Int := (l.map fun x => enc (zig x)).flatten
theorem encs_cons (x : Int) (l : List Int) : encs (x :: l) = enc (zig x) ++ encs l := by simp [encs]
theorem enc_le10 (n : Nat) (h : n < 18446744073709551616) : (enc n).length ≤ 10 := enc_len 9 n (Nat.lt_of_lt_of_le h pow10)
theorem encs_len : ∀ l : List Int, (∀ x ∈ l, In64 x) → (encs l).length ≤ 10 * l.length
  | [], _ => by simp [encs]
  | x :: l, h => by
    rw [encs_cons, List.length_append, List.length_cons]
    have := encs_len l fun y hy => h y (List.mem_cons_of_mem _ hy)
    have := enc_le10 (zig x) (zig_lt x (h x (List.mem_cons_self ..)))
    omega
theorem encs_bytes : ∀ l : List Int, (∀ x ∈ l, In64 x) → Bytes (encs l)
  | [], _ => by intro x hx; simp [encs] at hx
  | x :: l, h => by
    rw [encs_cons]
    intro y hy
    rcases List.mem_append.1 hy with hy | hy
    · exact enc_range 9 _ (Nat.lt_of_lt_of_le (zig_lt x (h x (List.mem_cons_self ..))) pow10) y hy
    · exact encs_bytes l (fun z hz => h z (List.mem_cons_of_mem _ hz)) y hy
theorem rd_get (p r : List Int) (x : Int) (i : Nat) (h : i = p.length) : rd (p ++ x :: r) (i : Int) = x := by subst h; exact rd_mid p x r
theorem ints_put (l : List Int) (hl : l.length < 140737488355328) (hw : ∀ x ∈ l, In64 x) : ∀ (q p acc : List Int) (k : Nat), p ++ q = l → acc.length + 10 * q.length + 20 < 140737488355328 → q.length + 12 ≤ k → pack_Ints.l0 k acc l (l.length : Int) (p.length : Int) = some (acc ++ encs q) := by
  intro q
  induction q with
  | nil =>
    intro p acc k hp ha hk
    obtain ⟨k, rfl⟩ : ∃ m, k = m + 1 := ⟨k - 1, by omega⟩
    simp only [pack_Ints.l0]
    rw [if_neg (by rw [← hp]; simp)]
    simp [encs]
  | cons x q ih =>
    intro p acc k hp ha hk
    obtain ⟨k, rfl⟩ : ∃ m, k = m + 1 := ⟨k - 1, by omega⟩
    simp only [pack_Ints.l0]
    have hlen : l.length = p.length + (q.length + 1) := by rw [← hp]; simp
    have hx := hw x (by rw [← hp]; simp)
    rw [List.length_cons] at ha hk
    rw [if_pos (by omega), if_pos (by omega), if_pos (by omega), show rd l (p.length : Int) = x by rw [← hp]; exact rd_mid p x q, fold_eq x hx]
    simp only [Option.bind_some]
    unfold pack_put.f
    rw [put_eq 9 k (zig x) acc (Nat.lt_of_lt_of_le (zig_lt x hx) pow10) (by omega) (by omega)]
    simp only [Option.bind_some]
    have := enc_le10 (zig x) (zig_lt x hx)
    rw [show wrap64 ((p.length : Int) + 1) = ((p ++ [x]).length : Int) by unfold wrap64; simp; omega, ih (p ++ [x]) (acc ++ enc (zig x)) k (by rw [← hp]; simp) (by simp; omega) (by omega), encs_cons, List.append_assoc]
theorem ints_read (b : List Int) (hb : Bytes b) (hlen : b.length < 17592186044416) (back l : List Int) (hl : l.length < 140737488355328) (hw : ∀ x ∈ l, In64 x) (at_ : Int) : ∀ (q p F : List Int) (k : Nat), p ++ q = l → F ++ (encs q ++ back) = b → p.length ≤ F.length → b.length + q.length + 15 ≤ k →
    pack_ReadInts.l0 k b at_ (F.length : Int) p (l.length : Int) (p.length : Int) = some (l, ((F ++ encs q).length : Int), 0) := by
  intro q
  induction q with
  | nil =>
    intro p F k hp hF hpF hk
    obtain ⟨k, rfl⟩ : ∃ m, k = m + 1 := ⟨k - 1, by omega⟩
    simp only [pack_ReadInts.l0]
    rw [if_neg (by rw [← hp]; simp), show p = l by rw [← hp]; simp]
    simp [encs]
  | cons x q ih =>
    intro p F k hp hF hpF hk
    obtain ⟨k, rfl⟩ : ∃ m, k = m + 1 := ⟨k - 1, by omega⟩
    have hll : l.length = p.length + (q.length + 1) := by rw [← hp]; simp
    have hx := hw x (by rw [← hp]; simp)
    rw [List.length_cons] at hk
    have hFb : F.length ≤ b.length := by rw [← hF]; simp
    simp only [pack_ReadInts.l0]
    have hi := intS_enc F (encs q ++ back) x hx
    rw [encs_cons, List.append_assoc] at hF
    rw [hF] at hi
    rw [if_pos (by omega), readint_eq k b hb (by omega) (by omega), hi]
    simp only [Option.bind_some, if_true]
    have hpos := enc_len_pos (zig x)
    rw [if_pos (by omega), show wrap64 ((p.length : Int) + 1) = ((p ++ [x]).length : Int) by unfold wrap64; simp; omega, ih (p ++ [x]) (F ++ enc (zig x)) k (by rw [← hp]; simp) (by rw [← hF]; simp) (by simp; omega) (by omega), encs_cons, List.append_assoc]
theorem str_back (s : ByteArray) : (strOfNums (bytesOf s)).toList = s.toList := by
  have e : (strOfNums (bytesOf s)).toList = (bytesOf s).map fun n => UInt8.ofNat n.toNat := by rw [ByteArray.toList_eq]; rfl
  rw [e, ByteArray.toList_eq, bytesOf, List.map_map]
  conv => rhs; rw [← List.map_id s.data.toList]
  refine List.map_congr_left fun x _ => ?_
  simp
theorem bytesOf_bytes (s : ByteArray) : Bytes (bytesOf s) := by
  intro x hx
  unfold bytesOf at hx
  obtain ⟨b, _, rfl⟩ := List.mem_map.1 hx
  have := b.toNat_lt
  omega
theorem text_eq (k : Nat) (hk : 10 ≤ k) (F : List Int) (s : ByteArray) (hs : s.size < 1000000) (hF : F.length < 100000000) : pack_Text.f k F s = some (F ++ enc s.size ++ bytesOf s) := by
  unfold pack_Text.f
  have es : nat0 (s.size : Int) = s.size := by unfold nat0; omega
  have c3 := enc_le10 s.size (by omega)
  rw [uint_eq k hk F (s.size : Int) ⟨by omega, by omega⟩ (by omega), es]
  simp only [Option.bind_some]
  rw [if_pos (by rw [List.length_append]; omega)]
theorem ints_eq (k : Nat) (F l : List Int) (hl : ∀ x ∈ l, In64 x) (hk : l.length + 20 ≤ k) (hll : l.length < 1000000) (hF : F.length < 100000000) : pack_Ints.f k F l = some (F ++ enc l.length ++ encs l) := by
  unfold pack_Ints.f
  have el : nat0 (l.length : Int) = l.length := by unfold nat0; omega
  have c4 := enc_le10 l.length (by omega)
  rw [uint_eq k (by omega) F (l.length : Int) ⟨by omega, by omega⟩ (by omega), el]
  simp only [Option.bind_some]
  have hput := ints_put l (by omega) hl l [] (F ++ enc l.length) k rfl (by rw [List.length_append]; omega) (by omega)
  rw [show (([] : List Int).length : Int) = 0 from rfl] at hput
  exact hput
theorem readtext_at (k : Nat) (B F rest : List Int) (s : ByteArray) (hB : F ++ (enc s.size ++ (bytesOf s ++ rest)) = B) (hb : Bytes B) (hlen : B.length < 17592186044416) (hk : B.length + 14 ≤ k) :
    pack_ReadText.f k B (F.length : Int) (s.size : Int) = some (strOfNums (bytesOf s), ((F ++ enc s.size ++ bytesOf s).length : Int), 0) := by
  have cs := bytesOf_length s
  have hBlen : B.length = F.length + ((enc s.size).length + (s.size + rest.length)) := by rw [← hB]; simp only [List.length_append, cs]
  have u3 := uintS_enc F (bytesOf s ++ rest) s.size (by omega)
  rw [hB] at u3
  unfold pack_ReadText.f
  rw [count_eq k B hb (by omega) hk]
  unfold countS
  rw [u3]
  simp only [if_true, Option.bind_some]
  rw [if_neg (show ¬ (s.size : Int) > s.size by omega)]
  simp only [if_true]
  rw [show F ++ (enc s.size ++ (bytesOf s ++ rest)) = (F ++ enc s.size) ++ (bytesOf s ++ rest) by rw [List.append_assoc]] at hB
  obtain ⟨F3, hF3⟩ : ∃ F3, F ++ enc s.size = F3 := ⟨_, rfl⟩
  have hF3len : F3.length = F.length + (enc s.size).length := by rw [← hF3, List.length_append]
  rw [hF3] at hB ⊢
  rw [show wrap64 ((B.length : Int) - (F3.length : Int)) = (B.length : Int) - F3.length by unfold wrap64; omega, show wrap64 ((F3.length : Int) + (s.size : Int)) = (F3.length : Int) + s.size by unfold wrap64; omega]
  rw [if_neg (by omega), if_pos (by omega), if_pos (by omega), if_pos (by omega)]
  have hcut : ((B.take ((F3.length : Int) + s.size).toNat).drop (F3.length : Int).toNat) = bytesOf s := by
    rw [show ((F3.length : Int) + s.size).toNat = F3.length + (bytesOf s).length by omega, Int.toNat_natCast, ← hB, List.take_length_add_append, List.drop_left, List.take_left]
  rw [hcut, show ((F3 ++ bytesOf s).length : Int) = (F3.length : Int) + s.size by rw [List.length_append, cs]; omega]
theorem readints_at (k : Nat) (B F back l : List Int) (hl : ∀ x ∈ l, In64 x) (hB : F ++ (enc l.length ++ (encs l ++ back)) = B) (hb : Bytes B) (hlen : B.length < 17592186044416) (hll : l.length < 1000000) (hk : B.length + l.length + 20 ≤ k) :
    pack_ReadInts.f k B (F.length : Int) (l.length : Int) = some (l, ((F ++ enc l.length ++ encs l).length : Int), 0) := by
  have u4 := uintS_enc F (encs l ++ back) l.length (by omega)
  rw [hB] at u4
  unfold pack_ReadInts.f
  rw [count_eq k B hb (by omega) (by omega)]
  unfold countS
  rw [u4]
  simp only [if_true, Option.bind_some]
  rw [if_neg (show ¬ (l.length : Int) > l.length by omega)]
  simp only [if_true]
  have hread := ints_read B hb hlen back l (by omega) hl (F.length : Int) l [] (F ++ enc l.length) k rfl (by rw [← hB, List.append_assoc]) (Nat.zero_le _) (by omega)
  rw [show (([] : List Int).length : Int) = 0 from rfl] at hread
  exact hread
theorem back_all (K : Nat) (hK : 10000 ≤ K) (l0 l back : List Int) (n : Int) (s : ByteArray) (hb0 : Bytes l0) (hb1 : Bytes back) (hl : ∀ x ∈ l, In64 x) (hn : In64 n) (h1 : l0.length + back.length + s.size ≤ 2048) (h2 : l.length ≤ 300) :
    ∃ y274 : List Int, l0 ++ enc (nat0 n) ++ enc (zig n) ++ enc s.size ++ bytesOf s ++ enc l.length ++ encs l ++ back = y274 ∧ y274.length < 100000 ∧ pack_ReadUint.f K y274 (l0.length : Int) = some (mx n 0, ((l0 ++ enc (nat0 n)).length : Int), 0) ∧
      pack_ReadInt.f K y274 ((l0 ++ enc (nat0 n)).length : Int) = some (n, ((l0 ++ enc (nat0 n) ++ enc (zig n)).length : Int), 0) ∧
      pack_ReadText.f K y274 ((l0 ++ enc (nat0 n) ++ enc (zig n)).length : Int) (s.size : Int) = some (strOfNums (bytesOf s), ((l0 ++ enc (nat0 n) ++ enc (zig n) ++ enc s.size ++ bytesOf s).length : Int), 0) ∧
      pack_ReadInts.f K y274 ((l0 ++ enc (nat0 n) ++ enc (zig n) ++ enc s.size ++ bytesOf s).length : Int) (l.length : Int) = some (l, (y274.length : Int) - (back.length : Int), 0) := by
  have n0 : nat0 n < 9223372036854775808 := by unfold nat0; omega
  have zn := zig_lt n hn
  have c1 := enc_le10 (nat0 n) (by omega)
  have c2 := enc_le10 (zig n) zn
  have c3 := enc_le10 s.size (by omega)
  have c4 := enc_le10 l.length (by omega)
  have c5 := encs_len l hl
  have cs := bytesOf_length s
  obtain ⟨B, hB⟩ : ∃ B, l0 ++ enc (nat0 n) ++ enc (zig n) ++ enc s.size ++ bytesOf s ++ enc l.length ++ encs l ++ back = B := ⟨_, rfl⟩
  have hBlen : B.length = l0.length + (enc (nat0 n)).length + (enc (zig n)).length + (enc s.size).length + s.size + (enc l.length).length + (encs l).length + back.length := by rw [← hB]; simp only [List.length_append, cs]
  have hBb : Bytes B := by
    rw [← hB]
    intro x hx
    simp only [List.mem_append] at hx
    have r := fun (m : Nat) (hm : m < 18446744073709551616) => enc_range 9 m (Nat.lt_of_lt_of_le hm pow10) x
    rcases hx with ((((((hx | hx) | hx) | hx) | hx) | hx) | hx) | hx
    · exact hb0 x hx
    · exact r _ (by omega) hx
    · exact r _ zn hx
    · exact r _ (by omega) hx
    · exact bytesOf_bytes s x hx
    · exact r _ (by omega) hx
    · exact encs_bytes l hl x hx
    · exact hb1 x hx
  refine ⟨B, hB, by omega, ?_, ?_, ?_, ?_⟩
  · have u1 := uintS_enc l0 (enc (zig n) ++ enc s.size ++ bytesOf s ++ enc l.length ++ encs l ++ back) (nat0 n) n0
    rw [show l0 ++ (enc (nat0 n) ++ (enc (zig n) ++ enc s.size ++ bytesOf s ++ enc l.length ++ encs l ++ back)) = B by rw [← hB]; simp only [List.append_assoc]] at u1
    rw [readuint_eq K B hBb (by omega) (by omega), u1, show ((nat0 n : Nat) : Int) = mx n 0 by unfold mx nat0; split <;> omega]
  · have u2 := intS_enc (l0 ++ enc (nat0 n)) (enc s.size ++ bytesOf s ++ enc l.length ++ encs l ++ back) n hn
    rw [show l0 ++ enc (nat0 n) ++ (enc (zig n) ++ (enc s.size ++ bytesOf s ++ enc l.length ++ encs l ++ back)) = B by rw [← hB]; simp only [List.append_assoc]] at u2
    rw [readint_eq K B hBb (by omega) (by omega), u2]
  · exact readtext_at K B (l0 ++ enc (nat0 n) ++ enc (zig n)) (enc l.length ++ encs l ++ back) s (by rw [← hB]; simp only [List.append_assoc]) hBb (by omega) (by omega)
  · have := readints_at K B (l0 ++ enc (nat0 n) ++ enc (zig n) ++ enc s.size ++ bytesOf s) back l hl (by rw [← hB]; simp only [List.append_assoc]) hBb (by omega) (by omega) (by omega)
    rw [this, show ((l0 ++ enc (nat0 n) ++ enc (zig n) ++ enc s.size ++ bytesOf s ++ enc l.length ++ encs l).length : Int) = (B.length : Int) - back.length by rw [← hB]; simp only [List.length_append]; omega]
theorem PackBack : barrowlaw03_PackBack.Pure := by
  intro l0 n s l back w1 w2 wb wn ws w3 w4 wl w5 w6 wk
  have hn := i64_of wn
  have hl : ∀ x ∈ l, In64 x := fun x hx => i64_of (wl x hx)
  have hb0 : Bytes l0 := fun x hx => u8_of (wb x hx)
  have hb1 : Bytes back := fun x hx => u8_of (wk x hx)
  clear wn wl wb wk w1 w3 w5
  obtain ⟨K, hK⟩ : ∃ K : Nat, 10000 ≤ K := ⟨10000, Nat.le_refl _⟩
  refine ⟨K + 1, ?_⟩
  unfold barrowlaw03_PackBack.f
  rw [pack_small' (K + 1) (by omega), Option.bind_some]
  have stop : barrowlaw03_PackBack.j0 (K + 1) l0 n s l back true true = some true := by
    rw [barrowlaw03_PackBack.j0, if_pos rfl]
  have hsum : wrap64 ((wrap64 ((l0.length : Int) + (back.length : Int))) + (s.size : Int)) = (l0.length : Int) + back.length + s.size := by unfold wrap64; omega
  rw [hsum]
  by_cases h1 : (l0.length : Int) + back.length + s.size > 2048
  · rw [if_pos h1, stop]
  · rw [if_neg h1]
    by_cases h2 : (l.length : Int) > 300
    · rw [decide_eq_true h2, stop]
    · rw [decide_eq_false h2]
      clear stop hsum
      have c1 := enc_le10 (nat0 n) (by unfold nat0; omega)
      have c2 := enc_le10 (zig n) (zig_lt n hn)
      have c3 := enc_le10 s.size (by omega)
      have c4 := enc_le10 l.length (by omega)
      have c5 := encs_len l hl
      have cs := bytesOf_length s
      obtain ⟨B, hB, hBl, r1, r2, r3, r4⟩ := back_all K hK l0 l back n s hb0 hb1 hl hn (by omega) (by omega)
      have e1 := uint_eq K (by omega) l0 n hn (by omega)
      have e2 := int_eq K (by omega) (l0 ++ enc (nat0 n)) n hn (by rw [List.length_append]; omega)
      have e3 := text_eq K (by omega) (l0 ++ enc (nat0 n) ++ enc (zig n)) s (by omega) (by rw [List.length_append, List.length_append]; omega)
      have e4 := ints_eq K (l0 ++ enc (nat0 n) ++ enc (zig n) ++ enc s.size ++ bytesOf s) l hl (by omega) (by omega) (by simp only [List.length_append]; omega)
      rw [barrowlaw03_PackBack.j0, if_neg (by decide), e1]
      simp only [Option.bind_some]
      rw [e2]
      simp only [Option.bind_some]
      rw [e3]
      simp only [Option.bind_some]
      rw [e4]
      simp only [Option.bind_some]
      rw [if_pos (by simp only [List.length_append]; omega), hB, r1]
      simp only [Option.bind_some]
      rw [r2]
      simp only [Option.bind_some]
      rw [r3]
      simp only [Option.bind_some]
      rw [r4]
      simp only [Option.bind_some, if_true]
      rw [if_pos (str_back s), same_eq K l (by omega) (by omega)]
      simp only [Option.bind_some, if_true]
      congr 1
      rw [beq_iff_eq]
      unfold wrap64
      omega
end Go.Proofs.Ytkidppjaclgkkaa.Pure
