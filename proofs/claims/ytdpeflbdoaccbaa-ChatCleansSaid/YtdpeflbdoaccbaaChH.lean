/- Talk: words taken out of a text: what is left of them. -/
import Derived.Test.YtdpeflbdoaccbaaChC
import Derived.Test.YtdpeflbdoaccbaaXCLx6
import Derived.Test.YtdpeflbdoaccbaaXCLx8
import Derived.Test.YtdpeflbdoaccbaaXCLx7
import Derived.Test.YtdpeflbdoaccbaaXCLx7
import Derived.Test.YtdpeflbdoaccbaaXCLx10
import Derived.Test.YtdpeflbdoaccbaaXCLx11
set_option linter.unusedSimpArgs false
set_option linter.unusedVariables false
namespace Go.Proofs.Ytdpeflbdoaccbaa.Pure
open Go.RowKit Go.Proofs.Ytdpeflbdoaccbaa.XCL Go.Proofs.YtdpeflbdoaccbaaW.PrintWords Go.Proofs.YtdpeflbdoaccbaaW.PrintLast Go.Proofs.YtdpeflbdoaccbaaS
theorem nil_size (s : ByteArray) : s.toList = ([] : List UInt8) ↔ s.size = 0 := by
  rw [ByteArray.toList_eq]
  constructor
  · intro h
    have := congrArg List.length h
    simpa using this
  · intro h
    exact List.eq_nil_of_length_eq_zero (by simpa using h)
end Go.Proofs.Ytdpeflbdoaccbaa.Pure
namespace Go.Proofs.Ytdpeflbdoaccbaa.Pure
open Go.RowKit Go.Proofs.Ytdpeflbdoaccbaa.XCL Go.Proofs.YtdpeflbdoaccbaaW.PrintWords Go.Proofs.YtdpeflbdoaccbaaW.PrintLast Go.Proofs.YtdpeflbdoaccbaaS
/-- A letter, small. -/
def lw (b : Int) : Int := if 65 ≤ b ∧ b ≤ 90 then (b + 32) % 256 else b
theorem lower_eq (b : Int) : chat_lower.f b = some (lw b) := by
  unfold chat_lower.f lw
  by_cases h1 : 65 ≤ b <;> by_cases h2 : b ≤ 90 <;> simp [h1, h2]
theorem rd_map (l : List Int) (i : Nat) (h : i < l.length) : rd (l.map lw) i = lw (rd l i) := by
  unfold rd
  rw [Int.toNat_natCast, List.getD_eq_getElem?_getD, List.getD_eq_getElem?_getD, List.getElem?_eq_getElem h, List.getElem?_eq_getElem (by simpa using h)]
  simp
theorem bytes_len (s : ByteArray) : (bytesOf s).length = s.size := by
  unfold bytesOf; rw [List.length_map]; exact data_length s
theorem bytes_rd (s : ByteArray) (i : Nat) (h : i < s.size) : rd (bytesOf s) i = bt s (i : Int) := by
  unfold rd bytesOf bt
  rw [Int.toNat_natCast, dif_pos h, List.getD_eq_getElem?_getD, List.getElem?_eq_getElem (by rw [List.length_map]; exact (data_length s).symm ▸ h)]
  simp
  rfl
theorem rd_append_right (a b : List Int) (i : Nat) (h : i = a.length) (hb : b ≠ []) : rd (a ++ b) i = b.headD 0 := by
  subst h
  unfold rd
  rw [Int.toNat_natCast, List.getD_eq_getElem?_getD, List.getElem?_append_right (Nat.le_refl _), Nat.sub_self]
  cases b with
  | nil => exact absurd rfl hb
  | cons x b => rfl
theorem lowered_l0 (L : List Int) (hL : L.length ≤ 5000) : ∀ (n i k : Nat), i + n = L.length → n < k →
    chat_lowered.l0 k L i ((L.take i).map lw ++ L.drop i) = some (L.map lw) := by
  intro n
  induction n with
  | zero =>
    intro i k hi hk
    obtain ⟨k, rfl⟩ : ∃ q, k = q + 1 := ⟨k - 1, by omega⟩
    rw [chat_lowered.l0, if_neg (by omega), List.take_of_length_le (by omega), List.drop_of_length_le (by omega), List.append_nil]
  | succ n ih =>
    intro i k hi hk
    obtain ⟨k, rfl⟩ : ∃ q, k = q + 1 := ⟨k - 1, by omega⟩
    have hlen : ((L.take i).map lw).length = i := by rw [List.length_map, List.length_take]; omega
    have hd := rd_drop (l := L) (i := i) (by omega)
    have ht : L.take (i + 1) = L.take i ++ [rd L i] := by
      rw [List.take_add_one, ← List.head?_drop, hd]; rfl
    have hrd : rd ((L.take i).map lw ++ L.drop i) i = rd L i := by
      rw [rd_append_right _ _ i hlen.symm (by rw [hd]; simp), hd]; rfl
    have hset : ((L.take i).map lw ++ L.drop i).set i (lw (rd L i)) = (L.take (i + 1)).map lw ++ L.drop (i + 1) := by
      rw [List.set_append_right _ _ (by omega), hlen, Nat.sub_self, hd, List.set_cons_zero, ht]; simp
    rw [chat_lowered.l0, if_pos (by omega), if_pos (by omega), hrd, lower_eq, Option.bind_some, Option.bind_some, Int.toNat_natCast, hset, wrap64_in (by omega), succ_cast]
    exact ih (i + 1) k (by omega) (by omega)
theorem lowered_eq (s : ByteArray) (hs : s.size ≤ 5000) {k : Nat} (hk : 5000 < k) : chat_lowered.f k s = some ((bytesOf s).map lw) := by
  have := bytes_len s
  have h := lowered_l0 (bytesOf s) (by omega) (bytesOf s).length 0 k (by omega) (by omega)
  unfold chat_lowered.f
  rw [List.take_zero, List.map_nil, List.nil_append, List.drop_zero] at h
  rw [if_pos (by omega), Option.bind_some]
  exact h
theorem str_size (l : List Int) : (strOfNums l).size = l.length := by
  unfold strOfNums
  simp [ByteArray.size]
theorem str_append (a b : List Int) : strOfNums a ++ strOfNums b = strOfNums (a ++ b) := by
  apply ByteArray.ext
  rw [ByteArray.data_append]
  unfold strOfNums
  simp
theorem str_nil : (⟨#[]⟩ : ByteArray) = strOfNums [] := rfl
theorem letter_eq (b : Int) : chat_letter.f b = some (decide (97 ≤ b ∧ b ≤ 122)) := by
  unfold chat_letter.f
  by_cases h1 : 97 ≤ b <;> simp [h1]
/-- What stands between two places. -/
def seg (L : List Int) (a b : Nat) : List Int := (L.drop a).take (b - a)
theorem seg_len (L : List Int) (a b : Nat) (h : a ≤ b) (hb : b ≤ L.length) : (seg L a b).length = b - a := by
  unfold seg; rw [List.length_take, List.length_drop]; omega
theorem seg_succ (L : List Int) (a b : Nat) (h : a ≤ b) (hb : b < L.length) : seg L a (b + 1) = seg L a b ++ [rd L b] := by
  unfold seg
  rw [show b + 1 - a = (b - a) + 1 by omega, List.take_add_one, List.getElem?_drop, show a + (b - a) = b by omega, List.getElem?_eq_getElem hb]
  unfold rd
  rw [Int.toNat_natCast, List.getD_eq_getElem?_getD, List.getElem?_eq_getElem hb]
  rfl
theorem seg_self (L : List Int) (a : Nat) : seg L a a = [] := by unfold seg; simp
end Go.Proofs.Ytdpeflbdoaccbaa.Pure
namespace Go.Proofs.Ytdpeflbdoaccbaa.Pure
open Go.RowKit Go.Proofs.Ytdpeflbdoaccbaa.XCL Go.Proofs.YtdpeflbdoaccbaaW.PrintWords Go.Proofs.YtdpeflbdoaccbaaW.PrintLast Go.Proofs.YtdpeflbdoaccbaaS
def By (l : List Int) : Prop := ∀ x ∈ l, 0 ≤ x ∧ x ≤ 255
theorem str_inj {a b : List Int} (ha : By a) (hb : By b) : (strOfNums a).toList = (strOfNums b).toList ↔ a = b := by
  have e : ∀ l : List Int, (strOfNums l).toList = l.map fun n => UInt8.ofNat n.toNat := fun l => by
    rw [ByteArray.toList_eq]; rfl
  rw [e, e]
  constructor
  · intro h
    have back : ∀ l : List Int, By l → (l.map fun n => UInt8.ofNat n.toNat).map (fun u : UInt8 => (u.toNat : Int)) = l := by
      intro l hl
      rw [List.map_map]
      conv => rhs; rw [← List.map_id l]
      refine List.map_congr_left fun x hx => ?_
      have := hl x hx
      simp only [Function.comp, UInt8.toNat_ofNat', id]
      omega
    rw [← back a ha, ← back b hb, h]
  · intro h; rw [h]
theorem bytes_by (s : ByteArray) : By (bytesOf s) := by
  intro x hx
  unfold bytesOf at hx
  obtain ⟨b, _, rfl⟩ := List.mem_map.1 hx
  have := b.toNat_lt
  omega
theorem lw_by {l : List Int} (h : By l) : By (l.map lw) := by
  intro x hx
  obtain ⟨b, hb, rfl⟩ := List.mem_map.1 hx
  have := h b hb
  unfold lw
  split <;> omega
theorem str_bytes (s : ByteArray) : strOfNums (bytesOf s) = s := by
  apply ByteArray.ext
  apply Array.toList_inj.1
  have e : (strOfNums (bytesOf s)).data.toList = (bytesOf s).map fun n => UInt8.ofNat n.toNat := rfl
  rw [e, bytesOf, List.map_map]
  conv => rhs; rw [← List.map_id s.data.toList]
  refine List.map_congr_left fun x _ => ?_
  simp
theorem str_extract (l : List Int) (a b : Nat) : (strOfNums l).extract a b = strOfNums ((l.drop a).take (b - a)) := by
  apply ByteArray.ext
  rw [ByteArray.data_extract]
  unfold strOfNums
  rw [List.extract_toArray]
  simp [List.extract_eq_take_drop, List.map_take, List.map_drop]
/-- A text with small letters. -/
def lws (w : ByteArray) : ByteArray := strOfNums ((bytesOf w).map lw)
theorem lws_size (w : ByteArray) : (lws w).size = w.size := by unfold lws; rw [str_size, List.length_map, bytes_len]
/-- Does a word stand at a place? -/
def stv (s : ByteArray) (p : Nat) (w : ByteArray) : Bool := decide (w.size ≤ s.size - p ∧ (((bytesOf s).map lw).drop p).take w.size = (bytesOf w).map lw)
theorem prefix_eq (s w : ByteArray) (p : Nat) (hp : p ≤ s.size) : strings_HasPrefix.f ((lws s).extract p (lws s).size) (lws w) = some (stv s p w) := by
  have h1 : ((lws s).extract p (lws s).size).size = s.size - p := by rw [ByteArray.size_extract, lws_size]; omega
  have hL : ((bytesOf s).map lw).length = s.size := by rw [List.length_map, bytes_len]
  unfold strings_HasPrefix.f stringslite_HasPrefix.f stv
  rw [h1, lws_size w]
  by_cases c : w.size ≤ s.size - p
  · rw [if_pos (by omega), if_pos (by omega), if_pos (by omega), Option.bind_some, Int.toNat_natCast]
    congr 1
    have e : ((lws s).extract p (lws s).size).extract 0 w.size = strOfNums ((((bytesOf s).map lw).drop p).take w.size) := by
      rw [lws_size, show lws s = strOfNums ((bytesOf s).map lw) from rfl, str_extract, str_extract, List.drop_zero, Nat.sub_zero, List.take_take, Nat.min_eq_left c]
    rw [e]
    have hb1 : By ((((bytesOf s).map lw).drop p).take w.size) := fun x hx => lw_by (bytes_by s) x (List.drop_subset _ _ (List.take_subset _ _ hx))
    have hi := str_inj hb1 (lw_by (bytes_by w))
    rw [show lws w = strOfNums ((bytesOf w).map lw) from rfl]
    by_cases q : (((bytesOf s).map lw).drop p).take w.size = (bytesOf w).map lw
    · rw [decide_eq_true ⟨c, q⟩, hi.2 q]; simp
    · rw [decide_eq_false (fun h => q h.2)]
      exact beq_eq_false_iff_ne.2 (fun h => q (hi.1 h))
  · rw [if_neg (by omega), Option.bind_some, decide_eq_false (fun h => c h.1)]
/-- How long the longest word is that stands at a place. -/
def lgo (s : ByteArray) (p : Nat) : Nat → List ByteArray → Nat
  | n, [] => n
  | n, w :: ws => lgo s p (if w.size > n ∧ stv s p w = true then w.size else n) ws
theorem lgo_le (s : ByteArray) (p : Nat) : ∀ (ws : List ByteArray) (n : Nat), n ≤ s.size - p → lgo s p n ws ≤ s.size - p
  | [], n, h => h
  | w :: ws, n, h => by
    unfold lgo
    refine lgo_le s p ws _ ?_
    split
    · rename_i c
      have := of_decide_eq_true c.2
      exact this.1
    · exact h
theorem rdB_drop {l : List ByteArray} {i : Nat} (h : i < l.length) : l.drop i = rdOf ByteArray.empty l i :: l.drop (i + 1) := by
  unfold rdOf
  rw [Int.toNat_natCast, List.getD_eq_getElem?_getD, List.getElem?_eq_getElem h]
  exact List.drop_eq_getElem_cons h
theorem rdB_mem {l : List ByteArray} {i : Nat} (h : i < l.length) : rdOf ByteArray.empty l i ∈ l := by
  have := rdB_drop h
  exact List.drop_subset i l (by rw [this]; simp)
theorem rdB_map (l : List ByteArray) (i : Nat) (h : i < l.length) : rdOf ByteArray.empty (l.map lws) i = lws (rdOf ByteArray.empty l i) := by
  unfold rdOf
  rw [Int.toNat_natCast, List.getD_eq_getElem?_getD, List.getD_eq_getElem?_getD, List.getElem?_eq_getElem h, List.getElem?_eq_getElem (by simpa using h)]
  simp
theorem longest_l0 (s : ByteArray) (p : Nat) (hp : p ≤ s.size) (l : List ByteArray) (hl : l.length ≤ 100) : ∀ (m i n k : Nat), i + m = l.length → m < k →
    chat_longest.l0 k ((lws s).extract p (lws s).size) n (l.map lws) (l.length : Int) i = some (lgo s p n (l.drop i) : Int) := by
  intro m
  induction m with
  | zero =>
    intro i n k hi hk
    obtain ⟨k, rfl⟩ : ∃ q, k = q + 1 := ⟨k - 1, by omega⟩
    rw [chat_longest.l0, if_neg (by omega), List.drop_of_length_le (by omega)]
    rfl
  | succ m ih =>
    intro i n k hi hk
    obtain ⟨k, rfl⟩ : ∃ q, k = q + 1 := ⟨k - 1, by omega⟩
    rw [chat_longest.l0, if_pos (by omega), if_pos (by omega), if_pos (by rw [List.length_map]; omega), rdB_map l i (by omega), lws_size, prefix_eq s _ p hp, Option.bind_some, wrap64_in (by omega), succ_cast, rdB_drop (l := l) (by omega), lgo]
    by_cases c1 : (rdOf ByteArray.empty l (i : Int)).size > n
    · rw [if_pos (by omega)]
      by_cases c2 : stv s p (rdOf ByteArray.empty l (i : Int)) = true
      · rw [if_pos c2, if_pos ⟨c1, c2⟩]; exact ih (i + 1) _ k (by omega) (by omega)
      · rw [if_neg c2, if_neg (fun h => c2 h.2)]; exact ih (i + 1) _ k (by omega) (by omega)
    · rw [if_neg (by omega), if_neg (fun h => c1 h.1)]; exact ih (i + 1) _ k (by omega) (by omega)
theorem stars_l2 (s : ByteArray) (p n : Nat) (ws : List ByteArray) (L T : List Int) (P : List Int) (hs : s.size ≤ 2000) (hP : P.length = p) (hn : p + n ≤ s.size) (hT : T.length = s.size) :
    ∀ (m i k : Nat), i + m = n → m < k → ∃ k', k ≤ k' + m + 1 ∧
    chat_Clean.l2 k ws L T p i (P ++ List.replicate i 42 ++ (bytesOf s).drop (p + i)) n = chat_Clean.l1 k' ws L T (p + n : Nat) (P ++ List.replicate n 42 ++ (bytesOf s).drop (p + n)) := by
  intro m
  induction m with
  | zero =>
    intro i k hi hk
    obtain ⟨k, rfl⟩ : ∃ q, k = q + 1 := ⟨k - 1, by omega⟩
    obtain rfl : i = n := by omega
    refine ⟨k, by omega, ?_⟩
    have e0 : wrap64 ((p : Int) + (i : Int)) = ((p + i : Nat) : Int) := by rw [wrap64_in (by omega)]; omega
    rw [chat_Clean.l2, if_neg (by omega), e0]
  | succ m ih =>
    intro i k hi hk
    obtain ⟨k, rfl⟩ : ∃ q, k = q + 1 := ⟨k - 1, by omega⟩
    have e0 : wrap64 ((p : Int) + (i : Int)) = ((p + i : Nat) : Int) := by rw [wrap64_in (by omega)]; omega
    have hd := rd_drop (l := bytesOf s) (i := p + i) (by rw [bytes_len]; omega)
    have hset : (P ++ List.replicate i 42 ++ (bytesOf s).drop (p + i)).set (p + i) 42 = P ++ List.replicate (i + 1) 42 ++ (bytesOf s).drop (p + (i + 1)) := by
      rw [List.set_append_right _ _ (by simp; omega), show p + i - (P ++ List.replicate i (42 : Int)).length = 0 by simp; omega, hd, List.set_cons_zero, List.replicate_succ', show p + (i + 1) = p + i + 1 by omega]
      simp
    rw [chat_Clean.l2, if_pos (by omega), e0, Option.bind_some, if_pos (by omega), if_pos (by omega), Option.bind_some, Int.toNat_natCast, hset, wrap64_in (by omega), succ_cast]
    obtain ⟨k', h1, h2⟩ := ih (i + 1) k (by omega) (by omega)
    exact ⟨k', by omega, h2⟩
theorem lowers_l0 (s : ByteArray) (hs : s.size ≤ 2000) (l : List ByteArray) (hl : l.length ≤ 100) (hw : ∀ w ∈ l, w.size ≤ 2000) : ∀ (m i k : Nat), i + m = l.length → 6000 + m < k →
    ∃ k', k ≤ k' + m + 1 ∧ chat_Clean.l0 k s l ((l.take i).map lws) i = chat_Clean.l1 k' (l.map lws) ((bytesOf s).map lw) (bytesOf s) 0 (bytesOf s) := by
  intro m
  induction m with
  | zero =>
    intro i k hi hk
    obtain ⟨k, rfl⟩ : ∃ q, k = q + 1 := ⟨k - 1, by omega⟩
    refine ⟨k, by omega, ?_⟩
    rw [chat_Clean.l0, if_neg (by omega), lowered_eq s (by omega) (by omega), Option.bind_some, if_pos (by omega), Option.bind_some, List.take_of_length_le (by omega)]
  | succ m ih =>
    intro i k hi hk
    obtain ⟨k, rfl⟩ : ∃ q, k = q + 1 := ⟨k - 1, by omega⟩
    have hd := rdB_drop (l := l) (i := i) (by omega)
    have ht : l.take (i + 1) = l.take i ++ [rdOf ByteArray.empty l i] := by
      rw [List.take_add_one, ← List.head?_drop, hd]; rfl
    have hsz := hw _ (rdB_mem (l := l) (i := i) (by omega))
    obtain ⟨k', h1, h2⟩ := ih (i + 1) k (by omega) (by omega)
    refine ⟨k', by omega, ?_⟩
    rw [ht, List.map_append, List.map_cons, List.map_nil] at h2
    rw [chat_Clean.l0, if_pos (by omega), if_pos (by omega), lowered_eq _ (by omega) (by omega), Option.bind_some, Option.bind_some, if_pos (by simp; omega), Option.bind_some, wrap64_in (by omega), succ_cast]
    exact h2
theorem few_l0 (l : List ByteArray) (s : ByteArray) (hl : l.length < 4611686018427387904) : ∀ (m i k : Nat), i + m = l.length → 2 * m + 2 < k →
    ∃ v, barrowlaw38_few.l0 k l s i = some v ∧ (v = true → i ≤ 100 → (l.length ≤ 40 ∧ s.size ≤ 1024 ∧ ∀ w ∈ l.drop i, w.size ≤ 100)) := by
  intro m
  induction m with
  | zero =>
    intro i k hi hk
    obtain ⟨k, rfl⟩ : ∃ q, k = q + 2 := ⟨k - 2, by omega⟩
    rw [barrowlaw38_few.l0, if_neg (by omega), barrowlaw38_few.j1, if_neg (by simp), List.drop_of_length_le (by omega)]
    by_cases c : (l.length : Int) ≤ 40
    · rw [if_pos c]
      refine ⟨_, rfl, fun h _ => ⟨by omega, ?_, by simp⟩⟩
      have := of_decide_eq_true h
      omega
    · rw [if_neg c]
      exact ⟨_, rfl, fun h => by cases h⟩
  | succ m ih =>
    intro i k hi hk
    obtain ⟨k, rfl⟩ : ∃ q, k = q + 2 := ⟨k - 2, by omega⟩
    rw [barrowlaw38_few.l0, if_pos (by omega), barrowlaw38_few.j1]
    by_cases c : (i : Int) < 100
    · rw [if_pos (by rw [decide_eq_true_eq]; exact c), if_pos (by omega), if_pos (by omega)]
      by_cases q : ((rdOf ByteArray.empty l (i : Int)).size : Int) > 100
      · rw [if_pos q]
        exact ⟨_, rfl, fun h => by cases h⟩
      · rw [if_neg q, wrap64_in (by omega), succ_cast]
        obtain ⟨v, h1, h2⟩ := ih (i + 1) k (by omega) (by omega)
        refine ⟨v, h1, fun h _ => ?_⟩
        obtain ⟨a1, a2, a3⟩ := h2 h (by omega)
        refine ⟨a1, a2, fun w hw => ?_⟩
        rw [rdB_drop (l := l) (by omega)] at hw
        rcases List.mem_cons.1 hw with e | e
        · rw [e]; omega
        · exact a3 w e
    · rw [if_neg (by rw [decide_eq_true_eq]; exact c)]
      by_cases q : (l.length : Int) ≤ 40
      · omega
      · rw [if_neg q]
        exact ⟨_, rfl, fun h => by cases h⟩
theorem few_eq (l : List ByteArray) (s : ByteArray) (hl : l.length < 4611686018427387904) {k : Nat} (hk : 2 * l.length + 2 < k) : ∃ v, barrowlaw38_few.f k l s = some v ∧ (v = true → (l.length ≤ 40 ∧ s.size ≤ 1024 ∧ ∀ w ∈ l, w.size ≤ 100)) := by
  obtain ⟨v, h1, h2⟩ := few_l0 l s hl l.length 0 k (by omega) hk
  exact ⟨v, h1, fun h => by simpa using h2 h (by omega)⟩
theorem bytes_str {l : List Int} (h : By l) : bytesOf (strOfNums l) = l := (str_inj (bytes_by _) h).1 (by rw [str_bytes])
theorem lgo_ge (s : ByteArray) (p : Nat) : ∀ (ws : List ByteArray) (n : Nat), n ≤ lgo s p n ws
  | [], n => Nat.le_refl _
  | w :: ws, n => by
    unfold lgo
    refine Nat.le_trans ?_ (lgo_ge s p ws _)
    split
    · rename_i c; omega
    · exact Nat.le_refl _
theorem lgo_mem (s : ByteArray) (p : Nat) {w : ByteArray} (hs : stv s p w = true) : ∀ (ws : List ByteArray) (n : Nat), w ∈ ws → w.size ≤ lgo s p n ws
  | [], n, h => by cases h
  | v :: ws, n, h => by
    unfold lgo
    rcases List.mem_cons.1 h with rfl | h
    · refine Nat.le_trans ?_ (lgo_ge s p ws _)
      split
      · exact Nat.le_refl _
      · rename_i c
        rcases Nat.lt_or_ge n w.size with q | q
        · exact absurd ⟨q, hs⟩ c
        · exact q
    · exact lgo_mem s p hs ws _ h
theorem lgo_zero (s : ByteArray) (p : Nat) : ∀ (ws : List ByteArray), (∀ w ∈ ws, stv s p w = true → w.size = 0) → lgo s p 0 ws = 0
  | [], _ => rfl
  | w :: ws, h => by
    unfold lgo
    rw [if_neg (fun c => by have := h w List.mem_cons_self c.2; omega)]
    exact lgo_zero s p ws (fun v hv => h v (List.mem_cons_of_mem _ hv))
/-- What stands in a cleaned text is a star, or what stood there, where no word began. -/
def Cin (s : ByteArray) (l : List ByteArray) (P : List Int) : Prop := ∀ (i : Nat) (x : Int), P[i]? = some x → x ≠ 42 → x = bt s (i : Int) ∧ lgo s i 0 l = 0
theorem cin_one {s : ByteArray} {l : List ByteArray} {P : List Int} (h : Cin s l P) (hz : lgo s P.length 0 l = 0) : Cin s l (P ++ [bt s (P.length : Int)]) := by
  intro i x hi hx
  rcases Nat.lt_trichotomy i P.length with c | c | c
  · rw [List.getElem?_append_left c] at hi
    exact h i x hi hx
  · subst c
    rw [List.getElem?_append_right (Nat.le_refl _)] at hi
    simp at hi
    exact ⟨hi.symm, hz⟩
  · rw [List.getElem?_eq_none (by simp; omega)] at hi
    cases hi
theorem cin_stars {s : ByteArray} {l : List ByteArray} {P : List Int} (h : Cin s l P) (n : Nat) : Cin s l (P ++ List.replicate n 42) := by
  intro i x hi hx
  by_cases c : i < P.length
  · rw [List.getElem?_append_left c] at hi
    exact h i x hi hx
  · rw [List.getElem?_append_right (by omega)] at hi
    have := List.mem_of_getElem? hi
    rw [List.mem_replicate] at this
    exact absurd this.2 hx
theorem clean_run (s : ByteArray) (hs : s.size ≤ 2000) (l : List ByteArray) (hl : l.length ≤ 100) :
    ∀ (N p : Nat) (P : List Int), p + N = s.size → P.length = p → Cin s l P → By P → ((∀ q, lgo s q 0 l = 0) → P = (bytesOf s).take p) →
    ∃ C : List Int, C.length = s.size ∧ Cin s l C ∧ By C ∧ ((∀ q, lgo s q 0 l = 0) → C = bytesOf s) ∧ ∀ k, 5000 + 3000 * N < k → chat_Clean.l1 k (l.map lws) ((bytesOf s).map lw) (bytesOf s) p (P ++ (bytesOf s).drop p) = some (strOfNums C) := by
  have hb := bytes_len s
  intro N
  induction N using Nat.strongRecOn with
  | ind N ih =>
    intro p P hp hP hC hB hT
    by_cases e : N = 0
    · refine ⟨P, by omega, hC, hB, fun h => ?_, fun k hk => ?_⟩
      · rw [hT h, List.take_of_length_le (by omega)]
      obtain ⟨k, rfl⟩ : ∃ q, k = q + 1 := ⟨k - 1, by omega⟩
      rw [chat_Clean.l1, if_neg (by omega), List.drop_of_length_le (by omega), List.append_nil]
    · have hn := lgo_le s p l 0 (by omega)
      have hd := rd_drop (l := bytesOf s) (i := p) (by omega)
      rw [bytes_rd s p (by omega)] at hd
      by_cases c : lgo s p 0 l = 0
      · have hC' := cin_one hC (by rw [hP]; exact c)
        rw [hP] at hC'
        obtain ⟨C, g1, g2, g3, g4, h⟩ := ih (N - 1) (by omega) (p + 1) (P ++ [bt s p]) (by omega) (by simp; omega) hC' (fun x hx => by
          rcases List.mem_append.1 hx with hx | hx
          · exact hB x hx
          · rw [List.mem_singleton] at hx
            subst hx
            have : bt s (p : Int) ∈ bytesOf s := List.drop_subset p _ (by rw [hd]; exact List.mem_cons_self)
            exact bytes_by s _ this) (fun h => by
          rw [hT h, List.take_add_one, ← List.head?_drop, hd]; rfl)
        refine ⟨C, g1, g2, g3, g4, fun k hk => ?_⟩
        obtain ⟨k, rfl⟩ : ∃ q, k = q + 1 := ⟨k - 1, by omega⟩
        have hh := longest_l0 s p (by omega) l hl l.length 0 0 k (by omega) (by omega)
        rw [List.drop_zero, c] at hh
        have hf : chat_longest.f k ((lws s).extract p (lws s).size) (l.map lws) = some 0 := by
          unfold chat_longest.f
          rw [List.length_map]
          exact hh
        have h1 := h k (by omega)
        rw [List.append_assoc, List.singleton_append, ← hd] at h1
        rw [chat_Clean.l1, if_pos (by omega), if_pos (by omega), show strOfNums ((bytesOf s).map lw) = lws s from rfl, if_pos (by rw [lws_size]; omega), Int.toNat_natCast, hf, Option.bind_some, if_pos rfl, wrap64_in (by omega), succ_cast]
        exact h1
      · obtain ⟨C, g1, g2, g3, g4, h⟩ := ih (N - lgo s p 0 l) (by omega) (p + lgo s p 0 l) (P ++ List.replicate (lgo s p 0 l) 42) (by omega) (by simp; omega) (cin_stars hC _) (fun x hx => by
          rcases List.mem_append.1 hx with hx | hx
          · exact hB x hx
          · rw [List.mem_replicate] at hx; omega) (fun h => absurd (h p) c)
        refine ⟨C, g1, g2, g3, g4, fun k hk => ?_⟩
        obtain ⟨k, rfl⟩ : ∃ q, k = q + 1 := ⟨k - 1, by omega⟩
        have hh := longest_l0 s p (by omega) l hl l.length 0 0 k (by omega) (by omega)
        rw [List.drop_zero] at hh
        have hf : chat_longest.f k ((lws s).extract p (lws s).size) (l.map lws) = some (lgo s p 0 l : Int) := by
          unfold chat_longest.f
          rw [List.length_map]
          exact hh
        obtain ⟨k', h1, h2⟩ := stars_l2 s p (lgo s p 0 l) (l.map lws) ((bytesOf s).map lw) (bytesOf s) P hs hP (by omega) hb (lgo s p 0 l) 0 k (by omega) (by omega)
        rw [List.replicate_zero, List.append_nil, Nat.add_zero] at h2
        rw [chat_Clean.l1, if_pos (by omega), if_pos (by omega), show strOfNums ((bytesOf s).map lw) = lws s from rfl, if_pos (by rw [lws_size]; omega), Int.toNat_natCast, hf, Option.bind_some, if_neg (by omega)]
        exact h2.trans (h k' (by omega))
theorem clean_val (s : ByteArray) (hs : s.size ≤ 2000) (l : List ByteArray) (hl : l.length ≤ 100) (hw : ∀ w ∈ l, w.size ≤ 2000) :
    ∃ C : List Int, C.length = s.size ∧ Cin s l C ∧ By C ∧ ((∀ q, lgo s q 0 l = 0) → C = bytesOf s) ∧ ∀ k, 7000000 < k → chat_Clean.f k s l = some (strOfNums C) := by
  obtain ⟨C, g1, g2, g3, g4, h⟩ := clean_run s hs l hl s.size 0 [] (by omega) rfl (fun i x hi => by simp at hi) (fun x hx => by cases hx) (fun _ => rfl)
  refine ⟨C, g1, g2, g3, g4, fun k hk => ?_⟩
  obtain ⟨k', h1, h2⟩ := lowers_l0 s hs l hl hw l.length 0 k (by omega) (by omega)
  rw [List.take_zero, List.map_nil] at h2
  have h3 := h k' (by omega)
  rw [List.nil_append, List.drop_zero] at h3
  exact h2.trans h3
theorem clean_id (s : ByteArray) (hs : s.size ≤ 2000) (l : List ByteArray) (hl : l.length ≤ 100) (hw : ∀ w ∈ l, w.size ≤ 2000) (h0 : ∀ q, lgo s q 0 l = 0) {k : Nat} (hk : 7000000 < k) : chat_Clean.f k s l = some s := by
  obtain ⟨C, g1, g2, g3, g4, h⟩ := clean_val s hs l hl hw
  rw [h k hk, g4 h0, str_bytes]
theorem lw_star {x : Int} (h : lw x = 42) : x = 42 := by unfold lw at h; split at h <;> omega
/-- Where a cleaned text has a word without stars, the text had it: then it was taken out. -/
theorem no_word {s : ByteArray} {l : List ByteArray} {C : List Int} (hl : C.length = s.size) (hC : Cin s l C) {w : ByteArray} (hw : w ∈ l) (h0 : 0 < w.size) (hst : ∀ j : Nat, j < w.size → bt w (j : Int) ≠ 42) {p : Nat} (hp : w.size ≤ s.size - p) :
    ((C.map lw).drop p).take w.size ≠ (bytesOf w).map lw := by
  intro e
  have hb := bytes_len s
  have hbw := bytes_len w
  have key : ∀ j, j < w.size → ∃ x, C[p + j]? = some x ∧ x = bt s ((p + j : Nat) : Int) ∧ lgo s (p + j) 0 l = 0 ∧ lw x = lw (bt w (j : Int)) := by
    intro j hj
    obtain ⟨x, hx⟩ : ∃ x, C[p + j]? = some x := ⟨_, List.getElem?_eq_getElem (show p + j < C.length by omega)⟩
    have e1 : (((C.map lw).drop p).take w.size)[j]? = some (lw x) := by
      rw [List.getElem?_take, if_pos hj, List.getElem?_drop, List.getElem?_map, hx]; rfl
    have e2 : ((bytesOf w).map lw)[j]? = some (lw (bt w (j : Int))) := by
      rw [List.getElem?_map, ← bytes_rd w j hj]
      unfold rd
      rw [Int.toNat_natCast, List.getD_eq_getElem?_getD, List.getElem?_eq_getElem (by omega)]
      rfl
    rw [e, e2] at e1
    have e3 := Option.some.inj e1
    have hne : x ≠ 42 := by
      intro hx42
      rw [hx42] at e3
      exact hst j hj (lw_star (e3.trans (by decide)))
    obtain ⟨q1, q2⟩ := hC (p + j) x hx hne
    exact ⟨x, hx, q1, q2, e3.symm⟩
  have hst' : stv s p w = true := by
    unfold stv
    refine decide_eq_true ⟨hp, ?_⟩
    rw [← e]
    apply List.ext_getElem?
    intro j
    rw [List.getElem?_take, List.getElem?_take]
    split
    · rename_i hj
      obtain ⟨x, q1, q2, q3, q4⟩ := key j hj
      rw [List.getElem?_drop, List.getElem?_drop, List.getElem?_map, List.getElem?_map, q1, q2, ← bytes_rd s (p + j) (by omega)]
      unfold rd
      rw [Int.toNat_natCast, List.getD_eq_getElem?_getD, List.getElem?_eq_getElem (show p + j < (bytesOf s).length by omega)]
      rfl
    · rfl
  have h1 := lgo_mem s p hst' l 0 hw
  obtain ⟨x, q1, q2, q3, q4⟩ := key 0 h0
  rw [Nat.add_zero] at q3
  omega
/-- Words are runs of letters. -/
theorem words_run (s : ByteArray) (hs : s.size ≤ 2000) : ∀ (n i a : Nat) (out : List ByteArray), i + n = s.size + 1 → a ≤ i → (i ≤ s.size ∨ a = i) → out.length ≤ i →
    (∀ j, a ≤ j → j < i → 97 ≤ rd ((bytesOf s).map lw) (j : Int) ∧ rd ((bytesOf s).map lw) (j : Int) ≤ 122) →
    (∀ y ∈ out, ∃ a b : Nat, a < b ∧ b ≤ s.size ∧ y = strOfNums (seg ((bytesOf s).map lw) a b) ∧ ∀ j, a ≤ j → j < b → 97 ≤ rd ((bytesOf s).map lw) (j : Int) ∧ rd ((bytesOf s).map lw) (j : Int) ≤ 122) →
    ∃ v : List ByteArray, v.length ≤ 4000 ∧ (∀ y ∈ v, ∃ a b : Nat, a < b ∧ b ≤ s.size ∧ y = strOfNums (seg ((bytesOf s).map lw) a b) ∧ ∀ j, a ≤ j → j < b → 97 ≤ rd ((bytesOf s).map lw) (j : Int) ∧ rd ((bytesOf s).map lw) (j : Int) ≤ 122) ∧
      ∀ k, 3 * n + 10 < k → chat_Words.l0 k ((bytesOf s).map lw) out a i = some v := by
  have hL : ((bytesOf s).map lw).length = s.size := by rw [List.length_map, bytes_len]
  intro n
  induction n with
  | zero =>
    intro i a out hi ha _ ho hlt hout
    refine ⟨out, by omega, hout, fun k hk => ?_⟩
    obtain ⟨k, rfl⟩ : ∃ q, k = q + 1 := ⟨k - 1, by omega⟩
    rw [chat_Words.l0, hL, wrap64_in (by omega), if_neg (by omega)]
  | succ n ih =>
    intro i a out hi ha hia ho hlt hout
    -- what comes where a word ends
    have fin : ∃ v : List ByteArray, v.length ≤ 4000 ∧ (∀ y ∈ v, ∃ a b : Nat, a < b ∧ b ≤ s.size ∧ y = strOfNums (seg ((bytesOf s).map lw) a b) ∧ ∀ j, a ≤ j → j < b → 97 ≤ rd ((bytesOf s).map lw) (j : Int) ∧ rd ((bytesOf s).map lw) (j : Int) ≤ 122) ∧
        ∀ k, 3 * n + 11 < k → chat_Words.l199 k ((bytesOf s).map lw) out a i false = some v := by
      by_cases c : a < i
      · obtain ⟨v, hv, hv2, h⟩ := ih (i + 1) (i + 1) (out ++ [strOfNums (seg ((bytesOf s).map lw) a i)]) (by omega) (by omega) (.inr rfl) (by simp; omega) (fun j h1 h2 => by omega) (fun y hy => by
          rcases List.mem_append.1 hy with hy | hy
          · exact hout y hy
          · rw [List.mem_singleton] at hy
            exact ⟨a, i, c, by omega, hy, hlt⟩)
        refine ⟨v, hv, hv2, fun k hk => ?_⟩
        obtain ⟨k, rfl⟩ : ∃ q, k = q + 1 := ⟨k - 1, by omega⟩
        have h1 := h k (by omega)
        have cseg : ((((bytesOf s).map lw).drop ((a : Int)).toNat).take (((i : Int)).toNat - ((a : Int)).toNat)) = seg ((bytesOf s).map lw) a i := rfl
        rw [chat_Words.l199, if_neg (by decide), if_pos (by omega), if_pos (by omega), if_pos (by omega), if_pos (by omega), cseg, Option.bind_some, Option.bind_some, if_pos (by simp; omega), Option.bind_some, wrap64_in (by omega), succ_cast]
        exact h1
      · obtain ⟨v, hv, hv2, h⟩ := ih (i + 1) (i + 1) out (by omega) (by omega) (.inr rfl) (by omega) (fun j h1 h2 => by omega) hout
        refine ⟨v, hv, hv2, fun k hk => ?_⟩
        obtain ⟨k, rfl⟩ : ∃ q, k = q + 1 := ⟨k - 1, by omega⟩
        rw [chat_Words.l199, if_neg (by decide), if_neg (by omega), wrap64_in (by omega), succ_cast]
        exact h k (by omega)
    by_cases c : i < s.size
    · by_cases q : 97 ≤ rd ((bytesOf s).map lw) (i : Int) ∧ rd ((bytesOf s).map lw) (i : Int) ≤ 122
      · obtain ⟨v, hv, hv2, h⟩ := ih (i + 1) a out (by omega) (by omega) (.inl (by omega)) (by omega) (fun j h1 h2 => by
          by_cases e : j = i
          · subst e; exact q
          · exact hlt j h1 (by omega)) hout
        refine ⟨v, hv, hv2, fun k hk => ?_⟩
        obtain ⟨k, rfl⟩ : ∃ z, k = z + 2 := ⟨k - 2, by omega⟩
        rw [chat_Words.l0, hL, wrap64_in (x := (s.size : Int) + 1) (by omega), if_pos (by omega), if_pos (by omega), if_pos (by omega), letter_eq, Option.bind_some, decide_eq_true q, chat_Words.l199, if_pos rfl, wrap64_in (by omega), succ_cast]
        exact h k (by omega)
      · obtain ⟨v, hv, hv2, h⟩ := fin
        refine ⟨v, hv, hv2, fun k hk => ?_⟩
        obtain ⟨k, rfl⟩ : ∃ z, k = z + 1 := ⟨k - 1, by omega⟩
        rw [chat_Words.l0, hL, wrap64_in (x := (s.size : Int) + 1) (by omega), if_pos (by omega), if_pos (by omega), if_pos (by omega), letter_eq, Option.bind_some, decide_eq_false q]
        exact h k (by omega)
    · obtain ⟨v, hv, hv2, h⟩ := fin
      refine ⟨v, hv, hv2, fun k hk => ?_⟩
      obtain ⟨k, rfl⟩ : ∃ z, k = z + 1 := ⟨k - 1, by omega⟩
      rw [chat_Words.l0, hL, wrap64_in (x := (s.size : Int) + 1) (by omega), if_pos (by omega), if_neg (by omega)]
      exact h k (by omega)
/-- A text of one word, as long as the text: letters. -/
theorem words_val (s : ByteArray) (hs : s.size ≤ 2000) : ∃ v : List ByteArray, v.length ≤ 4000 ∧ (∀ y ∈ v, y.size = s.size → 0 < s.size ∧ y = lws s ∧ ∀ j : Nat, j < s.size → bt s (j : Int) ≠ 42) ∧ ∀ k, 10000 < k → chat_Words.f k s = some v := by
  have hL : ((bytesOf s).map lw).length = s.size := by rw [List.length_map, bytes_len]
  obtain ⟨v, h1, h2, h3⟩ := words_run s hs (s.size + 1) 0 0 [] (by omega) (by omega) (.inr rfl) (by simp) (fun j h1 h2 => by omega) (fun y hy => by cases hy)
  refine ⟨v, h1, fun y hy hsz => ?_, fun k hk => ?_⟩
  · obtain ⟨a, b, q1, q2, q3, q4⟩ := h2 y hy
    rw [q3, str_size, seg_len _ _ _ (by omega) (by omega)] at hsz
    obtain rfl : a = 0 := by omega
    obtain rfl : b = s.size := by omega
    refine ⟨q1, ?_, fun j hj e => ?_⟩
    · rw [q3]
      unfold seg lws
      rw [List.drop_zero, Nat.sub_zero, List.take_of_length_le (by omega)]
    · have := q4 j (by omega) hj
      rw [rd_map _ _ (by rw [bytes_len]; exact hj), bytes_rd s j hj, e] at this
      have e42 : lw 42 = 42 := by decide
      omega
  · unfold chat_Words.f
    rw [lowered_eq s (by omega) (by omega), Option.bind_some]
    exact h3 k (by omega)
end Go.Proofs.Ytdpeflbdoaccbaa.Pure
