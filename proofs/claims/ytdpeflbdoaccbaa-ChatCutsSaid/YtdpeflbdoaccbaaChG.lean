/- Talk: pieces are the text, each of at most as many bytes. -/
import Derived.Test.YtdpeflbdoaccbaaChC
import Derived.Test.YtdpeflbdoaccbaaXCXx8
import Derived.Test.YtdpeflbdoaccbaaXCXx10
import Derived.Test.YtdpeflbdoaccbaaXCXx6
set_option linter.unusedSimpArgs false
set_option linter.unusedVariables false
namespace Go.Proofs.Ytdpeflbdoaccbaa.Pure
open Go.RowKit Go.Proofs.Ytdpeflbdoaccbaa.XCX Go.Proofs.YtdpeflbdoaccbaaW.PrintWords Go.Proofs.YtdpeflbdoaccbaaW.PrintLast Go.Proofs.YtdpeflbdoaccbaaS
theorem nil_size (s : ByteArray) : s.toList = ([] : List UInt8) ↔ s.size = 0 := by
  rw [ByteArray.toList_eq]
  constructor
  · intro h
    have := congrArg List.length h
    simpa using this
  · intro h
    exact List.eq_nil_of_length_eq_zero (by simpa using h)
theorem bt_extract (s : ByteArray) (a b j : Nat) (h : a + j < b) (hb : b ≤ s.size) : bt (s.extract a b) (j : Int) = bt s ((a + j : Nat) : Int) := by
  unfold bt
  rw [dif_pos (by rw [ByteArray.size_extract]; omega), dif_pos (by omega)]
  simp only [Int.toNat_natCast, ByteArray.getElem_extract]
/-- Behind the last space ahead of a place; 0: there is none. -/
def sc (s : ByteArray) : Nat → Nat
  | 0 => 0
  | n + 1 => if bt s (n : Int) = 32 then n + 1 else sc s n
theorem sc_le (s : ByteArray) : ∀ n, sc s n ≤ n
  | 0 => Nat.le_refl _
  | n + 1 => by
    have := sc_le s n
    unfold sc; split <;> omega
theorem sc_extract (s : ByteArray) (m : Nat) (hm : m ≤ s.size) : ∀ n, n ≤ m → sc (s.extract 0 m) n = sc s n
  | 0, _ => rfl
  | n + 1, h => by
    have := bt_extract s 0 m n (by omega) hm
    rw [Nat.zero_add] at this
    unfold sc
    rw [this, sc_extract s m hm n (by omega)]
theorem last_l0 (t : ByteArray) (ht : t.size ≤ 2000) : ∀ (n k : Nat), n ≤ t.size → n < k → bytealg_LastIndexByteString.l0 k t 32 ((n : Int) - 1) = some ((sc t n : Int) - 1) := by
  intro n
  induction n with
  | zero =>
    intro k _ hk
    obtain ⟨k, rfl⟩ : ∃ q, k = q + 1 := ⟨k - 1, by omega⟩
    rw [bytealg_LastIndexByteString.l0, if_neg (by omega)]
    rfl
  | succ n ih =>
    intro k hn hk
    obtain ⟨k, rfl⟩ : ∃ q, k = q + 1 := ⟨k - 1, by omega⟩
    rw [show ((n + 1 : Nat) : Int) - 1 = (n : Int) by omega, bytealg_LastIndexByteString.l0, if_pos (by omega), if_pos (by omega), if_pos (by omega), sc]
    by_cases c : bt t (n : Int) = 32
    · rw [if_pos c, if_pos c]; congr 1; omega
    · rw [if_neg c, if_neg c, wrap64_in (by omega)]
      exact ih k (by omega) (by omega)
/-- How long the first piece is. -/
def pn (s : ByteArray) (most : Nat) : Nat := if s.size ≤ most then s.size else if sc s most = 0 then most else sc s most
theorem pn_le (s : ByteArray) (most : Nat) : pn s most ≤ s.size := by
  have := sc_le s most
  unfold pn
  (repeat' split) <;> omega
theorem pn_pos (s : ByteArray) (most : Nat) (h : 1 ≤ most) (hs : 1 ≤ s.size) : 1 ≤ pn s most := by
  unfold pn
  (repeat' split) <;> omega
theorem piece_eq (s : ByteArray) (most : Nat) (hs : s.size ≤ 2000) {k : Nat} (hk : 2001 < k) : chat_piece.f k s (most : Int) = some (pn s most : Int) := by
  unfold chat_piece.f pn
  by_cases c : s.size ≤ most
  · rw [if_pos (by omega), if_pos c]
  · rw [if_neg (by omega), if_neg c, if_pos (by omega), if_pos (by omega), Int.toNat_natCast]
    unfold strings_LastIndexByte.f bytealg_LastIndexByteString.f
    have hsz : (s.extract 0 most).size = most := by rw [ByteArray.size_extract]; omega
    have hsc := sc_le s most
    rw [hsz, wrap64_in (by omega), last_l0 _ (by omega) most k (by omega) (by omega), sc_extract s most (by omega) most (by omega)]
    simp only [Option.bind_some]
    by_cases e : sc s most = 0
    · rw [if_neg (by omega), if_pos e]
    · rw [if_pos (by omega), if_neg e, wrap64_in (by omega)]; congr 1; omega
def joinB : List ByteArray → ByteArray
  | [] => ByteArray.empty
  | x :: l => x ++ joinB l
theorem cut_val (most : Nat) (hm : 1 ≤ most) : ∀ (N : Nat) (s : ByteArray) (out : List ByteArray), s.size ≤ N → N ≤ 2000 → out.length + N ≤ 4000 →
    ∃ v : List ByteArray, v.length ≤ N ∧ joinB v = s ∧ (∀ y ∈ v, 1 ≤ y.size ∧ y.size ≤ most) ∧ ∀ k, 3000 * N + 2500 < k → chat_Cut.l0 k s most out = some (out ++ v) := by
  intro N
  induction N with
  | zero =>
    intro s out hs _ ho
    refine ⟨[], by simp, ?_, by simp, fun k hk => ?_⟩
    · have h0 : s.size = 0 := by omega
      exact (ByteArray.size_eq_zero_iff.1 h0).symm
    · obtain ⟨k, rfl⟩ : ∃ q, k = q + 2 := ⟨k - 2, by omega⟩
      rw [chat_Cut.l0, if_pos ((nil_size s).2 (by omega)), List.append_nil]
  | succ N ih =>
    intro s out hs hN ho
    by_cases e : s.size = 0
    · refine ⟨[], by simp, (ByteArray.size_eq_zero_iff.1 e).symm, by simp, fun k hk => ?_⟩
      obtain ⟨k, rfl⟩ : ∃ q, k = q + 2 := ⟨k - 2, by omega⟩
      rw [chat_Cut.l0, if_pos ((nil_size s).2 e), List.append_nil]
    · have hp := pn_pos s most hm (by omega)
      have hp2 := pn_le s most
      have hp3 : pn s most ≤ most := by
        have := sc_le s most
        unfold pn; (repeat' split) <;> omega
      obtain ⟨v, hv, hj, hb, h⟩ := ih (s.extract (pn s most) s.size) (out ++ [s.extract 0 (pn s most)]) (by rw [ByteArray.size_extract]; omega) (by omega) (by simp; omega)
      refine ⟨s.extract 0 (pn s most) :: v, by simp; omega, ?_, ?_, fun k hk => ?_⟩
      · rw [joinB, hj, ← ByteArray.extract_eq_extract_append_extract (pn s most) (by omega) hp2, ByteArray.extract_zero_size]
      · intro y hy
        rcases List.mem_cons.1 hy with rfl | hy
        · rw [ByteArray.size_extract]; omega
        · exact hb y hy
      · obtain ⟨k, rfl⟩ : ∃ q, k = q + 2 := ⟨k - 2, by omega⟩
        rw [chat_Cut.l0, if_neg (fun h => e ((nil_size s).1 h)), if_pos (by omega), piece_eq s most (by omega) (by omega), Option.bind_some, if_pos (by omega), if_pos (by omega), if_pos (by omega), Int.toNat_natCast, h (k + 1) (by omega)]
        simp
theorem rdOf_cons {l : List ByteArray} {i : Nat} (h : i < l.length) : l.drop i = rdOf ByteArray.empty l (i : Int) :: l.drop (i + 1) := by
  rw [List.drop_eq_getElem_cons h]
  congr 1
  simp [rdOf, h]
theorem cuts_l0 (s : ByteArray) (most : Int) (l : List S44) (kind a : Int) (v : List ByteArray) (hs : s.size ≤ 1024) (hv : v.length ≤ 2000) (hb : ∀ y ∈ v, 1 ≤ y.size ∧ (y.size : Int) ≤ most) :
    ∀ (n i k : Nat) (acc : ByteArray), i + n = v.length → n < k → acc ++ joinB (v.drop i) = s →
    ∃ k', k ≤ k' + n + 1 ∧ barrowlaw38_ChatCuts.l0 k s most l kind a true v acc i = if most ≥ 1 then barrowlaw38_ChatCuts.l199 k' l kind a true false else barrowlaw38_ChatCuts.l199 k' l kind a true (decide ((v.length : Int) > 0)) := by
  intro n
  induction n with
  | zero =>
    intro i k acc hi hk hj
    obtain ⟨k, rfl⟩ : ∃ q, k = q + 1 := ⟨k - 1, by omega⟩
    refine ⟨k, by omega, ?_⟩
    rw [List.drop_of_length_le (by omega), joinB, ByteArray.append_empty] at hj
    subst hj
    rw [barrowlaw38_ChatCuts.l0, if_neg (by omega)]
    by_cases c : most ≥ 1
    · rw [if_pos c, if_pos rfl, if_neg (by omega), if_pos c]
    · rw [if_neg c, if_pos (by omega), if_neg c]
  | succ n ih =>
    intro i k acc hi hk hj
    obtain ⟨k, rfl⟩ : ∃ q, k = q + 1 := ⟨k - 1, by omega⟩
    have hd := rdOf_cons (l := v) (i := i) (by omega)
    have hm : rdOf ByteArray.empty v (i : Int) ∈ v := List.mem_of_mem_drop (by rw [hd]; exact List.mem_cons_self)
    obtain ⟨h1, h2⟩ := hb _ hm
    rw [hd, joinB] at hj
    have hsz : acc.size + (rdOf ByteArray.empty v (i : Int)).size ≤ s.size := by
      rw [← hj, ByteArray.size_append, ByteArray.size_append]; omega
    obtain ⟨k', g1, g2⟩ := ih (i + 1) k (acc ++ rdOf ByteArray.empty v (i : Int)) (by omega) (by omega) (by rw [ByteArray.append_assoc]; exact hj)
    refine ⟨k', by omega, ?_⟩
    rw [barrowlaw38_ChatCuts.l0, if_pos (by omega), if_pos (by omega), if_neg (by omega), if_neg (by omega), if_pos (by omega), wrap64_in (by omega), succ_cast]
    exact g2
theorem nr_self (p : S42) : nr p p 3 = true := by
  unfold nr
  exact nearv_self _ _ _ (by decide)
theorem hearv_self (l : List S44) (kind a : Int) : hearv l [] [] kind a 0 3 = [] ∨ a ∈ hearv l [] [] kind a 0 3 := by
  unfold hearv
  by_cases c : a ∈ l.map (·.f0)
  · rw [if_pos c]
    have hk : hv l [] [] kind a 0 3 a = true ∨ ∀ u, hv l [] [] kind a 0 3 u = false := by
      unfold hv hearsv
      by_cases h1 : kind = 1
      · left; rw [if_pos h1, nr_self]; simp
      rw [if_neg h1]
      by_cases h4 : kind = 4
      · left; rw [if_neg (by omega), if_neg (by omega), if_pos h4]; simp
      · right; intro u; by_cases h2 : kind = 2 <;> by_cases h3 : kind = 3 <;> simp [h1, h2, h3, h4]
    rcases hk with h | h
    · right; rw [mem_canonv, List.mem_filter]; exact ⟨c, h⟩
    · left; rw [canonv_nil, List.filter_eq_nil_iff]; intro u _; rw [h u]; decide
  · rw [if_neg c]; exact .inl rfl
theorem cuts_l1 (a : Int) (h : List Int) (hh : h.length ≤ 1000) (hu : h.Pairwise (· < ·)) : ∀ (n i k : Nat) (b : Bool), i + n = h.length → 3 * n < k →
    barrowlaw38_ChatCuts.l1 k a true h b i = some (b || decide (a ∈ h.drop i)) := by
  intro n
  induction n with
  | zero =>
    intro i k b hi hk
    obtain ⟨k, rfl⟩ : ∃ q, k = q + 1 := ⟨k - 1, by omega⟩
    rw [barrowlaw38_ChatCuts.l1, if_neg (by omega), if_pos rfl, List.drop_of_length_le (by omega)]
    simp
  | succ n ih =>
    intro i k b hi hk
    obtain ⟨k, rfl⟩ : ∃ q, k = q + 1 + 1 + 1 := ⟨k - 3, by omega⟩
    have hd := rd_drop (l := h) (i := i) (by omega)
    have go : ∀ b' : Bool, barrowlaw38_ChatCuts.l299 (k + 1 + 1) a true h i b' = some (b' || decide (a ∈ h.drop (i + 1))) := by
      intro b'
      have nx : barrowlaw38_ChatCuts.l399 (k + 1) a true h i b' false = some (b' || decide (a ∈ h.drop (i + 1))) := by
        rw [barrowlaw38_ChatCuts.l399, if_neg (by decide), wrap64_in (by omega), succ_cast]
        exact ih (i + 1) k b' (by omega) (by omega)
      rw [barrowlaw38_ChatCuts.l299]
      by_cases c : (i : Int) > 0
      · obtain ⟨j, rfl⟩ : ∃ j, i = j + 1 := ⟨i - 1, by omega⟩
        have e1 : wrap64 (((j + 1 : Nat) : Int) - 1) = (j : Int) := by rw [wrap64_in (by omega)]; omega
        have hd0 := rd_drop (l := h) (i := j) (by omega)
        have hlt : rd h (j : Int) < rd h ((j + 1 : Nat) : Int) := by
          have hp := hu.sublist (List.drop_sublist j h)
          rw [hd0, hd] at hp
          exact (List.pairwise_cons.1 hp).1 _ List.mem_cons_self
        rw [if_pos c, if_pos (by omega), e1, Option.bind_some, if_pos (by omega), if_pos (by omega), decide_eq_false (by omega)]
        exact nx
      · rw [if_neg c]
        exact nx
    rw [barrowlaw38_ChatCuts.l1, if_pos (by omega), hd]
    cases b with
    | true => rw [if_pos rfl, go true]; simp
    | false =>
      rw [if_neg (by decide), if_pos (by omega)]
      by_cases e : rd h (i : Int) = a
      · rw [if_pos e, go true]; simp [e]
      · rw [if_neg e, go false]; simp [Ne.symm e]
end Go.Proofs.Ytdpeflbdoaccbaa.Pure
