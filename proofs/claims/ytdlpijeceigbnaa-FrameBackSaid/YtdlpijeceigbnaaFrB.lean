/- Frames: what both feeds do with bytes that wait. -/
import Derived.Test.YtdlpijeceigbnaaFrA
set_option linter.unusedSimpArgs false
set_option linter.unusedVariables false
namespace Go.Proofs.Ytdlpijeceigbnaa.Pure
open Go.RowKit Go.Proofs.Ytdlpijeceigbnaa.XFR Go.Proofs.YtdlpijeceigbnaaW.PrintWords Go.Proofs.YtdlpijeceigbnaaW.PrintLast Go.Proofs.YtdlpijeceigbnaaW.PrintMore

theorem w64 {a : Int} (h0 : -9223372036854775808 ≤ a) (h1 : a < 9223372036854775808) : wrap64 a = a := by unfold wrap64; omega
def lows (b : List Int) : Bool := b.any (fun x => decide (x < 128))
/-- Has a number not come whole? -/
def opn (b : List Int) : Bool := decide (b.length < 9) && !lows b
/-- The frames of bytes: loads, how it went, what waits. -/
def frS : Nat → List Int → List (List Int) × Int × List Int
  | 0, b => ([], 0, b)
  | n + 1, b => if (uintS b 0).2.2 = 0 then
      (if (uintS b 0).1 > 4096 then ([], 3, []) else if (uintS b 0).1 > (b.length : Int) - (uintS b 0).2.1 then ([], 0, b) else
        ((b.drop (uintS b 0).2.1.toNat).take (uintS b 0).1.toNat :: (frS n (b.drop ((uintS b 0).2.1 + (uintS b 0).1).toNat)).1, (frS n (b.drop ((uintS b 0).2.1 + (uintS b 0).1).toNat)).2))
    else if opn b then ([], 0, b) else ([], 2, [])
theorem drop_succ {b : List Int} {i : Nat} (h : i < b.length) : b.drop i = rd b i :: b.drop (i + 1) := by
  rw [List.drop_eq_getElem_cons h]
  congr 1
  unfold rd
  rw [Int.toNat_natCast, List.getD_eq_getElem?_getD, List.getElem?_eq_getElem h]
  rfl
theorem idx_l0 (b : List Int) (hlen : b.length < 140737488355328) : ∀ (m k i : Nat), i + m = b.length → m < k → ∃ r, slices_IndexFunc_byte_byte_c26.l0 k b (b.length : Int) i = some r ∧ decide (r ≥ 0) = lows (b.drop i) := by
  intro m
  induction m with
  | zero =>
    intro k i hi hk
    obtain ⟨k, rfl⟩ : ∃ q, k = q + 1 := ⟨k - 1, by omega⟩
    refine ⟨-1, ?_, ?_⟩
    · rw [slices_IndexFunc_byte_byte_c26.l0, if_neg (by omega)]
    · rw [List.drop_eq_nil_of_le (by omega)]; rfl
  | succ m ih =>
    intro k i hi hk
    obtain ⟨k, rfl⟩ : ∃ q, k = q + 1 := ⟨k - 1, by omega⟩
    rw [slices_IndexFunc_byte_byte_c26.l0, if_pos (by omega), if_pos (by omega), if_pos (by omega), drop_succ (by omega)]
    simp only [frame_open_1.f, Option.bind_some]
    by_cases h : rd b i < 128
    · rw [if_pos (by simpa using h)]
      refine ⟨i, rfl, ?_⟩
      simp [lows, h]
    · rw [if_neg (by simpa using h), w64 (by omega) (by omega)]
      obtain ⟨r, h1, h2⟩ := ih k (i + 1) (by omega) (by omega)
      refine ⟨r, by rw [← h1]; rfl, ?_⟩
      rw [h2]
      simp [lows, h]
theorem open_eq (b : List Int) (hlen : b.length < 140737488355328) (k : Nat) (hk : b.length < k) : frame_open.f k b = some (opn b) := by
  unfold frame_open.f opn
  by_cases h : (b.length : Int) < 9
  · rw [if_pos h]
    obtain ⟨r, h1, h2⟩ := idx_l0 b hlen b.length k 0 (by omega) hk
    unfold slices_ContainsFunc_byte_byte_c26.f slices_IndexFunc_byte_byte_c26.f
    rw [show ((0 : Nat) : Int) = 0 from rfl] at h1
    rw [h1]
    simp only [Option.bind_some]
    rw [h2, List.drop_zero]
    simp [show b.length < 9 by omega]
  · rw [if_neg h]
    simp [show ¬ b.length < 9 by omega]
theorem num_l0 (b : List Int) (hlen : b.length < 140737488355328) : ∀ (m k i : Nat) (o : Bool), i + m = b.length → m < k → barrowref04_number.l0 k b o i = some (0, 0, false, if (o && !lows (b.drop i)) = true then 0 else 2) := by
  intro m
  induction m with
  | zero =>
    intro k i o hi hk
    obtain ⟨k, rfl⟩ : ∃ q, k = q + 1 := ⟨k - 1, by omega⟩
    rw [barrowref04_number.l0, if_neg (by omega), List.drop_eq_nil_of_le (by omega)]
    cases o <;> simp [lows]
  | succ m ih =>
    intro k i o hi hk
    obtain ⟨k, rfl⟩ : ∃ q, k = q + 1 := ⟨k - 1, by omega⟩
    rw [barrowref04_number.l0, if_pos (by omega), drop_succ (by omega), w64 (by omega) (by omega), show (i : Int) + 1 = ((i + 1 : Nat) : Int) by omega]
    cases o with
    | false =>
      rw [if_neg (by decide), ih k (i + 1) false (by omega) (by omega)]
      simp
    | true =>
      rw [if_pos rfl, if_pos (by omega), ih k (i + 1) _ (by omega) (by omega)]
      by_cases h : rd b i ≥ 128
      · simp [lows, h, show ¬ rd b i < 128 by omega]
      · simp [lows, h, show rd b i < 128 by omega]
/-- What the document's number tells. -/
theorem number_eq (b : List Int) (hb : Bytes b) (hlen : b.length < 140737488355328) (k : Nat) (hk : b.length + 14 ≤ k) :
    barrowref04_number.f k b = some (if (uintS b 0).2.2 = 0 then (if (uintS b 0).1 > 4096 then (0, 0, false, 3) else ((uintS b 0).1, (uintS b 0).2.1, true, 0)) else (0, 0, false, if opn b = true then 0 else 2)) := by
  obtain ⟨k, rfl⟩ : ∃ q, k = q + 1 := ⟨k - 1, by omega⟩
  unfold barrowref04_number.f
  rw [refreaduint_eq (k + 1) b hb hlen hk]
  simp only [Option.bind_some]
  rcases uintS_facts hb 0 with h | ⟨v, nx, h, h1, h2, h3, h4, h5⟩
  · rw [h]
    simp only []
    rw [if_neg (by decide), if_neg (by decide), barrowref04_number.j0, if_neg (by decide), if_neg (by decide)]
    have := num_l0 b hlen b.length k 0 (decide ((b.length : Int) < 9)) (by omega) (by omega)
    rw [show ((0 : Nat) : Int) = 0 from rfl] at this
    rw [this, List.drop_zero]
    unfold opn
    by_cases h9 : b.length < 9
    · simp [h9, show (b.length : Int) < 9 by omega]
    · simp [h9, show ¬ (b.length : Int) < 9 by omega]
  · rw [h]
    simp only [if_true]
    rw [barrowref04_number.j0]
    by_cases hv : v > 4096
    · rw [if_pos (by simpa using hv), if_pos hv]
    · rw [if_neg (by simpa using hv), if_neg hv, if_pos rfl]
theorem push_l0 : ∀ (n k : Nat) (dead : Bool) (out : List (List Int)) (b : List Int), Bytes b → b.length < 1099511627776 → b.length < n → 2 * b.length + 20 ≤ k → out.length + b.length < 5864062014805 →
    frame_Feed_Push.l0 k dead out b = some (out ++ (frS n b).1, (frS n b).2.1, (frS n b).2.2, if (frS n b).2.1 = 0 then dead else true) := by
  intro n
  induction n with
  | zero => intro k dead out b hb hlen hn; omega
  | succ n ih =>
    intro k dead out b hb hlen hn hk ho
    obtain ⟨k, rfl⟩ : ∃ q, k = q + 1 := ⟨k - 1, by omega⟩
    rw [frame_Feed_Push.l0, readuint_eq k b hb (by omega) (by omega), frS]
    simp only [Option.bind_some]
    rcases uintS_facts hb 0 with h | ⟨v, nx, h, h1, h2, h3, h4, h5⟩
    · rw [h]
      simp only []
      rw [if_neg (by decide), if_neg (by decide), open_eq b (by omega) k (by omega)]
      simp only [Option.bind_some, frame_Feed_die.f]
      cases opn b <;> simp
    · rw [h]
      simp only [if_true]
      by_cases hv : v > 4096
      · rw [if_pos hv, if_pos hv]
        simp [frame_Feed_die.f]
      · rw [if_neg hv, if_neg hv, w64 (a := (b.length : Int) - nx) (by omega) (by omega)]
        by_cases hw : v > (b.length : Int) - nx
        · rw [if_pos hw, if_pos hw]
          simp
        · rw [if_neg hw, if_neg hw, w64 (a := nx + v) (by omega) (by omega), if_pos (by omega), if_pos (by omega), if_pos (by omega)]
          rw [clone_eq _ (by rw [List.length_take, List.length_drop]; omega)]
          simp only [Option.bind_some]
          rw [if_pos (by simp; omega), if_pos (by omega)]
          have hd : (b.drop (nx + v).toNat).length < b.length := by rw [List.length_drop]; omega
          rw [ih k dead _ _ (bytes_drop hb _) (by omega) (by omega) (by omega) (by rw [List.length_append, List.length_singleton]; omega)]
          rw [show (nx + v).toNat - nx.toNat = v.toNat by omega, List.append_assoc]
          rfl
theorem refpush_l0 : ∀ (n k : Nat) (out : List (List Int)) (b : List Int), Bytes b → b.length < 1099511627776 → b.length < n → 2 * b.length + 20 ≤ k → out.length + b.length < 5864062014805 →
    barrowref04_Feed_Push.l0 k false out b = some (out ++ (frS n b).1, (frS n b).2.1, (frS n b).2.2, if (frS n b).2.1 = 0 then false else true) := by
  intro n
  induction n with
  | zero => intro k out b hb hlen hn; omega
  | succ n ih =>
    intro k out b hb hlen hn hk ho
    obtain ⟨k, rfl⟩ : ∃ q, k = q + 1 := ⟨k - 1, by omega⟩
    rw [barrowref04_Feed_Push.l0, number_eq b hb (by omega) k (by omega), frS]
    simp only [Option.bind_some]
    rcases uintS_facts hb 0 with h | ⟨v, nx, h, h1, h2, h3, h4, h5⟩
    · rw [h]
      simp only []
      rw [if_neg (show ¬ ((2 : Int) = 0) by decide), if_neg (show ¬ ((2 : Int) = 0) by decide)]
      simp only []
      cases opn b <;> simp
    · rw [h]
      simp only [if_true]
      by_cases hv : v > 4096
      · rw [if_pos hv, if_pos hv]
        simp
      · rw [if_neg hv, if_neg hv]
        simp only [if_true]
        rw [w64 (a := (b.length : Int) - nx) (by omega) (by omega)]
        by_cases hw : v > (b.length : Int) - nx
        · rw [if_pos hw, if_pos hw]
          simp
        · rw [if_neg hw, if_neg hw, w64 (a := nx + v) (by omega) (by omega), if_pos (by omega), if_pos (by omega), if_pos (by omega)]
          simp only [List.nil_append, List.length_nil, Nat.zero_add]
          rw [if_pos (by rw [List.length_take, List.length_drop]; omega), if_pos (by simp; omega), if_pos (by omega)]
          have hd : (b.drop (nx + v).toNat).length < b.length := by rw [List.length_drop]; omega
          rw [ih k _ _ (bytes_drop hb _) (by omega) (by omega) (by omega) (by rw [List.length_append, List.length_singleton]; omega)]
          rw [show (nx + v).toNat - nx.toNat = v.toNat by omega, List.append_assoc]
          rfl
/-- What a push tells, and leaves. -/
def pushS (rest : List Int) (dead : Bool) (l : List Int) : List (List Int) × Int × List Int × Bool :=
  if dead = true then ([], 14, rest, dead) else ((frS ((rest ++ l).length + 1) (rest ++ l)).1, (frS ((rest ++ l).length + 1) (rest ++ l)).2.1, (frS ((rest ++ l).length + 1) (rest ++ l)).2.2, if (frS ((rest ++ l).length + 1) (rest ++ l)).2.1 = 0 then false else true)
theorem push_eq (k : Nat) (rest l : List Int) (dead : Bool) (hb : Bytes (rest ++ l)) (hlen : (rest ++ l).length < 1099511627776) (hk : 2 * (rest ++ l).length + 20 ≤ k) : frame_Feed_Push.f k rest dead l = some (pushS rest dead l) := by
  unfold frame_Feed_Push.f pushS
  cases dead with
  | true => rw [if_pos rfl, if_pos rfl]
  | false =>
    rw [if_neg (by decide), if_neg (by decide)]
    simp only [Option.bind_some, Int.toNat_natCast, List.take_length]
    rw [← List.length_append, if_pos (by omega), push_l0 _ k false [] _ hb hlen (Nat.lt_succ_self _) hk (by simp at hlen ⊢; omega)]
    rfl
theorem refpush_eq (k : Nat) (rest l : List Int) (dead : Bool) (hb : Bytes (rest ++ l)) (hlen : (rest ++ l).length < 1099511627776) (hk : 2 * (rest ++ l).length + 20 ≤ k) : barrowref04_Feed_Push.f k rest dead l = some (pushS rest dead l) := by
  unfold barrowref04_Feed_Push.f pushS
  cases dead with
  | true => rw [if_pos rfl, if_pos rfl]
  | false =>
    rw [if_neg (by decide), if_neg (by decide)]
    simp only [Option.bind_some, List.nil_append, List.length_nil, Nat.zero_add]
    have hl := hlen
    rw [List.length_append] at hl
    rw [if_pos (by omega), if_pos (by omega), refpush_l0 _ k [] _ hb hlen (Nat.lt_succ_self _) hk (by simp at hlen ⊢; omega)]
    rfl
theorem bytes_append {a b : List Int} (ha : Bytes a) (hb : Bytes b) : Bytes (a ++ b) := fun x hx => (List.mem_append.1 hx).elim (ha x) (hb x)
theorem bytes_take {l : List Int} (h : Bytes l) (a : Nat) : Bytes (l.take a) := fun x hx => h x (List.mem_of_mem_take hx)
theorem bytes_nil : Bytes [] := fun x hx => by cases hx
/-- What is left is a part of what was there. -/
theorem frS_rest : ∀ (n : Nat) (b : List Int), Bytes b → (frS n b).2.2 = b.drop (b.length - (frS n b).2.2.length) ∧ (frS n b).2.2.length ≤ b.length
  | 0, b, _ => by simp [frS]
  | n + 1, b, hb => by
    rw [frS]
    rcases uintS_facts hb 0 with h | ⟨v, nx, h, h1, h2, h3, h4, h5⟩
    · rw [h]
      simp only []
      rw [if_neg (show ¬ ((2 : Int) = 0) by decide)]
      cases opn b <;> simp
    · rw [h]
      simp only [if_true]
      split
      · simp
      · split
        · simp
        · simp only []
          obtain ⟨ih1, ih2⟩ := frS_rest n (b.drop (nx + v).toNat) (bytes_drop hb _)
          rw [List.length_drop] at ih1 ih2
          rw [List.drop_drop] at ih1
          refine ⟨?_, by omega⟩
          conv => lhs; rw [ih1]
          congr 1
          omega
theorem frS_bytes (n : Nat) (b : List Int) (hb : Bytes b) : Bytes (frS n b).2.2 := by rw [(frS_rest n b hb).1]; exact bytes_drop hb _
theorem frS_len : ∀ (n : Nat) (b : List Int), Bytes b → (frS n b).1.length ≤ b.length
  | 0, b, _ => by simp [frS]
  | n + 1, b, hb => by
    rw [frS]
    rcases uintS_facts hb 0 with h | ⟨v, nx, h, h1, h2, h3, h4, h5⟩
    · rw [h]
      simp only []
      rw [if_neg (show ¬ ((2 : Int) = 0) by decide)]
      cases opn b <;> simp
    · rw [h]
      simp only [if_true]
      split
      · simp
      · split
        · simp
        · have ih := frS_len n (b.drop (nx + v).toNat) (bytes_drop hb _)
          rw [List.length_drop] at ih
          simp only [List.length_cons]
          omega
theorem pushS_bytes {rest l : List Int} {dead : Bool} (hb : Bytes (rest ++ l)) : Bytes (pushS rest dead l).2.2.1 ∧ (pushS rest dead l).2.2.1.length ≤ (rest ++ l).length ∧ (pushS rest dead l).1.length ≤ (rest ++ l).length := by
  unfold pushS
  cases dead with
  | true => rw [if_pos rfl]; exact ⟨fun x hx => hb x (List.mem_append_left _ hx), by simp, by simp⟩
  | false => rw [if_neg (by decide)]; exact ⟨frS_bytes _ _ hb, (frS_rest _ _ hb).2, frS_len _ _ hb⟩
end Go.Proofs.Ytdlpijeceigbnaa.Pure
