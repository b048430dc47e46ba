/- Digits in base 65536: plain numbers; and a row of whole numbers that is a block of its own. -/
import Derived.Test.YtoalpmfkaijomaaV
set_option linter.unusedVariables false
set_option linter.unusedSimpArgs false
namespace Go.Proofs.Ytoalpmfkaijomaa.RMul
open Go.RowKit Go.Proofs.YtoalpmfkaijomaaW.PrintWords Go.Proofs.YtoalpmfkaijomaaW.PrintLast Go.Proofs.YtoalpmfkaijomaaW.PrintMore Go.Proofs.YtoalpmfkaijomaaV

/-- A block holds this row of whole numbers. -/
def ArrAt (w : World) (g T : Nat) (l : List Int) : Prop := w.heap[g]? = some (.cells (l.map (Value.int .i64)).toArray T (0, 0))
theorem ArrAt.cell {w : World} {g T : Nat} {l : List Int} (h : ArrAt w g T l) (i : Nat) (hi : i < l.length) : w.cell? ⟨g, i, none⟩ = some (.int .i64 (l.getD i 0)) := by
  rw [blk_cell h i]
  simp [hi]
theorem ArrAt.frozen {w : World} {g T : Nat} {l : List Int} (h : ArrAt w g T l) (i : Nat) : w.frozen? ⟨g, i, none⟩ = false := blk_frozen h i
theorem ArrAt.set {w : World} {g T : Nat} {l : List Int} (h : ArrAt w g T l) (i : Nat) (v : Int) : ArrAt (w.setCell ⟨g, i, none⟩ (.int .i64 v)) g T (l.set i v) :=
  blk_put h i _ (by simp [List.map_set])
theorem ArrAt.far {w : World} {g T : Nat} {l : List Int} (h : ArrAt w g T l) {g' : Nat} (hg : g ≠ g') (i : Nat) (v : Value) : ArrAt (w.setCell ⟨g', i, none⟩ v) g T l := blk_far h hg v
theorem ArrAt.drewN {w : World} {g T : Nat} {l : List Int} (h : ArrAt w g T l) (n : Nat) : ArrAt (w.drewN n) g T l := h

def B : Int := 65536
/-- The number that digits tell, the lowest first. -/
def val : List Int → Int
  | [] => 0
  | d :: l => d + 65536 * val l
def digs (l : List Int) : Prop := ∀ j, 0 ≤ l.getD j 0 ∧ l.getD j 0 ≤ 65535
theorem val_set (l : List Int) : ∀ (j : Nat) (v : Int), j < l.length → val (l.set j v) = val l + (v - l.getD j 0) * 65536 ^ j := by
  induction l with
  | nil => intro j v h; simp at h
  | cons d l ih =>
    intro j v h
    cases j with
    | zero => simp [val]; omega
    | succ j =>
      have := ih j v (by simpa using h)
      simp only [List.set_cons_succ, val, List.getD_cons_succ]
      rw [this, Int.mul_add, Int.pow_succ]
      rw [show (65536 : Int) * ((v - l.getD j 0) * 65536 ^ j) = (v - l.getD j 0) * (65536 ^ j * 65536) by rw [Int.mul_comm, Int.mul_assoc]]
      omega
theorem val_take_succ (l : List Int) : ∀ k : Nat, k < l.length → val (l.take (k + 1)) = val (l.take k) + l.getD k 0 * 65536 ^ k := by
  induction l with
  | nil => intro k h; simp at h
  | cons d l ih =>
    intro k h
    cases k with
    | zero => simp [val]
    | succ k =>
      have := ih k (by simpa using h)
      simp only [List.take_succ_cons, val, List.getD_cons_succ]
      rw [this, Int.mul_add, Int.pow_succ, Int.mul_comm 65536 (l.getD k 0 * 65536 ^ k), Int.mul_assoc, Int.add_assoc]
theorem digs_set {l : List Int} (h : digs l) (j : Nat) (v : Int) (hv : 0 ≤ v ∧ v ≤ 65535) : digs (l.set j v) := by
  intro i
  rcases Nat.decEq j i with hne | rfl
  · have : (l.set j v).getD i 0 = l.getD i 0 := by simp [List.getD_eq_getElem?_getD, List.getElem?_set_ne hne]
    rw [this]; exact h i
  · by_cases hl : j < l.length
    · have : (l.set j v).getD j 0 = v := by simp [hl]
      rw [this]; exact hv
    · have : (l.set j v).getD j 0 = 0 := by simp [hl]
      rw [this]; omega
theorem getD_set_ne {l : List Int} {j i : Nat} (h : j ≠ i) (v : Int) : (l.set j v).getD i 0 = l.getD i 0 := by simp [List.getD_eq_getElem?_getD, List.getElem?_set_ne h]
theorem val_nonneg (l : List Int) (h : digs l) : 0 ≤ val l := by
  induction l with
  | nil => simp [val]
  | cons d l ih =>
    have h0 := h 0
    have := ih (fun j => by simpa using h (j + 1))
    simp only [val]
    simp at h0
    omega
theorem val_split (l : List Int) : ∀ k : Nat, k ≤ l.length → val l = val (l.take k) + 65536 ^ k * val (l.drop k) := by
  induction l with
  | nil => intro k h; simp at h; subst h; simp [val]
  | cons d l ih =>
    intro k h
    cases k with
    | zero => simp [val]
    | succ k =>
      have := ih k (by simpa using h)
      simp only [List.take_succ_cons, List.drop_succ_cons, val]
      rw [this, Int.mul_add, Int.pow_succ]
      rw [show (65536 : Int) * (65536 ^ k * val (l.drop k)) = 65536 ^ k * 65536 * val (l.drop k) by rw [← Int.mul_assoc, Int.mul_comm 65536 (65536 ^ k)]]
      omega
/-- One step of the product: the digit and what is carried on. -/
theorem step_val (V V0 x y z c p q r : Int) (n : Int) (hn : n = z + x * y + c) (h : V + c * p = V0 + x * q * r) :
    V + (n % 65536 - z) * p + n / 65536 * (p * 65536) = V0 + x * q * r + x * y * p := by
  have e : n % 65536 + 65536 * (n / 65536) = n := by omega
  generalize n % 65536 = a at *
  generalize n / 65536 = b at *
  have e1 : b * (p * 65536) = 65536 * b * p := by rw [Int.mul_comm p 65536, ← Int.mul_assoc, Int.mul_comm b 65536]
  have e2 : (a - z) * p + 65536 * b * p = (n - z) * p := by rw [← Int.add_mul]; congr 1; omega
  have e3 : (n - z) * p = x * y * p + c * p := by rw [hn, ← Int.add_mul]; congr 1; omega
  rw [e1]
  omega
theorem val_digs_le (l : List Int) (h : digs l) (k : Nat) (hk : k < l.length) (hz : l.getD k 0 ≠ 0) : 65536 ^ k ≤ val l := by
  rw [val_split l k (by omega)]
  have h1 : 0 ≤ val (l.take k) := val_nonneg _ (fun j => by
    by_cases hj : j < k
    · have : (l.take k).getD j 0 = l.getD j 0 := by simp [List.getD_eq_getElem?_getD, List.getElem?_take, hj]
      rw [this]; exact h j
    · have : (l.take k).getD j 0 = 0 := by simp [List.getD_eq_getElem?_getD, List.getElem?_take, hj]
      rw [this]; omega)
  have h2 : 1 ≤ val (l.drop k) := by
    have e : l.drop k = l.getD k 0 :: l.drop (k + 1) := by
      rw [List.drop_eq_getElem_cons hk]; simp [hk]
    rw [e]
    have h3 : 0 ≤ val (l.drop (k + 1)) := val_nonneg _ (fun j => by
      have : (l.drop (k + 1)).getD j 0 = l.getD (k + 1 + j) 0 := by simp [List.getD_eq_getElem?_getD]
      rw [this]; exact h _)
    have := (h k).1
    simp only [val]
    omega
  have h4 : (0 : Int) < 65536 ^ k := Int.pow_pos (by decide)
  have := Int.mul_le_mul_of_nonneg_left h2 (Int.le_of_lt h4)
  omega
/-- The number that the four lowest digits tell, from digit 4 - m on. -/
def tops (l : List Int) (m : Nat) : Int := val ((l.take 4).drop (4 - m))
theorem tops_zero (l : List Int) (h : l.length = 10) : tops l 0 = 0 := by
  unfold tops
  rw [List.drop_of_length_le (by simp; omega)]
  rfl
theorem tops_succ (l : List Int) (h : l.length = 10) (m : Nat) (hm : m < 4) : tops l (m + 1) = l.getD (3 - m) 0 + 65536 * tops l m := by
  unfold tops
  have e : (l.take 4).drop (4 - (m + 1)) = l.getD (3 - m) 0 :: (l.take 4).drop (4 - m) := by
    rw [List.drop_eq_getElem_cons (by simp; omega)]
    congr 1
    · rw [List.getElem_take]
      rw [List.getD_eq_getElem?_getD, List.getElem?_eq_getElem (by omega)]
      simp
    · congr 1; omega
  rw [e]; rfl
theorem tops_all (l : List Int) (h : l.length = 10) (hd : digs l) (hz : ∀ j, 4 ≤ j → l.getD j 0 = 0) : val l = tops l 4 := by
  rw [val_split l 4 (by omega)]
  have : val (l.drop 4) = 0 := by
    have hh : ∀ l' : List Int, (∀ j, l'.getD j 0 = 0) → val l' = 0 := by
      intro l'
      induction l' with
      | nil => intro _; rfl
      | cons d l' ih =>
        intro h'
        have h0 := h' 0
        simp at h0
        simp only [val]
        rw [h0, ih (fun j => by simpa using h' (j + 1))]
        rfl
    exact hh _ (fun j => by
      have : (l.drop 4).getD j 0 = l.getD (4 + j) 0 := by simp [List.getD_eq_getElem?_getD]
      rw [this]; exact hz _ (by omega))
  rw [this]
  unfold tops
  simp
theorem tops_mono (l : List Int) (hl : l.length = 10) (h : digs l) (m : Nat) (hm : m ≤ 4) : 0 ≤ tops l m ∧ tops l m ≤ val l := by
  have key : ∀ m, m ≤ 4 → 0 ≤ tops l m := by
    intro m
    induction m with
    | zero => intro _; rw [tops_zero l hl]; omega
    | succ m ih => intro hm; rw [tops_succ l hl m (by omega)]; have := (h (3 - m)).1; have := ih (by omega); omega
  refine ⟨key m hm, ?_⟩
  have up : ∀ d, m + d ≤ 4 → tops l m ≤ tops l (m + d) := by
    intro d
    induction d with
    | zero => intro _; exact Int.le_refl _
    | succ d ih =>
      intro hd
      rw [show m + (d + 1) = m + d + 1 by omega, tops_succ l hl (m + d) (by omega)]
      have := (h (3 - (m + d))).1
      have := ih (by omega)
      have := key (m + d) (by omega)
      omega
  have h4 := up (4 - m) (by omega)
  rw [show m + (4 - m) = 4 by omega] at h4
  refine Int.le_trans h4 ?_
  rw [val_split l 4 (by omega)]
  have : 0 ≤ val (l.drop 4) := val_nonneg _ (fun j => by
    have : (l.drop 4).getD j 0 = l.getD (4 + j) 0 := by simp [List.getD_eq_getElem?_getD]
    rw [this]; exact h _)
  unfold tops
  simp
  omega
theorem pow_mono {k m : Nat} (h : k ≤ m) : (65536 : Int) ^ k ≤ 65536 ^ m := by
  obtain ⟨d, rfl⟩ := Nat.exists_eq_add_of_le h
  rw [Int.pow_add]
  have h1 : (0 : Int) < 65536 ^ d := Int.pow_pos (by decide)
  have h2 : (0 : Int) < 65536 ^ k := Int.pow_pos (by decide)
  have := Int.mul_le_mul_of_nonneg_left (show (1 : Int) ≤ 65536 ^ d by omega) (Int.le_of_lt h2)
  omega
end Go.Proofs.Ytoalpmfkaijomaa.RMul
