/- Rising rows of numbers, each once: of what stands in them there is one such row. -/
import Derived.Test.YtdpeflbdoaccbaaSL6
set_option linter.unusedSimpArgs false
set_option linter.unusedVariables false
namespace Go.Proofs.Ytdpeflbdoaccbaa.Pure
open Go.Proofs.YtdpeflbdoaccbaaS
theorem strict_ext : ∀ {a b : List Int}, a.Pairwise (· < ·) → b.Pairwise (· < ·) → (∀ x, x ∈ a ↔ x ∈ b) → a = b
  | [], [], _, _, _ => rfl
  | [], y :: b, _, _, h => by have := (h y).2 (by simp); simp at this
  | x :: a, [], _, _, h => by have := (h x).1 (by simp); simp at this
  | x :: a, y :: b, ha, hb, h => by
    have ha' := List.pairwise_cons.1 ha
    have hb' := List.pairwise_cons.1 hb
    have hxy : x = y := by
      have h1 : y ≤ x := by
        rcases List.mem_cons.1 ((h x).1 (by simp)) with e | e
        · omega
        · have := hb'.1 x e; omega
      have h2 : x ≤ y := by
        rcases List.mem_cons.1 ((h y).2 (by simp)) with e | e
        · omega
        · have := ha'.1 y e; omega
      omega
    subst hxy
    rw [strict_ext ha'.2 hb'.2 (fun z => ?_)]
    constructor
    · intro hz
      have h1 := ha'.1 z hz
      rcases List.mem_cons.1 ((h z).1 (List.mem_cons_of_mem _ hz)) with e | e
      · omega
      · exact e
    · intro hz
      have h1 := hb'.1 z hz
      rcases List.mem_cons.1 ((h z).2 (List.mem_cons_of_mem _ hz)) with e | e
      · omega
      · exact e
/-- A number in its place among rising ones, once. -/
def ins (x : Int) : List Int → List Int
  | [] => [x]
  | y :: l => if x < y then x :: y :: l else if x = y then y :: l else y :: ins x l
theorem mem_ins (x : Int) : ∀ (l : List Int) (z : Int), z ∈ ins x l ↔ z = x ∨ z ∈ l
  | [], z => by simp [ins]
  | y :: l, z => by
    unfold ins
    split
    · simp
    · split
      · rename_i h; subst h; simp
      · simp only [List.mem_cons, mem_ins x l z]
        constructor
        · rintro (h | h | h) <;> simp [h]
        · rintro (h | h | h) <;> simp [h]
theorem ins_up (x : Int) : ∀ {l : List Int}, l.Pairwise (· < ·) → (ins x l).Pairwise (· < ·)
  | [], _ => by simp [ins]
  | y :: l, h => by
    have h' := List.pairwise_cons.1 h
    unfold ins
    split
    · rename_i c
      refine List.pairwise_cons.2 ⟨fun z hz => ?_, h⟩
      rcases List.mem_cons.1 hz with e | e
      · omega
      · have := h'.1 z e; omega
    · split
      · exact h
      · refine List.pairwise_cons.2 ⟨fun z hz => ?_, ins_up x h'.2⟩
        rcases (mem_ins x l z).1 hz with e | e
        · omega
        · exact h'.1 z e
theorem ins_len (x : Int) : ∀ l : List Int, (ins x l).length ≤ l.length + 1
  | [] => by simp [ins]
  | y :: l => by
    unfold ins
    have := ins_len x l
    (repeat' split) <;> simp <;> omega
/-- Numbers, rising, each once. -/
def canonv (l : List Int) : List Int := l.foldr ins []
theorem mem_canonv : ∀ (l : List Int) (z : Int), z ∈ canonv l ↔ z ∈ l
  | [], z => by simp [canonv]
  | x :: l, z => by
    have := mem_canonv l z
    simp only [canonv, List.foldr_cons, mem_ins] at *
    rw [this]; simp
theorem canonv_up : ∀ (l : List Int), (canonv l).Pairwise (· < ·)
  | [] => by simp [canonv]
  | x :: l => by
    have := canonv_up l
    simp only [canonv, List.foldr_cons] at *
    exact ins_up x this
theorem canonv_len : ∀ (l : List Int), (canonv l).length ≤ l.length
  | [] => by simp [canonv]
  | x :: l => by
    have h1 := canonv_len l
    have h2 := ins_len x (canonv l)
    simp only [canonv, List.foldr_cons] at *
    simp; omega
theorem canonv_ext {a b : List Int} (h : ∀ z, z ∈ a ↔ z ∈ b) : canonv a = canonv b := strict_ext (canonv_up a) (canonv_up b) (fun z => by rw [mem_canonv, mem_canonv]; exact h z)
theorem canonv_of {a b : List Int} (h : a.Pairwise (· < ·)) (hm : ∀ z, z ∈ a ↔ z ∈ b) : a = canonv b := strict_ext h (canonv_up b) (fun z => by rw [mem_canonv]; exact hm z)
theorem canonv_self {a : List Int} (h : a.Pairwise (· < ·)) : canonv a = a := (canonv_of h (fun _ => Iff.rfl)).symm
theorem canonv_nil {a : List Int} : canonv a = [] ↔ a = [] := by
  constructor
  · intro h
    cases a with
    | nil => rfl
    | cons x l => have := (mem_canonv (x :: l) x).2 (by simp); rw [h] at this; simp at this
  · rintro rfl; rfl
theorem sortI_mem (l : List Int) (z : Int) : z ∈ sortI l ↔ z ∈ l := (List.mergeSort_perm l _).mem_iff
theorem sortI_up (l : List Int) : (sortI l).Pairwise (· ≤ ·) := by
  have := List.pairwise_mergeSort (le := fun x y : Int => decide (x ≤ y)) (by intro a b c h1 h2; simp at *; omega) (by intro a b; simp; omega) l
  refine this.imp ?_
  intro a b h
  simpa using h
theorem compact_up {d : Array Int} (h : d.toList.Pairwise (· ≤ ·)) : ∀ m, m ≤ d.size → (Lib.compactUpTo d m).Pairwise (· < ·) ∧ ∀ z, z ∈ Lib.compactUpTo d m ↔ ∃ j, j < m ∧ d[j]! = z
  | 0, _ => by simp [Lib.compactUpTo]
  | m + 1, hm => by
    obtain ⟨h1, h2⟩ := compact_up h m (by omega)
    have get : ∀ i j, i < j → j < d.size → d[i]! ≤ d[j]! := by
      intro i j hij hj
      have := List.pairwise_iff_getElem.1 h i j (by simp; omega) (by simpa using hj) hij
      simpa [getElem!_pos, hj, (by omega : i < d.size)] using this
    rw [Lib.compactUpTo_succ]
    by_cases hk : Lib.keeps d m = true
    · rw [if_pos hk]
      have hk' : m = 0 ∨ d[m]! ≠ d[m - 1]! := by simpa [Lib.keeps] using hk
      constructor
      · refine List.pairwise_append.2 ⟨h1, by simp, fun a ha b hb => ?_⟩
        obtain ⟨j, hj, rfl⟩ := (h2 a).1 ha
        simp at hb
        subst hb
        have e1 : d[j]! ≤ d[m - 1]! := by
          rcases Nat.lt_or_ge j (m - 1) with c | c
          · exact get _ _ c (by omega)
          · rw [show j = m - 1 by omega]; exact Int.le_refl _
        have e2 : d[m - 1]! ≤ d[m]! := get _ _ (by omega) (by omega)
        rcases hk' with c | c
        · omega
        · omega
      · intro z
        simp only [List.mem_append, List.mem_singleton, h2 z]
        constructor
        · rintro (⟨j, hj, e⟩ | e)
          · exact ⟨j, by omega, e⟩
          · exact ⟨m, by omega, e.symm⟩
        · rintro ⟨j, hj, e⟩
          rcases Nat.lt_or_ge j m with c | c
          · exact .inl ⟨j, c, e⟩
          · obtain rfl : j = m := by omega
            exact .inr e.symm
    · rw [if_neg hk, List.append_nil]
      refine ⟨h1, fun z => ?_⟩
      have hk' : ¬ (m = 0 ∨ d[m]! ≠ d[m - 1]!) := by simpa [Lib.keeps] using hk
      rw [h2 z]
      constructor
      · rintro ⟨j, hj, e⟩
        exact ⟨j, by omega, e⟩
      · rintro ⟨j, hj, e⟩
        rcases Nat.lt_or_ge j m with c | c
        · exact ⟨j, c, e⟩
        · obtain rfl : j = m := by omega
          have hm0 : j ≠ 0 := fun h => hk' (.inl h)
          have he : d[j]! = d[j - 1]! := by
            by_cases q : d[j]! = d[j - 1]!
            · exact q
            · exact absurd (.inr q) hk'
          exact ⟨j - 1, by omega, by rw [← he]; exact e⟩
/-- Sorted, and each once. -/
theorem canon_eq (l : List Int) : Lib.compact (sortI l) = canonv l := by
  have h := compact_up (d := (sortI l).toArray) (by simpa using sortI_up l) (sortI l).length (by simp)
  refine canonv_of h.1 (fun z => ?_)
  refine (h.2 z).trans ?_
  rw [← sortI_mem l z, List.mem_iff_getElem]
  constructor
  · rintro ⟨j, hj, e⟩
    exact ⟨j, hj, by rw [← e]; simp [getElem!_pos, hj]⟩
  · rintro ⟨j, hj, e⟩
    exact ⟨j, hj, by rw [← e]; simp [getElem!_pos, hj]⟩
end Go.Proofs.Ytdpeflbdoaccbaa.Pure
