/- Cool: what the program's functions come to. -/
import Derived.Test.YtbhgohomgfjjfaaCo
import Derived.Test.YtbhgohomgfjjfaaSumX
import Derived.Test.YtbhgohomgfjjfaaXCOx2
import Derived.Test.YtbhgohomgfjjfaaXCOx7
import Derived.Test.YtbhgohomgfjjfaaXCOx3
import Derived.Test.YtbhgohomgfjjfaaXCOx12
set_option linter.unusedSimpArgs false
set_option linter.unusedVariables false
namespace Go.Proofs.Ytbhgohomgfjjfaa.Pure
open Go.RowKit Go.Proofs.Ytbhgohomgfjjfaa.XCO Go.Proofs.YtbhgohomgfjjfaaW.PrintWords Go.Proofs.YtbhgohomgfjjfaaW.PrintLast Go.Proofs.YtbhgohomgfjjfaaW.PrintMore

theorem wr {z : Int} (h : -1000000000000000 ≤ z ∧ z ≤ 1000000000000000) : wrap64 z = z := by unfold wrap64; omega
theorem rd_mid (p r : List Int) (a : Int) : rd (p ++ a :: r) (p.length : Int) = a := by simp [rd, List.getD_eq_getElem?_getD]
theorem rd35_mid (p r : List S35) (a : S35) : rd_T35 (p ++ a :: r) (p.length : Int) = a := by simp [rd_T35, List.getD_eq_getElem?_getD]
theorem app_one {α : Type} (p r : List α) (a : α) : p ++ a :: r = (p ++ [a]) ++ r := by simp
def abv (l : List Int) (now : Int) : List Int := l.filter (fun n => decide (n > now))
theorem above_loop : ∀ (r p acc : List Int) (k : Nat) (now : Int), r.length < k → p.length + r.length < 17592186044416 → acc.length + r.length < 17592186044416 →
    cool_above.l0 k now acc (p ++ r) ((p ++ r).length : Int) (p.length : Int) = some (acc ++ abv r now)
  | [], p, acc, 0, now, h, _, _ => by simp at h
  | [], p, acc, k + 1, now, h, _, _ => by unfold cool_above.l0; rw [if_neg (by simp)]; simp [abv]
  | a :: r, p, acc, 0, now, h, _, _ => by simp at h
  | a :: r, p, acc, k + 1, now, h, hp, ha => by
    simp only [List.length_cons] at h hp ha
    have e : wrap64 ((p.length : Int) + 1) = ((p ++ [a]).length : Int) := by rw [wr (by omega)]; simp
    have ih := above_loop r (p ++ [a]) 
    unfold cool_above.l0
    rw [if_pos (by simp; omega), if_pos (by omega), if_pos (by simp; omega), rd_mid, e, app_one p r a]
    by_cases c : a > now
    · rw [if_pos c, if_pos (by omega), ih (acc ++ [a]) k now (by omega) (by simp; omega) (by simp; omega)]
      simp [abv, c]
    · rw [if_neg c, ih acc k now (by omega) (by simp; omega) (by omega)]
      simp [abv, c]
theorem above_eq (l : List Int) (now : Int) (k : Nat) (h : l.length < k) (hl : l.length < 17592186044416) : cool_above.f k l now = some (abv l now) := by
  unfold cool_above.f
  have := above_loop l [] [] k now h (by simp; omega) (by simp; omega)
  simpa using this
def aw : List S35 → Int → Int → List Int
  | [], _, _ => []
  | x :: r, id, now => if x.f0 = id then abv x.f1 now else aw r id now
theorem find_loop : ∀ (r p : List S35) (k : Nat) (id : Int), r.length < k → p.length + r.length < 17592186044416 →
    ∃ i : Int, api_Cool_26_i2.l0 k (p ++ r) (p.length : Int) id = some (i, id) ∧ ((i = -1 ∧ ∀ now, aw r id now = []) ∨ ((p.length : Int) ≤ i ∧ i < ((p ++ r).length : Int) ∧ ∀ now, aw r id now = abv (rd_T35 (p ++ r) i).f1 now ∧ (rd_T35 (p ++ r) i) ∈ r))
  | [], p, 0, id, h, _ => by simp at h
  | [], p, k + 1, id, h, _ => ⟨-1, by unfold api_Cool_26_i2.l0; rw [if_neg (by simp)], .inl ⟨rfl, fun _ => rfl⟩⟩
  | a :: r, p, 0, id, h, _ => by simp at h
  | a :: r, p, k + 1, id, h, hp => by
    simp only [List.length_cons] at h hp
    have e : wrap64 ((p.length : Int) + 1) = ((p ++ [a]).length : Int) := by rw [wr (by omega)]; simp
    unfold api_Cool_26_i2.l0
    rw [if_pos (by simp; omega), if_pos (by omega), rd35_mid, e]
    unfold cool_find_1_i1.f
    by_cases c : a.f0 = id
    · refine ⟨(p.length : Int), by rw [if_pos c]; rfl, .inr ⟨Int.le_refl _, by simp; omega, fun now => ?_⟩⟩
      rw [rd35_mid]
      exact ⟨by simp [aw, c], by simp⟩
    · obtain ⟨i, h1, h2⟩ := find_loop r (p ++ [a]) k id (by omega) (by simp; omega)
      rw [← app_one] at h1 h2
      refine ⟨i, by rw [if_neg c]; simpa using h1, ?_⟩
      rcases h2 with ⟨h2, h3⟩ | ⟨h2, h3, h4⟩
      · exact .inl ⟨h2, fun now => by simp [aw, c, h3 now]⟩
      · refine .inr ⟨by simp at h2; omega, h3, fun now => ⟨?_, List.mem_cons_of_mem _ (h4 now).2⟩⟩
        simp only [aw, if_neg c]
        exact (h4 now).1
theorem away_eq (l : List S35) (id now : Int) (k : Nat) (h : l.length < k) (hl : l.length < 17592186044416) (hb : ∀ x ∈ l, x.f1.length < k ∧ x.f1.length < 17592186044416) : cool_away.f k l id now = some (aw l id now) := by
  unfold cool_away.f cool_find.f api_Cool_26_i2.f
  obtain ⟨i, h1, h2⟩ := find_loop l [] k id h (by simp; omega)
  simp only [List.nil_append, List.length_nil] at h1 h2
  rw [show ((0 : Nat) : Int) = 0 from rfl] at h1
  rw [h1]
  simp only [Option.bind_some]
  rcases h2 with ⟨rfl, h3⟩ | ⟨h2, h3, h4⟩
  · rw [if_pos (by omega), h3]
  · rw [if_neg (by omega), if_pos (by omega), if_pos h3, above_eq _ _ _ (hb _ (h4 now).2).1 (hb _ (h4 now).2).2, (h4 now).1]
    rfl
theorem ready_eq (l : List S35) (a0 a1 a2 c a4 a5 : Int) (a6 : Bool) (e : List S76) (now : Int) (k : Nat) (h : l.length < k) (hl : l.length < 17592186044416) (hb : ∀ x ∈ l, x.f1.length < k ∧ x.f1.length < 17592186044416) (hc : -9223372036854775808 ≤ c ∧ c ≤ 9223372036854775807) (ha : (aw l a0 now).length < 17592186044416) :
    cool_Ready.f k l a0 a1 a2 c a4 a5 a6 e now = some (mx (satv (c - ((aw l a0 now).length : Int))) 0) := by
  unfold cool_Ready.f
  obtain ⟨k, rfl⟩ : ∃ j, k = j + 1 := ⟨k - 1, by omega⟩
  rw [away_eq l a0 now (k + 1) h hl hb]
  simp only [Option.bind_some]
  rw [sub_eq k _ _ hc (by omega)]
  rfl
def srt : List Int → Bool
  | [] => true
  | [_] => true
  | a :: b :: r => decide (a ≤ b) && srt (b :: r)
theorem srt_snoc : ∀ (l : List Int) (a b : Int), srt (l ++ [a, b]) = (srt (l ++ [a]) && decide (a ≤ b))
  | [], a, b => by simp [srt]
  | [x], a, b => by simp [srt, Bool.and_assoc]
  | x :: y :: r, a, b => by
    have := srt_snoc (y :: r) a b
    simp only [List.cons_append] at this ⊢
    simp only [srt, this, Bool.and_assoc]
theorem sorted_loop : ∀ (n : Nat) (l : List Int) (k : Nat), n < k → (h : n < l.length) → l.length < 17592186044416 → slices_IsSorted_int_int.l0 k l (n : Int) = some (srt (l.take (n + 1)))
  | 0, l, 0, hk, _, _ => by omega
  | 0, l, k + 1, _, h, _ => by
    unfold slices_IsSorted_int_int.l0
    rw [if_neg (by omega)]
    cases l with
    | nil => simp at h
    | cons a r => rfl
  | n + 1, l, 0, hk, _, _ => by omega
  | n + 1, l, k + 1, hk, h, hl => by
    have e : wrap64 (((n + 1 : Nat) : Int) - 1) = (n : Int) := by rw [wr (by omega)]; omega
    have g1 : rd l ((n + 1 : Nat) : Int) = l[n + 1] := by unfold rd; rw [Int.toNat_natCast, List.getD_eq_getElem?_getD, List.getElem?_eq_getElem h]; rfl
    have g0 : rd l (n : Int) = l[n] := by unfold rd; rw [Int.toNat_natCast, List.getD_eq_getElem?_getD, List.getElem?_eq_getElem (by omega)]; rfl
    unfold slices_IsSorted_int_int.l0
    rw [if_pos (by omega), if_pos (by omega), if_pos (by omega), e, if_pos (by omega), if_pos (by omega), g1, g0]
    have hc : ∀ a b : Int, cmp_Less_int.f a b = some (decide (a < b)) := fun a b => by simp [cmp_Less_int.f, cmp_isNaN_int.f]
    rw [hc]
    have e3 : l.take (n + 1) = l.take n ++ [l[n]] := by
      rw [List.take_add_one, List.getElem?_eq_getElem (by omega : n < l.length)]; rfl
    have t1 : l.take (n + 1 + 1) = l.take (n + 1) ++ [l[n + 1]] := by rw [List.take_add_one, List.getElem?_eq_getElem h]; rfl
    have t2 : l.take (n + 1) ++ [l[n + 1]] = l.take n ++ [l[n], l[n + 1]] := by rw [e3, List.append_assoc]; rfl
    have e2 : l.take (n + 1 + 1) = l.take n ++ [l[n], l[n + 1]] := t1.trans t2
    rw [e2, srt_snoc, ← e3]
    simp only [Option.bind_some]
    by_cases c : l[n + 1] < l[n]
    · rw [decide_eq_true c, if_pos rfl, decide_eq_false (by omega : ¬ l[n] ≤ l[n + 1]), Bool.and_false]
    · rw [decide_eq_false c, if_neg (by simp), decide_eq_true (by omega : l[n] ≤ l[n + 1]), Bool.and_true]
      exact sorted_loop n l k (by omega) (by omega) hl
theorem sorted_eq (l : List Int) (k : Nat) (h : l.length < k) (hl : l.length < 17592186044416) : slices_IsSorted_int_int.f k l = some (srt l) := by
  unfold slices_IsSorted_int_int.f
  cases l with
  | nil =>
    obtain ⟨k, rfl⟩ : ∃ j, k = j + 1 := ⟨k - 1, by omega⟩
    unfold slices_IsSorted_int_int.l0
    rw [if_neg (by simp only [List.length_nil]; unfold wrap64; omega)]
    rfl
  | cons a r =>
    simp only [List.length_cons] at h hl ⊢
    have e : wrap64 (((r.length + 1 : Nat) : Int) - 1) = (r.length : Int) := by rw [wr (by omega)]; omega
    rw [e, sorted_loop r.length (a :: r) k (by omega) (by simp) (by simp; omega)]
    simp
def coolB (x : S35) (last : Int) : Bool := decide (x.f0 > last) && decide (1 ≤ x.f1.length) && decide (x.f1.length ≤ 100) && srt x.f1
def rightB : Int → List S35 → Bool
  | _, [] => true
  | last, x :: r => coolB x last && rightB x.f0 r
theorem cool_eq (x : S35) (last : Int) (k : Nat) (hk : 101 ≤ k) : cool_cool.f k x.f0 x.f1 last = some (coolB x last) := by
  unfold cool_cool.f coolB
  by_cases h1 : x.f0 > last
  · by_cases h2 : 1 ≤ x.f1.length
    · by_cases h3 : x.f1.length ≤ 100
      · rw [if_pos h1, if_pos (by omega), if_pos (by omega), sorted_eq _ _ (by omega) (by omega)]
        simp [h1, h2, h3]
      · rw [if_pos h1, if_pos (by omega), if_neg (by omega)]; simp [h3]
    · rw [if_pos h1, if_neg (by omega)]; simp [h2]
  · rw [if_neg h1]; simp [h1]
theorem right_loop : ∀ (r p : List S35) (last : Int) (k : Nat), r.length + 101 < k → p.length + r.length < 17592186044416 → cool_Right.l0 k (p ++ r) last (p.length : Int) = some (rightB last r)
  | [], p, last, 0, h, _ => by omega
  | [], p, last, k + 1, h, _ => by unfold cool_Right.l0; rw [if_neg (by simp)]; rfl
  | a :: r, p, last, 0, h, _ => by omega
  | a :: r, p, last, k + 1, h, hp => by
    simp only [List.length_cons] at h hp
    have e : wrap64 ((p.length : Int) + 1) = ((p ++ [a]).length : Int) := by rw [wr (by omega)]; simp
    have ih := right_loop r (p ++ [a]) a.f0 k (by omega) (by simp; omega)
    unfold cool_Right.l0
    rw [if_pos (by simp; omega), if_pos (by omega), rd35_mid, e, cool_eq _ _ _ (by omega)]
    simp only [Option.bind_some, rightB]
    by_cases c : coolB a last = true
    · rw [if_pos c, app_one, ih, c]; rfl
    · rw [if_neg c, Bool.eq_false_iff.mpr c]; rfl
theorem right_eq (l : List S35) (k : Nat) (h : l.length + 101 < k) (hl : l.length < 17592186044416) : cool_Right.f k l = some (rightB 0 l) := by
  have := right_loop l [] 0 k h (by simp; omega)
  simpa [cool_Right.f] using this
def cln : List S35 → Int → List S35
  | [], _ => []
  | x :: r, now => if (abv x.f1 now).length > 0 then ⟨x.f0, abv x.f1 now⟩ :: cln r now else cln r now
theorem clean_loop : ∀ (r p acc : List S35) (now : Int) (k : Nat), r.length < k → (∀ x ∈ r, x.f1.length + r.length < k ∧ x.f1.length < 17592186044416) → p.length + r.length < 4398046511104 → acc.length + r.length < 4398046511104 →
    cool_Clean.l0 k now acc (p ++ r) ((p ++ r).length : Int) (p.length : Int) = some (acc ++ cln r now)
  | [], p, acc, now, 0, h, _, _, _ => by omega
  | [], p, acc, now, k + 1, h, _, _, _ => by unfold cool_Clean.l0; rw [if_neg (by simp)]; simp [cln]
  | a :: r, p, acc, now, 0, h, _, _, _ => by omega
  | a :: r, p, acc, now, k + 1, h, hb, hp, ha => by
    simp only [List.length_cons] at h hp ha
    have hb0 := hb a (by simp)
    simp only [List.length_cons] at hb0
    have hb1 : ∀ x ∈ r, x.f1.length + r.length < k ∧ x.f1.length < 17592186044416 := fun x hx => by have := hb x (List.mem_cons_of_mem _ hx); simp only [List.length_cons] at this; omega
    have e : wrap64 ((p.length : Int) + 1) = ((p ++ [a]).length : Int) := by rw [wr (by omega)]; simp
    have ih := fun acc h => clean_loop r (p ++ [a]) acc now k (by omega) hb1 (by simp; omega) h
    unfold cool_Clean.l0
    rw [if_pos (by simp; omega), if_pos (by omega), if_pos (by simp; omega), rd35_mid, e, above_eq _ _ _ (by omega) hb0.2, app_one p r a]
    simp only [Option.bind_some, cln]
    by_cases c : (abv a.f1 now).length > 0
    · rw [if_pos (by omega), if_pos (by omega), if_pos c, ih _ (by simp; omega)]; simp
    · rw [if_neg (by omega), if_neg c, ih _ (by omega)]
theorem clean_eq (l : List S35) (now : Int) (k : Nat) (h : l.length < k) (hb : ∀ x ∈ l, x.f1.length + l.length < k ∧ x.f1.length < 17592186044416) (hl : l.length < 4398046511104) : cool_Clean.f k l now = some (cln l now) := by
  have := clean_loop l [] [] now k h hb (by simp; omega) (by simp; omega)
  simpa [cool_Clean.f] using this
end Go.Proofs.Ytbhgohomgfjjfaa.Pure
