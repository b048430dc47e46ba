/- A box of loads that wait: what its functions answer, in plain lists. -/
import Derived.Test.YtebllndphechmaaSL4
import Derived.Test.YtebllndphechmaaXOBx1
import Derived.Test.YtebllndphechmaaXOBx2
import Derived.Test.YtebllndphechmaaXOBx3
set_option linter.unusedSimpArgs false
set_option linter.unusedVariables false
namespace Go.Proofs.Ytebllndphechmaa.Pure
open Go.RowKit Go.Proofs.Ytebllndphechmaa.XOB Go.Proofs.YtebllndphechmaaW.PrintWords Go.Proofs.YtebllndphechmaaW.PrintLast Go.Proofs.YtebllndphechmaaW.PrintMore

/-- With rounds enough it is so. -/
def Ev (P : Nat → Prop) : Prop := ∃ K, ∀ k, K ≤ k → P k
theorem Ev.all {P : Nat → Prop} (h : ∀ k, P k) : Ev P := ⟨0, fun k _ => h k⟩
theorem Ev.ge (B : Nat) : Ev (fun k => B ≤ k) := ⟨B, fun _ h => h⟩
theorem Ev.step {P Q : Nat → Prop} (h : Ev P) (hs : ∀ k, P k → Q (k + 1)) : Ev Q := by
  obtain ⟨K, h⟩ := h
  refine ⟨K + 1, fun k hk => ?_⟩
  obtain ⟨k, rfl⟩ : ∃ q, k = q + 1 := ⟨k - 1, by omega⟩
  exact hs k (h k (by omega))
theorem Ev.and {P Q : Nat → Prop} (h : Ev P) (h' : Ev Q) : Ev (fun k => P k ∧ Q k) := by
  obtain ⟨K, h⟩ := h
  obtain ⟨K', h'⟩ := h'
  exact ⟨max K K', fun k hk => ⟨h k (by omega), h' k (by omega)⟩⟩
theorem Ev.imp {P Q : Nat → Prop} (h : Ev P) (hs : ∀ k, P k → Q k) : Ev Q := let ⟨K, h⟩ := h; ⟨K, fun k hk => hs k (h k hk)⟩
theorem Ev.get {P : Nat → Prop} (h : Ev P) : ∃ k, P k := let ⟨K, h⟩ := h; ⟨K, h K (Nat.le_refl _)⟩
theorem Ev.of {α : Type} {f : Nat → Option α} (hm : ∀ k, LeO (f k) (f (k + 1))) {K : Nat} {v : α} (h : f K = some v) : Ev (fun k => f k = some v) := by
  refine ⟨K, fun k hk => ?_⟩
  obtain ⟨d, rfl⟩ := Nat.exists_eq_add_of_le hk
  induction d with
  | zero => exact h
  | succ d ih => exact hm _ _ (ih (by omega))
theorem w64 {x : Int} (h : -9223372036854775808 ≤ x) (h' : x ≤ 9223372036854775807) : wrap64 x = x := by unfold wrap64; omega
theorem mn_min (a b : Int) : mn a b = min a b := by unfold mn; split <;> omega
theorem mx_max (a b : Int) : mx a b = max a b := by unfold mx; split <;> omega
theorem rdL_get {l : List (List Int)} {i : Nat} (h : i < l.length) : rd_L1 l i = l[i] := by
  unfold rd_L1
  rw [Int.toNat_natCast, List.getD_eq_getElem?_getD, List.getElem?_eq_getElem h]
  rfl

/-- How many may wait. -/
def capv (a : Int) : Int := if a < 1 ∨ a > 64 then 64 else a
theorem capv_le (a : Int) : 1 ≤ capv a ∧ capv a ≤ 64 := by unfold capv; split <;> omega
theorem new_eq (k : Nat) (a : Int) : outbox_New.f (k + 1) a = some (false, (capv a, [])) := by
  unfold outbox_New.f capv
  by_cases h : a < 1
  · rw [if_pos h, if_pos (.inl h), outbox_New.l199, if_pos rfl]; rfl
  · rw [if_neg h, outbox_New.l199]
    by_cases h2 : a > 64
    · rw [if_pos (decide_eq_true h2), if_pos (.inr h2)]; rfl
    · rw [if_neg (by simpa using h2), if_pos (by omega), if_pos (by omega), if_neg (by omega)]; rfl
theorem refnew_eq (k : Nat) (a : Int) : barrowref26_New.f (k + 1) a = some ([], capv a, false) := by
  unfold barrowref26_New.f capv
  by_cases h : a < 1
  · rw [if_pos h, if_pos (.inl h), barrowref26_New.l199, if_pos rfl]
  · rw [if_neg h, barrowref26_New.l199]
    by_cases h2 : a > 64
    · rw [if_pos (decide_eq_true h2), if_pos (.inr h2)]
    · rw [if_neg (by simpa using h2), if_neg (by omega)]
theorem forget_eq (b : Bool) (c : Int) : ∀ (L : List (List Int)) (k : Nat), L.length < k → outbox_Box_forget_i1.f k b (c, L) = some (c, []) := by
  intro L
  unfold outbox_Box_forget_i1.f
  induction L with
  | nil =>
    intro k hk
    obtain ⟨k, rfl⟩ : ∃ q, k = q + 1 := ⟨k - 1, by omega⟩
    rw [outbox_Box_forget_i1.l0]
    simp [outbox_Box_take.f]
  | cons x L ih =>
    intro k hk
    simp only [List.length_cons] at hk
    obtain ⟨k, rfl⟩ : ∃ q, k = q + 1 := ⟨k - 1, by omega⟩
    rw [outbox_Box_forget_i1.l0]
    simp only [outbox_Box_take.f, Option.bind_some, if_true]
    exact ih k (by omega)
/-- What a Put does: was it taken; is something lost then; what waits then. -/
def putS (l : List Int) (b : Bool) (c : Int) (L : List (List Int)) : Bool × Bool × List (List Int) := if b = true then (false, true, L) else if (L.length : Int) < c then (true, false, L ++ [l]) else (false, true, [])
theorem put_eq (k : Nat) (l : List Int) (b : Bool) (c : Int) (L : List (List Int)) (hl : l.length < 140737488355328) (hk : L.length < k) :
    outbox_Box_Put.f k l b (c, L) = some ((putS l b c L).1, (putS l b c L).2.1, (c, (putS l b c L).2.2)) := by
  unfold outbox_Box_Put.f putS
  cases b with
  | true => rw [if_pos rfl, if_pos rfl]
  | false =>
    rw [if_neg (by decide), if_neg (by decide)]
    unfold slices_Clone_byte_byte.f
    simp only [Option.bind_some, List.length_nil, Nat.zero_add]
    rw [if_pos hl]
    simp only [Option.bind_some, List.nil_append]
    split
    · rfl
    · rw [forget_eq _ _ _ _ hk]; rfl
theorem refput_eq (l : List Int) (b : Bool) (c : Int) (L : List (List Int)) (hl : l.length < 140737488355328) (hL : L.length ≤ 1000) :
    barrowref26_Box_Put.f l L c b = some ((putS l b c L).1, (putS l b c L).2.2, (putS l b c L).2.1) := by
  unfold barrowref26_Box_Put.f putS
  cases b with
  | true => rw [if_pos rfl, if_pos rfl]
  | false =>
    simp only [Bool.false_eq_true, if_false]
    by_cases h : (L.length : Int) < c
    · rw [if_neg (by omega), if_pos h]
      simp only [Option.bind_some, List.length_nil, Nat.zero_add, List.nil_append]
      rw [if_pos hl]
      simp only [Option.bind_some, List.length_cons, List.length_nil]
      rw [if_pos (by omega)]
    · rw [if_pos (by omega), if_neg h]
theorem drain_l0 (b : Bool) (c j : Int) : ∀ (n i k : Nat) (X M : List (List Int)), (i : Int) + n = j → n ≤ M.length → X.length + n ≤ 1000 → n < k → i + n ≤ 1000 →
    outbox_Box_Drain_i1.l0 k b X i (c, M) j = some (X ++ M.take n, (c, M.drop n)) := by
  intro n
  induction n with
  | zero =>
    intro i k X M hi hn hx hk hb
    obtain ⟨k, rfl⟩ : ∃ q, k = q + 1 := ⟨k - 1, by omega⟩
    rw [outbox_Box_Drain_i1.l0, if_neg (by omega)]
    simp
  | succ n ih =>
    intro i k X M hi hn hx hk hb
    obtain ⟨k, rfl⟩ : ∃ q, k = q + 1 := ⟨k - 1, by omega⟩
    cases M with
    | nil => simp at hn
    | cons x M =>
      rw [outbox_Box_Drain_i1.l0, if_pos (by omega)]
      simp only [outbox_Box_take.f, Option.bind_some, List.length_cons, List.length_nil]
      rw [if_pos (by omega), w64 (by omega) (by omega)]
      have := ih (i + 1) k (X ++ [x]) M (by omega) (by simpa using hn) (by simp; omega) (by omega) (by omega)
      simpa using this
/-- How many come out. -/
def many (a : Int) (n : Nat) : Nat := (min (max a 0) (n : Int)).toNat
theorem many_le (a : Int) (n : Nat) : many a n ≤ n := by unfold many; omega
theorem drain_eq (k : Nat) (a : Int) (b : Bool) (c : Int) (L : List (List Int)) (hL : L.length ≤ 500) (hk : L.length < k) :
    outbox_Box_Drain_i1.f k a b (c, L) = some (L.take (many a L.length), (c, L.drop (many a L.length))) := by
  unfold outbox_Box_Drain_i1.f
  simp only [Option.bind_some]
  rw [mn_min, mx_max]
  have h := drain_l0 b c (min (max a 0) (L.length : Int)) (many a L.length) 0 k [] L (by unfold many; omega) (many_le _ _) (by have := many_le a L.length; simp; omega) (by have := many_le a L.length; omega) (by have := many_le a L.length; omega)
  simpa using h
theorem refdrain_eq (a : Int) (b : Bool) (c : Int) (L : List (List Int)) (hL : L.length ≤ 500) :
    barrowref26_Box_Drain.f a L c b = some (L.take (many a L.length), L.drop (many a L.length)) := by
  unfold barrowref26_Box_Drain.f
  rw [if_pos (by omega), mn_min, mx_max]
  rfl
theorem again_eq (k : Nat) (b : Bool) (c : Int) (L : List (List Int)) (hk : L.length < k) : outbox_Box_Again_i1.f k b (c, L) = some (false, (c, [])) := by
  unfold outbox_Box_Again_i1.f
  rw [forget_eq _ _ _ _ hk]
  rfl
theorem same_l0 (A : List (List Int)) (hA : A.length ≤ 1000) : ∀ (n i k : Nat), i + n = A.length → n < k → barrowref04_Same.l0 k A A i = some true := by
  intro n
  induction n with
  | zero =>
    intro i k hi hk
    obtain ⟨k, rfl⟩ : ∃ q, k = q + 1 := ⟨k - 1, by omega⟩
    rw [barrowref04_Same.l0, if_neg (by omega)]
  | succ n ih =>
    intro i k hi hk
    obtain ⟨k, rfl⟩ : ∃ q, k = q + 1 := ⟨k - 1, by omega⟩
    rw [barrowref04_Same.l0, if_pos (by omega), if_pos (by omega), if_pos (by omega), if_pos rfl, w64 (by omega) (by omega)]
    exact ih (i + 1) k (by omega) (by omega)
theorem same_eq (k : Nat) (A : List (List Int)) (hA : A.length ≤ 1000) (hk : A.length < k) : barrowref04_Same.f k A A = some true := by
  unfold barrowref04_Same.f
  rw [if_pos rfl]
  exact same_l0 A hA A.length 0 k (by omega) hk
theorem small_ev : Ev (fun k => barrowlaw26_small.f k = some true) := Ev.of (f := barrowlaw26_small.f) barrowlaw26_small.mono (K := 8) (by decide +kernel)
end Go.Proofs.Ytebllndphechmaa.Pure
