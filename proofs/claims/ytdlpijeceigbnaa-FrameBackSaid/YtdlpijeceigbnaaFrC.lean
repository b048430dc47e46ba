/- Frames: words of loops that end ('Ev'), few, Same, Wrap. -/
import Derived.Test.YtdlpijeceigbnaaFrB
set_option linter.unusedSimpArgs false
set_option linter.unusedVariables false
namespace Go.Proofs.Ytdlpijeceigbnaa.Pure
open Go.RowKit Go.Proofs.Ytdlpijeceigbnaa.XFR Go.Proofs.YtdlpijeceigbnaaW.PrintWords Go.Proofs.YtdlpijeceigbnaaW.PrintLast Go.Proofs.YtdlpijeceigbnaaW.PrintMore

/-- With rounds enough it is so. -/
def Ev (P : Nat → Prop) : Prop := ∃ K, ∀ k, K ≤ k → P k
theorem Ev.all {P : Nat → Prop} (h : ∀ k, P k) : Ev P := ⟨0, fun k _ => h k⟩
theorem Ev.ge (B : Nat) : Ev (fun k => B ≤ k) := ⟨B, fun _ h => h⟩
theorem Ev.step {P Q : Nat → Prop} (h : Ev P) (hs : ∀ k, P k → Q (k + 1)) : Ev Q := by
  obtain ⟨K, h⟩ := h
  refine ⟨K + 1, fun k hk => ?_⟩
  obtain ⟨k, rfl⟩ : ∃ q, k = q + 1 := ⟨k - 1, by omega⟩
  exact hs k (h k (by omega))
theorem Ev.and {P Q : Nat → Prop} (h : Ev P) (h' : Ev Q) : Ev (fun k => P k ∧ Q k) := by
  obtain ⟨K, h⟩ := h
  obtain ⟨K', h'⟩ := h'
  exact ⟨max K K', fun k hk => ⟨h k (by omega), h' k (by omega)⟩⟩
theorem Ev.imp {P Q : Nat → Prop} (h : Ev P) (hs : ∀ k, P k → Q k) : Ev Q := let ⟨K, h⟩ := h; ⟨K, fun k hk => hs k (h k hk)⟩
theorem Ev.get {P : Nat → Prop} (h : Ev P) : ∃ k, P k := let ⟨K, h⟩ := h; ⟨K, h K (Nat.le_refl _)⟩

def total (l : List (List Int)) : Nat := (l.map List.length).sum
theorem rdL_get {l : List (List Int)} {i : Nat} (h : i < l.length) : rd_L1 l i = l[i] := by
  unfold rd_L1
  rw [Int.toNat_natCast, List.getD_eq_getElem?_getD, List.getElem?_eq_getElem h]
  rfl
theorem total_take_succ {l : List (List Int)} {i : Nat} (h : i < l.length) : total (l.take (i + 1)) = total (l.take i) + (rd_L1 l i).length := by
  unfold total
  rw [rdL_get h, List.take_succ_eq_append_getElem h, List.map_append, List.sum_append]
  simp
theorem total_mono {l : List (List Int)} {i : Nat} : total (l.take i) ≤ total l := by
  unfold total
  conv => rhs; rw [← List.take_append_drop i l, List.map_append, List.sum_append]
  omega
theorem few_l0 (l : List (List Int)) (h0 : l.length ≤ 5864062014804) (hl : ∀ x ∈ l, x.length ≤ 140737488351232) : ∀ (m k i : Nat), i + m = min l.length 100 → m < k →
    ∃ t, barrowlaw04_few.l0 k l (total (l.take i) : Int) i = some t ∧ (t = true → l.length ≤ 60 ∧ total l ≤ 16384) := by
  have hb : ∀ i, i ≤ 100 → i ≤ l.length → total (l.take i) ≤ i * 140737488351232 := by
    intro i
    induction i with
    | zero => intro _ _; simp [total]
    | succ i ih =>
      intro h h'
      rw [total_take_succ (by omega)]
      have := ih (by omega) (by omega)
      have := hl _ (List.getElem_mem (show i < l.length by omega))
      rw [← rdL_get] at this
      omega
  intro m
  induction m with
  | zero =>
    intro k i hi hk
    obtain ⟨k, rfl⟩ : ∃ q, k = q + 1 := ⟨k - 1, by omega⟩
    rw [barrowlaw04_few.l0]
    have fin : ∀ z : Option Bool, z = (if (l.length : Int) ≤ 60 then (some (decide ((total (l.take i) : Int) ≤ 16384))) else (some false)) → ∃ t, z = some t ∧ (t = true → l.length ≤ 60 ∧ total l ≤ 16384) := by
      rintro z rfl
      by_cases h : (l.length : Int) ≤ 60
      · rw [if_pos h]
        refine ⟨_, rfl, fun ht => ?_⟩
        have : i = l.length := by omega
        subst this
        rw [List.take_length] at ht
        exact ⟨by omega, by have := of_decide_eq_true ht; omega⟩
      · rw [if_neg h]
        exact ⟨_, rfl, fun ht => by cases ht⟩
    apply fin
    by_cases h : (i : Int) < l.length
    · rw [if_pos h, if_neg (by omega)]
    · rw [if_neg h]
  | succ m ih =>
    intro k i hi hk
    obtain ⟨k, rfl⟩ : ∃ q, k = q + 1 := ⟨k - 1, by omega⟩
    rw [barrowlaw04_few.l0, if_pos (by omega), if_pos (by omega), if_pos (by omega)]
    have h1 := hb i (by omega) (by omega)
    have h2 := hl _ (List.getElem_mem (show i < l.length by omega))
    rw [← rdL_get] at h2
    rw [w64 (by omega) (by omega), w64 (by omega) (by omega)]
    have := ih k (i + 1) (by omega) (by omega)
    rw [total_take_succ (by omega)] at this
    exact this
theorem few_eq (l : List (List Int)) (h0 : l.length ≤ 5864062014804) (hl : ∀ x ∈ l, x.length ≤ 140737488351232) : ∃ t, Ev (fun k => barrowlaw04_few.f k l = some t) ∧ (t = true → l.length ≤ 60 ∧ total l ≤ 16384) := by
  have key : ∀ k, 101 ≤ k → ∃ t, barrowlaw04_few.f k l = some t ∧ (t = true → l.length ≤ 60 ∧ total l ≤ 16384) := fun k hk => by
    have := few_l0 l h0 hl (min l.length 100) k 0 (by omega) (by omega)
    exact this
  obtain ⟨t, ht, hp⟩ := key 101 (Nat.le_refl _)
  refine ⟨t, ⟨101, fun k hk => ?_⟩, hp⟩
  obtain ⟨d, rfl⟩ : ∃ d, k = 101 + d := ⟨k - 101, by omega⟩
  clear hk
  induction d with
  | zero => exact ht
  | succ d ih => exact barrowlaw04_few.mono _ _ _ ih
theorem small_ev : Ev (fun k => barrowlaw04_small.f k = some true) := by
  refine ⟨100, fun k hk => ?_⟩
  obtain ⟨d, rfl⟩ : ∃ d, k = 100 + d := ⟨k - 100, by omega⟩
  clear hk
  induction d with
  | zero => decide +kernel
  | succ d ih => exact barrowlaw04_small.mono _ _ ih
theorem same_l0 (a b : List (List Int)) (hl : a.length < 140737488355328) (hab : a = b) : ∀ (m k i : Nat), i + m = a.length → m < k → barrowref04_Same.l0 k a b i = some true := by
  subst hab
  intro m
  induction m with
  | zero =>
    intro k i hi hk
    obtain ⟨k, rfl⟩ : ∃ q, k = q + 1 := ⟨k - 1, by omega⟩
    rw [barrowref04_Same.l0, if_neg (by omega)]
  | succ m ih =>
    intro k i hi hk
    obtain ⟨k, rfl⟩ : ∃ q, k = q + 1 := ⟨k - 1, by omega⟩
    rw [barrowref04_Same.l0, if_pos (by omega), if_pos (by omega), if_pos (by omega), if_pos rfl, w64 (by omega) (by omega)]
    exact ih k (i + 1) (by omega) (by omega)
theorem same_ev (a : List (List Int)) (hl : a.length < 140737488355328) : Ev (fun k => barrowref04_Same.f k a a = some true) :=
  ⟨a.length + 1, fun k hk => by
    show barrowref04_Same.f k a a = some true
    unfold barrowref04_Same.f
    rw [if_pos rfl]
    exact same_l0 a a hl rfl a.length k 0 (by omega) (by omega)⟩
/-- What Wrap tells. -/
def wrapS (l : List Int) : List Int × Int := if l.length > 4096 then ([], 3) else (enc l.length ++ l, 0)
theorem nat0_len (n : Nat) : nat0 (n : Int) = n := by unfold nat0; omega
theorem wrap_eq (l : List Int) : Ev (fun k => frame_Wrap.f k l = some (wrapS l)) := by
  refine ⟨10, fun k hk => ?_⟩
  show frame_Wrap.f k l = some (wrapS l)
  unfold frame_Wrap.f wrapS
  by_cases h : l.length > 4096
  · rw [if_pos (show (l.length : Int) > 4096 by omega), if_pos h]
  · rw [if_neg (show ¬ (l.length : Int) > 4096 by omega), if_neg h, uint_eq k hk [] l.length ⟨by omega, by omega⟩ (by simp), nat0_len]
    simp only [Option.bind_some, List.nil_append]
    have := enc_len 9 l.length (by have := pow10; omega)
    rw [if_pos (by omega)]
theorem refwrap_eq (l : List Int) : Ev (fun k => barrowref04_Wrap.f k l = some (wrapS l)) := by
  refine ⟨10, fun k hk => ?_⟩
  show barrowref04_Wrap.f k l = some (wrapS l)
  unfold barrowref04_Wrap.f wrapS
  by_cases h : l.length > 4096
  · rw [if_pos (show (l.length : Int) > 4096 by omega), if_pos h]
  · rw [if_neg (show ¬ (l.length : Int) > 4096 by omega), if_neg h, refuint_eq k hk [] l.length ⟨by omega, by omega⟩ (by simp), nat0_len]
    simp only [Option.bind_some, List.nil_append]
    have := enc_len 9 l.length (by have := pow10; omega)
    rw [if_pos (by omega)]
end Go.Proofs.Ytdlpijeceigbnaa.Pure
