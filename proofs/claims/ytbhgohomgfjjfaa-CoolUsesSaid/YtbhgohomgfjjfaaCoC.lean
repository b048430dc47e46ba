/- Cool: what stays right over uses. -/
import Derived.Test.YtbhgohomgfjjfaaCoB
set_option linter.unusedSimpArgs false
set_option linter.unusedVariables false
namespace Go.Proofs.Ytbhgohomgfjjfaa.Pure
open Go.RowKit Go.Proofs.Ytbhgohomgfjjfaa.XCO Go.Proofs.YtbhgohomgfjjfaaW.PrintWords Go.Proofs.YtbhgohomgfjjfaaW.PrintLast Go.Proofs.YtbhgohomgfjjfaaW.PrintMore

def Inv (ch : Int → Int) (l : List S35) (t B : Int) : Prop := rightB 0 l = true ∧ ∀ x ∈ l, 1 ≤ x.f0 ∧ x.f0 ≤ 16 ∧ ((abv x.f1 t).length : Int) ≤ ch x.f0 ∧ ∀ z ∈ x.f1, 0 ≤ z ∧ z ≤ B
theorem right_cons {last : Int} {x : S35} {r : List S35} : rightB last (x :: r) = true ↔ (x.f0 > last ∧ 1 ≤ x.f1.length ∧ x.f1.length ≤ 100 ∧ srt x.f1 = true) ∧ rightB x.f0 r = true := by
  simp only [rightB, coolB, Bool.and_eq_true, decide_eq_true_eq, and_assoc]
theorem right_len {last : Int} {l : List S35} (h : rightB last l = true) (hl : last ≤ 16) (hb : ∀ x ∈ l, x.f0 ≤ 16) : (l.length : Int) ≤ 16 - last := by
  induction l generalizing last with
  | nil => simp; omega
  | cons x r ih =>
    rw [right_cons] at h
    have := hb x (by simp)
    have := ih h.2 this (fun y hy => hb y (List.mem_cons_of_mem _ hy))
    simp only [List.length_cons]
    omega
theorem right_mem {last : Int} {l : List S35} (h : rightB last l = true) : ∀ x ∈ l, x.f0 > last ∧ 1 ≤ x.f1.length ∧ x.f1.length ≤ 100 ∧ srt x.f1 = true := by
  induction l generalizing last with
  | nil => simp
  | cons y r ih =>
    rw [right_cons] at h
    intro x hx
    rcases List.mem_cons.1 hx with rfl | hx
    · exact h.1
    · have := ih h.2 x hx; exact ⟨by omega, this.2⟩
theorem right_low {last last' : Int} {l : List S35} (h : rightB last l = true) (hl : last' ≤ last) : rightB last' l = true := by
  cases l with
  | nil => rfl
  | cons x r => rw [right_cons] at h ⊢; exact ⟨⟨by omega, h.1.2⟩, h.2⟩
theorem right_rst {last : Int} {l : List S35} (h : rightB last l = true) (id : Int) : rightB last (rst l id) = true := by
  induction l generalizing last with
  | nil => rfl
  | cons x r ih =>
    rw [right_cons] at h
    have := ih h.2
    by_cases c : x.f0 = id
    · rw [show rst (x :: r) id = rst r id by simp [rst, c]]
      exact right_low this (by omega)
    · rw [show rst (x :: r) id = x :: rst r id by simp [rst, c], right_cons]
      exact ⟨h.1, this⟩
theorem rst_ne {l : List S35} {id : Int} : ∀ y ∈ rst l id, y.f0 ≠ id ∧ y ∈ l := fun y hy => by
  have := List.mem_filter.1 hy
  exact ⟨of_decide_eq_true this.2, this.1⟩
theorem right_ins {last : Int} {l : List S35} {x : S35} (h : rightB last l = true) (hx : x.f0 > last ∧ 1 ≤ x.f1.length ∧ x.f1.length ≤ 100 ∧ srt x.f1 = true) (hne : ∀ y ∈ l, y.f0 ≠ x.f0) : rightB last (ins l x) = true := by
  induction l generalizing last with
  | nil => unfold ins; rw [right_cons]; exact ⟨hx, rfl⟩
  | cons y r ih =>
    have hy := hne y (by simp)
    rw [right_cons] at h
    simp only [ins]
    by_cases c : y.f0 > x.f0
    · rw [if_pos c, right_cons, right_cons]; exact ⟨hx, ⟨c, h.1.2⟩, h.2⟩
    · rw [if_neg c, right_cons]
      exact ⟨h.1, ih h.2 ⟨by omega, hx.2⟩ (fun z hz => hne z (List.mem_cons_of_mem _ hz))⟩
theorem ins_mem {l : List S35} {x y : S35} (h : y ∈ ins l x) : y = x ∨ y ∈ l := by
  induction l with
  | nil => simp only [ins, List.mem_singleton] at h; exact .inl h
  | cons z r ih =>
    simp only [ins] at h
    split at h
    · rcases List.mem_cons.1 h with h | h
      · exact .inl h
      · exact .inr h
    · rcases List.mem_cons.1 h with h | h
      · exact .inr (by rw [h]; simp)
      · rcases ih h with h | h
        · exact .inl h
        · exact .inr (List.mem_cons_of_mem _ h)
theorem aw_ins {l : List S35} {x : S35} (hne : ∀ y ∈ l, y.f0 ≠ x.f0) (t : Int) : aw (ins l x) x.f0 t = abv x.f1 t := by
  induction l with
  | nil => simp [ins, aw]
  | cons z r ih =>
    simp only [ins]
    split
    · simp [aw]
    · simp only [aw]; rw [if_neg (hne z (by simp))]; exact ih (fun y hy => hne y (List.mem_cons_of_mem _ hy))
theorem aw_rst (l : List S35) (id t : Int) : aw (rst l id) id t = [] := by
  have : ∀ r : List S35, (∀ y ∈ r, y.f0 ≠ id) → aw r id t = [] := fun r => by
    induction r with
    | nil => intro _; rfl
    | cons z r ih => intro h; simp only [aw]; rw [if_neg (h z (by simp))]; exact ih (fun y hy => h y (List.mem_cons_of_mem _ hy))
  exact this _ (fun y hy => (rst_ne y hy).1)
theorem aw_cases (l : List S35) (id : Int) : (∀ t, aw l id t = []) ∨ ∃ x ∈ l, x.f0 = id ∧ ∀ t, aw l id t = abv x.f1 t := by
  induction l with
  | nil => exact .inl fun _ => rfl
  | cons y r ih =>
    by_cases c : y.f0 = id
    · exact .inr ⟨y, by simp, c, fun t => by simp [aw, c]⟩
    · rcases ih with h | ⟨x, hx, h1, h2⟩
      · exact .inl fun t => by simp [aw, c, h t]
      · exact .inr ⟨x, List.mem_cons_of_mem _ hx, h1, fun t => by simp [aw, c, h2 t]⟩
theorem abv_le (l : List Int) {s t : Int} (h : s ≤ t) : (abv l t).length ≤ (abv l s).length := by
  have : abv l t = abv (abv l s) t := by
    unfold abv
    rw [List.filter_filter]
    congr 1
    funext n
    by_cases c : n > t
    · simp [c]; omega
    · simp [c]
  rw [this]
  exact List.length_filter_le _ _
theorem Inv.mono {ch : Int → Int} {l : List S35} {t t' B B' : Int} (h : Inv ch l t B) (ht : t ≤ t') (hB : B ≤ B') : Inv ch l t' B' :=
  ⟨h.1, fun x hx => ⟨(h.2 x hx).1, (h.2 x hx).2.1, by have := (h.2 x hx).2.2.1; have := abv_le x.f1 ht; omega, fun z hz => by have := (h.2 x hx).2.2.2 z hz; omega⟩⟩
theorem srt_snoc' {l : List Int} {z : Int} (h : srt l = true) (hz : ∀ a ∈ l, a ≤ z) : srt (l ++ [z]) = true := by
  rw [srt_iffB] at h ⊢
  rw [List.pairwise_append]
  exact ⟨h, List.pairwise_singleton _ _, fun a ha b hb => by rw [List.mem_singleton] at hb; rw [hb]; exact hz a ha⟩
theorem lst_max {l : List Int} (h : srt l = true) (now : Int) : ∀ a ∈ l, a ≤ lst l now := by
  rcases List.eq_nil_or_concat l with rfl | ⟨c, z, hc⟩
  · simp
  · have hc : l = c ++ [z] := by simpa using hc
    subst hc
    rw [srt_iffB, List.pairwise_append] at h
    intro a ha
    rw [show lst (c ++ [z]) now = z by simp [lst]]
    rcases List.mem_append.1 ha with ha | ha
    · exact h.2.2 a ha z (by simp)
    · rw [List.mem_singleton] at ha; omega
theorem lst_mem (l : List Int) (now : Int) : lst l now = now ∨ lst l now ∈ l := by
  rcases List.eq_nil_or_concat l with rfl | ⟨c, z, hc⟩
  · exact .inl rfl
  · have hc : l = c ++ [z] := by simpa using hc
    subst hc
    exact .inr (by simp [lst])
end Go.Proofs.Ytbhgohomgfjjfaa.Pure
