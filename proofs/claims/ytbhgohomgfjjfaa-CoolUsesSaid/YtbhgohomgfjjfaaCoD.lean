/- Cool: one use of a right row. -/
import Derived.Test.YtbhgohomgfjjfaaCoC
set_option linter.unusedSimpArgs false
set_option linter.unusedVariables false
set_option linter.unusedSectionVars false
namespace Go.Proofs.Ytbhgohomgfjjfaa.Pure
open Go.RowKit Go.Proofs.Ytbhgohomgfjjfaa.XCO Go.Proofs.YtbhgohomgfjjfaaW.PrintWords Go.Proofs.YtbhgohomgfjjfaaW.PrintLast Go.Proofs.YtbhgohomgfjjfaaW.PrintMore

section
variable {ch : Int → Int} {l : List S35} {t B id c cool : Int} (hI : Inv ch l t B) (hid : 1 ≤ id ∧ id ≤ 16) (hch : ch id = c) (hc : 1 ≤ c ∧ c ≤ 100) (hq : 0 ≤ cool ∧ cool ≤ 1000000) (ht : 0 ≤ t ∧ t ≤ 1000000000) (hB : 0 ≤ B ∧ B ≤ 1000000000) (htB : t ≤ B)
include hI
theorem awf (s : Int) (hs : t ≤ s) : srt (aw l id s) = true ∧ (∀ z ∈ aw l id s, s < z ∧ 0 ≤ z ∧ z ≤ B) := by
  rcases aw_cases l id with h | ⟨x, hx, _, h⟩
  · rw [h]; exact ⟨rfl, by simp⟩
  · rw [h]
    have hm := right_mem hI.1 x hx
    have hx2 := hI.2 x hx
    refine ⟨srt_iffB _ |>.2 (((srt_iffB _).1 hm.2.2.2).sublist List.filter_sublist), fun z hz => ?_⟩
    have := List.mem_filter.1 hz
    have := of_decide_eq_true this.2
    exact ⟨by omega, hx2.2.2.2 z ‹z ∈ x.f1 ∧ _›.1⟩
include hch hc
theorem aw_c (s : Int) (hs : t ≤ s) : ((aw l id s).length : Int) ≤ c := by
  rcases aw_cases l id with h | ⟨x, hx, h1, h⟩
  · rw [h]; simp; omega
  · rw [h]
    have hx2 := hI.2 x hx
    have := abv_le x.f1 hs
    rw [h1, hch] at hx2
    omega
theorem rdy_c (s : Int) (hs : t ≤ s) : rdy l id c s = c - ((aw l id s).length : Int) := by
  have := aw_c hI hch hc s hs
  unfold rdy
  rw [satv_in (by omega)]
  unfold mx
  split <;> omega
include hid hq ht hB htB
theorem useB_ok (hlt : ((aw l id t).length : Int) < c) : srt (useB l id cool t) = true ∧ ((useB l id cool t).length : Int) ≤ c ∧ (∀ z ∈ useB l id cool t, t < z ∧ 0 ≤ z ∧ z ≤ B + 1000000) ∧ ((useB l id cool t).length : Int) = (aw l id t).length + (if cool > 0 then 1 else 0) := by
  obtain ⟨h1, h2⟩ := awf hI (id := id) t (Int.le_refl _)
  unfold useB
  by_cases h5 : cool > 0
  · rw [if_pos h5, if_pos h5]
    have hl : lst (aw l id t) t = t ∨ lst (aw l id t) t ∈ aw l id t := lst_mem _ _
    have hlb : t ≤ lst (aw l id t) t ∧ lst (aw l id t) t ≤ B := by
      rcases hl with h | h
      · rw [h]; omega
      · have := h2 _ h; omega
    rw [satv_in (by omega)]
    refine ⟨srt_snoc' h1 (fun a ha => by have := lst_max h1 t a ha; omega), by simp; omega, fun z hz => ?_, by simp⟩
    rcases List.mem_append.1 hz with hz | hz
    · have := h2 z hz; omega
    · rw [List.mem_singleton] at hz; omega
  · rw [if_neg h5, if_neg h5]
    exact ⟨h1, by omega, fun z hz => by have := h2 z hz; omega, by simp⟩
theorem use_ok (hlt : ((aw l id t).length : Int) < c) : ∃ m, useR l id c cool t = (m, true) ∧ Inv ch m t (B + 1000000) ∧ ((aw m id t).length : Int) = (aw l id t).length + (if cool > 0 then 1 else 0) := by
  obtain ⟨u1, u2, u3, u4⟩ := useB_ok hI hid hch hc hq ht hB htB hlt
  have hr := rdy_c hI hch hc (id := id) t (Int.le_refl _)
  have hrst : Inv ch (rst l id) t (B + 1000000) := ⟨right_rst hI.1 id, fun x hx => by
    have h0 := hI.2 x (rst_ne x hx).2
    exact ⟨h0.1, h0.2.1, h0.2.2.1, fun z hz => by have := h0.2.2.2 z hz; omega⟩⟩
  have hab : abv (useB l id cool t) t = useB l id cool t := by
    unfold abv
    rw [List.filter_eq_self]
    exact fun z hz => decide_eq_true (u3 z hz).1
  unfold useR
  rw [if_pos ⟨hI.1, hid.1, by omega, by omega⟩]
  by_cases h6 : (useB l id cool t).length = 0
  · rw [if_pos h6]
    refine ⟨_, rfl, hrst, ?_⟩
    rw [aw_rst]
    simp only [List.length_nil]
    omega
  · rw [if_neg h6]
    refine ⟨_, rfl, ⟨right_ins hrst.1 ⟨by show id > 0; omega, by show 1 ≤ (useB l id cool t).length; omega, by show (useB l id cool t).length ≤ 100; omega, u1⟩ (fun y hy => (rst_ne y hy).1), fun x hx => ?_⟩, ?_⟩
    · rcases ins_mem hx with rfl | hx
      · exact ⟨hid.1, hid.2, by show ((abv (useB l id cool t) t).length : Int) ≤ ch id; rw [hab, hch]; exact u2, fun z hz => (u3 z hz).2⟩
      · exact hrst.2 x hx
    · have := aw_ins (l := rst l id) (x := ⟨id, useB l id cool t⟩) (fun y hy => (rst_ne y hy).1) t
      rw [this]
      show ((abv (useB l id cool t) t).length : Int) = _
      rw [hab]
      exact u4
theorem use_no (hlt : ¬ ((aw l id t).length : Int) < c) : useR l id c cool t = (l, false) := by
  have hr := rdy_c hI hch hc (id := id) t (Int.le_refl _)
  have := aw_c hI hch hc (id := id) t (Int.le_refl _)
  unfold useR
  rw [if_neg]
  intro h
  exact h.2.2.2 (by omega)
theorem next_ok (hlt : ¬ ((aw l id t).length : Int) < c) : t < rd (aw l id t) 0 ∧ rd (aw l id t) 0 ≤ B ∧ ((aw l id (rd (aw l id t) 0)).length : Int) < c ∧ ((aw l id (rd (aw l id t) 0 - 1)).length : Int) = c := by
  obtain ⟨h1, h2⟩ := awf hI (id := id) t (Int.le_refl _)
  have h3 := aw_c hI hch hc (id := id) t (Int.le_refl _)
  have e : ∀ s, t ≤ s → aw l id s = abv (aw l id t) s := fun s hs => by
    rcases aw_cases l id with h | ⟨x, hx, _, h⟩
    · rw [h, h]; rfl
    · rw [h, h]
      unfold abv
      rw [List.filter_filter]
      congr 1
      funext n
      by_cases q : n > s
      · simp [q]; omega
      · simp [q]
  obtain ⟨a, r, har⟩ : ∃ a r, aw l id t = a :: r := by
    cases h : aw l id t with
    | nil => rw [h] at hlt; simp at hlt; omega
    | cons a r => exact ⟨a, r, rfl⟩
  have ha := h2 a (by rw [har]; simp)
  have hr0 : rd (aw l id t) 0 = a := by rw [har]; rfl
  rw [hr0, e a (by omega), e (a - 1) (by omega)]
  rw [har] at h1 h3 hlt ⊢
  rw [srt_iffB, List.pairwise_cons] at h1
  refine ⟨ha.1, ha.2.2, ?_, ?_⟩
  · have : (abv (a :: r) a).length ≤ r.length := by
      unfold abv
      rw [List.filter_cons, if_neg (by simp)]
      exact List.length_filter_le _ _
    simp only [List.length_cons] at h3
    omega
  · have : abv (a :: r) (a - 1) = a :: r := by
      unfold abv
      rw [List.filter_eq_self]
      intro z hz
      rcases List.mem_cons.1 hz with rfl | hz
      · exact decide_eq_true (by omega)
      · have := h1.1 z hz; exact decide_eq_true (by omega)
    rw [this]
    omega
end
end Go.Proofs.Ytbhgohomgfjjfaa.Pure
