import Derived.Test.YtbhgohomgfjjfaaCoA
import Derived.Test.YtbhgohomgfjjfaaXCOx12
set_option linter.unusedSimpArgs false
set_option linter.unusedVariables false
namespace Go.Proofs.Ytbhgohomgfjjfaa.Pure
open Go.RowKit Go.Proofs.Ytbhgohomgfjjfaa.XCO Go.Proofs.YtbhgohomgfjjfaaW.PrintWords Go.Proofs.YtbhgohomgfjjfaaW.PrintLast Go.Proofs.YtbhgohomgfjjfaaW.PrintMore

theorem lift_ {α : Type} {f : Nat → Option α} (hm : ∀ k, LeO (f k) (f (k + 1))) {r : α} {k : Nat} (h : f k = some r) : ∀ j, f (k + j) = some r
  | 0 => h
  | j + 1 => hm (k + j) r (lift_ hm h j)
theorem small_at (k : Nat) (h : 40 ≤ k) : barrowlaw16_small.f k = some true := by
  have := lift_ barrowlaw16_small.mono small_eq (k - 40)
  rwa [show 40 + (k - 40) = k by omega] at this
theorem rd35_at (l : List S35) (i : Nat) (h : i < l.length) : rd_T35 l (i : Int) = l[i] := by unfold rd_T35; rw [Int.toNat_natCast, List.getD_eq_getElem?_getD, List.getElem?_eq_getElem h]; rfl
theorem few_loop (l : List S35) : ∀ (m i : Nat), i + m = 100 → ∃ b, (∀ k, 2 * m + 2 ≤ k → barrowlaw16_few.l0 k l (i : Int) = some b) ∧ (b = true → l.length ≤ 60 ∧ ∀ j (h : j < l.length), i ≤ j → l[j].f1.length ≤ 200)
  | 0, i, h => by
    refine ⟨decide ((l.length : Int) ≤ 60), fun k hk => ?_, fun hb => ⟨by have := of_decide_eq_true hb; omega, fun j hj hij => by have := of_decide_eq_true hb; omega⟩⟩
    obtain ⟨k, rfl⟩ : ∃ j, k = j + 2 := ⟨k - 2, by omega⟩
    unfold barrowlaw16_few.l0
    by_cases c : (i : Int) < (l.length : Int)
    · rw [if_pos c, decide_eq_false (by omega)]; unfold barrowlaw16_few.j1; rw [if_neg (by simp)]
    · rw [if_neg c]; unfold barrowlaw16_few.j1; rw [if_neg (by simp)]
  | m + 1, i, h => by
    by_cases c : i < l.length
    · by_cases d : l[i].f1.length > 200
      · refine ⟨false, fun k hk => ?_, fun hb => by cases hb⟩
        obtain ⟨k, rfl⟩ : ∃ j, k = j + 2 := ⟨k - 2, by omega⟩
        unfold barrowlaw16_few.l0
        rw [if_pos (by omega), decide_eq_true (by omega)]
        unfold barrowlaw16_few.j1
        rw [if_pos rfl, if_pos (by omega), if_pos (by omega), rd35_at l i c, if_pos (by omega)]
      · obtain ⟨b, h1, h2⟩ := few_loop l m (i + 1) (by omega)
        refine ⟨b, fun k hk => ?_, fun hb => ⟨(h2 hb).1, fun j hj hij => ?_⟩⟩
        · obtain ⟨k, rfl⟩ : ∃ j, k = j + 2 := ⟨k - 2, by omega⟩
          unfold barrowlaw16_few.l0
          rw [if_pos (by omega), decide_eq_true (by omega)]
          unfold barrowlaw16_few.j1
          rw [if_pos rfl, if_pos (by omega), if_pos (by omega), rd35_at l i c, if_neg (by omega), show wrap64 ((i : Int) + 1) = ((i + 1 : Nat) : Int) by rw [wr (by omega)]; omega]
          exact h1 k (by omega)
        · rcases Nat.lt_or_ge i j with h3 | h3
          · exact (h2 hb).2 j hj h3
          · have : i = j := by omega
            subst this
            omega
    · refine ⟨decide ((l.length : Int) ≤ 60), fun k hk => ?_, fun hb => ⟨by have := of_decide_eq_true hb; omega, fun j hj hij => by omega⟩⟩
      obtain ⟨k, rfl⟩ : ∃ j, k = j + 2 := ⟨k - 2, by omega⟩
      unfold barrowlaw16_few.l0
      rw [if_neg (by omega)]; unfold barrowlaw16_few.j1; rw [if_neg (by simp)]
theorem few_eq (l : List S35) : ∃ b, (∀ k, 202 ≤ k → barrowlaw16_few.f k l = some b) ∧ (b = true → l.length ≤ 60 ∧ ∀ x ∈ l, x.f1.length ≤ 200) := by
  obtain ⟨b, h1, h2⟩ := few_loop l 100 0 (by omega)
  refine ⟨b, fun k hk => h1 k (by omega), fun hb => ⟨(h2 hb).1, fun x hx => ?_⟩⟩
  obtain ⟨j, hj, rfl⟩ := List.mem_iff_getElem.1 hx
  exact (h2 hb).2 j hj (by omega)
theorem same_in (l : List S35) (i : Nat) (hi : i < l.length) (hl : l.length ≤ 60) (B : Nat) (H : ∀ k, B ≤ k → barrowref16_Same.l0 k l l ((i + 1 : Nat) : Int) = some true) (h2 : l[i].f1.length ≤ 200) : ∀ (m j : Nat), j + m = l[i].f1.length → ∀ k, B + m + 1 ≤ k → barrowref16_Same.l1 k l l (i : Int) (j : Int) = some true
  | 0, j, h, k, hk => by
    obtain ⟨k, rfl⟩ : ∃ j, k = j + 1 := ⟨k - 1, by omega⟩
    unfold barrowref16_Same.l1
    rw [if_pos (by omega), if_pos (by omega), rd35_at l i hi, if_neg (by omega), show wrap64 ((i : Int) + 1) = ((i + 1 : Nat) : Int) by rw [wr (by omega)]; omega]
    exact H k (by omega)
  | m + 1, j, h, k, hk => by
    obtain ⟨k, rfl⟩ : ∃ j, k = j + 1 := ⟨k - 1, by omega⟩
    unfold barrowref16_Same.l1
    rw [if_pos (by omega), if_pos (by omega), rd35_at l i hi, if_pos (by omega), if_pos (by omega), if_pos (by omega), if_pos (by omega), if_pos rfl, show wrap64 ((j : Int) + 1) = ((j + 1 : Nat) : Int) by rw [wr (by omega)]; omega]
    exact same_in l i hi hl B H h2 m (j + 1) (by omega) k (by omega)
theorem same_loop (l : List S35) (hl : l.length ≤ 60) (hb : ∀ x ∈ l, x.f1.length ≤ 200) : ∀ (m i : Nat), i + m = l.length → ∀ k, 203 * m + 1 ≤ k → barrowref16_Same.l0 k l l (i : Int) = some true
  | 0, i, h, k, hk => by
    obtain ⟨k, rfl⟩ : ∃ j, k = j + 1 := ⟨k - 1, by omega⟩
    unfold barrowref16_Same.l0
    rw [if_neg (by omega)]
  | m + 1, i, h, k, hk => by
    have hi : i < l.length := by omega
    have hi2 := hb l[i] (List.getElem_mem hi)
    have H := same_loop l hl hb m (i + 1) (by omega)
    obtain ⟨k, rfl⟩ : ∃ j, k = j + 2 := ⟨k - 2, by omega⟩
    unfold barrowref16_Same.l0
    rw [if_pos (by omega), if_pos (by omega), if_pos (by omega), if_pos rfl]
    unfold barrowref16_Same.j1
    rw [if_neg (by simp)]
    exact same_in l i hi hl (203 * m + 1) H hi2 l[i].f1.length 0 (by omega) k (by omega)
theorem same_eq (l : List S35) (hl : l.length ≤ 60) (hb : ∀ x ∈ l, x.f1.length ≤ 200) (k : Nat) (hk : 12181 ≤ k) : barrowref16_Same.f k l l = some true := by
  unfold barrowref16_Same.f
  rw [if_pos rfl]
  exact same_loop l hl hb l.length 0 (by omega) k (by omega)
theorem abv_abv (l : List Int) {s t : Int} (h : s ≤ t) : abv (abv l s) t = abv l t := by
  unfold abv
  rw [List.filter_filter]
  congr 1
  funext n
  by_cases c : n > t
  · simp [c]; omega
  · simp [c]
theorem abv_nil {l : List Int} {s t : Int} (h : s ≤ t) (h0 : ¬ (abv l s).length > 0) : abv l t = [] := by
  rw [← abv_abv l h, List.length_eq_zero_iff.1 (by omega : (abv l s).length = 0)]
  rfl
theorem cln_len (l : List S35) (s : Int) : (cln l s).length ≤ l.length := by
  induction l with
  | nil => simp [cln]
  | cons x r ih => simp only [cln]; split <;> simp only [List.length_cons] <;> omega
theorem cln_cln (l : List S35) {s t : Int} (h : s ≤ t) : cln (cln l s) t = cln l t := by
  induction l with
  | nil => rfl
  | cons x r ih =>
    simp only [cln]
    by_cases c : (abv x.f1 s).length > 0
    · rw [if_pos c]
      simp only [cln]
      rw [abv_abv _ h, ih]
    · rw [if_neg c, if_neg (by rw [abv_nil h c]; simp), ih]
theorem cln_mem {l : List S35} {s : Int} {x : S35} (h : x ∈ cln l s) : ∃ y ∈ l, x.f0 = y.f0 ∧ x.f1 = abv y.f1 s := by
  induction l with
  | nil => simp [cln] at h
  | cons y r ih =>
    simp only [cln] at h
    split at h
    · rcases List.mem_cons.1 h with h | h
      · exact ⟨y, by simp, by rw [h], by rw [h]⟩
      · obtain ⟨z, hz, h1⟩ := ih h; exact ⟨z, List.mem_cons_of_mem _ hz, h1⟩
    · obtain ⟨z, hz, h1⟩ := ih h; exact ⟨z, List.mem_cons_of_mem _ hz, h1⟩
theorem right_gt {l : List S35} {last : Int} (h : rightB last l = true) : ∀ x ∈ l, x.f0 > last := by
  induction l generalizing last with
  | nil => simp
  | cons y r ih =>
    simp only [rightB, coolB, Bool.and_eq_true, decide_eq_true_eq] at h
    intro x hx
    rcases List.mem_cons.1 hx with rfl | hx
    · exact h.1.1.1.1
    · have := ih h.2 x hx; have := h.1.1.1.1; omega
theorem aw_none {l : List S35} {id : Int} (h : ∀ x ∈ l, x.f0 > id) (t : Int) : aw l id t = [] := by
  induction l with
  | nil => rfl
  | cons y r ih => simp only [aw]; rw [if_neg (by have := h y (by simp); omega)]; exact ih (fun x hx => h x (List.mem_cons_of_mem _ hx))
theorem aw_cln {l : List S35} {last : Int} (h : rightB last l = true) (id : Int) {s t : Int} (hst : s ≤ t) : aw (cln l s) id t = aw l id t := by
  induction l generalizing last with
  | nil => rfl
  | cons y r ih =>
    simp only [rightB, Bool.and_eq_true] at h
    simp only [cln]
    by_cases c : (abv y.f1 s).length > 0
    · rw [if_pos c]
      simp only [aw]
      rw [abv_abv _ hst, ih h.2]
    · rw [if_neg c]
      simp only [aw]
      by_cases d : y.f0 = id
      · rw [if_pos d, abv_nil hst c, ih h.2, aw_none (fun x hx => by have := right_gt h.2 x hx; omega)]
      · rw [if_neg d, ih h.2]
theorem srt_iff (l : List Int) : srt l = true ↔ l.Pairwise (· ≤ ·) := by
  induction l with
  | nil => simp [srt]
  | cons a r ih =>
    cases r with
    | nil => simp [srt]
    | cons b r =>
      simp only [srt, Bool.and_eq_true, decide_eq_true_eq, ih]
      constructor
      · rintro ⟨h1, h2⟩
        refine List.pairwise_cons.2 ⟨fun c hc => ?_, h2⟩
        rcases List.mem_cons.1 hc with rfl | hc
        · exact h1
        · have := (List.pairwise_cons.1 h2).1 c hc; omega
      · intro h
        exact ⟨(List.pairwise_cons.1 h).1 b (by simp), (List.pairwise_cons.1 h).2⟩
theorem srt_abv {l : List Int} (h : srt l = true) (s : Int) : srt (abv l s) = true := (srt_iff _).2 (((srt_iff _).1 h).sublist List.filter_sublist)
theorem right_cln {l : List S35} {last : Int} (h : rightB last l = true) (s : Int) : ∀ last', last' ≤ last → rightB last' (cln l s) = true := by
  induction l generalizing last with
  | nil => intro _ _; rfl
  | cons y r ih =>
    intro last' hl
    simp only [rightB, coolB, Bool.and_eq_true, decide_eq_true_eq] at h
    obtain ⟨⟨⟨⟨h1, h2⟩, h3⟩, h4⟩, h5⟩ := h
    simp only [cln]
    by_cases c : (abv y.f1 s).length > 0
    · rw [if_pos c]
      simp only [rightB, coolB, Bool.and_eq_true, decide_eq_true_eq]
      have hle : (abv y.f1 s).length ≤ y.f1.length := List.length_filter_le _ _
      exact ⟨⟨⟨⟨by omega, by omega⟩, by omega⟩, srt_abv h4 s⟩, ih h5 _ (Int.le_refl _)⟩
    · rw [if_neg c]
      exact ih h5 _ (by omega)
theorem aw_len (l : List S35) (id t : Int) (B : Nat) (h : ∀ x ∈ l, x.f1.length ≤ B) : (aw l id t).length ≤ B := by
  induction l with
  | nil => simp [aw]
  | cons y r ih =>
    simp only [aw]
    split
    · have := h y (by simp); have : (abv y.f1 t).length ≤ y.f1.length := List.length_filter_le _ _; omega
    · exact ih (fun x hx => h x (List.mem_cons_of_mem _ hx))
theorem CoolCleans : barrowlaw16_CoolCleans.Pure := by
  intro l0 a0 a1 a2 a3 a4 a5 a6 e now later hl0 _ _ _ ha3 _ _ _ _ _
  obtain ⟨b, hf, hb⟩ := few_eq l0
  have h3 := i64_of ha3
  obtain ⟨K, hK⟩ : ∃ K, K = 100000 := ⟨_, rfl⟩
  refine ⟨K + 1, ?_⟩
  have j0t : ∀ x9, barrowlaw16_CoolCleans.j0 (K + 1) l0 now later x9 true a0 a1 a2 a3 a4 a5 a6 e = some x9 := fun x9 => by rw [barrowlaw16_CoolCleans.j0, if_pos rfl]
  unfold barrowlaw16_CoolCleans.f
  rw [small_at _ (by omega), hf _ (by omega)]
  simp only [Option.bind_some]
  cases b with
  | false => rw [if_neg (by simp)]; exact j0t true
  | true =>
    obtain ⟨hl, hx⟩ := hb rfl
    rw [if_pos rfl, right_eq l0 _ (by omega) (by omega)]
    simp only [Option.bind_some]
    by_cases hr : rightB 0 l0 = true
    · rw [if_pos hr]
      by_cases c : later < now
      · rw [decide_eq_true c]; exact j0t true
      · rw [decide_eq_false c]
        have hst : now ≤ later := by omega
        have hml := cln_len l0 now
        have hmx : ∀ x ∈ cln l0 now, x.f1.length ≤ 200 := fun x hx2 => by
          obtain ⟨y, hy, _, h2⟩ := cln_mem hx2
          rw [h2]
          have := hx y hy
          have : (abv y.f1 now).length ≤ y.f1.length := List.length_filter_le _ _
          omega
        have hcx : ∀ x ∈ cln l0 later, x.f1.length ≤ 200 := fun x hx2 => by
          obtain ⟨y, hy, _, h2⟩ := cln_mem hx2
          rw [h2]
          have := hx y hy
          have : (abv y.f1 later).length ≤ y.f1.length := List.length_filter_le _ _
          omega
        have hcl := cln_len l0 later
        have R : ∀ (l : List S35) t, l.length ≤ 60 → (∀ x ∈ l, x.f1.length ≤ 200) → cool_Ready.f K l a0 a1 a2 a3 a4 a5 a6 e t = some (mx (satv (a3 - ((aw l a0 t).length : Int))) 0) := fun l t h1 h2 =>
          ready_eq l a0 a1 a2 a3 a4 a5 a6 e t K (by omega) (by omega) (fun x hx => by have := h2 x hx; omega) h3 (by have := aw_len l a0 t 200 h2; omega)
        have C : ∀ (l : List S35) t, l.length ≤ 60 → (∀ x ∈ l, x.f1.length ≤ 200) → cool_Clean.f K l t = some (cln l t) := fun l t h1 h2 => clean_eq l t K (by omega) (fun x hx => by have := h2 x hx; omega) (by omega)
        rw [barrowlaw16_CoolCleans.j0, if_neg (by simp), C l0 now hl hx]
        simp only [Option.bind_some]
        rw [if_pos trivial, right_eq _ _ (by omega) (by omega), right_cln hr now 0 (Int.le_refl _)]
        simp only [Option.bind_some]
        rw [if_pos trivial, R _ now (by omega) hmx, R _ now hl hx, aw_cln hr a0 (Int.le_refl _)]
        simp only [Option.bind_some]
        rw [if_pos trivial, R _ later (by omega) hmx, R _ later hl hx, aw_cln hr a0 hst]
        simp only [Option.bind_some]
        rw [if_pos trivial, C _ later (by omega) hmx, C _ later hl hx, cln_cln l0 hst]
        simp only [Option.bind_some]
        rw [same_eq _ (by omega) hcx _ (by omega)]
        simp only [Option.bind_some]
        rw [if_pos trivial, decide_eq_true (by omega)]
    · rw [if_neg hr]; exact j0t true
end Go.Proofs.Ytbhgohomgfjjfaa.Pure
