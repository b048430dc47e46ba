import Derived.Test.YtbhgohomgfjjfaaCoB
import Derived.Test.YtbhgohomgfjjfaaXCOx10
import Derived.Test.YtbhgohomgfjjfaaXCOx8
set_option linter.unusedSimpArgs false
set_option linter.unusedVariables false
set_option linter.unusedSectionVars false
namespace Go.Proofs.Ytbhgohomgfjjfaa.Pure
open Go.RowKit Go.Proofs.Ytbhgohomgfjjfaa.XCO Go.Proofs.YtbhgohomgfjjfaaW.PrintWords Go.Proofs.YtbhgohomgfjjfaaW.PrintLast Go.Proofs.YtbhgohomgfjjfaaW.PrintMore

def bk (now wait : Int) : Nat → List Int
  | 0 => []
  | i + 1 => bk now wait i ++ [now + ((i + 1 : Nat) : Int) * wait]
def li (now wait : Int) (i : Nat) : List S35 := if i = 0 then [] else [⟨1, bk now wait i⟩]
section
variable {now wait : Int} (hw : 1 ≤ wait ∧ wait ≤ 1000000) (hn : 0 ≤ now ∧ now ≤ 1099511627776)
include hw
theorem mul_mono {a b : Nat} (h : a ≤ b) : (a : Int) * wait ≤ (b : Int) * wait := Int.mul_le_mul_of_nonneg_right (by omega) (by omega)
theorem mul_bd {a : Nat} (h : a ≤ 101) : 0 ≤ (a : Int) * wait ∧ (a : Int) * wait ≤ 101000000 := by
  have h1 := mul_mono hw h
  have h2 := mul_mono hw (Nat.zero_le a)
  omega
theorem mul_s (a : Nat) : ((a + 1 : Nat) : Int) * wait = (a : Int) * wait + wait := by rw [show ((a + 1 : Nat) : Int) = (a : Int) + 1 by omega, Int.add_mul, Int.one_mul]
omit hw
theorem bk_len (now wait : Int) (i : Nat) : (bk now wait i).length = i := by induction i with
  | zero => rfl
  | succ i ih => simp [bk, ih]
include hw
theorem bk_mem {i : Nat} {z : Int} (h : z ∈ bk now wait i) : ∃ j, j < i ∧ z = now + ((j + 1 : Nat) : Int) * wait := by
  induction i with
  | zero => simp [bk] at h
  | succ i ih =>
    simp only [bk, List.mem_append, List.mem_singleton] at h
    rcases h with h | h
    · obtain ⟨j, h1, h2⟩ := ih h; exact ⟨j, by omega, h2⟩
    · exact ⟨i, by omega, h⟩
theorem abv_bk (m : Nat) (t : Int) (h0 : now + (m : Int) * wait ≤ t) (h1 : t < now + ((m + 1 : Nat) : Int) * wait) (i : Nat) : (abv (bk now wait i) t).length = i - m := by
  induction i with
  | zero => simp [bk, abv]
  | succ i ih =>
    unfold abv at ih ⊢
    simp only [bk, List.filter_append, List.length_append, ih]
    by_cases c : m ≤ i
    · have := mul_mono hw (show m + 1 ≤ i + 1 by omega)
      have ht : decide (now + ((i + 1 : Nat) : Int) * wait > t) = true := decide_eq_true (by omega)
      rw [List.filter_cons, if_pos ht, List.filter_nil]
      simp only [List.length_singleton]; omega
    · have := mul_mono hw (show i + 1 ≤ m by omega)
      have ht : ¬ decide (now + ((i + 1 : Nat) : Int) * wait > t) = true := fun h => by have := of_decide_eq_true h; omega
      rw [List.filter_cons, if_neg ht, List.filter_nil]
      simp only [List.length_nil]; omega
theorem abv_all (i : Nat) : abv (bk now wait i) now = bk now wait i := by
  unfold abv
  rw [List.filter_eq_self]
  intro z hz
  obtain ⟨j, _, rfl⟩ := bk_mem hw hz
  have := mul_s (wait := wait) hw j
  have := mul_mono hw (Nat.zero_le j)
  exact decide_eq_true (by omega)
theorem bk_srt (i : Nat) : srt (bk now wait i) = true := by
  rw [srt_iffB]
  induction i with
  | zero => exact List.Pairwise.nil
  | succ i ih =>
    simp only [bk]
    rw [List.pairwise_append]
    refine ⟨ih, List.pairwise_singleton _ _, fun a ha b hb => ?_⟩
    obtain ⟨j, hj, rfl⟩ := bk_mem hw ha
    rw [List.mem_singleton] at hb
    subst hb
    have := mul_mono hw (show j + 1 ≤ i + 1 by omega)
    omega
theorem aw_li (i : Nat) (t : Int) : aw (li now wait i) 1 t = abv (bk now wait i) t := by
  unfold li
  split
  · rename_i h; subst h; rfl
  · simp [aw]
theorem right_li {i : Nat} (h : i ≤ 100) : rightB 0 (li now wait i) = true := by
  unfold li
  split
  · rfl
  · simp only [rightB, coolB, bk_srt hw, bk_len, Bool.and_true, Bool.and_eq_true, decide_eq_true_eq]; omega
theorem rst_li (i : Nat) : rst (li now wait i) 1 = [] := by
  unfold li
  split
  · rfl
  · rfl
theorem lst_bk (i : Nat) : lst (bk now wait i) now = now + (i : Int) * wait := by
  cases i with
  | zero => simp [bk, lst]
  | succ i => simp [bk, lst]
include hn
theorem li_ok {i : Nat} (h : i ≤ 100) : ∀ x ∈ li now wait i, x.f1.length ≤ 200 ∧ ∀ z ∈ x.f1, -9223372036854775808 ≤ z ∧ z ≤ 9223372036854775807 := by
  intro x hx
  unfold li at hx
  split at hx
  · simp at hx
  · rw [List.mem_singleton] at hx
    subst hx
    refine ⟨by rw [bk_len]; omega, fun z hz => ?_⟩
    obtain ⟨j, hj, rfl⟩ := bk_mem hw hz
    have := mul_bd hw (show j + 1 ≤ 101 by omega)
    omega
theorem li_len (i : Nat) : (li now wait i).length ≤ 1 := by unfold li; split <;> simp
theorem rdy_li {i c m : Nat} (hi : i ≤ 100) (hc : c ≤ 100) (t : Int) (h0 : now + (m : Int) * wait ≤ t) (h1 : t < now + ((m + 1 : Nat) : Int) * wait) : rdy (li now wait i) 1 (c : Int) t = ((c - (i - m) : Nat) : Int) := by
  unfold rdy
  rw [aw_li hw, abv_bk hw m t h0 h1, satv_in (by omega)]
  unfold mx
  split <;> omega
theorem use_li {i c : Nat} (hi : i < c) (hc : c ≤ 100) (k : Nat) (hk : 301 ≤ k) : cool_Use.f k (li now wait i) 1 0 wait (c : Int) 0 0 false [] now = some (li now wait (i + 1), true) := by
  have hl := li_len hw hn i
  have hmi := mul_bd hw (show i ≤ 101 by omega)
  rw [use_eq _ _ _ _ _ _ _ _ _ _ _ (by omega) (by omega) (li_ok hw hn (by omega)) (by omega) (by omega) (by omega)]
  have hr : rdy (li now wait i) 1 (c : Int) now ≠ 0 := by
    rw [rdy_li hw hn (m := 0) (by omega) hc now (by omega) (by have := mul_s (wait := wait) hw 0; omega)]
    omega
  have ha : aw (li now wait i) 1 now = bk now wait i := by rw [aw_li hw, abv_all hw]
  have hu : useB (li now wait i) 1 wait now = bk now wait (i + 1) := by
    unfold useB
    rw [if_pos (by omega), ha, lst_bk hw, satv_in (by omega)]
    simp only [bk]
    rw [mul_s hw]
    congr 2
    omega
  unfold useR
  rw [if_pos ⟨right_li hw (by omega), by omega, by rw [ha, bk_len]; omega, hr⟩, hu, if_neg (by rw [bk_len]; omega), rst_li hw]
  rfl
theorem no_li {c : Nat} (h1 : 1 ≤ c) (hc : c ≤ 100) (k : Nat) (hk : 301 ≤ k) : cool_Use.f k (li now wait c) 1 0 wait (c : Int) 0 0 false [] now = some (li now wait c, false) := by
  have hl := li_len hw hn c
  rw [use_eq _ _ _ _ _ _ _ _ _ _ _ (by omega) (by omega) (li_ok hw hn (by omega)) (by omega) (by omega) (by omega)]
  unfold useR
  rw [if_neg]
  intro h
  apply h.2.2.2
  rw [rdy_li hw hn (m := 0) (by omega) hc now (by omega) (by have := mul_s (wait := wait) hw 0; omega)]
  omega
theorem ready_li {i c m : Nat} (hi : i ≤ 100) (hc : c ≤ 100) (t : Int) (h0 : now + (m : Int) * wait ≤ t) (h1 : t < now + ((m + 1 : Nat) : Int) * wait) (k : Nat) (hk : 301 ≤ k) : cool_Ready.f k (li now wait i) 1 0 wait (c : Int) 0 0 false [] t = some ((c - (i - m) : Nat) : Int) := by
  have hl := li_len hw hn i
  have ho := li_ok hw hn hi
  rw [ready_eq _ _ _ _ _ _ _ _ _ _ k (by omega) (by omega) (fun x hx => by have := (ho x hx).1; omega) (by omega) (by have := aw_lenB (li now wait i) 1 t 200 (fun x hx => (ho x hx).1); omega)]
  exact congrArg some (rdy_li hw hn hi hc t h0 h1)
theorem next_li {c : Nat} (h1 : 1 ≤ c) (hc : c ≤ 100) (k : Nat) (hk : 301 ≤ k) : cool_Next.f k (li now wait c) 1 0 wait (c : Int) 0 0 false [] now = some (now + wait) := by
  have hl := li_len hw hn c
  have ho := li_ok hw hn hc
  unfold cool_Next.f
  rw [ready_li hw hn (m := 0) hc hc now (by omega) (by have := mul_s (wait := wait) hw 0; omega) k hk]
  simp only [Option.bind_some]
  rw [if_neg (by omega), if_neg (by omega), away_eq _ _ _ _ (by omega) (by omega) (fun x hx => by have := (ho x hx).1; omega), aw_li hw, abv_all hw]
  simp only [Option.bind_some]
  rw [bk_len, if_pos (by omega)]
  congr 1
  obtain ⟨c, rfl⟩ : ∃ j, c = j + 1 := ⟨c - 1, by omega⟩
  have : ∀ j, rd (bk now wait (j + 1)) 0 = now + wait := by
    intro j
    induction j with
    | zero => simp [bk, rd]
    | succ j ih =>
      rw [bk]
      unfold rd at ih ⊢
      rw [List.getD_eq_getElem?_getD, List.getElem?_append_left (by rw [bk_len]; simp), ← List.getD_eq_getElem?_getD]
      exact ih
  exact this c
theorem l1_li {c : Nat} (h1 : 1 ≤ c) (hc : c ≤ 100) : ∀ (m i : Nat), i + m = c + 1 → ∀ k, m + 302 ≤ k → barrowlaw16_CoolAll.l1 k (c : Int) wait now true (li now wait c) false (i : Int) = some true
  | 0, i, h, k, hk => by
    obtain ⟨k, rfl⟩ : ∃ j, k = j + 1 := ⟨k - 1, by omega⟩
    rw [barrowlaw16_CoolAll.l1, if_neg (by omega), if_pos rfl, if_neg (by simp), next_li hw hn h1 hc k (by omega)]
    simp only [Option.bind_some]
    rw [wr (by omega), if_pos rfl]
  | m + 1, i, h, k, hk => by
    obtain ⟨k, rfl⟩ : ∃ j, k = j + 1 := ⟨k - 1, by omega⟩
    have hmi := mul_bd hw (show i ≤ 101 by omega)
    have hs := mul_s (wait := wait) hw i
    have ih := l1_li h1 hc m (i + 1) (by omega) k (by omega)
    have e : wrap64 ((i : Int) + 1) = ((i + 1 : Nat) : Int) := by rw [wr (by omega)]; omega
    have e2 : c - (c - i) = i := by omega
    rw [barrowlaw16_CoolAll.l1, if_pos (by omega), wr (z := (i : Int) * wait) (by omega), wr (z := now + (i : Int) * wait) (by omega), ready_li hw hn (m := i) hc hc _ (by omega) (by omega) k (by omega), e2]
    simp only [Option.bind_some]
    rw [if_pos trivial]
    by_cases c1 : i < c
    · rw [if_pos (by omega), wr (z := now + (i : Int) * wait + wait) (by omega), wr (z := now + (i : Int) * wait + wait - 1) (by omega), ready_li hw hn (m := i) hc hc _ (by omega) (by omega) k (by omega), e2]
      simp only [Option.bind_some]
      rw [if_pos trivial, e]
      exact ih
    · rw [if_neg (by omega), e]
      exact ih
theorem l0_li {c : Nat} (h1 : 1 ≤ c) (hc : c ≤ 100) : ∀ (m i : Nat), i + m = c → ∀ k, m + 500 ≤ k → barrowlaw16_CoolAll.l0 k (c : Int) wait now true (li now wait i) (i : Int) = some true
  | 0, i, h, k, hk => by
    obtain ⟨k, rfl⟩ : ∃ j, k = j + 1 := ⟨k - 1, by omega⟩
    have : i = c := by omega
    subst this
    rw [barrowlaw16_CoolAll.l0, if_neg (by omega), no_li hw hn h1 hc k (by omega)]
    simp only [Option.bind_some]
    exact l1_li hw hn h1 hc (i + 1) 0 (by omega) k (by omega)
  | m + 1, i, h, k, hk => by
    obtain ⟨k, rfl⟩ : ∃ j, k = j + 1 := ⟨k - 1, by omega⟩
    have e : wrap64 ((i : Int) + 1) = ((i + 1 : Nat) : Int) := by rw [wr (by omega)]; omega
    rw [barrowlaw16_CoolAll.l0, if_pos (by omega), use_li hw hn (by omega) hc k (by omega)]
    simp only [Option.bind_some]
    rw [if_pos trivial, e]
    exact l0_li h1 hc m (i + 1) (by omega) k (by omega)
end
theorem CoolAll : barrowlaw16_CoolAll.Pure := by
  intro a0 a1 a2 _ _ _
  obtain ⟨K, hK⟩ : ∃ K, K = 1000 := ⟨_, rfl⟩
  refine ⟨K, ?_⟩
  unfold barrowlaw16_CoolAll.f
  rw [small_atB _ (by omega)]
  simp only [Option.bind_some]
  by_cases h1 : a0 < 1
  · rw [if_pos h1]
  · by_cases h2 : a0 > 100
    · rw [if_neg h1, if_pos h2]
    · by_cases h3 : a1 < 1
      · rw [if_neg h1, if_neg h2, if_pos h3]
      · by_cases h4 : a1 > 1000000
        · rw [if_neg h1, if_neg h2, if_neg h3, if_pos h4]
        · by_cases h5 : a2 < 0
          · rw [if_neg h1, if_neg h2, if_neg h3, if_neg h4, if_pos h5]
          · by_cases h6 : a2 > 1099511627776
            · rw [if_neg h1, if_neg h2, if_neg h3, if_neg h4, if_neg h5, if_pos h6]
            · rw [if_neg h1, if_neg h2, if_neg h3, if_neg h4, if_neg h5, if_neg h6]
              obtain ⟨c, rfl⟩ := Int.eq_ofNat_of_zero_le (show 0 ≤ a0 by omega)
              exact l0_li (now := a2) (wait := a1) (by omega) (by omega) (by omega) (by omega) c 0 (by omega) K (by omega)
end Go.Proofs.Ytbhgohomgfjjfaa.Pure
