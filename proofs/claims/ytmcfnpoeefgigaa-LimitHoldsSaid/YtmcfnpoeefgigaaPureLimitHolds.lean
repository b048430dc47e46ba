/- A right bucket stays right, and no more come through than it had and what the rate gave: at rising times, for any steps. -/
import Derived.Test.YtmcfnpoeefgigaaLimitA
set_option linter.unusedVariables false
set_option linter.unusedSimpArgs false
namespace Go.Proofs.Ytmcfnpoeefgigaa.Pure
open Go.RowKit Go.Proofs.Ytmcfnpoeefgigaa.XLimit Go.Proofs.YtmcfnpoeefgigaaW.PrintWords Go.Proofs.YtmcfnpoeefgigaaW.PrintLast Go.Proofs.YtmcfnpoeefgigaaW.PrintMore

theorem and7 (x : Int) (hx : In64 x) : 0 ≤ Go.bits .and .i64 x 7 ∧ Go.bits .and .i64 x 7 ≤ 7 := by
  have h : (BitVec.ofInt 64 x &&& BitVec.ofInt 64 7).toNat ≤ 7 := by
    rw [BitVec.toNat_and]
    exact Nat.le_trans Nat.and_le_right (by decide)
  have e : Go.bits .and .i64 x 7 = IntKind.i64.wrap ((BitVec.ofInt 64 x &&& BitVec.ofInt 64 7).toNat : Int) := rfl
  rw [e, IntKind.wrap_i64]
  omega
/-- What a fill of a right bucket comes to. -/
theorem fillv_right (l t now rate most : Int) (h : Rightv l most) (hr : 0 ≤ rate ∧ rate ≤ 1000000) (ht : 0 ≤ t ∧ t ≤ now ∧ now ≤ 2305843009213693952) :
    Rightv (fillv l t now rate most).1 most ∧ (fillv l t now rate most).2 = now ∧ (fillv l t now rate most).1 ≤ l + rate * (now - t) := by
  have hrv : ratev rate = rate := by unfold ratev; (repeat' split) <;> omega
  have hd : satv (now - t) = now - t := satv_in (by omega)
  unfold fillv
  rw [if_pos ⟨h, by omega⟩, hrv, hd]
  have hp : 0 ≤ rate * (now - t) := Int.mul_nonneg hr.1 (by omega)
  obtain ⟨p, hpe⟩ : ∃ p, rate * (now - t) = p := ⟨_, rfl⟩
  rw [hpe] at hp ⊢
  have h1 : 0 ≤ satv p ∧ satv p ≤ p := by unfold satv; (repeat' split) <;> omega
  have h2 : 0 ≤ satv (l + satv p) ∧ satv (l + satv p) ≤ l + satv p := by
    have := h.2
    unfold satv at *; (repeat' split) <;> omega
  refine ⟨⟨h.1, ?_, ?_⟩, rfl, ?_⟩
  · show 0 ≤ min _ _; have := h.1; omega
  · show min _ _ ≤ most; omega
  · show min _ _ ≤ l + p; omega
theorem holds_loop (rate most had from_ : Int) (l3 : List S32) (hlen : l3.length ≤ 200) (hw : ∀ x ∈ l3, In64 x.f0 ∧ In64 x.f1) (hr : 0 ≤ rate ∧ rate ≤ 1000000) (hf : 0 ≤ from_ ∧ from_ ≤ 1099511627776) (hh : 0 ≤ had ∧ had ≤ 1000000) (d : Nat) :
    ∀ (k : Nat) (l t now came i : Int), 2 * d + 5 < k → 0 ≤ i → i + d = l3.length → Rightv l most → from_ ≤ t → t ≤ now → now ≤ from_ + 7 * i → 0 ≤ came → came + l ≤ had + rate * (t - from_) →
    barrowlaw23_LimitHolds.l0 k rate most l3 true had from_ now came i l t = some true := by
  induction d with
  | zero =>
    intro k l t now came i hk hi hd hR h1 h2 h3 h4 h5
    obtain ⟨k, rfl⟩ : ∃ m, k = m + 1 := ⟨k - 1, by omega⟩
    simp only [barrowlaw23_LimitHolds.l0]
    rw [if_neg (by omega)]
  | succ d ih =>
    intro k l t now came i hk hi hd hR h1 h2 h3 h4 h5
    obtain ⟨k, rfl⟩ : ∃ m, k = m + 5 := ⟨k - 5, by omega⟩
    have hx : rd_T32 l3 i ∈ l3 := by
      unfold rd_T32
      rw [List.getD_eq_getElem?_getD, List.getElem?_eq_getElem (by omega)]
      exact List.getElem_mem _
    obtain ⟨hx0, hx1⟩ := hw _ hx
    obtain ⟨x, hxe⟩ : ∃ x, rd_T32 l3 i = x := ⟨_, rfl⟩
    rw [hxe] at hx0 hx1
    have ha := and7 x.f0 hx0
    obtain ⟨a, hae⟩ : ∃ a, Go.bits .and .i64 x.f0 7 = a := ⟨_, rfl⟩
    rw [hae] at ha
    obtain ⟨n, hne⟩ : ∃ n, x.f1 = n := ⟨_, rfl⟩
    rw [hne] at hx1
    have hnow : wrap64 (now + a) = now + a := by unfold wrap64; omega
    have hi1 : wrap64 (i + 1) = i + 1 := by unfold wrap64; omega
    obtain ⟨f1, f2, f3⟩ := fillv_right l t (now + a) rate most hR hr (by omega)
    have hlr := hR.2
    have hmr := hR.1
    simp only [barrowlaw23_LimitHolds.l0]
    rw [if_pos (by omega), if_pos hi, hxe, hae, hne, hnow, fill_eq _ l t (now + a) rate most (by omega) (by omega) (by omega), take_eq _ l t (now + a) rate most n (by omega) (by omega) (by omega)]
    simp only [Option.bind_some]
    have hmd : rate * (now + a - from_) = rate * (t - from_) + rate * (now + a - t) := by rw [← Int.mul_add]; congr 1; omega
    have hm0 : 0 ≤ rate * (now + a - from_) := Int.mul_nonneg hr.1 (by omega)
    have hm1 : rate * (now + a - from_) ≤ 1000000 * 1400 := Int.mul_le_mul hr.2 (by omega) (by omega) (by decide)
    have hw1 : wrap64 (now + a - from_) = now + a - from_ := by unfold wrap64; omega
    -- behind the checks
    have next : ∀ (b : Bool) (l' came' : Int), Rightv l' most → (b = true → came' = came + n ∧ 0 ≤ n ∧ l' = (fillv l t (now + a) rate most).1 - n) → (b = false → came' = came ∧ l' = (fillv l t (now + a) rate most).1) → barrowlaw23_LimitHolds.j2 (k + 4) rate most l3 true had from_ (now + a) came i n b false l' (now + a) = some true := by
      intro b l' came' hR' hb1 hb0
      simp only [barrowlaw23_LimitHolds.j2, Bool.false_eq_true, if_false]
      rw [hw1, show wrap64 (rate * (now + a - from_)) = rate * (now + a - from_) by unfold wrap64; omega, show wrap64 (had + rate * (now + a - from_)) = had + rate * (now + a - from_) by unfold wrap64; omega, hi1]
      have hl' := hR'.2
      cases b
      · obtain ⟨e1, e2⟩ := hb0 rfl
        rw [if_neg (by decide), if_neg (by omega)]
        exact ih _ _ _ _ _ _ (by omega) (by omega) (by omega) hR' (by omega) (Int.le_refl _) (by omega) h4 (by omega)
      · obtain ⟨e1, e2, e3⟩ := hb1 rfl
        rw [if_pos rfl, show wrap64 (came + n) = came + n by unfold wrap64; omega, if_neg (by omega)]
        exact ih _ _ _ _ _ _ (by omega) (by omega) (by omega) hR' (by omega) (Int.le_refl _) (by omega) (by omega) (by omega)
    obtain ⟨p, hpe⟩ : ∃ p, fillv l t (now + a) rate most = p := ⟨_, rfl⟩
    have tk : takev l t (now + a) rate most n = if 0 ≤ n ∧ n ≤ p.1 then (p.1 - n, p.2, true) else (p.1, p.2, false) := by
      unfold takev
      rw [hpe]
      rw [hpe] at f1
      by_cases hn : 0 ≤ n ∧ n ≤ p.1
      · rw [if_pos hn, if_pos ⟨f1, hn⟩]
      · rw [if_neg hn, if_neg (fun h => hn h.2)]
    rw [tk]
    rw [hpe] at f1 f2 f3 next ⊢
    have hp1 := f1.2
    by_cases hn : 0 ≤ n ∧ n ≤ p.1
    · rw [if_pos hn]
      have hR2 : Rightv (p.1 - n) most := ⟨f1.1, by omega, by omega⟩
      simp only
      rw [if_pos (by omega), if_neg (by simp [hn.2]), if_true, if_pos (by unfold wrap64; omega), right_eq, decide_eq_true hR2]
      simp only [Option.bind_some, Bool.not_true]
      rw [f2]
      exact next true (p.1 - n) (came + n) hR2 (fun _ => ⟨rfl, hn.1, rfl⟩) (fun h => by simp at h)
    · rw [if_neg hn]
      simp only
      have fin : (if ((!(p.1 == p.1) || (!(p.2 == p.2))) = true) then barrowlaw23_LimitHolds.j2 (k + 4) rate most l3 true had from_ (now + a) came i n false true p.1 p.2 else (limit_Right.f p.1 p.2 most).bind fun t215 => barrowlaw23_LimitHolds.j2 (k + 4) rate most l3 true had from_ (now + a) came i n false (!t215) p.1 p.2) = some true := by
        rw [if_neg (by simp), right_eq, decide_eq_true f1]
        simp only [Option.bind_some, Bool.not_true]
        rw [f2]
        exact next false p.1 came f1 (fun h => by simp at h) (fun _ => ⟨rfl, rfl⟩)
      by_cases h0 : n ≥ 0
      · rw [if_pos h0, if_neg (by simp; omega), if_neg (by decide)]; exact fin
      · rw [if_neg h0, if_neg (by decide), if_neg (by decide)]; exact fin
theorem LimitHolds : barrowlaw23_LimitHolds.Pure := by
  intro l t rate most l3 wl wt wr wm w3
  have hl := i64_of wl
  have ht := i64_of wt
  have hr := i64_of wr
  have hm := i64_of wm
  refine ⟨1000, ?_⟩
  have hs : barrowlaw23_small.f 1000 = some true := at_rounds barrowlaw23_small.mono (by decide) limit_small
  unfold barrowlaw23_LimitHolds.f
  rw [hs]
  simp only [Option.bind_some]
  have key0 : barrowlaw23_LimitHolds.j0 1000 rate most l3 true true l t = some true := by simp only [barrowlaw23_LimitHolds.j0, if_true]
  by_cases h1 : (l3.length : Int) > 200
  · rw [if_pos h1]; exact key0
  · rw [if_neg h1, right_eq]
    simp only [Option.bind_some]
    by_cases h2 : Rightv l most
    · rw [if_pos (decide_eq_true h2)]
      by_cases h3 : t < 0
      · rw [if_pos h3]; exact key0
      · rw [if_neg h3]
        by_cases h4 : t > 1099511627776
        · rw [if_pos h4]; exact key0
        · rw [if_neg h4]
          by_cases h5 : rate < 0
          · rw [if_pos h5]; exact key0
          · rw [if_neg h5]
            by_cases h6 : rate > 1000000
            · rw [decide_eq_true h6]; exact key0
            · rw [decide_eq_false h6]
              simp only [barrowlaw23_LimitHolds.j0, Bool.false_eq_true, if_false]
              have h2' := h2.2
              have h2'' := h2.1
              exact holds_loop rate most l t l3 (by omega) (fun x hx => ⟨i64_of (w3.2.2 x hx).1, i64_of (w3.2.2 x hx).2⟩) (by omega) (by omega) (by omega) l3.length _ l t t 0 0 (by omega) (Int.le_refl _) (by omega) h2 (Int.le_refl _) (Int.le_refl _) (by omega) (Int.le_refl _) (by rw [Int.sub_self, Int.mul_zero]; omega)
    · rw [if_neg (by simpa using h2)]; exact key0
end Go.Proofs.Ytmcfnpoeefgigaa.Pure
