/- DrawDeals, in plain Lean. -/
import Derived.Test.YtkffeglkbpfndaaDrawD
import Derived.Test.YtkffeglkbpfndaaXDPx4
set_option linter.unusedVariables false
set_option linter.unusedSimpArgs false
namespace Go.Proofs.Ytkffeglkbpfndaa.Pure
open Go.RowKit Go.Proofs.Ytkffeglkbpfndaa.XDP Go.Proofs.YtkffeglkbpfndaaW.PrintWords Go.Proofs.YtkffeglkbpfndaaW.PrintLast Go.Proofs.YtkffeglkbpfndaaW.PrintMore
theorem rdOf_set {y : List Bool} {i : Nat} (hi : i < y.length) (a : Nat) : rdOf false (y.set i true) (a : Int) = true → a = i ∨ rdOf false y (a : Int) = true := by
  unfold rdOf
  simp only [Int.toNat_natCast, List.getD_eq_getElem?_getD, List.getElem?_set]
  by_cases h : i = a
  · exact fun _ => .inl h.symm
  · rw [if_neg h]; exact .inr
theorem deals_l0 (l y s : List Int) (z : List Bool) (hl : l.length ≤ 300) (hs : s.length ≤ 4096) (hy : y.length ≤ 256) (hz : z.length = y.length) (hg : Good y) : ∀ (m i k : Nat) (q : List Bool), i + m = y.length → q.length = y.length → (∀ v : Nat, v < y.length → rdOf false q (v : Int) = true → ∃ a : Nat, a < i ∧ rd y (a : Int) = v) → 6000 + m < k →
    barrowlaw02_DrawDeals.l0 k l true y s z (i : Int) q = some true := by
  intro m
  induction m with
  | zero =>
    intro i k q hi hq hv hk
    obtain ⟨k, rfl⟩ : ∃ q, k = q + 1 := ⟨k - 1, by omega⟩
    rw [barrowlaw02_DrawDeals.l0, if_neg (by omega)]
    obtain ⟨j, b, t, h1, h2⟩ := pick_is l s hl hs k (by omega)
    rw [h1, Option.bind_some, if_pos rfl]
    rcases h2 with ⟨rfl, rfl⟩ | ⟨rfl, h3, h4, h5⟩
    · rw [if_neg (by simp), if_pos rfl]
    · rw [if_pos rfl, if_pos h3, if_pos h4, if_pos h3, if_pos h5]
  | succ m ih =>
    intro i k q hi hq hv hk
    obtain ⟨k, rfl⟩ : ∃ q, k = q + 1 := ⟨k - 1, by omega⟩
    obtain ⟨g1, g2⟩ := hg.1 i (by omega)
    obtain ⟨v, hv1⟩ : ∃ v : Nat, rd y (i : Int) = v := ⟨_, (Int.toNat_of_nonneg g1).symm⟩
    rw [hv1] at g1 g2
    rw [barrowlaw02_DrawDeals.l0, if_pos (by omega), if_pos (by omega), hv1, if_neg (by omega), if_neg (by omega), Option.bind_some, if_pos (by omega), if_pos (by omega), if_neg (fun c => by
      obtain ⟨a, h1, h2⟩ := hv v (by omega) c
      have := hg.2 a i (by omega) (by omega) (by rw [h2, hv1])
      omega), Option.bind_some, wrap_i (by omega), Int.toNat_natCast]
    refine ih (i + 1) k (q.set v true) (by omega) (by simpa using hq) (fun u hu h => ?_) (by omega)
    rcases rdOf_set (by omega) u h with rfl | h
    · exact ⟨i, by omega, hv1⟩
    · obtain ⟨a, h1, h2⟩ := hv u hu h
      exact ⟨a, by omega, h2⟩
theorem deals_l199 (l y s : List Int) (hl : l.length ≤ 300) (hs : s.length ≤ 4096) (hy : y.length ≤ 256) (hg : Good y) (k : Nat) (hk : 7000 < k) : barrowlaw02_DrawDeals.l199 k l true y s false = some true := by
  obtain ⟨k, rfl⟩ : ∃ q, k = q + 1 := ⟨k - 1, by omega⟩
  rw [barrowlaw02_DrawDeals.l199, if_neg (by decide), Option.bind_some, if_pos (by omega), if_pos (by omega), Option.bind_some, Int.toNat_natCast]
  exact deals_l0 l y s _ hl hs hy (by simp) hg y.length 0 k _ (by omega) (by simp) (fun v hv h => by
    unfold rdOf at h
    simp [hv] at h) (by omega)
theorem DrawDeals : barrowlaw02_DrawDeals.Pure := by
  intro ws n l _ _ _
  refine ⟨20000, ?_⟩
  unfold barrowlaw02_DrawDeals.f
  rw [small_is _ (by omega), Option.bind_some]
  unfold draw_New.f
  rw [Option.bind_some]
  by_cases c1 : (ws.length : Int) > 4096
  · rw [if_pos c1, if_pos rfl]
  rw [if_neg c1]
  by_cases c2 : (l.length : Int) > 300
  · rw [if_pos c2, if_pos rfl]
  rw [if_neg c2, feed_is _ _ (by simp) (by omega) _ (by omega), Option.bind_some]
  unfold feedS
  by_cases c3 : ws.all okw = true
  rotate_left
  · rw [if_neg c3, if_neg (by decide)]
  rw [if_pos c3]
  by_cases c4 : (ws.length : Int) > wrap64 (4096 - (([] : List Int).length : Int))
  · rw [if_pos c4, if_neg (by decide)]
  rw [if_neg c4, if_pos rfl, List.nil_append]
  obtain ⟨r, b, t, h1, h2, h3, h4⟩ := deal_is n ws (by omega) 20000 (by omega)
  rw [h1, Option.bind_some]
  rcases h3 with ⟨rfl, h5, h6⟩ | ⟨rfl, rfl, h5⟩
  · have e : ((r.length : Int) != n) = false := by simp [h5]
    rw [e]
    by_cases c5 : (r.length : Int) > 0
    · rw [if_pos c5, if_pos rfl]
      exact deals_l199 l r t (by omega) h2 h4 h6 _ (by omega)
    · have e2 : (n == 0) = true := by rw [beq_iff_eq]; omega
      rw [if_neg c5, e2, if_neg (by simp), if_pos rfl]
      exact deals_l199 l r t (by omega) h2 h4 h6 _ (by omega)
  · have e2 : (n == 0) = false := by rw [beq_eq_false_iff_ne]; exact h5
    rw [if_neg (by simp), e2, if_neg (by simp), if_neg (by simp)]
    exact deals_l199 l [] t (by omega) h2 (by simp) ⟨fun a ha => by simp at ha, fun a b ha => by simp at ha⟩ _ (by omega)
end Go.Proofs.Ytkffeglkbpfndaa.Pure
