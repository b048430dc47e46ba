/- DrawParts: words that are fed in parts make the same draws as at once, and what waits gets less by what they use. -/
import Derived.Test.YtkffeglkbpfndaaDrawA
namespace Go.Proofs.Ytkffeglkbpfndaa.Pure
open Go.RowKit Go.Proofs.Ytkffeglkbpfndaa.XDR Go.Proofs.YtkffeglkbpfndaaW.PrintWords Go.Proofs.YtkffeglkbpfndaaW.PrintLast
theorem left_is (l : List Int) : draw_Stream_Left.f l = some ((l.length : Int), l) := rfl
theorem below_some (l : List Int) (n : Int) (h : (belowS l n).2.1 = true) : 0 ≤ (belowS l n).1 ∧ (belowS l n).1 < n ∧ (belowS l n).2.2.length < l.length := by
  unfold belowS at h ⊢
  dsimp only at h ⊢
  have hu := fair_used l n
  unfold fair at h hu ⊢
  split at h
  · cases h
  · split at h
    · cases h
    · rename_i c1 c2
      rw [if_neg c1, if_neg c2] at hu ⊢
      have h1 := fairS_in (4294967296 - 4294967296 % n) n (by omega) l 0
      have h2 := fairS_pos (4294967296 - 4294967296 % n) n l 0 (by omega) h
      refine ⟨h1.1, h1.2, ?_⟩
      rw [List.length_drop]; omega
theorem below_none (l : List Int) (n : Int) (h : (belowS l n).2.1 = false) : (belowS l n).1 = 0 ∧ (belowS l n).2.2 = l := by
  have hf : fair l n = (0, 0, false) := by
    unfold belowS at h
    dsimp only at h
    unfold fair at h ⊢
    split
    · rfl
    · split
      · rfl
      · rename_i c1 c2
        rw [if_neg c1, if_neg c2] at h
        rcases fairS_is (4294967296 - 4294967296 % n) n l 0 with h1 | h1
        · rw [h1] at h; cases h
        · exact h1
  unfold belowS
  rw [hf]
  simp
theorem parts_l0 (l0 : List Int) (n : Int) (hl0 : l0.length ≤ 300) : ∀ (d k : Nat) (i : Int) (l : List Int), 0 ≤ i → i + d = (l0.length : Int) + 1 → l.length ≤ 300 → d + 301 < k → barrowlaw02_DrawParts.l0 k l0 n true i l l = some true := by
  intro d
  induction d with
  | zero =>
    intro k i l h0 h1 h2 h3
    obtain ⟨k, rfl⟩ : ∃ m, k = m + 1 := ⟨k - 1, by omega⟩
    simp only [barrowlaw02_DrawParts.l0]
    rw [if_neg (by omega)]
  | succ d ih =>
    intro k i l h0 h1 h2 h3
    obtain ⟨k, rfl⟩ : ∃ m, k = m + 1 := ⟨k - 1, by omega⟩
    simp only [barrowlaw02_DrawParts.l0, left_is, Option.bind_some]
    rw [if_pos (by omega), below_is l n (by omega) k (by omega)]
    have w : wrap64 (i + 1) = i + 1 := by unfold wrap64; omega
    simp only [Option.bind_some, bne_self_eq_false, Bool.false_eq_true, if_false, if_true, w]
    cases hb : (belowS l n).2.1 with
    | true =>
      obtain ⟨e1, e2, e3⟩ := below_some l n hb
      simp only [if_true]
      rw [if_neg (by omega), if_neg (by omega), if_neg (by omega)]
      exact ih k (i + 1) _ (by omega) (by omega) (by omega) (by omega)
    | false =>
      obtain ⟨e1, e2⟩ := below_none l n hb
      simp only [Bool.false_eq_true, if_false, e1, e2, if_true]
      exact ih k (i + 1) l (by omega) (by omega) h2 (by omega)
theorem feed_small (l ws : List Int) (h : l.length + ws.length ≤ 300) : feedS l ws = if ws.all okw = true then (0, l ++ ws) else (1, l) := by
  unfold feedS
  split
  · rw [if_neg (by unfold wrap64; omega)]
  · rfl
theorem DrawParts : barrowlaw02_DrawParts.Pure := by
  intro l0 n cut ⟨_, hl, _⟩ hn hc
  refine ⟨2 * l0.length + 700, ?_⟩
  unfold barrowlaw02_DrawParts.f
  rw [small_is _ (by omega), Option.bind_some]
  simp only [draw_New.f, Option.bind_some]
  split
  · rfl
  · rename_i c
    have hlen : l0.length ≤ 300 := by omega
    obtain ⟨j, hj⟩ : ∃ j, mn (mx cut 0) (l0.length : Int) = j := ⟨_, rfl⟩
    have hj0 : 0 ≤ j := by rw [← hj]; unfold mn mx; (repeat' split) <;> omega
    have hj1 : j ≤ (l0.length : Int) := by rw [← hj]; unfold mn mx; (repeat' split) <;> omega
    rw [hj, feed_is [] l0 (by simp) (by omega) _ (by omega), Option.bind_some, if_pos hj0, if_pos hj1, feed_is [] (l0.take j.toNat) (by simp) (by simp; omega) _ (by simp; omega), Option.bind_some]
    have e1 := feed_small [] (l0.take j.toNat) (by simp; omega)
    have hl1 : (feedS [] (l0.take j.toNat)).2.length ≤ j.toNat := by rw [e1]; split <;> simp <;> omega
    rw [feed_is _ (l0.drop j.toNat) (by omega) (by simp; omega) _ (by simp; omega), Option.bind_some]
    have e2 := feed_small (feedS [] (l0.take j.toNat)).2 (l0.drop j.toNat) (by simp; omega)
    have e3 := feed_small [] l0 (by simp; omega)
    have hall : l0.all okw = ((l0.take j.toNat).all okw && (l0.drop j.toNat).all okw) := by rw [← List.all_append, List.take_append_drop]
    rw [e2, e3, e1]
    cases h1 : (l0.take j.toNat).all okw <;> cases h2 : (l0.drop j.toNat).all okw
    · simp [hall, h1, h2]
    · simp [hall, h1, h2]
    · simp [hall, h1, h2]
    · simp only [hall, h1, h2, Bool.and_self, if_true, List.nil_append, List.take_append_drop]
      exact parts_l0 l0 n hlen (l0.length + 1) _ 0 l0 (by omega) (by omega) hlen (by omega)
end Go.Proofs.Ytkffeglkbpfndaa.Pure
