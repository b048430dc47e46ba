/- DrawPlays, in plain Lean. -/
import Derived.Test.YtkffeglkbpfndaaDrawP
import Derived.Test.YtkffeglkbpfndaaXPLx6
set_option linter.unusedVariables false
set_option linter.unusedSimpArgs false
namespace Go.Proofs.Ytkffeglkbpfndaa.Pure
open Go.RowKit Go.Proofs.Ytkffeglkbpfndaa.XPL Go.Proofs.YtkffeglkbpfndaaW.PrintWords Go.Proofs.YtkffeglkbpfndaaW.PrintLast Go.Proofs.YtkffeglkbpfndaaW.PrintMore
theorem left_is (s : List Int) : draw_Stream_Left.f s = some ((s.length : Int), s) := rfl
theorem plays_l1 (ws : List Int) (L : List (List Int)) (hw : ws.length ≤ 8192) (x : Nat) (hx : x < 60) (s : List Int) (hs : s.length ≤ 4096) : ∀ (m i k : Nat) (y : List Int), i + m = ws.length → m + 10000 < k →
    ∃ k', k ≤ k' + m + 1 ∧ barrowlaw02_DrawPlays.l1 k ws L true (x : Int) (i : Int) y s ws (feedS s ws).1 (feedS s ws).2 = barrowlaw02_DrawPlays.l0 k' ws L true ((x + 1 : Nat) : Int) (feedS s ws).2 (feedS s ws).2 := by
  intro m
  induction m with
  | zero =>
    intro i k y hi hk
    obtain ⟨k, rfl⟩ : ∃ q, k = q + 1 := ⟨k - 1, by omega⟩
    refine ⟨k, by omega, ?_⟩
    rw [barrowlaw02_DrawPlays.l1, if_neg (by omega), rfeed_is _ _ hs hw _ (by omega), Option.bind_some, if_pos rfl, left_is, Option.bind_some, if_pos rfl, wrap_i (by omega)]
  | succ m ih =>
    intro i k y hi hk
    obtain ⟨k, rfl⟩ : ∃ q, k = q + 1 := ⟨k - 1, by omega⟩
    obtain ⟨k', h1, h2⟩ := ih (i + 1) k (y.set i 77) (by omega) (by omega)
    refine ⟨k', by omega, ?_⟩
    rw [barrowlaw02_DrawPlays.l1, if_pos (by omega), if_pos (by omega), Option.bind_some, wrap_i (by omega), Int.toNat_natCast]
    exact h2
theorem plays_l0 (ws : List Int) (L : List (List Int)) (hw : ws.length ≤ 8192) (hL : L.length ≤ 60) : ∀ (m i k : Nat) (s : List Int), i + m = L.length → s.length ≤ 4096 → 8200 * m + 40000 < k →
    barrowlaw02_DrawPlays.l0 k ws L true (i : Int) s s = some true := by
  intro m
  induction m with
  | zero =>
    intro i k s hi hs hk
    obtain ⟨k, rfl⟩ : ∃ q, k = q + 1 := ⟨k - 1, by omega⟩
    rw [barrowlaw02_DrawPlays.l0, if_neg (by omega)]
  | succ m ih =>
    intro i k s hi hs hk
    obtain ⟨k, rfl⟩ : ∃ q, k = q + 1 := ⟨k - 1, by omega⟩
    rw [barrowlaw02_DrawPlays.l0, if_pos (by omega), if_pos (by omega), Option.bind_some]
    obtain ⟨y, hy⟩ : ∃ y, y = rd_L1 L (i : Int) := ⟨_, rfl⟩
    rw [← hy, wrap_i (by omega)]
    have next : ∀ t : List Int, t.length ≤ 4096 → barrowlaw02_DrawPlays.l0 k ws L true ((i + 1 : Nat) : Int) t t = some true := fun t ht => ih (i + 1) k t (by omega) ht (by omega)
    by_cases c1 : (y.length : Int) = 0
    · rw [if_pos c1]; exact next s hs
    rw [if_neg c1]
    by_cases c2 : (y.length : Int) > 300
    · rw [if_pos c2]; exact next s hs
    rw [if_neg c2, if_pos (by omega)]
    have e1 : wrap64 ((y.length : Int) - 1) = (y.length : Int) - 1 := by unfold wrap64; omega
    by_cases d0 : Go.bits .and .i64 (rd y 0) 3 = 0
    · rw [if_pos d0, Option.bind_some, if_pos (by simp; omega), Option.bind_some, List.nil_append, feed_is _ _ (by omega) (by omega) _ (by omega), Option.bind_some]
      obtain ⟨k', h1, h2⟩ := plays_l1 ws L hw i (by omega) s hs ws.length 0 k ws (by omega) (by omega)
      rw [show ((0 : Nat) : Int) = 0 from rfl] at h2
      rw [h2]
      exact ih (i + 1) k' _ (by omega) (feed_len hs) (by omega)
    rw [if_neg d0]
    by_cases d1 : Go.bits .and .i64 (rd y 0) 3 = 1
    · rw [if_pos d1, e1, Option.bind_some, if_pos (by omega), if_pos (by omega), below_is _ _ (by omega) _ (by omega), Option.bind_some, rbelow_is _ _ (by omega) _ (by omega), Option.bind_some, if_pos rfl, if_pos (by simp), left_is, Option.bind_some, if_pos rfl]
      exact next _ (below_len _ hs)
    rw [if_neg d1]
    by_cases d2 : Go.bits .and .i64 (rd y 0) 3 = 2
    · rw [if_pos d2, if_pos (by omega), Option.bind_some, pick_is _ _ (by rw [List.length_drop]; omega) hs _ (by omega), Option.bind_some, Option.bind_some, rpick_is _ _ (by rw [List.length_drop]; omega) hs _ (by omega), Option.bind_some, if_pos rfl, if_pos (by simp), left_is, Option.bind_some, if_pos rfl]
      exact next _ (pick_len hs)
    rw [if_neg d2]
    by_cases d3 : Go.bits .and .i64 (rd y 0) 3 = 3
    · rw [if_pos d3, e1, Option.bind_some, if_pos (by omega), if_pos (by omega), deal_is _ _ hs _ (by omega), Option.bind_some, rdeal_is _ _ hs _ (by omega), Option.bind_some, same_is _ (Nat.le_trans (deal_row _ _) (by omega)) _ (Nat.lt_of_le_of_lt (deal_row _ _) (by omega)), Option.bind_some, if_pos rfl, if_pos (by simp), left_is, Option.bind_some, if_pos rfl]
      exact next _ (deal_len hs)
    rw [if_neg d3, left_is, Option.bind_some, if_pos rfl]
    exact next s hs
theorem DrawPlays : barrowlaw02_DrawPlays.Pure := by
  intro ws L _ _
  refine ⟨1000000, ?_⟩
  unfold barrowlaw02_DrawPlays.f
  rw [small_is _ (by omega), Option.bind_some]
  unfold draw_New.f
  rw [Option.bind_some]
  by_cases c1 : (ws.length : Int) > 8192
  · rw [if_pos c1, if_pos rfl]
  rw [if_neg c1]
  by_cases c2 : (L.length : Int) > 60
  · rw [if_pos c2, if_pos rfl]
  rw [if_neg c2]
  exact plays_l0 ws L (by omega) (by omega) L.length 0 1000000 [] (by omega) (by simp) (by omega)
end Go.Proofs.Ytkffeglkbpfndaa.Pure
