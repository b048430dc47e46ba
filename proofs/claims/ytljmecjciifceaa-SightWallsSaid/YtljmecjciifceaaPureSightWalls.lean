/- SightWalls, in plain Lean. -/
import Derived.Test.YtljmecjciifceaaSiW
import Derived.Test.YtljmecjciifceaaXSWx14
set_option linter.unusedSimpArgs false
set_option linter.unusedVariables false
namespace Go.Proofs.Ytljmecjciifceaa.Pure
open Go.RowKit Go.Proofs.Ytljmecjciifceaa.XSW Go.Proofs.YtljmecjciifceaaW.PrintWords Go.Proofs.YtljmecjciifceaaW.PrintLast
theorem rdOf_repl (n : Nat) (i : Int) : rdOf false (List.replicate n false) i = false := by
  unfold rdOf
  by_cases h : i.toNat < n
  · simp [h]
  · simp [h]
theorem found_none (w : Int) (n : Nat) (ax ay bx by_ : Int) : foundv w (List.replicate n false) ax ay bx by_ = false := by
  unfold foundv
  rw [List.any_eq_false]
  intro p _
  unfold wb wallv
  rw [rdOf_repl]
  simp
theorem wall_more (w : Int) (l : List Bool) (j : Nat) (x y : Int) (h : wallv w l x y = true) : wallv w (l.set j true) x y = true := by
  unfold wallv rdOf at *
  simp only [List.getD_eq_getElem?_getD, List.getElem?_set] at *
  split
  · split
    · rfl
    · rename_i h1 h2
      rw [List.getElem?_eq_none (by omega)] at h
      exact h
  · exact h
theorem found_more (w : Int) (l : List Bool) (j : Nat) (ax ay bx by_ : Int) (h : foundv w l ax ay bx by_ = true) : foundv w (l.set j true) ax ay bx by_ = true := by
  unfold foundv at *
  rw [List.any_eq_true] at *
  obtain ⟨p, h1, h2⟩ := h
  refine ⟨p, h1, ?_⟩
  unfold wb at *
  rw [Bool.and_eq_true] at *
  exact ⟨h2.1, wall_more w l j _ _ h2.2⟩
theorem found_self (w : Int) (l : List Bool) (ax ay : Int) : foundv w l ax ay ax ay = false := by
  unfold foundv
  rw [List.any_eq_false]
  intro p hp
  have h := linev_mem.1 hp
  have e1 : p.1 = ax := by omega
  have e2 : p.2 = ay := by omega
  unfold wb
  rw [e1, e2]
  simp
theorem wallG_eq {w h x y : Int} {l : List Bool} (hr : RightG w h l) (hi : Ins w h x y) : grid_Wall.f w h l x y = some (wallv w l x y) := by
  unfold grid_Wall.f
  rw [in_eq, decide_eq_true ⟨hr, hi⟩, wall_eq hr hi]
  simp
theorem and4095 (a : Int) : 0 ≤ Go.bits .and .i64 a 4095 := by
  simp only [Go.bits, BitVec.toNat_and]
  have h : (BitVec.ofInt IntKind.i64.bits a).toNat &&& (BitVec.ofInt IntKind.i64.bits 4095).toNat ≤ 4095 := Nat.le_trans Nat.and_le_right (by decide)
  generalize ((BitVec.ofInt IntKind.i64.bits a).toNat &&& (BitVec.ofInt IntKind.i64.bits 4095).toNat) = q at *
  rw [IntKind.wrap_i64]
  omega
theorem SightWalls : barrowlaw07_SightWalls.Pure := by
  intro w h l ax ay bx by_ kk h1 h2 h3 h4 h5 h6 h7 h8
  obtain ⟨K, hk⟩ := small_ev
  refine ⟨K + 200000, ?_⟩
  unfold barrowlaw07_SightWalls.f
  rw [hk (K + 200000) (by omega)]
  simp only [Option.bind_some, barrowlaw06_Few.f]
  by_cases c0 : decide ((l.length : Int) ≤ 1024) = true
  rotate_left
  · rw [if_neg c0]
  rw [if_pos c0, in_eq, Option.bind_some]
  by_cases c1 : RightG w h l ∧ Ins w h ax ay
  rotate_left
  · rw [decide_eq_false c1, if_neg (by decide)]
  rw [decide_eq_true c1, if_pos rfl, in_eq, Option.bind_some]
  by_cases c2 : RightG w h l ∧ Ins w h bx by_
  rotate_left
  · rw [decide_eq_false c2, if_neg (by decide)]
  rw [decide_eq_true c2, if_pos rfl]
  by_cases c3 : (l.length : Int) = 0
  · rw [if_pos c3]
  obtain ⟨hg, ha⟩ := c1
  have hb := c2.2
  have hl : l.length ≤ 1024 := by have := of_decide_eq_true c0; omega
  obtain ⟨b1, b2⟩ := rg_box hg ha
  obtain ⟨b3, b4⟩ := rg_box hg hb
  have hlen := linev_len b1 b2 b3 b4
  have hlen' : ∀ l' : List Bool, l'.length = l.length → RightG w h l' := fun l' e => by
    unfold RightG at *
    rw [e]; exact hg
  have S1 : ∀ l' : List Bool, l'.length = l.length → sight_Sees.f (K + 200000) w h l' ax ay bx by_ = some (!foundv w l' ax ay bx by_) := fun l' e => by
    rw [sees_eq' w h l' ax ay bx by_ _ (by omega), if_pos ⟨hlen' l' e, ha, hb⟩]
  have S2 : sight_Sees.f (K + 200000) w h l ax ay ax ay = some true := by
    rw [sees_eq' w h l ax ay ax ay _ (by omega), if_pos ⟨hg, ha, ha⟩, found_self]; rfl
  obtain ⟨r, r1, r2, r3⟩ := firstv_eq w l ax ay bx by_
  have F1 : sight_First.f (K + 200000) w h l ax ay bx by_ = some (r.2.1, r.2.2, r.1) := by
    rw [first_eq w h l ax ay bx by_ _ (by omega), if_pos ⟨hg, ha, hb⟩, r1]; rfl
  have L1 : sight_Line.f (K + 200000) w h l ax ay bx by_ = some ((linev ax ay bx by_).map toS) := by
    rw [line_eq w h l ax ay bx by_ _ (by omega), if_pos ⟨hg, ha, hb⟩]
  have tl := Int.tmod_nonneg (l.length : Int) (and4095 kk)
  have tu := Int.tmod_lt_of_pos (Go.bits .and .i64 kk 4095) (show (0 : Int) < (l.length : Int) by omega)
  have e0 : ((l.length : Int)).toNat = l.length := by omega
  rw [if_neg c3]
  simp only [Option.bind_some, List.nil_append, List.length_nil, e0]
  rw [if_pos (by omega), if_pos (by omega), if_pos (by omega), if_neg c3, if_pos tl, if_pos tu, F1]
  generalize (Int.tmod (Go.bits .and .i64 kk 4095) (l.length : Int)).toNat = j
  rw [S1 (List.replicate l.length false) (by simp), found_none, S1 (l.set j true) (by simp), S1 l rfl, S2, L1]
  have fm := found_more w l j ax ay bx by_
  simp only [Option.bind_some, if_true, Bool.not_false]
  have key : r.1 = true → grid_Wall.f w h l r.2.1 r.2.2 = some true ∧ barrowlaw07_has.f (K + 200000) ((linev ax ay bx by_).map toS) r.2.1 r.2.2 = some true ∧ (!(r.2.1 == ax) || (!(r.2.2 == ay))) = true ∧ (!(r.2.1 == bx) || (!(r.2.2 == by_))) = true := by
    intro hr1
    obtain ⟨m1, m2⟩ := r3 hr1
    have m3 := linev_mem.1 m1
    have hin := ins_between ha hb m3.2.2.1 m3.2.2.2.1 m3.1 m3.2.1
    unfold wb at m2
    rw [Bool.and_eq_true, Bool.and_eq_true] at m2
    obtain ⟨⟨q1, q2⟩, q3⟩ := m2
    refine ⟨by rw [wallG_eq hg hin, q3], ?_, ?_, ?_⟩
    · rw [has_eq _ _ _ hlen _ (by omega), decide_eq_true m1]
    · rw [Bool.not_and] at q1; exact q1
    · rw [Bool.not_and] at q2; exact q2
  cases hf : foundv w l ax ay bx by_ with
  | false =>
    have hr1 : r.1 = false := by rw [r2, hf]
    simp [hr1]
  | true =>
    have hr1 : r.1 = true := by rw [r2, hf]
    rw [fm hf]
    obtain ⟨k1, k2, k3, k4⟩ := key hr1
    simp [hr1, k1, k2]
    have q3 : ¬ (r.2.1 = ax ∧ r.2.2 = ay) := by intro q; rw [q.1, q.2] at k3; simp at k3
    have q4 : ¬ (r.2.1 = bx ∧ r.2.2 = by_) := by intro q; rw [q.1, q.2] at k4; simp at k4
    omega
end Go.Proofs.Ytljmecjciifceaa.Pure
