import Derived.Test.YtbhgohomgfjjfaaCoD
import Derived.Laws.BitsLemmas
import Derived.Test.YtbhgohomgfjjfaaXCOx10
import Derived.Test.YtbhgohomgfjjfaaXCOx8
set_option linter.unusedSimpArgs false
set_option linter.unusedVariables false
namespace Go.Proofs.Ytbhgohomgfjjfaa.Pure
open Go.RowKit Go.Proofs.Ytbhgohomgfjjfaa.XCO Go.Proofs.YtbhgohomgfjjfaaW.PrintWords Go.Proofs.YtbhgohomgfjjfaaW.PrintLast Go.Proofs.YtbhgohomgfjjfaaW.PrintMore

theorem and_15 (n : Int) : 0 ≤ Go.bits .and .i64 n 15 ∧ Go.bits .and .i64 n 15 ≤ 15 := by
  have h127 : (BitVec.ofInt 64 15).toNat = 2 ^ 4 - 1 := by decide
  have key : (BitVec.ofInt 64 n &&& BitVec.ofInt 64 15).toNat = (n % ((2 ^ 64 : Nat) : Int)).toNat % 2 ^ 4 := by
    rw [BitVec.toNat_and, BitVec.toNat_ofInt, h127, Nat.and_two_pow_sub_one_eq_mod]
  show 0 ≤ IntKind.i64.wrap ((BitVec.ofInt 64 n &&& BitVec.ofInt 64 15).toNat : Nat) ∧ IntKind.i64.wrap ((BitVec.ofInt 64 n &&& BitVec.ofInt 64 15).toNat : Nat) ≤ 15
  rw [key, IntKind.wrap_i64]
  omega
theorem and_7 (n : Int) : 0 ≤ Go.bits .and .i64 n 7 ∧ Go.bits .and .i64 n 7 ≤ 7 := by
  have h127 : (BitVec.ofInt 64 7).toNat = 2 ^ 3 - 1 := by decide
  have key : (BitVec.ofInt 64 n &&& BitVec.ofInt 64 7).toNat = (n % ((2 ^ 64 : Nat) : Int)).toNat % 2 ^ 3 := by
    rw [BitVec.toNat_and, BitVec.toNat_ofInt, h127, Nat.and_two_pow_sub_one_eq_mod]
  show 0 ≤ IntKind.i64.wrap ((BitVec.ofInt 64 n &&& BitVec.ofInt 64 7).toNat : Nat) ∧ IntKind.i64.wrap ((BitVec.ofInt 64 n &&& BitVec.ofInt 64 7).toNat : Nat) ≤ 7
  rw [key, IntKind.wrap_i64]
  omega
theorem uses_loop (l0 l1 : List Int) (l2 : List S39) (h2 : l2.length ≤ 200) (hl0 : l0.length ≤ 20) (hw : ∀ x ∈ l2, (-9223372036854775808 ≤ x.f0 ∧ x.f0 ≤ 9223372036854775807) ∧ (-9223372036854775808 ≤ x.f1 ∧ x.f1 ≤ 9223372036854775807)) :
    ∀ (m i : Nat) (l : List S35) (now B : Int), i + m = l2.length → Inv (fun id => rd l0 (id - 1)) l now B → 0 ≤ now → now ≤ 7 * (i : Int) → now ≤ B → B ≤ 1400 + 1000010 * (i : Int) → ∀ k, m + 1000 ≤ k → barrowlaw16_CoolUses.l0 k l0 l1 l2 true l now (i : Int) = some true
  | 0, i, l, now, B, h, hI, h0, h1, hB0, hB, k, hk => by
    obtain ⟨k, rfl⟩ : ∃ j, k = j + 1 := ⟨k - 1, by omega⟩
    rw [barrowlaw16_CoolUses.l0, if_neg (by omega)]
  | m + 1, i, l, now, B, h, hI, h0, h1, hB0, hB, k, hk => by
    obtain ⟨k, rfl⟩ : ∃ j, k = j + 1 := ⟨k - 1, by omega⟩
    have hi : i < l2.length := by omega
    have e : wrap64 ((i : Int) + 1) = ((i + 1 : Nat) : Int) := by rw [wr (by omega)]; omega
    obtain ⟨X, hX⟩ : ∃ X, X = rd_T39 l2 (i : Int) := ⟨_, rfl⟩
    have hXm : X ∈ l2 := by rw [hX]; unfold rd_T39; rw [Int.toNat_natCast, List.getD_eq_getElem?_getD, List.getElem?_eq_getElem hi]; exact List.getElem_mem hi
    have hXw := hw X hXm
    obtain ⟨j, hj⟩ : ∃ j, j = Go.bits .and .i64 X.f0 15 := ⟨_, rfl⟩
    obtain ⟨d, hd⟩ : ∃ d, d = Go.bits .and .i64 X.f1 7 := ⟨_, rfl⟩
    have hjb := and_15 X.f0
    have hdb := and_7 X.f1
    rw [← hj] at hjb
    rw [← hd] at hdb
    obtain ⟨t, ht⟩ : ∃ t, t = now + d := ⟨_, rfl⟩
    have ih : ∀ l' now' B', Inv (fun id => rd l0 (id - 1)) l' now' B' → 0 ≤ now' → now' ≤ 7 * ((i + 1 : Nat) : Int) → now' ≤ B' → B' ≤ 1400 + 1000010 * ((i + 1 : Nat) : Int) → barrowlaw16_CoolUses.l0 k l0 l1 l2 true l' now' ((i + 1 : Nat) : Int) = some true := fun l' now' B' g1 g2 g3 g4 g5 => uses_loop l0 l1 l2 h2 hl0 hw m (i + 1) l' now' B' (by omega) g1 g2 g3 g4 g5 k (by omega)
    have skip := ih l now B hI h0 (by omega) hB0 (by omega)
    rw [barrowlaw16_CoolUses.l0, if_pos (by omega), if_pos (by omega), ← hX, ← hj, ← hd, e]
    by_cases c1 : j ≥ (l0.length : Int)
    · rw [if_pos c1]; exact skip
    rw [if_neg c1]
    by_cases c2 : j ≥ (l1.length : Int)
    · rw [if_pos c2]; exact skip
    rw [if_neg c2]
    simp only [Option.bind_some]
    rw [if_pos (by omega), if_pos (by omega)]
    by_cases c3 : rd l0 j < 1
    · rw [if_pos c3]; exact skip
    rw [if_neg c3]
    by_cases c4 : rd l0 j > 100
    · rw [if_pos c4]; exact skip
    rw [if_neg c4, if_pos (by omega)]
    by_cases c5 : rd l1 j < 0
    · rw [if_pos c5]; exact skip
    rw [if_neg c5]
    by_cases c6 : rd l1 j > 1000000
    · rw [if_pos c6]; exact skip
    rw [if_neg c6, wr (z := now + d) (by omega), ← ht, wr (z := j + 1) (by omega)]
    obtain ⟨c, hc⟩ : ∃ c, c = rd l0 j := ⟨_, rfl⟩
    obtain ⟨q, hq⟩ : ∃ q, q = rd l1 j := ⟨_, rfl⟩
    obtain ⟨id, hid⟩ : ∃ id, id = j + 1 := ⟨_, rfl⟩
    rw [← hc, ← hq, ← hid]
    rw [← hc] at c3 c4
    rw [← hq] at c5 c6
    have hch : (fun id => rd l0 (id - 1)) id = c := by show rd l0 (id - 1) = c; rw [hc, hid, show j + 1 - 1 = j by omega]
    have hI2 : Inv (fun id => rd l0 (id - 1)) l t (B + 7) := hI.mono (by omega) (by omega)
    obtain ⟨C, hC⟩ : ∃ C : Int, C = B + 7 := ⟨_, rfl⟩
    rw [← hC] at hI2
    have okb : ∀ {l' : List S35} {t' B' : Int}, Inv (fun id => rd l0 (id - 1)) l' t' B' → B' ≤ 1000000000 → l'.length ≤ 16 ∧ ∀ x ∈ l', x.f1.length ≤ 100 ∧ ∀ z ∈ x.f1, -9223372036854775808 ≤ z ∧ z ≤ 9223372036854775807 := fun {l' t' B'} g gB => by
      have := right_len g.1 (by omega) (fun x hx => (g.2 x hx).2.1)
      exact ⟨by omega, fun x hx => ⟨(right_mem g.1 x hx).2.2.1, fun z hz => by have := (g.2 x hx).2.2.2 z hz; omega⟩⟩
    have U : ∀ (l' : List S35) (t' B' s : Int), Inv (fun id => rd l0 (id - 1)) l' t' B' → B' ≤ 1000000000 → 0 ≤ s → s ≤ 1000000000 → cool_Use.f k l' id 0 q c 0 0 false [] s = some (useR l' id c q s) := fun l' t' B' s g gB s0 s1 => by
      have o := okb g gB
      exact use_eq l' id 0 q c 0 0 s false [] k (by omega) (by omega) (fun x hx => ⟨by have := (o.2 x hx).1; omega, (o.2 x hx).2⟩) (by omega) (by omega) (by omega)
    have R : ∀ (l' : List S35) (t' B' s : Int), Inv (fun id => rd l0 (id - 1)) l' t' B' → B' ≤ 1000000000 → t' ≤ s → cool_Ready.f k l' id 0 q c 0 0 false [] s = some (c - ((aw l' id s).length : Int)) := fun l' t' B' s g gB s0 => by
      have o := okb g gB
      rw [ready_eq l' id 0 q c 0 0 false [] s k (by omega) (by omega) (fun x hx => by have := (o.2 x hx).1; omega) (by omega) (by have := aw_lenB l' id s 100 (fun x hx => (o.2 x hx).1); omega)]
      exact congrArg some (rdy_c g hch (by omega) s s0)
    have hac := aw_c hI2 hch (by omega) (id := id) t (Int.le_refl _)
    rw [R l t C t hI2 (by omega) (Int.le_refl _)]
    simp only [Option.bind_some]
    have NX : cool_Next.f k l id 0 q c 0 0 false [] t = some (if ((aw l id t).length : Int) < c then t else rd (aw l id t) 0) := by
      unfold cool_Next.f
      have o := okb hI2 (by omega)
      rw [R l t C t hI2 (by omega) (Int.le_refl _)]
      simp only [Option.bind_some]
      by_cases g : ((aw l id t).length : Int) < c
      · rw [if_pos (by omega), if_pos g]
      · rw [if_neg (by omega), if_neg (by omega), away_eq l id t k (by omega) (by omega) (fun x hx => by have := (o.2 x hx).1; omega)]
        simp only [Option.bind_some]
        rw [if_pos (by omega), if_neg g]
    rw [NX]
    simp only [Option.bind_some]
    have RI : ∀ {l' : List S35} {t' B' : Int}, Inv (fun id => rd l0 (id - 1)) l' t' B' → B' ≤ 1000000000 → cool_Right.f k l' = some true := fun {l' t' B'} g gB => by
      have o := okb g gB
      rw [right_eq l' k (by omega) (by omega), g.1]
    by_cases g : ((aw l id t).length : Int) < c
    · obtain ⟨mm, u1, u2, u3⟩ := use_ok hI2 (by omega) hch (by omega) (by omega) (by omega) (by omega) (by omega) g (cool := q)
      have nx := ih mm t (C + 1000000) u2 (by omega) (by omega) (by omega) (by omega)
      rw [if_pos g, U l t C t hI2 (by omega) (by omega) (by omega), u1]
      simp only [Option.bind_some]
      rw [if_neg (by rw [decide_eq_true (by omega : c - ((aw l id t).length : Int) > 0)]; simp), if_neg (by omega), RI u2 (by omega)]
      simp only [Option.bind_some, if_true]
      rw [R mm t (C + 1000000) t u2 (by omega) (Int.le_refl _), u3]
      simp only [Option.bind_some]
      rw [wr (z := c - ((aw l id t).length : Int) - 1) (by omega)]
      by_cases c7 : q > 0
      · rw [if_pos c7, if_pos (by omega), if_neg (by omega)]
        exact nx
      · rw [if_neg c7, if_neg (by omega), if_neg c7, if_pos (by omega), if_pos (by omega)]
        exact nx
    · obtain ⟨n1, n2, n3, n4⟩ := next_ok hI2 (by omega) hch (by omega) (by omega) (by omega) (by omega) (by omega) g (cool := q)
      obtain ⟨a, ha⟩ : ∃ a, a = rd (aw l id t) 0 := ⟨_, rfl⟩
      rw [← ha] at n1 n2 n3 n4
      have hI3 : Inv (fun id => rd l0 (id - 1)) l a C := hI2.mono (by omega) (Int.le_refl _)
      obtain ⟨mm, u1, _, _⟩ := use_ok hI3 (by omega) hch (by omega) (by omega) (by omega) (by omega) (by omega) n3 (cool := q)
      have v := use_no hI2 (by omega) hch (by omega) (by omega) (by omega) (by omega) (by omega) g (cool := q)
      have nx := ih l t C hI2 (by omega) (by omega) (by omega) (by omega)
      rw [if_neg g, ← ha, U l t C t hI2 (by omega) (by omega) (by omega), U l t C a hI2 (by omega) (by omega) (by omega), u1, v]
      simp only [Option.bind_some]
      rw [if_neg (by rw [decide_eq_false (by omega : ¬ c - ((aw l id t).length : Int) > 0)]; simp), if_neg (by omega), if_neg (by simp), if_pos trivial, wr (z := a - 1) (by omega), R l t C (a - 1) hI2 (by omega) (by omega), n4]
      simp only [Option.bind_some]
      rw [if_pos (by omega), RI hI2 (by omega)]
      simp only [Option.bind_some, if_true]
      exact nx
theorem CoolUses : barrowlaw16_CoolUses.Pure := by
  intro l0 l1 l2 _ _ h2
  obtain ⟨K, hK⟩ : ∃ K, K = 10000 := ⟨_, rfl⟩
  refine ⟨K, ?_⟩
  unfold barrowlaw16_CoolUses.f
  rw [small_atB _ (by omega)]
  simp only [Option.bind_some]
  by_cases c1 : (l0.length : Int) > 20
  · rw [if_pos c1]
  · rw [if_neg c1]
    by_cases c2 : (l2.length : Int) > 200
    · rw [if_pos c2]
    · rw [if_neg c2]
      exact uses_loop l0 l1 l2 (by omega) (by omega) (fun x hx => ⟨i64_of (h2.2.2 x hx).1, i64_of (h2.2.2 x hx).2⟩) l2.length 0 [] 0 1400 (by omega) ⟨rfl, by simp⟩ (by omega) (by omega) (by omega) (by omega) K (by omega)
end Go.Proofs.Ytbhgohomgfjjfaa.Pure
