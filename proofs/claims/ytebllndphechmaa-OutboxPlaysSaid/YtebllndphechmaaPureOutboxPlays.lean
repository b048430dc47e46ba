/- A box, step by step: the program's box is the document's. -/
import Derived.Test.YtebllndphechmaaOutA
import Derived.Test.YtebllndphechmaaXOBx4
set_option linter.unusedSimpArgs false
set_option linter.unusedVariables false
set_option linter.unusedSectionVars false
namespace Go.Proofs.Ytebllndphechmaa.Pure
open Go.RowKit Go.Proofs.Ytebllndphechmaa.XOB Go.Proofs.YtebllndphechmaaW.PrintWords Go.Proofs.YtebllndphechmaaW.PrintLast Go.Proofs.YtebllndphechmaaW.PrintMore

section
variable (l1 : List S29) (l2 : List (List Int)) (c : Int) (hl1 : l1.length ≤ 300)
include hl1
/-- The state of both boxes ahead of step i: it comes to true. -/
abbrev At (i : Nat) (L : List (List Int)) (b : Bool) : Prop := Ev (fun k => barrowlaw26_OutboxPlays.l0 k l1 l2 i true c L (c, L) b b = some true)
theorem plays_202 (A : List (List Int)) (L M : List (List Int)) (b : Bool) (i n : Nat) (hn : n < A.length) (hA : A.length ≤ 500)
    (h : ∀ y : List (List Int), y.map List.length = A.map List.length → Ev (fun k => barrowlaw26_OutboxPlays.l201 k l1 l2 i true c b b A (c, L) M true y ((n + 1 : Nat) : Int) = some true)) :
    ∀ (m j : Nat) (y : List (List Int)), (rd_L1 y n).length < 140737488355328 → j + m = (rd_L1 y n).length → y.map List.length = A.map List.length → Ev (fun k => barrowlaw26_OutboxPlays.l202 k l1 l2 i true c b b A (c, L) M true n y j = some true) := by
  intro m
  induction m with
  | zero =>
    intro j y hl hj hy
    refine (h y hy).step fun k hk => ?_
    rw [barrowlaw26_OutboxPlays.l202, if_pos (by omega), if_pos (by omega)]
    simp only [Option.bind_some]
    rw [if_neg (by omega), w64 (by omega) (by omega)]
    exact hk
  | succ m ih =>
    intro j y hl hj hy
    have hny : n < y.length := by have := congrArg List.length hy; simp at this; omega
    have hy2 : (y.set n ((rd_L1 y n).set j 99)).map List.length = A.map List.length := by
      rw [← hy]
      apply List.ext_getElem (by simp)
      intro q h1 h2
      simp only [List.getElem_map, List.getElem_set]
      split
      · rename_i e
        subst e
        rw [List.length_set, rdL_get hny]
      · rfl
    have hr : (rd_L1 (y.set n ((rd_L1 y n).set j 99)) n).length = (rd_L1 y n).length := by
      rw [rdL_get (by simpa using hny)]
      simp
    refine (ih (j + 1) (y.set n ((rd_L1 y n).set j 99)) (by omega) (by omega) hy2).step fun k hk => ?_
    rw [barrowlaw26_OutboxPlays.l202, if_pos (by omega), if_pos (by omega)]
    simp only [Option.bind_some]
    rw [if_pos (by omega), if_pos (by omega), w64 (by omega) (by omega)]
    exact hk
theorem plays_201 (A : List (List Int)) (L : List (List Int)) (b : Bool) (i : Nat) (hi : i < l1.length) (hA : A.length ≤ 500) (hAx : ∀ x ∈ A, x.length < 140737488355328) (h : At l1 l2 c (i + 1) L b) :
    ∀ (m n : Nat) (y : List (List Int)), n + m = A.length → y.map List.length = A.map List.length → Ev (fun k => barrowlaw26_OutboxPlays.l201 k l1 l2 i true c b b A (c, L) L true y n = some true) := by
  intro m
  induction m with
  | zero =>
    intro n y hn hy
    refine h.step fun k hk => ?_
    rw [barrowlaw26_OutboxPlays.l201, if_neg (by omega), if_pos rfl]
    simp only [outbox_Box_Len_i1.f, outbox_Box_Lost_i1.f, Option.bind_some, if_true, bne_self_eq_false]
    rw [if_neg (by decide), w64 (by omega) (by omega)]
    simpa using hk
  | succ m ih =>
    intro n y hn hy
    have hny : n < y.length := by have := congrArg List.length hy; simp at this; omega
    have hln : (rd_L1 y n).length = (A[n]'(by omega)).length := by
      rw [rdL_get hny]
      have := congrArg (fun z => z[n]?) hy
      simp only [List.getElem?_map, List.getElem?_eq_getElem hny, List.getElem?_eq_getElem (show n < A.length by omega), Option.map_some, Option.some.injEq] at this
      exact this
    have hlt := hAx _ (List.getElem_mem (show n < A.length by omega))
    refine (plays_202 l1 l2 c hl1 A L L b i n (by omega) hA (fun y hy => ih (n + 1) y (by omega) hy) (rd_L1 y n).length 0 y (by omega) (by omega) hy).step fun k hk => ?_
    rw [barrowlaw26_OutboxPlays.l201, if_pos (by omega), if_pos (by omega)]
    exact hk
theorem plays_302 (A : List (List Int)) (L M : List (List Int)) (b : Bool) (i n : Nat) (hn : n < A.length) (hA : A.length ≤ 500)
    (h : ∀ y : List (List Int), y.map List.length = A.map List.length → Ev (fun k => barrowlaw26_OutboxPlays.l301 k l1 l2 i true c b b A (c, L) M true y ((n + 1 : Nat) : Int) = some true)) :
    ∀ (m j : Nat) (y : List (List Int)), (rd_L1 y n).length < 140737488355328 → j + m = (rd_L1 y n).length → y.map List.length = A.map List.length → Ev (fun k => barrowlaw26_OutboxPlays.l302 k l1 l2 i true c b b A (c, L) M true n y j = some true) := by
  intro m
  induction m with
  | zero =>
    intro j y hl hj hy
    refine (h y hy).step fun k hk => ?_
    rw [barrowlaw26_OutboxPlays.l302, if_pos (by omega), if_pos (by omega)]
    simp only [Option.bind_some]
    rw [if_neg (by omega), w64 (by omega) (by omega)]
    exact hk
  | succ m ih =>
    intro j y hl hj hy
    have hny : n < y.length := by have := congrArg List.length hy; simp at this; omega
    have hy2 : (y.set n ((rd_L1 y n).set j 99)).map List.length = A.map List.length := by
      rw [← hy]
      apply List.ext_getElem (by simp)
      intro q h1 h2
      simp only [List.getElem_map, List.getElem_set]
      split
      · rename_i e
        subst e
        rw [List.length_set, rdL_get hny]
      · rfl
    have hr : (rd_L1 (y.set n ((rd_L1 y n).set j 99)) n).length = (rd_L1 y n).length := by
      rw [rdL_get (by simpa using hny)]
      simp
    refine (ih (j + 1) (y.set n ((rd_L1 y n).set j 99)) (by omega) (by omega) hy2).step fun k hk => ?_
    rw [barrowlaw26_OutboxPlays.l302, if_pos (by omega), if_pos (by omega)]
    simp only [Option.bind_some]
    rw [if_pos (by omega), if_pos (by omega), w64 (by omega) (by omega)]
    exact hk
theorem plays_301 (A : List (List Int)) (L : List (List Int)) (b : Bool) (i : Nat) (hi : i < l1.length) (hA : A.length ≤ 500) (hAx : ∀ x ∈ A, x.length < 140737488355328) (h : At l1 l2 c (i + 1) L b) :
    ∀ (m n : Nat) (y : List (List Int)), n + m = A.length → y.map List.length = A.map List.length → Ev (fun k => barrowlaw26_OutboxPlays.l301 k l1 l2 i true c b b A (c, L) L true y n = some true) := by
  intro m
  induction m with
  | zero =>
    intro n y hn hy
    refine h.step fun k hk => ?_
    rw [barrowlaw26_OutboxPlays.l301, if_neg (by omega), if_pos rfl]
    simp only [outbox_Box_Len_i1.f, outbox_Box_Lost_i1.f, Option.bind_some, if_true, bne_self_eq_false]
    rw [if_neg (by decide), w64 (by omega) (by omega)]
    simpa using hk
  | succ m ih =>
    intro n y hn hy
    have hny : n < y.length := by have := congrArg List.length hy; simp at this; omega
    have hln : (rd_L1 y n).length = (A[n]'(by omega)).length := by
      rw [rdL_get hny]
      have := congrArg (fun z => z[n]?) hy
      simp only [List.getElem?_map, List.getElem?_eq_getElem hny, List.getElem?_eq_getElem (show n < A.length by omega), Option.map_some, Option.some.injEq] at this
      exact this
    have hlt := hAx _ (List.getElem_mem (show n < A.length by omega))
    refine (plays_302 l1 l2 c hl1 A L L b i n (by omega) hA (fun y hy => ih (n + 1) y (by omega) hy) (rd_L1 y n).length 0 y (by omega) (by omega) hy).step fun k hk => ?_
    rw [barrowlaw26_OutboxPlays.l301, if_pos (by omega), if_pos (by omega)]
    exact hk
theorem plays_3 (L : List (List Int)) (b : Bool) (i : Nat) (hi : i < l1.length) (p : List Int) (hp : p.length < 140737488355328) (h : At l1 l2 c (i + 1) L b) :
    ∀ (m j : Nat) (y : List Int), j + m = p.length → Ev (fun k => barrowlaw26_OutboxPlays.l3 k l1 l2 i j y true c p b (c, L) L b = some true) := by
  intro m
  induction m with
  | zero =>
    intro j y hj
    refine h.step fun k hk => ?_
    rw [barrowlaw26_OutboxPlays.l3, if_neg (by omega)]
    simp only [outbox_Box_Len_i1.f, outbox_Box_Lost_i1.f, Option.bind_some, if_true, bne_self_eq_false]
    rw [if_neg (by decide), w64 (by omega) (by omega)]
    simpa using hk
  | succ m ih =>
    intro j y hj
    refine (ih (j + 1) (y.set j 98) (by omega)).step fun k hk => ?_
    rw [barrowlaw26_OutboxPlays.l3, if_pos (by omega), if_pos (by omega)]
    simp only [Option.bind_some]
    rw [w64 (by omega) (by omega)]
    exact hk
theorem plays_main (hc : 1 ≤ c ∧ c ≤ 64) (hl2 : l2.length ≤ 60) (hx2 : ∀ x ∈ l2, x.length < 140737488355328) : ∀ (n i : Nat) (L : List (List Int)) (b : Bool), i + n = l1.length → (L.length : Int) ≤ c → (∀ x ∈ L, x.length < 140737488355328) → At l1 l2 c i L b := by
  intro n
  induction n with
  | zero =>
    intro i L b hi hL hx
    refine (Ev.ge 0).step fun k _ => ?_
    rw [barrowlaw26_OutboxPlays.l0, if_neg (by omega)]
  | succ n ih =>
    intro i L b hi hL hx
    have hil : i < l1.length := by omega
    have hm := many_le (rd_T29 l1 i).f1 L.length
    have hT : ∀ x ∈ L.take (many (rd_T29 l1 i).f1 L.length), x.length < 140737488355328 := fun x h => hx x (List.mem_of_mem_take h)
    have hD : ∀ x ∈ L.drop (many (rd_T29 l1 i).f1 L.length), x.length < 140737488355328 := fun x h => hx x (List.mem_of_mem_drop h)
    have hDl : ((L.drop (many (rd_T29 l1 i).f1 L.length)).length : Int) ≤ c := by rw [List.length_drop]; omega
    have hTl : (L.take (many (rd_T29 l1 i).f1 L.length)).length ≤ 500 := by rw [List.length_take]; omega
    by_cases c6 : Go.bits .and .i64 (rd_T29 l1 i).f0 7 = 6
    · refine ((ih (i + 1) [] false (by omega) (by simp; omega) (by simp)).and (Ev.ge (L.length + 1))).step fun k hk => ?_
      rw [barrowlaw26_OutboxPlays.l0, if_pos (by omega), if_pos (by omega), if_pos c6, again_eq k b c L (by omega)]
      simp only [barrowref26_Box_Again.f, outbox_Box_Len_i1.f, outbox_Box_Lost_i1.f, Option.bind_some, if_true, bne_self_eq_false]
      rw [if_neg (by decide), w64 (by omega) (by omega)]
      simpa using hk.1
    · by_cases c4 : Go.bits .and .i64 (rd_T29 l1 i).f0 7 = 4
      · refine ((plays_201 l1 l2 c hl1 (L.take (many (rd_T29 l1 i).f1 L.length)) (L.drop (many (rd_T29 l1 i).f1 L.length)) b i hil hTl hT (ih (i + 1) _ b (by omega) hDl hD) _ 0 _ (Nat.zero_add _) rfl).and (Ev.ge (L.length + 1))).step fun k hk => ?_
        rw [barrowlaw26_OutboxPlays.l0, if_pos (by omega), if_pos (by omega), if_neg c6, if_pos c4, drain_eq k _ b c L (by omega) (by omega), Option.bind_some, refdrain_eq _ b c L (by omega), Option.bind_some, same_eq k (L.take (many (rd_T29 l1 i).f1 L.length)) (by omega) (by rw [List.length_take]; omega), Option.bind_some]
        exact hk.1
      · by_cases c5 : Go.bits .and .i64 (rd_T29 l1 i).f0 7 = 5
        · refine ((plays_301 l1 l2 c hl1 (L.take (many (rd_T29 l1 i).f1 L.length)) (L.drop (many (rd_T29 l1 i).f1 L.length)) b i hil hTl hT (ih (i + 1) _ b (by omega) hDl hD) _ 0 _ (Nat.zero_add _) rfl).and (Ev.ge (L.length + 1))).step fun k hk => ?_
          rw [barrowlaw26_OutboxPlays.l0, if_pos (by omega), if_pos (by omega), if_neg c6, if_neg c4, if_pos c5, drain_eq k _ b c L (by omega) (by omega), Option.bind_some, refdrain_eq _ b c L (by omega), Option.bind_some, same_eq k (L.take (many (rd_T29 l1 i).f1 L.length)) (by omega) (by rw [List.length_take]; omega), Option.bind_some]
          exact hk.1
        · by_cases c0 : (l2.length : Int) > 0
          · have hmod : Int.tmod (i : Int) (l2.length : Int) = ((i % l2.length : Nat) : Int) := by rw [Int.ofNat_tmod]
            have hlt : i % l2.length < l2.length := Nat.mod_lt _ (by omega)
            have hp : (rd_L1 l2 ((i % l2.length : Nat) : Int)).length < 140737488355328 := by rw [rdL_get hlt]; exact hx2 _ (List.getElem_mem hlt)
            have hS : ((putS (rd_L1 l2 ((i % l2.length : Nat) : Int)) b c L).2.2.length : Int) ≤ c ∧ ∀ x ∈ (putS (rd_L1 l2 ((i % l2.length : Nat) : Int)) b c L).2.2, x.length < 140737488355328 := by
              unfold putS
              split
              · exact ⟨hL, hx⟩
              · split
                · refine ⟨by simp; omega, fun x h => ?_⟩
                  rcases List.mem_append.1 h with h | h
                  · exact hx x h
                  · rw [List.mem_singleton.1 h]; exact hp
                · exact ⟨by simp; omega, by simp⟩
            refine ((plays_3 l1 l2 c hl1 (putS (rd_L1 l2 ((i % l2.length : Nat) : Int)) b c L).2.2 (putS (rd_L1 l2 ((i % l2.length : Nat) : Int)) b c L).2.1 i hil _ hp (ih (i + 1) _ _ (by omega) hS.1 hS.2) _ 0 (rd_L1 l2 ((i % l2.length : Nat) : Int)) (Nat.zero_add _)).and (Ev.ge (L.length + 1))).step fun k hk => ?_
            rw [barrowlaw26_OutboxPlays.l0, if_pos (by omega), if_pos (by omega), if_neg c6, if_neg c4, if_neg c5, if_pos c0, Option.bind_some, if_neg (by omega), Option.bind_some, hmod, if_pos (by omega), if_pos (by omega), Option.bind_some, if_pos (by simpa using hp), Option.bind_some, List.nil_append, put_eq k _ b c L hp (by omega), Option.bind_some, Option.bind_some, refput_eq _ b c L hp (by omega), Option.bind_some, if_pos (by simp)]
            exact hk.1
          · refine ((ih (i + 1) L b (by omega) hL hx)).step fun k hk => ?_
            rw [barrowlaw26_OutboxPlays.l0, if_pos (by omega), if_pos (by omega), if_neg c6, if_neg c4, if_neg c5, if_neg c0]
            simp only [outbox_Box_Len_i1.f, outbox_Box_Lost_i1.f, Option.bind_some, if_true, bne_self_eq_false]
            rw [if_neg (by decide), w64 (by omega) (by omega)]
            simpa using hk
end
theorem OutboxPlays : barrowlaw26_OutboxPlays.Pure := by
  intro a0 l1 l2 _ h1 h2
  refine Ev.get ?_
  by_cases hA : l1.length ≤ 300
  · by_cases hB : l2.length ≤ 60
    · refine ((plays_main l1 l2 (capv a0) hA (capv_le a0) hB (fun x hx => by have := (h2.2.2 x hx).2.1; omega) l1.length 0 [] false (by omega) (by have := capv_le a0; simp; omega) (by simp)).and (small_ev.and (Ev.ge 1))).imp fun k hk => ?_
      obtain ⟨k, rfl⟩ : ∃ q, k = q + 1 := ⟨k - 1, by omega⟩
      unfold barrowlaw26_OutboxPlays.f
      rw [hk.2.1, Option.bind_some, new_eq k a0, Option.bind_some, if_neg (by omega), if_neg (by omega), refnew_eq k a0, Option.bind_some]
      exact hk.1
    · refine (small_ev.and (Ev.ge 1)).imp fun k hk => ?_
      obtain ⟨k, rfl⟩ : ∃ q, k = q + 1 := ⟨k - 1, by omega⟩
      unfold barrowlaw26_OutboxPlays.f
      rw [hk.1, Option.bind_some, new_eq k a0, Option.bind_some, if_neg (by omega), if_pos (by omega), if_pos rfl]
  · refine (small_ev.and (Ev.ge 1)).imp fun k hk => ?_
    obtain ⟨k, rfl⟩ : ∃ q, k = q + 1 := ⟨k - 1, by omega⟩
    unfold barrowlaw26_OutboxPlays.f
    rw [hk.1, Option.bind_some, new_eq k a0, Option.bind_some, if_pos (by omega), if_pos rfl]
end Go.Proofs.Ytebllndphechmaa.Pure
