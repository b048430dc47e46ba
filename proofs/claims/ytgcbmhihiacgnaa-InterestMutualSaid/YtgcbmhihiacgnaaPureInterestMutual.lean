/- InterestMutual, in plain Lean. -/
import Derived.Test.YtgcbmhihiacgnaaInB
import Derived.Test.YtgcbmhihiacgnaaXINx16
import Derived.Test.YtgcbmhihiacgnaaXINx15
set_option linter.unusedSimpArgs false
set_option linter.unusedVariables false
namespace Go.Proofs.Ytgcbmhihiacgnaa.Pure
open Go.RowKit Go.Proofs.Ytgcbmhihiacgnaa.XIN Go.Proofs.YtgcbmhihiacgnaaW.PrintWords Go.Proofs.YtgcbmhihiacgnaaW.PrintLast Go.Proofs.YtgcbmhihiacgnaaS
theorem lhas_l0 (l : List Int) (u : Int) (hl : l.length ≤ 100000) : ∀ (n i k : Nat), i + n = l.length → n < k → barrowlaw24_has.l0 k l u i = some (decide (u ∈ l.drop i)) := by
  intro n
  induction n with
  | zero =>
    intro i k hi hk
    obtain ⟨k, rfl⟩ : ∃ q, k = q + 1 := ⟨k - 1, by omega⟩
    rw [barrowlaw24_has.l0, if_neg (by omega), List.drop_of_length_le (by omega)]
    simp
  | succ n ih =>
    intro i k hi hk
    obtain ⟨k, rfl⟩ : ∃ q, k = q + 1 := ⟨k - 1, by omega⟩
    rw [barrowlaw24_has.l0, if_pos (by omega), if_pos (by omega), rd_drop (l := l) (by omega), wrap64_in (by omega), succ_cast]
    by_cases e : rd l i = u
    · rw [if_pos e]; simp [e]
    · rw [if_neg e, ih (i + 1) k (by omega) (by omega)]; simp [Ne.symm e]
theorem lhas_eq (l : List Int) (u : Int) (hl : l.length ≤ 100000) {k : Nat} (hk : l.length < k) : barrowlaw24_has.f k l u = some (decide (u ∈ l)) := by
  have := lhas_l0 l u hl l.length 0 k (by omega) (by omega)
  rw [List.drop_zero] at this
  exact this
theorem mem_setv (l : List S50) (m : List S36) (u r z : Int) : z ∈ setv l m u r ↔ ∃ y, placeOf l u = some y ∧ (z = u ∨ (u ∈ m.map (·.f0) ∧ z ∈ raidv l m) ∨ z ∈ closev l y r) := by
  unfold setv
  cases hp : placeOf l u with
  | none => simp
  | some y =>
    simp only [mem_canonv, List.mem_cons, List.mem_append]
    constructor
    · rintro (h | h | h)
      · exact ⟨y, rfl, .inl h⟩
      · split at h
        · rename_i c; exact ⟨y, rfl, .inr (.inl ⟨c, h⟩)⟩
        · simp at h
      · exact ⟨y, rfl, .inr (.inr h)⟩
    · rintro ⟨y', e, h⟩
      injection e with e
      subst e
      rcases h with h | ⟨c, h⟩ | h
      · exact .inl h
      · exact .inr (.inl (by rw [if_pos c]; exact h))
      · exact .inr (.inr h)
theorem mem_closev (l : List S50) (y : S41) (r z : Int) : z ∈ closev l y r ↔ ∃ q, placeOf l z = some q ∧ nr y q r = true := by
  unfold closev
  rw [List.mem_filter]
  constructor
  · rintro ⟨_, h⟩
    cases hq : placeOf l z with
    | none => rw [hq] at h; cases h
    | some q => rw [hq] at h; exact ⟨q, rfl, h⟩
  · rintro ⟨q, h1, h2⟩
    refine ⟨placeOf_some.1 (by rw [h1]; rfl), ?_⟩
    rw [h1]; exact h2
theorem mutv_iff (l : List S50) (a b r : Int) : mutv l a b r = true ↔ ∃ p q, placeOf l a = some p ∧ placeOf l b = some q ∧ nr p q r = true := by
  unfold mutv
  cases ha : placeOf l a with
  | none => simp
  | some p =>
    cases hb : placeOf l b with
    | none => simp
    | some q => simp
theorem mutv_comm (l : List S50) (a b r : Int) : mutv l a b r = mutv l b a r := by
  have key : ∀ a b, mutv l a b r = true → mutv l b a r = true := fun a b h => by
    obtain ⟨p, q, h1, h2, h3⟩ := (mutv_iff l a b r).1 h
    exact (mutv_iff l b a r).2 ⟨q, p, h2, h1, by unfold nr at *; rw [nearv_comm]; exact h3⟩
  cases h : mutv l a b r with
  | true => exact (key a b h).symm
  | false =>
    cases h' : mutv l b a r with
    | false => rfl
    | true => rw [key b a h'] at h; cases h
theorem wov_nil {l m : List Int} (h : ∀ z, z ∈ l → z ∈ m) : wov l m = [] := by
  unfold wov
  rw [canonv_nil, List.filter_eq_nil_iff]
  intro z hz
  simpa using h z hz
theorem InterestMutual : barrowlaw24_InterestMutual.Pure := by
  intro l m a b r h1 h2 h3 h4 h5
  refine ⟨20000, ?_⟩
  have hin : ∀ p ∈ l, In41 p.f1 := fun p hp => by
    obtain ⟨_, w1, w2⟩ := h1.2.2 p hp
    exact ⟨i64_of w1, i64_of w2⟩
  have hr : In64 r := i64_of h5
  unfold barrowlaw24_InterestMutual.f
  rw [small_eq (by omega), Option.bind_some]
  by_cases c1 : (l.length : Int) > 80
  · rw [if_pos c1]
  · rw [if_neg c1]
    by_cases c2 : (m.length : Int) > 80
    · rw [if_pos c2]
    · rw [if_neg c2]
      have hl : l.length ≤ 80 := by omega
      have hm : m.length ≤ 80 := by omega
      have s1 := setv_len l m a r hl hm
      have s2 := setv_len l m b r hl hm
      have s3 := setv_len l [] a r hl (by simp)
      have s4 := setv_len l m a (r + 1) hl hm
      rw [set_eq l m a r hl hm hr hin (by omega), Option.bind_some, set_eq l m b r hl hm hr hin (by omega), Option.bind_some, set_eq l [] a r hl (by simp) hr hin (by omega), Option.bind_some, mutual_eq l a b r hl hr hin (by omega), Option.bind_some, mutual_eq l b a r hl hr hin (by omega), Option.bind_some, mutv_comm l b a r, if_neg (by simp)]
      -- what stands behind the look at whom one hears of
      have tail : ∀ z : Option Bool, z = (if r < 0 then (some true) else (if r > 1048576 then (some true) else ((interest_Set.f 20000 l m a (wrap64 (r + 1))).bind fun t504 => ((interest_Change.f 20000 (setv l m a r) t504).bind fun bt505 => ((interest_Change.f 20000 (setv l [] a r) (setv l m a r)).bind fun bt507 => (if true = true then (if (bt505.1.length : Int) = 0 then (if (bt507.1.length : Int) = 0 then ((barrowlaw24_has.f 20000 (setv l m a r) a).bind fun t509 => (if (t509 == (decide (((setv l m a r).length : Int) > 0))) = true then (some true) else (none))) else (none)) else (none)) else (none))))))) → z = some true := by
        rintro z rfl
        split
        · rfl
        · split
          · rfl
          · rename_i d1 d2
            rw [wrap64_in (by omega), set_eq l m a (r + 1) hl hm (by omega) hin (by omega), Option.bind_some, change_eq _ _ (by omega) (by omega) (by omega), Option.bind_some, change_eq _ _ (by omega) (by omega) (by omega), Option.bind_some, if_pos rfl]
            have e1 : wov (setv l m a r) (setv l m a (r + 1)) = [] := wov_nil fun z hz => by
              obtain ⟨y, p1, p2⟩ := (mem_setv l m a r z).1 hz
              refine (mem_setv l m a (r + 1) z).2 ⟨y, p1, ?_⟩
              rcases p2 with p2 | p2 | p2
              · exact .inl p2
              · exact .inr (.inl p2)
              · obtain ⟨q, q1, q2⟩ := (mem_closev l y r z).1 p2
                exact .inr (.inr ((mem_closev l y (r + 1) z).2 ⟨q, q1, nearv_up _ _ _ _ _ (by omega) q2⟩))
            have e2 : wov (setv l [] a r) (setv l m a r) = [] := wov_nil fun z hz => by
              obtain ⟨y, p1, p2⟩ := (mem_setv l [] a r z).1 hz
              refine (mem_setv l m a r z).2 ⟨y, p1, ?_⟩
              rcases p2 with p2 | p2 | p2
              · exact .inl p2
              · simp at p2
              · exact .inr (.inr p2)
            rw [e1, e2, if_pos (by simp), if_pos (by simp), lhas_eq (setv l m a r) a (by omega) (by omega), Option.bind_some]
            have e3 : decide (a ∈ setv l m a r) = decide (((setv l m a r).length : Int) > 0) := by
              rw [decide_eq_decide]
              constructor
              · intro h; have := List.length_pos_of_mem h; omega
              · intro h
                obtain ⟨z, hz⟩ := List.exists_mem_of_length_pos (show 0 < (setv l m a r).length by omega)
                obtain ⟨y, p1, _⟩ := (mem_setv l m a r z).1 hz
                exact (mem_setv l m a r a).2 ⟨y, p1, .inl rfl⟩
            rw [e3, if_pos (by simp)]
      cases hn : mutv l a b r with
      | true =>
        obtain ⟨p, q, q1, q2, q3⟩ := (mutv_iff l a b r).1 hn
        have m1 : b ∈ setv l m a r := (mem_setv l m a r b).2 ⟨p, q1, .inr (.inr ((mem_closev l p r b).2 ⟨q, q2, q3⟩))⟩
        have m2 : a ∈ setv l m b r := (mem_setv l m b r a).2 ⟨q, q2, .inr (.inr ((mem_closev l q r a).2 ⟨p, q1, by unfold nr at *; rw [nearv_comm]; exact q3⟩))⟩
        rw [if_pos rfl, lhas_eq (setv l m a r) b (by omega) (by omega), Option.bind_some, if_pos (by simpa using m1), lhas_eq (setv l m b r) a (by omega) (by omega), Option.bind_some, if_pos (by simpa using m2)]
        exact tail _ rfl
      | false =>
        rw [if_neg (by decide), lhas_eq (setv l [] a r) b (by omega) (by omega), Option.bind_some]
        by_cases hz : b ∈ setv l [] a r
        · rw [if_pos (by simpa using hz)]
          obtain ⟨y, p1, p2⟩ := (mem_setv l [] a r b).1 hz
          have hab : a = b := by
            rcases p2 with p2 | p2 | p2
            · exact p2.symm
            · simp at p2
            · obtain ⟨q, q1, q2⟩ := (mem_closev l y r b).1 p2
              have := (mutv_iff l a b r).2 ⟨y, q, p1, q1, q2⟩
              rw [hn] at this; cases this
          rw [if_pos hab]
          exact tail _ rfl
        · rw [if_neg (by simpa using hz)]
          exact tail _ rfl
end Go.Proofs.Ytgcbmhihiacgnaa.Pure
