/- Cool: what a use comes to. -/
import Derived.Test.YtbhgohomgfjjfaaCoA
import Derived.Test.YtbhgohomgfjjfaaXCOx6
import Derived.Test.YtbhgohomgfjjfaaXCOx4
import Derived.Test.YtbhgohomgfjjfaaXCOx5
import Derived.Test.YtbhgohomgfjjfaaXCOx3
import Derived.Test.YtbhgohomgfjjfaaXCOx1
set_option linter.unusedSimpArgs false
set_option linter.unusedVariables false
namespace Go.Proofs.Ytbhgohomgfjjfaa.Pure
open Go.RowKit Go.Proofs.Ytbhgohomgfjjfaa.XCO Go.Proofs.YtbhgohomgfjjfaaW.PrintWords Go.Proofs.YtbhgohomgfjjfaaW.PrintLast Go.Proofs.YtbhgohomgfjjfaaW.PrintMore

theorem liftB {α : Type} {f : Nat → Option α} (hm : ∀ k, LeO (f k) (f (k + 1))) {r : α} {k : Nat} (h : f k = some r) : ∀ j, f (k + j) = some r
  | 0 => h
  | j + 1 => hm (k + j) r (liftB hm h j)
theorem small_atB (k : Nat) (h : 40 ≤ k) : barrowlaw16_small.f k = some true := by
  have := liftB barrowlaw16_small.mono small_eq (k - 40)
  rwa [show 40 + (k - 40) = k by omega] at this
theorem aw_lenB (l : List S35) (id t : Int) (B : Nat) (h : ∀ x ∈ l, x.f1.length ≤ B) : (aw l id t).length ≤ B := by
  induction l with
  | nil => simp [aw]
  | cons y r ih =>
    simp only [aw]
    split
    · have := h y (by simp); have : (abv y.f1 t).length ≤ y.f1.length := List.length_filter_le _ _; omega
    · exact ih (fun x hx => h x (List.mem_cons_of_mem _ hx))
theorem srt_iffB (l : List Int) : srt l = true ↔ l.Pairwise (· ≤ ·) := by
  induction l with
  | nil => simp [srt]
  | cons a r ih =>
    cases r with
    | nil => simp [srt]
    | cons b r =>
      simp only [srt, Bool.and_eq_true, decide_eq_true_eq, ih]
      constructor
      · rintro ⟨h1, h2⟩
        refine List.pairwise_cons.2 ⟨fun c hc => ?_, h2⟩
        rcases List.mem_cons.1 hc with rfl | hc
        · exact h1
        · have := (List.pairwise_cons.1 h2).1 c hc; omega
      · intro h
        exact ⟨(List.pairwise_cons.1 h).1 b (by simp), (List.pairwise_cons.1 h).2⟩
def rst (l : List S35) (id : Int) : List S35 := l.filter (fun x => decide (x.f0 ≠ id))
theorem idx1_loop : ∀ (r p : List S35) (k : Nat) (id : Int), r.length < k → p.length + r.length < 17592186044416 →
    ∃ i : Int, api_Cool_26_i1.l0 k (p ++ r) (p.length : Int) id = some (i, id) ∧ ((i = -1 ∧ rst r id = r) ∨ (∃ q : Nat, i = ((p.length + q : Nat) : Int) ∧ q < r.length ∧ r.take q ++ rst (r.drop (q + 1)) id = rst r id))
  | [], p, 0, id, h, _ => by simp at h
  | [], p, k + 1, id, h, _ => ⟨-1, by unfold api_Cool_26_i1.l0; rw [if_neg (by simp)], .inl ⟨rfl, rfl⟩⟩
  | a :: r, p, 0, id, h, _ => by simp at h
  | a :: r, p, k + 1, id, h, hp => by
    simp only [List.length_cons] at h hp
    have e : wrap64 ((p.length : Int) + 1) = ((p ++ [a]).length : Int) := by rw [wr (by omega)]; simp
    unfold api_Cool_26_i1.l0
    rw [if_pos (by simp; omega), if_pos (by omega), rd35_mid, e]
    unfold cool_Reset_1_i1.f
    by_cases c : a.f0 = id
    · exact ⟨(p.length : Int), by rw [if_pos c]; rfl, .inr ⟨0, by simp, by simp, by simp [rst, c]⟩⟩
    · obtain ⟨i, h1, h2⟩ := idx1_loop r (p ++ [a]) k id (by omega) (by simp; omega)
      rw [← app_one] at h1
      refine ⟨i, by rw [if_neg c]; simpa using h1, ?_⟩
      rcases h2 with ⟨h2, h3⟩ | ⟨q, h2, h3, h4⟩
      · exact .inl ⟨h2, by simp only [rst, ne_eq] at h3 ⊢; rw [List.filter_cons_of_pos (by simp [c]), h3]⟩
      · refine .inr ⟨q + 1, by rw [h2]; simp; omega, by simp; omega, ?_⟩
        simp only [rst, ne_eq] at h4 ⊢
        rw [List.filter_cons_of_pos (by simp [c]), List.take_succ_cons, List.drop_succ_cons, List.cons_append, h4]
theorem copied_eq (l : List S35) (h : l.length < 100000) (hb : ∀ x ∈ l, x.f1.length < 100000) : cool_copied.f l = some l := by unfold cool_copied.f; rw [if_pos ⟨h, hb⟩]
theorem reset_eq (l : List S35) (id : Int) (k : Nat) (hk : l.length < k) (h : l.length < 100000) (hb : ∀ x ∈ l, x.f1.length < 100000) : cool_Reset.f k l id = some (rst l id) := by
  unfold cool_Reset.f
  rw [copied_eq l h hb]
  obtain ⟨i, h1, h2⟩ := idx1_loop l [] k id hk (by simp; omega)
  have h1' : api_Cool_26_i1.f k l id = some (i, id) := by simpa [api_Cool_26_i1.f] using h1
  simp only [Option.bind_some]
  rw [h1']
  simp only [Option.bind_some]
  rw [if_pos trivial]
  rcases h2 with ⟨rfl, h3⟩ | ⟨q, rfl, h3, h4⟩
  · rw [if_pos rfl, h3]
  · simp only [List.length_nil, Nat.zero_add, Int.toNat_natCast]
    rw [if_neg (by omega), if_pos ⟨by omega, by omega⟩]
    exact congrArg some h4
def ins (r : List S35) (x : S35) : List S35 := match r with
  | [] => [x]
  | y :: r => if y.f0 > x.f0 then x :: y :: r else y :: ins r x
theorem idx3_loop (x : S35) (a1 a2 a3 a4 a5 : Int) (a6 : Bool) (ef : List S76) : ∀ (r p : List S35) (k : Nat), r.length < k → p.length + r.length < 17592186044416 →
    ∃ (i : Int) (q : Nat), api_Cool_26_i3.l0 k (p ++ r) ef (p.length : Int) x.f0 a1 a2 a3 a4 a5 a6 = some (i, x.f0, a1, a2, a3, a4, a5, a6) ∧ q ≤ r.length ∧ ((i = -1 ∧ q = r.length) ∨ i = ((p.length + q : Nat) : Int)) ∧ r.take q ++ [x] ++ r.drop q = ins r x
  | [], p, 0, h, _ => by simp at h
  | [], p, k + 1, h, _ => ⟨-1, 0, by unfold api_Cool_26_i3.l0; rw [if_neg (by simp)], by simp, .inl ⟨rfl, rfl⟩, rfl⟩
  | a :: r, p, 0, h, _ => by simp at h
  | a :: r, p, k + 1, h, hp => by
    simp only [List.length_cons] at h hp
    have e : wrap64 ((p.length : Int) + 1) = ((p ++ [a]).length : Int) := by rw [wr (by omega)]; simp
    unfold api_Cool_26_i3.l0
    rw [if_pos (by simp; omega), if_pos (by omega), rd35_mid, e]
    unfold cool_Use_1_i1.f
    by_cases c : a.f0 > x.f0
    · exact ⟨(p.length : Int), 0, by rw [if_pos c]; rfl, by simp, .inr (by simp), by simp [ins, c]⟩
    · obtain ⟨i, q, h1, h2, h3, h4⟩ := idx3_loop x a1 a2 a3 a4 a5 a6 ef r (p ++ [a]) k (by omega) (by simp; omega)
      rw [← app_one] at h1
      refine ⟨i, q + 1, by rw [if_neg c]; simpa using h1, by simp; omega, ?_, ?_⟩
      · rcases h3 with ⟨h3, h5⟩ | h3
        · exact .inl ⟨h3, by simp; omega⟩
        · exact .inr (by rw [h3]; simp; omega)
      · simp only [ins, if_neg c, ← h4, List.take_succ_cons, List.drop_succ_cons, List.cons_append]
def lst (b : List Int) (now : Int) : Int := match b.getLast? with | some z => z | none => now
theorem longer_eq (b : List Int) (now cool : Int) (k : Nat) (hk : 1 ≤ k) (hb : b.length < 100000) (h1 : ∀ z ∈ b, -9223372036854775808 ≤ z ∧ z ≤ 9223372036854775807) (h2 : -9223372036854775808 ≤ now ∧ now ≤ 9223372036854775807) (h3 : -9223372036854775808 ≤ cool ∧ cool ≤ 9223372036854775807) :
    cool_longer_i1.f k b now cool = some (b ++ [satv (lst b now + cool)]) := by
  obtain ⟨k, rfl⟩ : ∃ j, k = j + 1 := ⟨k - 1, by omega⟩
  unfold cool_longer_i1.f
  have ht : b.take ((b.length : Int)).toNat = b := by simp
  rw [ht]
  rcases List.eq_nil_or_concat b with rfl | ⟨c, z, hcz⟩
  · rw [if_neg (by simp)]
    simp only [Option.bind_some, List.length_nil]
    rw [add_eq k _ _ h2 h3]
    simp [lst]
  · have hcz : b = c ++ [z] := by simpa using hcz
    subst hcz
    have hz := h1 z (by simp)
    simp only [List.length_append, List.length_cons, List.length_nil] at hb ⊢
    rw [if_pos (by omega)]
    simp only [Option.bind_some]
    have e : wrap64 (((c.length + (0 + 1) : Nat) : Int) - 1) = (c.length : Int) := by rw [wr (by omega)]; omega
    rw [e, if_pos (by omega), if_pos (by omega), rd_mid, add_eq k _ _ hz h3]
    simp only [Option.bind_some, List.length_append, List.length_cons, List.length_nil]
    rw [if_pos (by omega)]
    simp [lst]
abbrev rdy (l : List S35) (id charges now : Int) : Int := mx (satv (charges - ((aw l id now).length : Int))) 0
def useB (l : List S35) (id cool now : Int) : List Int := if cool > 0 then aw l id now ++ [satv (lst (aw l id now) now + cool)] else aw l id now
def useR (l : List S35) (id charges cool now : Int) : List S35 × Bool :=
  if rightB 0 l = true ∧ 1 ≤ id ∧ (aw l id now).length < 100 ∧ rdy l id charges now ≠ 0 then (if (useB l id cool now).length = 0 then (rst l id, true) else (ins (rst l id) ⟨id, useB l id cool now⟩, true)) else (l, false)
theorem aw_sub (l : List S35) (id t z : Int) (h : z ∈ aw l id t) : ∃ x ∈ l, z ∈ x.f1 := by
  induction l with
  | nil => simp [aw] at h
  | cons y r ih =>
    simp only [aw] at h
    split at h
    · exact ⟨y, by simp, (List.mem_filter.1 h).1⟩
    · obtain ⟨x, hx, hz⟩ := ih h; exact ⟨x, List.mem_cons_of_mem _ hx, hz⟩
theorem insert_eq (x : S35) (out : List S35) (q : Nat) (i : Int) (hi : i = (q : Int)) (hq : q ≤ out.length) (h : out.length < 100000) (he : out.take q ++ [x] ++ out.drop q = ins out x) : slices_Insert.f out i [x] = some (ins out x) := by
  unfold slices_Insert.f
  rw [hi, if_pos ⟨by omega, by omega, rfl, h⟩, Int.toNat_natCast, he]
theorem use_tail (l : List S35) (id a1 cool charges a4 a5 now : Int) (a6 : Bool) (ef : List S76) (k : Nat) (b : List Int) (hb : ¬ b.length = 0) (hk : l.length + 300 ≤ k) (hl : l.length < 100000) :
    ((api_Cool_26_i3.f k (rst l id) id a1 cool charges a4 a5 a6 ef).bind fun bt => (if bt.1 < 0 then ((slices_Insert.f (rst l id) ((rst l id).length : Int) [(⟨bt.2.1, b⟩ : S35)]).bind fun t => some (t, true)) else ((slices_Insert.f (rst l id) bt.1 [(⟨bt.2.1, b⟩ : S35)]).bind fun t => some (t, true)))) = some (ins (rst l id) ⟨id, b⟩, true) := by
  have hrl : (rst l id).length ≤ l.length := List.length_filter_le _ _
  obtain ⟨i, q, h1, h2, h3, h4⟩ := idx3_loop ⟨id, b⟩ a1 cool charges a4 a5 a6 ef (rst l id) [] k (by omega) (by simp; omega)
  have h1' : api_Cool_26_i3.f k (rst l id) id a1 cool charges a4 a5 a6 ef = some (i, id, a1, cool, charges, a4, a5, a6) := by simpa [api_Cool_26_i3.f] using h1
  rw [h1']
  simp only [Option.bind_some]
  rcases h3 with ⟨h3, h5⟩ | h3
  · rw [if_pos (by omega), insert_eq ⟨id, b⟩ (rst l id) q _ (by omega) h2 (by omega) h4]; rfl
  · simp only [List.length_nil, Nat.zero_add] at h3
    rw [if_neg (by omega), insert_eq ⟨id, b⟩ (rst l id) q _ h3 h2 (by omega) h4]; rfl
theorem use_eq (l : List S35) (id a1 cool charges a4 a5 now : Int) (a6 : Bool) (ef : List S76) (k : Nat) (hk : l.length + 300 ≤ k) (hl : l.length < 100000) (hb : ∀ x ∈ l, x.f1.length ≤ 200 ∧ ∀ z ∈ x.f1, -9223372036854775808 ≤ z ∧ z ≤ 9223372036854775807)
    (hc : -9223372036854775808 ≤ charges ∧ charges ≤ 9223372036854775807) (hn : -9223372036854775808 ≤ now ∧ now ≤ 9223372036854775807) (hq : -9223372036854775808 ≤ cool ∧ cool ≤ 9223372036854775807) :
    cool_Use.f k l id a1 cool charges a4 a5 a6 ef now = some (useR l id charges cool now) := by
  have ha := aw_lenB l id now 200 (fun x hx => (hb x hx).1)
  have hcp := copied_eq l hl (fun x hx => by have := (hb x hx).1; omega)
  unfold cool_Use.f
  rw [away_eq l id now k (by omega) (by omega) (fun x hx => by have := (hb x hx).1; omega), right_eq l k (by omega) (by omega)]
  simp only [Option.bind_some]
  by_cases h1 : rightB 0 l = true
  · rw [if_pos h1]
    by_cases h2 : 1 ≤ id
    · rw [if_neg (by omega)]
      by_cases h3 : (aw l id now).length < 100
      · rw [if_neg (by omega), ready_eq l id a1 cool charges a4 a5 a6 ef now k (by omega) (by omega) (fun x hx => by have := (hb x hx).1; omega) hc (by omega)]
        simp only [Option.bind_some]
        by_cases h4 : rdy l id charges now = 0
        · have hR : useR l id charges cool now = (l, false) := by unfold useR; rw [if_neg (fun h => h.2.2.2 h4)]
          rw [if_pos h4, hcp, hR]; rfl
        · have hR : useR l id charges cool now = (if (useB l id cool now).length = 0 then (rst l id, true) else (ins (rst l id) ⟨id, useB l id cool now⟩, true)) := by unfold useR; rw [if_pos ⟨h1, h2, h3, h4⟩]
          rw [if_neg h4, hR]
          unfold useB
          by_cases h5 : cool > 0
          · rw [if_pos h5, longer_eq _ _ _ _ (by omega) (by omega) (fun z hz => by obtain ⟨x, hx, hz⟩ := aw_sub l id now z hz; exact (hb x hx).2 z hz) hn hq]
            simp only [Option.bind_some, if_pos h5]
            rw [reset_eq l id k (by omega) hl (fun x hx => by have := (hb x hx).1; omega)]
            have hne : ¬ (aw l id now ++ [satv (lst (aw l id now) now + cool)]).length = 0 := by simp
            simp only [Option.bind_some]
            rw [if_neg (by omega), if_neg hne]
            exact use_tail l id a1 cool charges a4 a5 now a6 ef k _ hne hk hl
          · rw [if_neg h5, reset_eq l id k (by omega) hl (fun x hx => by have := (hb x hx).1; omega)]
            simp only [Option.bind_some, if_neg h5]
            by_cases h6 : (aw l id now).length = 0
            · rw [if_pos (by omega), if_pos h6]
            · rw [if_neg (by omega), if_neg h6]
              exact use_tail l id a1 cool charges a4 a5 now a6 ef k _ h6 hk hl
      · have hR : useR l id charges cool now = (l, false) := by unfold useR; rw [if_neg (fun h => h3 h.2.2.1)]
        rw [if_pos (by omega), hcp, hR]; rfl
    · have hR : useR l id charges cool now = (l, false) := by unfold useR; rw [if_neg (fun h => h2 h.2.1)]
      rw [if_pos (by omega), hcp, hR]; rfl
  · have hR : useR l id charges cool now = (l, false) := by unfold useR; rw [if_neg (fun h => h1 h.1)]
    rw [if_neg h1, hcp, hR]; rfl
end Go.Proofs.Ytbhgohomgfjjfaa.Pure
