/- Interest: what the document's functions come to; the small case. -/
import Derived.Test.YtgcbmhihiacgnaaInA
import Derived.Test.YtgcbmhihiacgnaaXINx5
import Derived.Test.YtgcbmhihiacgnaaXINx6
import Derived.Test.YtgcbmhihiacgnaaXINx8
import Derived.Test.YtgcbmhihiacgnaaXINx9
import Derived.Test.YtgcbmhihiacgnaaXINx10
import Derived.Test.YtgcbmhihiacgnaaXINx12
import Derived.Test.YtgcbmhihiacgnaaXINx11
set_option linter.unusedSimpArgs false
set_option linter.unusedVariables false
namespace Go.Proofs.Ytgcbmhihiacgnaa.Pure
open Go.RowKit Go.Proofs.Ytgcbmhihiacgnaa.XIN Go.Proofs.YtgcbmhihiacgnaaW.PrintWords Go.Proofs.YtgcbmhihiacgnaaW.PrintLast Go.Proofs.YtgcbmhihiacgnaaS

def placev (l : List S50) (u : Int) : Int × Int × Bool := match placeOf l u with | some q => (q.f0, q.f1, true) | none => (0, 0, false)
theorem rplace_l0 (l : List S50) (u : Int) (hl : l.length ≤ 100) : ∀ (n i k : Nat), i + n = l.length → n < k → barrowref24_place.l0 k l u i = some (placev (l.drop i) u) := by
  intro n
  induction n with
  | zero =>
    intro i k hi hk
    obtain ⟨k, rfl⟩ : ∃ q, k = q + 1 := ⟨k - 1, by omega⟩
    rw [barrowref24_place.l0, if_neg (by omega), List.drop_of_length_le (by omega)]
    rfl
  | succ n ih =>
    intro i k hi hk
    obtain ⟨k, rfl⟩ : ∃ q, k = q + 1 := ⟨k - 1, by omega⟩
    rw [barrowref24_place.l0, if_pos (by omega), if_pos (by omega), rd50_drop (by omega), wrap64_in (by omega), succ_cast]
    by_cases e : (rd_T50 l i).f0 = u
    · rw [if_pos e]; simp [placev, placeOf, e]
    · rw [if_neg e, ih (i + 1) k (by omega) (by omega)]; simp [placev, placeOf, e]
theorem rplace_eq (l : List S50) (u : Int) (hl : l.length ≤ 100) {k : Nat} (hk : 100 < k) : barrowref24_place.f k l u = some (placev l u) := by
  have := rplace_l0 l u hl l.length 0 k (by omega) (by omega)
  rw [List.drop_zero] at this
  exact this
theorem rhas_l0 (l : List Int) (u : Int) (hl : l.length ≤ 100000) : ∀ (n i k : Nat), i + n = l.length → n < k → barrowref24_has.l0 k l u i = some (decide (u ∈ l.drop i)) := by
  intro n
  induction n with
  | zero =>
    intro i k hi hk
    obtain ⟨k, rfl⟩ : ∃ q, k = q + 1 := ⟨k - 1, by omega⟩
    rw [barrowref24_has.l0, if_neg (by omega), List.drop_of_length_le (by omega)]
    simp
  | succ n ih =>
    intro i k hi hk
    obtain ⟨k, rfl⟩ : ∃ q, k = q + 1 := ⟨k - 1, by omega⟩
    rw [barrowref24_has.l0, if_pos (by omega), if_pos (by omega), rd_drop (l := l) (by omega), wrap64_in (by omega), succ_cast]
    by_cases e : rd l i = u
    · rw [if_pos e]; simp [e]
    · rw [if_neg e, ih (i + 1) k (by omega) (by omega)]; simp [Ne.symm e]
theorem rhas_eq (l : List Int) (u : Int) (hl : l.length ≤ 100000) {k : Nat} (hk : l.length < k) : barrowref24_has.f k l u = some (decide (u ∈ l)) := by
  have := rhas_l0 l u hl l.length 0 k (by omega) (by omega)
  rw [List.drop_zero] at this
  exact this
theorem ins_skip {x : Int} : ∀ (a b : List Int), (∀ y ∈ a, y < x) → ins x (a ++ b) = a ++ ins x b
  | [], b, _ => rfl
  | y :: a, b, h => by
    have := h y (by simp)
    rw [List.cons_append, ins, if_neg (by omega), if_neg (by omega), ins_skip a b (fun z hz => h z (List.mem_cons_of_mem _ hz))]
    rfl
theorem ins_front {x : Int} (b : List Int) (h1 : x ∉ b) (h2 : ∀ y, b.head? = some y → x ≤ y) : ins x b = x :: b := by
  cases b with
  | nil => rfl
  | cons y b =>
    have := h2 y rfl
    have : x ≠ y := fun e => h1 (by simp [e])
    rw [ins, if_pos (by omega)]
theorem ins_in {x : Int} : ∀ {b : List Int}, b.Pairwise (· < ·) → x ∈ b → ins x b = b
  | [], _, h => by simp at h
  | y :: b, hb, h => by
    have hb' := List.pairwise_cons.1 hb
    unfold ins
    by_cases e : x = y
    · subst e; simp
    · have h3 : x ∈ b := (List.mem_cons.1 h).resolve_left e
      have := hb'.1 x h3
      rw [if_neg (by omega), if_neg e, ins_in hb'.2 h3]
theorem head_drop_rd {l : List Int} {i : Nat} {y : Int} (hi : i < l.length) (h : (l.drop i).head? = some y) : y = rd l i := by
  rw [rd_drop hi] at h
  simpa using h.symm
theorem rput_l0 (l : List Int) (x : Int) (hl : l.length ≤ 1000) (hx : x ∉ l) : ∀ (n i k : Nat), i + n = l.length → n < k → (∀ y ∈ l.take i, y < x) → barrowref24_put.l0 k l x (l.take i) i = some (ins x l) := by
  have fin : ∀ i : Nat, i ≤ l.length → (∀ y ∈ l.take i, y < x) → (i < l.length → x ≤ rd l i) → ins x l = l.take i ++ [x] ++ l.drop i := by
    intro i hi h h2
    conv => lhs; rw [← List.take_append_drop i l]
    rw [ins_skip _ _ h, ins_front _ (fun hm => hx (List.drop_subset _ _ hm)) (fun y hy => ?_)]
    · simp
    · rcases Nat.lt_or_ge i l.length with c | c
      · rw [head_drop_rd c hy]; exact h2 c
      · rw [List.drop_of_length_le c] at hy; simp at hy
  intro n
  induction n with
  | zero =>
    intro i k hi hk h
    obtain ⟨k, rfl⟩ : ∃ q, k = q + 1 := ⟨k - 1, by omega⟩
    rw [barrowref24_put.l0, if_neg (by omega), if_pos (by simp; omega), Option.bind_some, if_pos (by omega), if_pos (by omega), Option.bind_some, if_pos (by simp; omega), Int.toNat_natCast]
    rw [fin i (by omega) h (fun c => by omega)]
  | succ n ih =>
    intro i k hi hk h
    obtain ⟨k, rfl⟩ : ∃ q, k = q + 1 := ⟨k - 1, by omega⟩
    rw [barrowref24_put.l0, if_pos (by omega), if_pos (by omega)]
    have ht : l.take (i + 1) = l.take i ++ [rd l i] := by
      have := rd_drop (l := l) (i := i) (by omega)
      rw [List.take_add_one, ← List.head?_drop, this]; rfl
    by_cases c : rd l i < x
    · rw [if_pos c, if_pos (by simp; omega), wrap64_in (by omega), succ_cast, ← ht]
      refine ih (i + 1) k (by omega) (by omega) (fun y hy => ?_)
      rw [ht] at hy
      rcases List.mem_append.1 hy with q | q
      · exact h y q
      · simp at q; omega
    · rw [if_neg c, if_pos (by simp; omega), Option.bind_some, if_pos (by omega), Option.bind_some, if_pos (by simp; omega), Int.toNat_natCast]
      rw [fin i (by omega) h (fun _ => by omega)]
theorem rput_eq (l : List Int) (x : Int) (hl : l.length ≤ 1000) (hu : l.Pairwise (· < ·)) {k : Nat} (hk : 2000 < k) : barrowref24_put.f k l x = some (ins x l) := by
  unfold barrowref24_put.f
  rw [rhas_eq l x (by omega) (by omega), Option.bind_some]
  by_cases c : x ∈ l
  · rw [if_pos (by simpa using c), ins_in hu c]
  · rw [if_neg (by simpa using c)]
    exact rput_l0 l x hl c l.length 0 k (by omega) (by omega) (by simp)
theorem rput1_l0 (l : List Int) (x : Int) (hl : l.length ≤ 1000) (hx : x ∉ l) : ∀ (n i k : Nat), i + n = l.length → n < k → (∀ y ∈ l.take i, y < x) → barrowref24_put_i1.l0 k l x (l.take i) i = some (ins x l) := by
  have fin : ∀ i : Nat, i ≤ l.length → (∀ y ∈ l.take i, y < x) → (i < l.length → x ≤ rd l i) → ins x l = l.take i ++ [x] ++ l.drop i := by
    intro i hi h h2
    conv => lhs; rw [← List.take_append_drop i l]
    rw [ins_skip _ _ h, ins_front _ (fun hm => hx (List.drop_subset _ _ hm)) (fun y hy => ?_)]
    · simp
    · rcases Nat.lt_or_ge i l.length with c | c
      · rw [head_drop_rd c hy]; exact h2 c
      · rw [List.drop_of_length_le c] at hy; simp at hy
  intro n
  induction n with
  | zero =>
    intro i k hi hk h
    obtain ⟨k, rfl⟩ : ∃ q, k = q + 1 := ⟨k - 1, by omega⟩
    rw [barrowref24_put_i1.l0, if_neg (by omega)]
    simp only [Option.bind_some]
    rw [if_pos (by simp; omega), if_pos (by omega), if_pos (by omega), if_pos (by simp; omega), Int.toNat_natCast]
    rw [fin i (by omega) h (fun c => by omega)]
  | succ n ih =>
    intro i k hi hk h
    obtain ⟨k, rfl⟩ : ∃ q, k = q + 1 := ⟨k - 1, by omega⟩
    rw [barrowref24_put_i1.l0, if_pos (by omega), if_pos (by omega)]
    have ht : l.take (i + 1) = l.take i ++ [rd l i] := by
      have := rd_drop (l := l) (i := i) (by omega)
      rw [List.take_add_one, ← List.head?_drop, this]; rfl
    simp only [Option.bind_some]
    by_cases c : rd l i < x
    · rw [if_pos c, if_pos (by simp; omega), wrap64_in (by omega), succ_cast, ← ht]
      refine ih (i + 1) k (by omega) (by omega) (fun y hy => ?_)
      rw [ht] at hy
      rcases List.mem_append.1 hy with q | q
      · exact h y q
      · simp at q; omega
    · rw [if_neg c, if_pos (by simp; omega), if_pos (by omega), if_pos (by simp; omega), Int.toNat_natCast]
      rw [fin i (by omega) h (fun _ => by omega)]
theorem rput1_eq (l : List Int) (x : Int) (hl : l.length ≤ 1000) (hu : l.Pairwise (· < ·)) {k : Nat} (hk : 2000 < k) : barrowref24_put_i1.f k l x = some (ins x l) := by
  unfold barrowref24_put_i1.f
  rw [rhas_eq l x (by omega) (by omega), Option.bind_some]
  by_cases c : x ∈ l
  · rw [if_pos (by simpa using c), ins_in hu c]
  · rw [if_neg (by simpa using c)]
    exact rput1_l0 l x hl c l.length 0 k (by omega) (by omega) (by simp)
theorem ins_canonv (x : Int) (l : List Int) : ins x (canonv l) = canonv (x :: l) := rfl
theorem canonv_snoc (l : List Int) (x : Int) : ins x (canonv l) = canonv (l ++ [x]) := by
  rw [ins_canonv]; exact canonv_ext fun z => by simp [or_comm]
theorem rnear41 (k : Nat) (hk : 0 < k) {p q : S41} {r : Int} (hp : In41 p) (hq : In41 q) (hr : In64 r) : barrowref06_Near.f k p.f0 p.f1 q.f0 q.f1 r = some (nr p q r) := by
  obtain ⟨k, rfl⟩ : ∃ m, k = m + 1 := ⟨k - 1, by omega⟩
  exact rnear_eq k _ _ _ _ hp.1 hp.2 hq.1 hq.2 r hr
theorem placev_some {l : List S50} {u : Int} {q : S41} (h : placeOf l u = some q) : placev l u = (q.f0, q.f1, true) := by unfold placev; rw [h]
theorem placev_none {l : List S50} {u : Int} (h : placeOf l u = none) : placev l u = (0, 0, false) := by unfold placev; rw [h]
def nearOf (l : List S50) (y : S41) (r u : Int) : Bool := match placeOf l u with | some q => nr y q r | none => false
theorem closev_eq (l : List S50) (y : S41) (r : Int) : closev l y r = (l.map (·.f0)).filter (nearOf l y r) := rfl
theorem rset_l2 (l : List S50) (r : Int) (hl : l.length ≤ 80) (y : S41) (hy : In41 y) (hr : In64 r) (hin : ∀ p ∈ l, In41 p.f1) :
    ∀ (n i k : Nat) (A : List Int), i + n = l.length → 4000 + n < k → A.length ≤ 100 + i →
    barrowref24_Set.l2 k l r (canonv A) i y.f0 y.f1 = some (canonv (A ++ ((l.drop i).map (·.f0)).filter (nearOf l y r))) := by
  intro n
  induction n with
  | zero =>
    intro i k A hi hk ho
    obtain ⟨k, rfl⟩ : ∃ q, k = q + 1 := ⟨k - 1, by omega⟩
    rw [barrowref24_Set.l2, if_neg (by omega), List.drop_of_length_le (by omega)]
    simp
  | succ n ih =>
    intro i k A hi hk ho
    obtain ⟨k, rfl⟩ : ∃ q, k = q + 1 := ⟨k - 1, by omega⟩
    have hlen := canonv_len A
    have hu : (rd_T50 l i).f0 ∈ l.map (·.f0) := by
      have := rd50_drop (l := l) (i := i) (by omega)
      exact List.mem_map.2 ⟨_, List.drop_subset i l (by rw [this]; simp), rfl⟩
    obtain ⟨q, hq⟩ : ∃ q, placeOf l (rd_T50 l i).f0 = some q := Option.isSome_iff_exists.1 (placeOf_some.2 hu)
    obtain ⟨x, x1, _, x2⟩ := placeOf_mem hq
    rw [barrowref24_Set.l2, if_pos (by omega), if_pos (by omega), rplace_eq l _ (by omega) (by omega), Option.bind_some, placev_some hq, wrap64_in (by omega), succ_cast, rd50_drop (l := l) (by omega)]
    simp only
    rw [rnear41 k (by omega) hy (by rw [← x2]; exact hin x x1) hr, Option.bind_some, List.map_cons]
    have hn : nearOf l y r (rd_T50 l i).f0 = nr y q r := by unfold nearOf; rw [hq]
    by_cases c : nr y q r = true
    · rw [if_pos c, rput_eq _ _ (by omega) (canonv_up A) (by omega), Option.bind_some, canonv_snoc, ih (i + 1) k _ (by omega) (by omega) (by simp; omega), List.filter_cons_of_pos (by rw [hn]; exact c)]
      simp
    · rw [if_neg c, ih (i + 1) k A (by omega) (by omega) (by omega), List.filter_cons_of_neg (by rw [hn]; exact c)]
theorem rset_l1 (l : List S50) (m : List S36) (r : Int) (hl : l.length ≤ 80) (hm : m.length ≤ 80) (y : S41) (hy : In41 y) (hr : In64 r) (hin : ∀ p ∈ l, In41 p.f1) (b : Bool) :
    ∀ (n i k : Nat) (A : List Int), i + n = m.length → 5000 + 2 * n < k → A.length ≤ 1 + i →
    barrowref24_Set.l1 k l m r b (canonv A) i y.f0 y.f1 = some (canonv (A ++ ((if b then raidv l (m.drop i) else []) ++ closev l y r))) := by
  have last : ∀ (k : Nat) (A : List Int), 4500 < k → A.length ≤ 100 → barrowref24_Set.l2 k l r (canonv A) 0 y.f0 y.f1 = some (canonv (A ++ closev l y r)) := by
    intro k A hk hA
    have := rset_l2 l r hl y hy hr hin l.length 0 k A (by omega) (by omega) (by omega)
    rw [List.drop_zero] at this
    exact this
  intro n
  induction n with
  | zero =>
    intro i k A hi hk ho
    obtain ⟨k, rfl⟩ : ∃ q, k = q + 2 := ⟨k - 2, by omega⟩
    rw [barrowref24_Set.l1, if_neg (by omega), barrowref24_Set.j2, if_neg (by decide), last k A (by omega) (by omega), List.drop_of_length_le (by omega)]
    cases b <;> simp [raidv]
  | succ n ih =>
    intro i k A hi hk ho
    obtain ⟨k, rfl⟩ : ∃ q, k = q + 2 := ⟨k - 2, by omega⟩
    have hlen := canonv_len A
    rw [barrowref24_Set.l1, if_pos (by omega), barrowref24_Set.j2]
    cases b with
    | false => rw [if_neg (by decide), last k A (by omega) (by omega)]; simp
    | true =>
      rw [if_pos rfl, if_pos (by omega), if_pos (by omega), rplace_eq l _ (by omega) (by omega), Option.bind_some, wrap64_in (by omega), succ_cast, rd36_drop (l := m) (by omega)]
      have ih' : ∀ A : List Int, A.length ≤ i + 2 → barrowref24_Set.l1 k l m r true (canonv A) ((i + 1 : Nat) : Int) y.f0 y.f1 = some (canonv (A ++ (raidv l (m.drop (i + 1)) ++ closev l y r))) := fun A h => by
        have := ih (i + 1) k A (by omega) (by omega) (by omega)
        simpa using this
      unfold raidv at ih' ⊢
      cases hp : placeOf l (rd_T36 m i).f0 with
      | none =>
        rw [placev_none hp]
        simp only [Bool.false_eq_true, if_false]
        rw [ih' A (by omega), if_pos trivial, List.filter_cons_of_neg (by simp [hp])]
      | some q =>
        rw [placev_some hp]
        simp only [if_true]
        rw [rput_eq _ _ (by omega) (canonv_up A) (by omega), Option.bind_some, canonv_snoc, ih' _ (by simp; omega), List.filter_cons_of_pos (by simp [hp])]
        simp
theorem rset_l0 (l : List S50) (m : List S36) (u r : Int) (hl : l.length ≤ 80) (hm : m.length ≤ 80) (y : S41) (hy : In41 y) (hr : In64 r) (hin : ∀ p ∈ l, In41 p.f1) :
    ∀ (n i k : Nat) (b : Bool), i + n = m.length → 6000 + n < k →
    barrowref24_Set.l0 k l m u r b i y.f0 y.f1 = some (canonv ([u] ++ ((if (b || decide (u ∈ (m.drop i).map (·.f0))) = true then raidv l m else []) ++ closev l y r))) := by
  intro n
  induction n with
  | zero =>
    intro i k b hi hk
    obtain ⟨k, rfl⟩ : ∃ q, k = q + 1 := ⟨k - 1, by omega⟩
    rw [barrowref24_Set.l0, if_neg (by omega), List.drop_of_length_le (by omega)]
    have := rset_l1 l m r hl hm y hy hr hin b m.length 0 k [u] (by omega) (by omega) (by simp)
    rw [List.drop_zero, show canonv [u] = [u] from rfl] at this
    simpa using this
  | succ n ih =>
    intro i k b hi hk
    obtain ⟨k, rfl⟩ : ∃ q, k = q + 1 := ⟨k - 1, by omega⟩
    rw [barrowref24_Set.l0, if_pos (by omega), wrap64_in (by omega), succ_cast, rd36_drop (l := m) (by omega)]
    cases b with
    | true => rw [if_pos rfl, ih (i + 1) k true (by omega) (by omega)]; simp
    | false =>
      rw [if_neg (by decide), if_pos (by omega), ih (i + 1) k _ (by omega) (by omega)]
      by_cases e : (rd_T36 m i).f0 = u
      · simp [e]
      · have e2 : ((rd_T36 m i).f0 == u) = false := by simpa using e
        rw [e2]
        simp [Ne.symm e]
theorem rset_eq (l : List S50) (m : List S36) (u r : Int) (hl : l.length ≤ 80) (hm : m.length ≤ 80) (hr : In64 r) (hin : ∀ p ∈ l, In41 p.f1) {k : Nat} (hk : 7000 < k) : barrowref24_Set.f k l m u r = some (setv l m u r) := by
  unfold barrowref24_Set.f setv
  rw [rplace_eq l u (by omega) (by omega), Option.bind_some]
  cases hp : placeOf l u with
  | none => rw [placev_none hp]; rfl
  | some y =>
    obtain ⟨p, q1, _, q2⟩ := placeOf_mem hp
    have hy : In41 y := by rw [← q2]; exact hin p q1
    rw [placev_some hp]
    simp only [if_true]
    have := rset_l0 l m u r hl hm y hy hr hin m.length 0 k false (by omega) (by omega)
    rw [List.drop_zero] at this
    refine Eq.trans this ?_
    simp
theorem rmutual_eq (l : List S50) (a b r : Int) (hl : l.length ≤ 80) (hr : In64 r) (hin : ∀ p ∈ l, In41 p.f1) {k : Nat} (hk : 300 < k) :
    barrowref24_Mutual.f k l a b r = some (mutv l a b r) := by
  unfold mutv
  unfold barrowref24_Mutual.f
  rw [rplace_eq l a (by omega) (by omega), rplace_eq l b (by omega) (by omega)]
  simp only [Option.bind_some]
  cases ha : placeOf l a with
  | none => simp [placev_none ha]
  | some p =>
    cases hb : placeOf l b with
    | none => simp [placev_none hb]
    | some q =>
      obtain ⟨x, x1, _, x2⟩ := placeOf_mem ha
      obtain ⟨y, y1, _, y2⟩ := placeOf_mem hb
      rw [placev_some ha, placev_some hb]
      simp only [if_true]
      rw [rnear41 k (by omega) (by rw [← x2]; exact hin x x1) (by rw [← y2]; exact hin y y1) hr]
      rfl
theorem rchange_l1 (l m G : List Int) (hl : l.length ≤ 1000) (hm : m.length ≤ 1000) : ∀ (n i k : Nat) (A : List Int), i + n = m.length → 3000 + n < k → A.length ≤ i →
    barrowref24_Change.l1 k l m G (canonv A) i = some (G, canonv (A ++ (m.drop i).filter fun u => decide (u ∉ l))) := by
  intro n
  induction n with
  | zero =>
    intro i k A hi hk ho
    obtain ⟨k, rfl⟩ : ∃ q, k = q + 1 := ⟨k - 1, by omega⟩
    rw [barrowref24_Change.l1, if_neg (by omega), List.drop_of_length_le (by omega)]
    simp
  | succ n ih =>
    intro i k A hi hk ho
    obtain ⟨k, rfl⟩ : ∃ q, k = q + 1 := ⟨k - 1, by omega⟩
    have hlen := canonv_len A
    rw [barrowref24_Change.l1, if_pos (by omega), if_pos (by omega), rhas_eq l _ (by omega) (by omega), Option.bind_some, wrap64_in (by omega), succ_cast, rd_drop (l := m) (by omega)]
    by_cases c : rd m i ∈ l
    · rw [if_pos (by simpa using c), ih (i + 1) k A (by omega) (by omega) (by omega), List.filter_cons_of_neg (by simpa using c)]
    · rw [if_neg (by simpa using c), rput1_eq _ _ (by omega) (canonv_up A) (by omega), Option.bind_some, canonv_snoc, ih (i + 1) k _ (by omega) (by omega) (by simp; omega), List.filter_cons_of_pos (by simpa using c)]
      simp
theorem rchange_l0 (l m : List Int) (hl : l.length ≤ 1000) (hm : m.length ≤ 1000) : ∀ (n i k : Nat) (A : List Int), i + n = l.length → 5000 + n < k → A.length ≤ i →
    barrowref24_Change.l0 k l m (canonv A) i = some (canonv (A ++ (l.drop i).filter fun u => decide (u ∉ m)), wov m l) := by
  intro n
  induction n with
  | zero =>
    intro i k A hi hk ho
    obtain ⟨k, rfl⟩ : ∃ q, k = q + 1 := ⟨k - 1, by omega⟩
    rw [barrowref24_Change.l0, if_neg (by omega), List.drop_of_length_le (by omega)]
    have := rchange_l1 l m (canonv A) hl hm m.length 0 k [] (by omega) (by omega) (by simp)
    rw [List.drop_zero] at this
    refine Eq.trans this ?_
    simp [wov]
  | succ n ih =>
    intro i k A hi hk ho
    obtain ⟨k, rfl⟩ : ∃ q, k = q + 1 := ⟨k - 1, by omega⟩
    have hlen := canonv_len A
    rw [barrowref24_Change.l0, if_pos (by omega), if_pos (by omega), rhas_eq m _ (by omega) (by omega), Option.bind_some, wrap64_in (by omega), succ_cast, rd_drop (l := l) (by omega)]
    by_cases c : rd l i ∈ m
    · rw [if_pos (by simpa using c), ih (i + 1) k A (by omega) (by omega) (by omega), List.filter_cons_of_neg (by simpa using c)]
    · rw [if_neg (by simpa using c), rput1_eq _ _ (by omega) (canonv_up A) (by omega), Option.bind_some, canonv_snoc, ih (i + 1) k _ (by omega) (by omega) (by simp; omega), List.filter_cons_of_pos (by simpa using c)]
      simp
theorem rchange_eq (l m : List Int) (hl : l.length ≤ 1000) (hm : m.length ≤ 1000) {k : Nat} (hk : 7000 < k) : barrowref24_Change.f k l m = some (wov l m, wov m l) := by
  have := rchange_l0 l m hl hm l.length 0 k [] (by omega) (by omega) (by simp)
  rw [List.drop_zero, List.nil_append] at this
  exact this
theorem rhears_eq (l : List Int) (a b : Int) (hl : l.length ≤ 1000) {k : Nat} (hk : 4000 < k) : barrowref24_Hears.f k l a b = some (decide (a ≠ 0 ∧ a ∈ l ∨ b ≠ 0 ∧ b ∈ l)) := by
  unfold barrowref24_Hears.f
  rw [rhas_eq l a (by omega) (by omega), rhas_eq l b (by omega) (by omega)]
  by_cases h1 : a = 0 <;> by_cases h2 : b = 0 <;> by_cases h3 : a ∈ l <;> by_cases h4 : b ∈ l <;> simp_all
def at3 : List S50 := [⟨1, ⟨0, 0⟩⟩, ⟨2, ⟨9, 0⟩⟩, ⟨3, ⟨2, 0⟩⟩]
theorem small_eq {k : Nat} (hk : 9000 < k) : barrowlaw24_small.f k = some true := by
  have hin : ∀ p ∈ at3, In41 p.f1 := by
    intro p hp
    simp [at3] at hp
    rcases hp with rfl | rfl | rfl <;> exact ⟨⟨by decide, by decide⟩, ⟨by decide, by decide⟩⟩
  have e1 : setv at3 [⟨1, 1⟩, ⟨2, 1⟩] 1 3 = [1, 2, 3] := by decide +kernel
  have e2 : setv at3 [⟨1, 1⟩, ⟨2, 1⟩] 3 3 = [1, 3] := by decide +kernel
  have e3 : wov [1, 2, 3] [1, 3] = [2] := by decide +kernel
  have e4 : wov [1, 3] [1, 2, 3] = [] := by decide +kernel
  have s1 := set_eq at3 [⟨1, 1⟩, ⟨2, 1⟩] 1 3 (by decide) (by decide) (by constructor <;> decide) hin (k := k) (by omega)
  have s2 := set_eq at3 [⟨1, 1⟩, ⟨2, 1⟩] 3 3 (by decide) (by decide) (by constructor <;> decide) hin (k := k) (by omega)
  rw [e1] at s1
  rw [e2] at s2
  have c1 := change_eq [1, 2, 3] [1, 3] (by decide) (by decide) (k := k) (by omega)
  rw [e3, e4] at c1
  have m1 := mutual_eq at3 1 3 2 (by decide) (by constructor <;> decide) hin (k := k) (by omega)
  have m2 : mutv at3 1 3 2 = true := by decide +kernel
  replace m1 : interest_Mutual.f k at3 1 3 2 = some true := m1.trans (congrArg some m2)
  have hat : barrowlaw24_at.f = some at3 := rfl
  unfold barrowlaw24_small.f
  simp only [Option.bind_some, hat, s1, s2, c1, m1, same_eq [1, 2, 3] [1, 2, 3] (by decide) (k := k) (by simp; omega), same_eq [1, 3] [1, 3] (by decide) (k := k) (by simp; omega), same_eq [2] [2] (by decide) (k := k) (by simp; omega),
    hears_eq [1, 3] 0 3 (by decide) (k := k) (by omega), hears_eq [1, 3] 2 0 (by decide) (k := k) (by omega)]
  simp
theorem setv_len (l : List S50) (m : List S36) (u r : Int) (hl : l.length ≤ 80) (hm : m.length ≤ 80) : (setv l m u r).length ≤ 161 := by
  unfold setv
  split
  · simp
  · rename_i y _
    refine Nat.le_trans (canonv_len _) ?_
    have h1 : (raidv l m).length ≤ m.length := by unfold raidv; rw [List.length_map]; exact List.length_filter_le _ _
    have h2 : (closev l y r).length ≤ l.length := by unfold closev; exact Nat.le_trans (List.length_filter_le _ _) (by simp)
    simp only [List.length_cons, List.length_append]
    split <;> simp <;> omega
end Go.Proofs.Ytgcbmhihiacgnaa.Pure
