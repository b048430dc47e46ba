/- Interest: where units are, of whom one hears, who went and came: what the program's functions and the document's come to. -/
import Derived.Test.YtgcbmhihiacgnaaNearX
import Derived.Test.YtgcbmhihiacgnaaSetX
import Derived.Test.YtgcbmhihiacgnaaMapX
import Derived.Test.YtgcbmhihiacgnaaXINx1
import Derived.Test.YtgcbmhihiacgnaaXINx2
import Derived.Test.YtgcbmhihiacgnaaXINx3
import Derived.Test.YtgcbmhihiacgnaaXINx4
set_option linter.unusedSimpArgs false
set_option linter.unusedVariables false
namespace Go.Proofs.Ytgcbmhihiacgnaa.Pure
open Go.RowKit Go.Proofs.Ytgcbmhihiacgnaa.XIN Go.Proofs.YtgcbmhihiacgnaaW.PrintWords Go.Proofs.YtgcbmhihiacgnaaW.PrintLast Go.Proofs.YtgcbmhihiacgnaaS

theorem rd50_drop {l : List S50} {i : Nat} (h : i < l.length) : l.drop i = rd_T50 l i :: l.drop (i + 1) := by
  unfold rd_T50
  rw [Int.toNat_natCast, List.getD_eq_getElem?_getD, List.getElem?_eq_getElem h]
  exact List.drop_eq_getElem_cons h
theorem rd36_drop {l : List S36} {i : Nat} (h : i < l.length) : l.drop i = rd_T36 l i :: l.drop (i + 1) := by
  unfold rd_T36
  rw [Int.toNat_natCast, List.getD_eq_getElem?_getD, List.getElem?_eq_getElem h]
  exact List.drop_eq_getElem_cons h
theorem rd_drop {l : List Int} {i : Nat} (h : i < l.length) : l.drop i = rd l i :: l.drop (i + 1) := by
  unfold rd
  rw [Int.toNat_natCast, List.getD_eq_getElem?_getD, List.getElem?_eq_getElem h]
  exact List.drop_eq_getElem_cons h
theorem succ_cast (i : Nat) : ((i : Int) + 1) = ((i + 1 : Nat) : Int) := by omega
/-- Where a unit is: its first place. -/
def placeOf : List S50 → Int → Option S41
  | [], _ => none
  | p :: l, u => if p.f0 = u then some p.f1 else placeOf l u
theorem placeOf_some {l : List S50} {u : Int} : (placeOf l u).isSome = true ↔ u ∈ l.map (·.f0) := by
  induction l with
  | nil => simp [placeOf]
  | cons p l ih =>
    unfold placeOf
    by_cases e : p.f0 = u
    · simp [e]
    · rw [if_neg e, ih]; simp [Ne.symm e]
theorem placeOf_mem {l : List S50} {u : Int} {q : S41} (h : placeOf l u = some q) : ∃ p ∈ l, p.f0 = u ∧ p.f1 = q := by
  induction l with
  | nil => simp [placeOf] at h
  | cons p l ih =>
    unfold placeOf at h
    by_cases e : p.f0 = u
    · rw [if_pos e] at h; injection h with h; exact ⟨p, by simp, e, h⟩
    · rw [if_neg e] at h
      obtain ⟨p, h1, h2⟩ := ih h
      exact ⟨p, by simp [h1], h2⟩
theorem placeOf_append (a b : List S50) (u : Int) : placeOf (a ++ b) u = (placeOf a u).or (placeOf b u) := by
  induction a with
  | nil => simp [placeOf]
  | cons p a ih => simp only [List.cons_append, placeOf, ih]; split <;> simp
structure PD (l : List S50) (D : List (Int × S41)) : Prop where
  go : ∀ u, mgo D u = placeOf l u
  nd : (D.map (·.1)).Nodup
  len : D.length ≤ l.length
theorem places_l0 (l : List S50) (hl : l.length ≤ 100) : ∀ (n i k : Nat) (D : List (Int × S41)), i + n = l.length → n < k → PD (l.take i) D → ∃ D', interest_places.l0 k l i D = some D' ∧ PD l D' := by
  intro n
  induction n with
  | zero =>
    intro i k D hi hk h
    obtain ⟨k, rfl⟩ : ∃ q, k = q + 1 := ⟨k - 1, by omega⟩
    rw [interest_places.l0, if_neg (by omega)]
    rw [List.take_of_length_le (by omega)] at h
    exact ⟨D, rfl, h⟩
  | succ n ih =>
    intro i k D hi hk h
    obtain ⟨k, rfl⟩ : ∃ q, k = q + 1 := ⟨k - 1, by omega⟩
    rw [interest_places.l0, if_pos (by omega), if_pos (by omega), Option.bind_some, Option.bind_some, mhas_mgo, h.go, wrap64_in (by omega), succ_cast]
    have ht : l.take (i + 1) = l.take i ++ [rd_T50 l i] := by
      have := rd50_drop (l := l) (i := i) (by omega)
      rw [List.take_add_one, ← List.head?_drop, this]; rfl
    have hone : ∀ u, placeOf [rd_T50 l i] u = if (rd_T50 l i).f0 = u then some (rd_T50 l i).f1 else none := fun u => rfl
    split
    · rename_i c
      refine ih (i + 1) k D (by omega) (by omega) ⟨fun u => ?_, h.nd, by have := h.len; simp at this ⊢; omega⟩
      rw [h.go, ht, placeOf_append, hone]
      split
      · rename_i e; rw [← e]
        cases hp : placeOf (l.take i) (rd_T50 l i).f0 with
        | none => rw [hp] at c; cases c
        | some v => rfl
      · cases placeOf (l.take i) u <;> rfl
    · rename_i c
      rw [Option.bind_some]
      refine ih (i + 1) k _ (by omega) (by omega) ⟨fun u => ?_, nodup_mput h.nd, ?_⟩
      · rw [mgo_mput, h.go, ht, placeOf_append, hone]
        split
        · rename_i e
          subst e
          cases hp : placeOf (l.take i) (rd_T50 l i).f0 with
          | none => rfl
          | some v => rw [hp] at c; simp at c
        · cases placeOf (l.take i) u <;> rfl
      · have := h.len
        have h2 := mput_len (rd_T50 l i).f0 (⟨(rd_T50 l i).f1.f0, (rd_T50 l i).f1.f1⟩ : S41) D
        rw [ht, List.length_append, List.length_singleton]; omega
theorem places_eq (l : List S50) (hl : l.length ≤ 100) {k : Nat} (hk : 100 < k) : ∃ D, interest_places.f k l = some D ∧ PD l D :=
  places_l0 l hl l.length 0 k [] (by omega) (by omega) ⟨fun u => by simp [mgo, placeOf], by simp, by simp⟩
theorem member_l0 (l : List S36) (u : Int) (hl : l.length ≤ 100) : ∀ (n i k : Nat), i + n = l.length → n < k → ∃ j, api_Member_30_i1.l0 k l i u = some (j, u) ∧ (j ≥ 0 ↔ u ∈ (l.drop i).map (·.f0)) := by
  intro n
  induction n with
  | zero =>
    intro i k hi hk
    obtain ⟨k, rfl⟩ : ∃ q, k = q + 1 := ⟨k - 1, by omega⟩
    rw [api_Member_30_i1.l0, if_neg (by omega), List.drop_of_length_le (by omega)]
    exact ⟨_, rfl, by simp⟩
  | succ n ih =>
    intro i k hi hk
    obtain ⟨k, rfl⟩ : ∃ q, k = q + 1 := ⟨k - 1, by omega⟩
    rw [api_Member_30_i1.l0, if_pos (by omega), if_pos (by omega), interest_Set_1_i1.f, rd36_drop (by omega), wrap64_in (by omega), succ_cast]
    by_cases e : (rd_T36 l i).f0 = u
    · rw [if_pos e]
      simp only [Option.bind_some, if_true]
      refine ⟨_, rfl, ?_⟩
      simp [e]
    · rw [if_neg e]
      simp only [Option.bind_some, Bool.false_eq_true, if_false]
      obtain ⟨j, h1, h2⟩ := ih (i + 1) k (by omega) (by omega)
      refine ⟨j, h1, ?_⟩
      rw [h2]
      simp [Ne.symm e]
theorem member_eq (l : List S36) (u : Int) (hl : l.length ≤ 100) {k : Nat} (hk : 100 < k) : api_Member_20_i1.f k l u = some (decide (u ∈ l.map (·.f0)), u) := by
  obtain ⟨j, h1, h2⟩ := member_l0 l u hl l.length 0 k (by omega) (by omega)
  unfold api_Member_20_i1.f api_Member_30_i1.f
  rw [show (0 : Int) = ((0 : Nat) : Int) from rfl, h1]
  simp only [Option.bind_some]
  rw [List.drop_zero] at h2
  by_cases c : j ≥ 0
  · rw [if_pos (by exact c), decide_eq_true (h2.1 c)]
  · rw [if_neg (by exact c), decide_eq_false (fun h => c (h2.2 h))]
theorem sorted_eq (l : List Int) (h : l.length < 4611686018427387904) : interest_sorted_i1.f l = some (canonv l) := by
  unfold interest_sorted_i1.f slices_Sort_int_int_c.f slices_Compact_int_int_c.f
  rw [if_pos h]
  simp only [Option.bind_some, canon_eq]
/-- Is a tile near another one? -/
def nr (p q : S41) (r : Int) : Bool := nearv p.f0 p.f1 q.f0 q.f1 r
def In41 (p : S41) : Prop := In64 p.f0 ∧ In64 p.f1
theorem near41 (k : Nat) (hk : 0 < k) {p q : S41} {r : Int} (hp : In41 p) (hq : In41 q) (hr : In64 r) : grid_Near.f k p.f0 p.f1 q.f0 q.f1 r = some (nr p q r) := by
  obtain ⟨k, rfl⟩ : ∃ m, k = m + 1 := ⟨k - 1, by omega⟩
  exact near_eq k _ _ _ _ hp.1 hp.2 hq.1 hq.2 r hr
/-- What the last loop has found. -/
def foundv (y : S41) (r : Int) (R : List (Int × S41)) : List Int := (R.filter fun p => nr y p.2 r).map (·.1)
theorem found_step {y : S41} {r : Int} {R : List (Int × S41)} (hn : (R.map (·.1)).Nodup) {p : Int × S41} (hp : p ∈ R) (out : List Int) :
    canonv ((if nr y p.2 r = true then out ++ [p.1] else out) ++ foundv y r (mdel R p.1)) = canonv (out ++ foundv y r R) := by
  refine canonv_ext fun z => ?_
  have key : z ∈ foundv y r R ↔ (z = p.1 ∧ nr y p.2 r = true) ∨ z ∈ foundv y r (mdel R p.1) := by
    unfold foundv
    simp only [List.mem_map, List.mem_filter, mem_mdel hn]
    constructor
    · rintro ⟨q, ⟨h1, h2⟩, rfl⟩
      by_cases e : q.1 = p.1
      · have : q = p := by
          have a1 := (mem_mgo hn q).1 h1
          have a2 := (mem_mgo hn p).1 hp
          rw [e, a2] at a1
          injection a1 with a1
          exact Prod.ext e a1.symm
        subst this
        exact .inl ⟨rfl, h2⟩
      · exact .inr ⟨q, ⟨⟨h1, e⟩, h2⟩, rfl⟩
    · rintro (⟨rfl, h⟩ | ⟨q, ⟨⟨h1, _⟩, h2⟩, rfl⟩)
      · exact ⟨p, ⟨hp, h⟩, rfl⟩
      · exact ⟨q, ⟨h1, h2⟩, rfl⟩
  rw [List.mem_append, List.mem_append, key]
  by_cases c : nr y p.2 r = true
  · rw [if_pos c]; simp [c, or_assoc]
  · rw [if_neg c]; simp [c]
theorem found_l1 (y : S41) (r : Int) (hy : In41 y) (hr : In64 r) : ∀ (n k : Nat) (R : List (Int × S41)) (out : List Int), R.length = n → n < k → (R.map (·.1)).Nodup → (∀ p ∈ R, In41 p.2) → out.length + n ≤ 1000 →
    interest_Set.l1 k r out R y = some (canonv (out ++ foundv y r R)) := by
  intro n
  induction n with
  | zero =>
    intro k R out hn hk _ _ ho
    obtain ⟨k, rfl⟩ : ∃ q, k = q + 1 := ⟨k - 1, by omega⟩
    obtain rfl : R = [] := List.eq_nil_of_length_eq_zero hn
    rw [interest_Set.l1, if_pos (show ([] : List (Int × S41)).isEmpty = true from rfl), sorted_eq _ (by omega)]
    simp [foundv]
  | succ n ih =>
    intro k R out hn hk hd hin ho
    obtain ⟨k, rfl⟩ : ∃ q, k = q + 1 := ⟨k - 1, by omega⟩
    have hne : R ≠ [] := by intro e; rw [e] at hn; cases hn
    rw [interest_Set.l1, if_neg (by simpa using hne)]
    refine everyOf_of hne fun p hp => ?_
    have hl := mdel_len hp
    rw [near41 k (by omega) hy (hin p hp) hr, Option.bind_some, ← found_step hd hp]
    have hin' : ∀ q ∈ mdel R p.1, In41 q.2 := fun q hq => hin q ((mdel_sub _ _).subset hq)
    split
    · simp only [Option.bind_some]
      rw [if_pos (by simp; omega)]
      exact ih k _ _ (by omega) (by omega) (nodup_mdel hd) hin' (by simp; omega)
    · exact ih k _ _ (by omega) (by omega) (nodup_mdel hd) hin' (by omega)
theorem found_l101 (y : S41) (r : Int) (hy : In41 y) (hr : In64 r) : ∀ (n k : Nat) (R : List (Int × S41)) (out : List Int), R.length = n → n < k → (R.map (·.1)).Nodup → (∀ p ∈ R, In41 p.2) → out.length + n ≤ 1000 →
    interest_Set.l101 k r y R out = some (canonv (out ++ foundv y r R)) := by
  intro n
  induction n with
  | zero =>
    intro k R out hn hk _ _ ho
    obtain ⟨k, rfl⟩ : ∃ q, k = q + 1 := ⟨k - 1, by omega⟩
    obtain rfl : R = [] := List.eq_nil_of_length_eq_zero hn
    rw [interest_Set.l101, if_pos (show ([] : List (Int × S41)).isEmpty = true from rfl), sorted_eq _ (by omega)]
    simp [foundv]
  | succ n ih =>
    intro k R out hn hk hd hin ho
    obtain ⟨k, rfl⟩ : ∃ q, k = q + 1 := ⟨k - 1, by omega⟩
    have hne : R ≠ [] := by intro e; rw [e] at hn; cases hn
    rw [interest_Set.l101, if_neg (by simpa using hne)]
    refine everyOf_of hne fun p hp => ?_
    have hl := mdel_len hp
    rw [near41 k (by omega) hy (hin p hp) hr, Option.bind_some, ← found_step hd hp]
    have hin' : ∀ q ∈ mdel R p.1, In41 q.2 := fun q hq => hin q ((mdel_sub _ _).subset hq)
    split
    · simp only [Option.bind_some]
      rw [if_pos (by simp; omega)]
      exact ih k _ _ (by omega) (by omega) (nodup_mdel hd) hin' (by simp; omega)
    · exact ih k _ _ (by omega) (by omega) (nodup_mdel hd) hin' (by omega)
/-- Those of a raid that have a place. -/
def raidv (l : List S50) (m : List S36) : List Int := (m.filter fun x => (placeOf l x.f0).isSome).map (·.f0)
/-- Those whose place is near. -/
def closev (l : List S50) (y : S41) (r : Int) : List Int := (l.map (·.f0)).filter fun u => match placeOf l u with | some q => nr y q r | none => false
/-- Of whom one hears. -/
def setv (l : List S50) (m : List S36) (u r : Int) : List Int :=
  match placeOf l u with
  | none => []
  | some y => canonv (u :: ((if u ∈ m.map (·.f0) then raidv l m else []) ++ closev l y r))
theorem found_close {l : List S50} {D : List (Int × S41)} (hD : PD l D) (y : S41) (r z : Int) : z ∈ foundv y r D ↔ z ∈ closev l y r := by
  unfold foundv closev
  simp only [List.mem_map, List.mem_filter]
  constructor
  · rintro ⟨p, ⟨h1, h2⟩, rfl⟩
    have h3 := (mem_mgo hD.nd p).1 h1
    rw [hD.go] at h3
    refine ⟨?_, by rw [h3]; exact h2⟩
    have := (placeOf_some (l := l) (u := p.1)).1 (by rw [h3]; rfl)
    simpa using this
  · rintro ⟨h1, h2⟩
    cases hp : placeOf l z with
    | none => rw [hp] at h2; cases h2
    | some q =>
      rw [hp] at h2
      exact ⟨(z, q), ⟨(mem_mgo hD.nd (z, q)).2 (by rw [hD.go]; exact hp), h2⟩, rfl⟩
theorem In_D {l : List S50} {D : List (Int × S41)} (hD : PD l D) (hin : ∀ p ∈ l, In41 p.f1) : ∀ p ∈ D, In41 p.2 := by
  intro p hp
  have h3 := (mem_mgo hD.nd p).1 hp
  rw [hD.go] at h3
  obtain ⟨q, h1, _, h2⟩ := placeOf_mem h3
  rw [← h2]
  exact hin q h1
theorem set_l0 (l : List S50) (m : List S36) (r : Int) (hl : l.length ≤ 80) (hm : m.length ≤ 80) (y : S41) (hy : In41 y) (hr : In64 r) (D : List (Int × S41)) (hD : PD l D) (hin : ∀ p ∈ l, In41 p.f1) (b : Bool) :
    ∀ (n i k : Nat) (out : List Int), i + n = m.length → 100 + n < k → out.length ≤ i + 1 →
    interest_Set.l0 k m r out i D y b = some (canonv (out ++ ((if b then raidv l (m.drop i) else []) ++ foundv y r D))) := by
  have hlen := hD.len
  intro n
  induction n with
  | zero =>
    intro i k out hi hk ho
    obtain ⟨k, rfl⟩ : ∃ q, k = q + 1 := ⟨k - 1, by omega⟩
    rw [interest_Set.l0, if_neg (by omega), found_l101 y r hy hr D.length k D out rfl (by omega) hD.nd (In_D hD hin) (by omega), List.drop_of_length_le (by omega)]
    cases b <;> simp [raidv]
  | succ n ih =>
    intro i k out hi hk ho
    obtain ⟨k, rfl⟩ : ∃ q, k = q + 1 := ⟨k - 1, by omega⟩
    rw [interest_Set.l0, if_pos (by omega), if_pos (by omega)]
    cases b with
    | false =>
      rw [if_neg (by decide), found_l1 y r hy hr D.length k D out rfl (by omega) hD.nd (In_D hD hin) (by omega)]
      simp
    | true =>
      rw [if_pos rfl, Option.bind_some, Option.bind_some, mhas_mgo, hD.go, wrap64_in (by omega), succ_cast, rd36_drop (by omega)]
      have ih' : ∀ o : List Int, o.length ≤ i + 2 → interest_Set.l0 k m r o ((i + 1 : Nat) : Int) D y true = some (canonv (o ++ (raidv l (m.drop (i + 1)) ++ foundv y r D))) := fun o h => by
        have := ih (i + 1) k o (by omega) (by omega) (by omega)
        simpa using this
      unfold raidv at ih' ⊢
      split
      · rename_i c
        simp only [Option.bind_some]
        rw [if_pos (by simp; omega), ih' _ (by simp; omega), if_pos trivial, List.filter_cons_of_pos (by exact c)]
        simp
      · rename_i c
        rw [ih' _ (by omega), if_pos rfl, List.filter_cons_of_neg (by simpa using c)]
theorem set_eq (l : List S50) (m : List S36) (u r : Int) (hl : l.length ≤ 80) (hm : m.length ≤ 80) (hr : In64 r) (hin : ∀ p ∈ l, In41 p.f1) {k : Nat} (hk : 300 < k) : interest_Set.f k l m u r = some (setv l m u r) := by
  obtain ⟨D, h1, hD⟩ := places_eq l (by omega) (k := k) (by omega)
  unfold interest_Set.f setv
  rw [h1, Option.bind_some, Option.bind_some, Option.bind_some, mhas_mgo, mgetD_mgo, hD.go]
  cases hp : placeOf l u with
  | none => rfl
  | some y =>
    obtain ⟨p, q1, _, q2⟩ := placeOf_mem hp
    have hy : In41 y := by rw [← q2]; exact hin p q1
    rw [if_pos (show (some y).isSome = true from rfl), Option.bind_some, member_eq m u (by omega) (by omega), Option.bind_some]
    have := set_l0 l m r hl hm y hy hr D hD hin (decide (u ∈ m.map (·.f0))) m.length 0 k [u] (by omega) (by omega) (by simp)
    rw [List.drop_zero] at this
    simp only [Option.getD_some]
    refine Eq.trans this ?_
    congr 1
    refine canonv_ext fun z => ?_
    simp only [List.mem_append, List.mem_singleton, List.mem_cons, found_close hD, decide_eq_true_eq, List.not_mem_nil, or_false]
/-- Are two near? -/
def mutv (l : List S50) (a b r : Int) : Bool := match placeOf l a, placeOf l b with | some p, some q => nr p q r | _, _ => false
theorem mutual_eq (l : List S50) (a b r : Int) (hl : l.length ≤ 80) (hr : In64 r) (hin : ∀ p ∈ l, In41 p.f1) {k : Nat} (hk : 300 < k) :
    interest_Mutual.f k l a b r = some (mutv l a b r) := by
  unfold mutv
  obtain ⟨D, h1, hD⟩ := places_eq l (by omega) (k := k) (by omega)
  unfold interest_Mutual.f
  rw [h1]
  simp only [Option.bind_some, mhas_mgo, mgetD_mgo, hD.go]
  cases ha : placeOf l a with
  | none => simp
  | some p =>
    cases hb : placeOf l b with
    | none => simp
    | some q =>
      obtain ⟨x, x1, _, x2⟩ := placeOf_mem ha
      obtain ⟨y, y1, _, y2⟩ := placeOf_mem hb
      simp only [Option.isSome_some, if_true, Option.getD_some]
      rw [near41 k (by omega) (by rw [← x2]; exact hin x x1) (by rw [← y2]; exact hin y y1) hr]
      rfl
theorem index_l0 (l : List Int) (u : Int) (hl : l.length ≤ 100000) : ∀ (n i k : Nat), i + n = l.length → n < k → ∃ j, slices_Index_int_int.l0 k l u (l.length : Int) i = some j ∧ (j ≥ 0 ↔ u ∈ l.drop i) := by
  intro n
  induction n with
  | zero =>
    intro i k hi hk
    obtain ⟨k, rfl⟩ : ∃ q, k = q + 1 := ⟨k - 1, by omega⟩
    rw [slices_Index_int_int.l0, if_neg (by omega), List.drop_of_length_le (by omega)]
    exact ⟨_, rfl, by simp⟩
  | succ n ih =>
    intro i k hi hk
    obtain ⟨k, rfl⟩ : ∃ q, k = q + 1 := ⟨k - 1, by omega⟩
    rw [slices_Index_int_int.l0, if_pos (by omega), if_pos (by omega), if_pos (by omega), rd_drop (l := l) (by omega), wrap64_in (by omega), succ_cast]
    by_cases e : u = rd l i
    · rw [if_pos e]
      refine ⟨_, rfl, ?_⟩
      simp [e]
    · rw [if_neg e]
      obtain ⟨j, h1, h2⟩ := ih (i + 1) k (by omega) (by omega)
      exact ⟨j, h1, by rw [h2]; simp [e]⟩
theorem contains_eq (l : List Int) (u : Int) (hl : l.length ≤ 100000) {k : Nat} (hk : l.length < k) : slices_Contains_int_int.f k l u = some (decide (u ∈ l)) := by
  obtain ⟨j, h1, h2⟩ := index_l0 l u hl l.length 0 k (by omega) hk
  unfold slices_Contains_int_int.f slices_Index_int_int.f
  rw [show (0 : Int) = ((0 : Nat) : Int) from rfl, h1]
  simp only [Option.bind_some]
  rw [List.drop_zero] at h2
  congr 1
  exact decide_eq_decide.2 h2
theorem without_l0 (l m : List Int) (hl : l.length ≤ 1000) (hm : m.length ≤ 1000) : ∀ (n i k : Nat) (out : List Int), i + n = l.length → 2000 + n < k → out.length ≤ i →
    interest_without.l0 k l m out i = some (canonv (out ++ (l.drop i).filter fun u => decide (u ∉ m))) := by
  intro n
  induction n with
  | zero =>
    intro i k out hi hk ho
    obtain ⟨k, rfl⟩ : ∃ q, k = q + 1 := ⟨k - 1, by omega⟩
    rw [interest_without.l0, if_neg (by omega), sorted_eq _ (by omega), List.drop_of_length_le (by omega)]
    simp
  | succ n ih =>
    intro i k out hi hk ho
    obtain ⟨k, rfl⟩ : ∃ q, k = q + 1 := ⟨k - 1, by omega⟩
    rw [interest_without.l0, if_pos (by omega), if_pos (by omega), contains_eq m _ (by omega) (by omega), Option.bind_some, wrap64_in (by omega), succ_cast, rd_drop (l := l) (by omega)]
    by_cases c : rd l i ∈ m
    · rw [if_pos (by simpa using c), ih (i + 1) k out (by omega) (by omega) (by omega), List.filter_cons_of_neg (by simpa using c)]
    · rw [if_neg (by simpa using c)]
      simp only [Option.bind_some]
      rw [if_pos (by simp; omega), ih (i + 1) k _ (by omega) (by omega) (by simp; omega), List.filter_cons_of_pos (by simpa using c)]
      simp
/-- Those of a row that are not in another one, rising. -/
def wov (l m : List Int) : List Int := canonv (l.filter fun u => decide (u ∉ m))
theorem mem_wov (l m : List Int) (z : Int) : z ∈ wov l m ↔ z ∈ l ∧ z ∉ m := by unfold wov; rw [mem_canonv]; simp
theorem change_eq (l m : List Int) (hl : l.length ≤ 1000) (hm : m.length ≤ 1000) {k : Nat} (hk : 4000 < k) : interest_Change.f k l m = some (wov l m, wov m l) := by
  unfold interest_Change.f interest_without.f
  have h1 := without_l0 l m hl hm l.length 0 k [] (by omega) (by omega) (by simp)
  have h2 := without_l0 m l hm hl m.length 0 k [] (by omega) (by omega) (by simp)
  rw [List.drop_zero, List.nil_append] at h1 h2
  rw [show (0 : Int) = ((0 : Nat) : Int) from rfl, h1, h2]
  rfl
theorem hears_eq (l : List Int) (a b : Int) (hl : l.length ≤ 1000) {k : Nat} (hk : 4000 < k) : interest_Hears.f k l a b = some (decide (a ≠ 0 ∧ a ∈ l ∨ b ≠ 0 ∧ b ∈ l)) := by
  unfold interest_Hears.f
  rw [contains_eq l a (by omega) (by omega), contains_eq l b (by omega) (by omega)]
  by_cases h1 : a = 0 <;> by_cases h2 : b = 0 <;> by_cases h3 : a ∈ l <;> by_cases h4 : b ∈ l <;> simp_all
theorem same_l0 (l m : List Int) (hl : l.length = m.length) (hb : l.length ≤ 100000) : ∀ (n i k : Nat), i + n = l.length → n < k → barrowref02_Same.l0 k l m i = some (decide (l.drop i = m.drop i)) := by
  intro n
  induction n with
  | zero =>
    intro i k hi hk
    obtain ⟨k, rfl⟩ : ∃ q, k = q + 1 := ⟨k - 1, by omega⟩
    rw [barrowref02_Same.l0, if_neg (by omega), List.drop_of_length_le (by omega), List.drop_of_length_le (by omega)]
    simp
  | succ n ih =>
    intro i k hi hk
    obtain ⟨k, rfl⟩ : ∃ q, k = q + 1 := ⟨k - 1, by omega⟩
    rw [barrowref02_Same.l0, if_pos (by omega), if_pos (by omega), if_pos (by omega), rd_drop (l := l) (by omega), rd_drop (l := m) (by omega), wrap64_in (by omega), succ_cast]
    by_cases e : rd l i = rd m i
    · rw [if_pos e, ih (i + 1) k (by omega) (by omega)]
      simp [e]
    · rw [if_neg e]
      simp [e]
theorem same_eq (l m : List Int) (hb : l.length ≤ 100000) {k : Nat} (hk : l.length < k) : barrowref02_Same.f k l m = some (decide (l = m)) := by
  unfold barrowref02_Same.f
  by_cases h : l.length = m.length
  · rw [if_pos (by omega)]
    have := same_l0 l m h hb l.length 0 k (by omega) hk
    rw [List.drop_zero, List.drop_zero] at this
    exact this
  · rw [if_neg (by omega)]
    have : l ≠ m := fun e => h (by rw [e])
    simp [this]
end Go.Proofs.Ytgcbmhihiacgnaa.Pure
