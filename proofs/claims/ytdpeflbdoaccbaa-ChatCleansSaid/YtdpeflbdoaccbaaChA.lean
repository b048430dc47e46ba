/- Talk: where units are, in which group, who hears: what the program's functions come to. -/
import Derived.Test.YtdpeflbdoaccbaaNearO
import Derived.Test.YtdpeflbdoaccbaaSetX
import Derived.Test.YtdpeflbdoaccbaaMapX
import Derived.Test.YtdpeflbdoaccbaaXCLx2
import Derived.Test.YtdpeflbdoaccbaaXCLx4
import Derived.Test.YtdpeflbdoaccbaaXCLx5
import Derived.Test.YtdpeflbdoaccbaaXCLx6
set_option linter.unusedSimpArgs false
set_option linter.unusedVariables false
namespace Go.Proofs.Ytdpeflbdoaccbaa.Pure
open Go.RowKit Go.Proofs.Ytdpeflbdoaccbaa.XCL Go.Proofs.YtdpeflbdoaccbaaW.PrintWords Go.Proofs.YtdpeflbdoaccbaaW.PrintLast Go.Proofs.YtdpeflbdoaccbaaS

theorem rd44_drop {l : List S44} {i : Nat} (h : i < l.length) : l.drop i = rd_T44 l i :: l.drop (i + 1) := by
  unfold rd_T44
  rw [Int.toNat_natCast, List.getD_eq_getElem?_getD, List.getElem?_eq_getElem h]
  exact List.drop_eq_getElem_cons h
theorem rd71_drop {l : List S71} {i : Nat} (h : i < l.length) : l.drop i = rd_T71 l i :: l.drop (i + 1) := by
  unfold rd_T71
  rw [Int.toNat_natCast, List.getD_eq_getElem?_getD, List.getElem?_eq_getElem h]
  exact List.drop_eq_getElem_cons h
theorem rd_drop {l : List Int} {i : Nat} (h : i < l.length) : l.drop i = rd l i :: l.drop (i + 1) := by
  unfold rd
  rw [Int.toNat_natCast, List.getD_eq_getElem?_getD, List.getElem?_eq_getElem h]
  exact List.drop_eq_getElem_cons h
theorem succ_cast (i : Nat) : ((i : Int) + 1) = ((i + 1 : Nat) : Int) := by omega
def placeOf : List S44 → Int → Option S42
  | [], _ => none
  | p :: l, u => if p.f0 = u then some p.f1 else placeOf l u
theorem placeOf_some {l : List S44} {u : Int} : (placeOf l u).isSome = true ↔ u ∈ l.map (·.f0) := by
  induction l with
  | nil => simp [placeOf]
  | cons p l ih =>
    unfold placeOf
    by_cases e : p.f0 = u
    · simp [e]
    · rw [if_neg e, ih]; simp [Ne.symm e]
theorem placeOf_mem {l : List S44} {u : Int} {q : S42} (h : placeOf l u = some q) : ∃ p ∈ l, p.f0 = u ∧ p.f1 = q := by
  induction l with
  | nil => simp [placeOf] at h
  | cons p l ih =>
    unfold placeOf at h
    by_cases e : p.f0 = u
    · rw [if_pos e] at h; injection h with h; exact ⟨p, by simp, e, h⟩
    · rw [if_neg e] at h
      obtain ⟨p, h1, h2⟩ := ih h
      exact ⟨p, by simp [h1], h2⟩
theorem placeOf_append (a b : List S44) (u : Int) : placeOf (a ++ b) u = (placeOf a u).or (placeOf b u) := by
  induction a with
  | nil => simp [placeOf]
  | cons p a ih => simp only [List.cons_append, placeOf, ih]; split <;> simp
structure PD (l : List S44) (D : List (Int × S42)) : Prop where
  go : ∀ u, mgo D u = placeOf l u
  nd : (D.map (·.1)).Nodup
  len : D.length ≤ l.length
theorem places_l0 (l : List S44) (hl : l.length ≤ 100) : ∀ (n i k : Nat) (D : List (Int × S42)), i + n = l.length → n < k → PD (l.take i) D → ∃ D', chat_places.l0 k l i D = some D' ∧ PD l D' := by
  intro n
  induction n with
  | zero =>
    intro i k D hi hk h
    obtain ⟨k, rfl⟩ : ∃ q, k = q + 1 := ⟨k - 1, by omega⟩
    rw [chat_places.l0, if_neg (by omega)]
    rw [List.take_of_length_le (by omega)] at h
    exact ⟨D, rfl, h⟩
  | succ n ih =>
    intro i k D hi hk h
    obtain ⟨k, rfl⟩ : ∃ q, k = q + 1 := ⟨k - 1, by omega⟩
    rw [chat_places.l0, if_pos (by omega), if_pos (by omega), Option.bind_some, Option.bind_some, mhas_mgo, h.go, wrap64_in (by omega), succ_cast]
    have ht : l.take (i + 1) = l.take i ++ [rd_T44 l i] := by
      have := rd44_drop (l := l) (i := i) (by omega)
      rw [List.take_add_one, ← List.head?_drop, this]; rfl
    have hone : ∀ u, placeOf [rd_T44 l i] u = if (rd_T44 l i).f0 = u then some (rd_T44 l i).f1 else none := fun u => rfl
    split
    · rename_i c
      refine ih (i + 1) k D (by omega) (by omega) ⟨fun u => ?_, h.nd, by have := h.len; simp at this ⊢; omega⟩
      rw [h.go, ht, placeOf_append, hone]
      split
      · rename_i e; rw [← e]
        cases hp : placeOf (l.take i) (rd_T44 l i).f0 with
        | none => rw [hp] at c; cases c
        | some v => rfl
      · cases placeOf (l.take i) u <;> rfl
    · rename_i c
      rw [Option.bind_some]
      refine ih (i + 1) k _ (by omega) (by omega) ⟨fun u => ?_, nodup_mput h.nd, ?_⟩
      · rw [mgo_mput, h.go, ht, placeOf_append, hone]
        split
        · rename_i e
          subst e
          cases hp : placeOf (l.take i) (rd_T44 l i).f0 with
          | none => rfl
          | some v => rw [hp] at c; simp at c
        · cases placeOf (l.take i) u <;> rfl
      · have := h.len
        have h2 := mput_len (rd_T44 l i).f0 (⟨(rd_T44 l i).f1.f0, (rd_T44 l i).f1.f1⟩ : S42) D
        rw [ht, List.length_append, List.length_singleton]; omega
theorem places_eq (l : List S44) (hl : l.length ≤ 100) {k : Nat} (hk : 100 < k) : ∃ D, chat_places.f k l = some D ∧ PD l D :=
  places_l0 l hl l.length 0 k [] (by omega) (by omega) ⟨fun u => by simp [mgo, placeOf], by simp, by simp⟩
theorem member_l0 (l : List S71) (u : Int) (hl : l.length ≤ 100) : ∀ (n i k : Nat), i + n = l.length → n < k → ∃ j, api_Member_67_i1.l0 k l i u = some (j, u) ∧ (j ≥ 0 ↔ u ∈ (l.drop i).map (·.f0)) := by
  intro n
  induction n with
  | zero =>
    intro i k hi hk
    obtain ⟨k, rfl⟩ : ∃ q, k = q + 1 := ⟨k - 1, by omega⟩
    rw [api_Member_67_i1.l0, if_neg (by omega), List.drop_of_length_le (by omega)]
    exact ⟨_, rfl, by simp⟩
  | succ n ih =>
    intro i k hi hk
    obtain ⟨k, rfl⟩ : ∃ q, k = q + 1 := ⟨k - 1, by omega⟩
    rw [api_Member_67_i1.l0, if_pos (by omega), if_pos (by omega), chat_in_1_i1.f, rd71_drop (by omega), wrap64_in (by omega), succ_cast]
    by_cases e : (rd_T71 l i).f0 = u
    · rw [if_pos e]
      simp only [Option.bind_some, if_true]
      refine ⟨_, rfl, ?_⟩
      simp [e]
    · rw [if_neg e]
      simp only [Option.bind_some, Bool.false_eq_true, if_false]
      obtain ⟨j, h1, h2⟩ := ih (i + 1) k (by omega) (by omega)
      refine ⟨j, h1, ?_⟩
      rw [h2]
      simp [Ne.symm e]
def nr (p q : S42) (r : Int) : Bool := nearv p.f0 p.f1 q.f0 q.f1 r
def In42 (p : S42) : Prop := In64 p.f0 ∧ In64 p.f1
theorem near42 (k : Nat) (hk : 0 < k) {p q : S42} {r : Int} (hp : In42 p) (hq : In42 q) (hr : In64 r) : grid_Near.f k p.f0 p.f1 q.f0 q.f1 r = some (nr p q r) := by
  obtain ⟨k, rfl⟩ : ∃ m, k = m + 1 := ⟨k - 1, by omega⟩
  exact near_eq k _ _ _ _ hp.1 hp.2 hq.1 hq.2 r hr
theorem same_l0 (l m : List Int) (hl : l.length = m.length) (hb : l.length ≤ 100000) : ∀ (n i k : Nat), i + n = l.length → n < k → barrowref02_Same.l0 k l m i = some (decide (l.drop i = m.drop i)) := by
  intro n
  induction n with
  | zero =>
    intro i k hi hk
    obtain ⟨k, rfl⟩ : ∃ q, k = q + 1 := ⟨k - 1, by omega⟩
    rw [barrowref02_Same.l0, if_neg (by omega), List.drop_of_length_le (by omega), List.drop_of_length_le (by omega)]
    simp
  | succ n ih =>
    intro i k hi hk
    obtain ⟨k, rfl⟩ : ∃ q, k = q + 1 := ⟨k - 1, by omega⟩
    rw [barrowref02_Same.l0, if_pos (by omega), if_pos (by omega), if_pos (by omega), rd_drop (l := l) (by omega), rd_drop (l := m) (by omega), wrap64_in (by omega), succ_cast]
    by_cases e : rd l i = rd m i
    · rw [if_pos e, ih (i + 1) k (by omega) (by omega)]
      simp [e]
    · rw [if_neg e]
      simp [e]
theorem same_eq (l m : List Int) (hb : l.length ≤ 100000) {k : Nat} (hk : l.length < k) : barrowref02_Same.f k l m = some (decide (l = m)) := by
  unfold barrowref02_Same.f
  by_cases h : l.length = m.length
  · rw [if_pos (by omega)]
    have := same_l0 l m h hb l.length 0 k (by omega) hk
    rw [List.drop_zero, List.drop_zero] at this
    exact this
  · rw [if_neg (by omega)]
    have : l ≠ m := fun e => h (by rw [e])
    simp [this]
theorem rd46_drop {l : List S46} {i : Nat} (h : i < l.length) : l.drop i = rd_T46 l i :: l.drop (i + 1) := by
  unfold rd_T46
  rw [Int.toNat_natCast, List.getD_eq_getElem?_getD, List.getElem?_eq_getElem h]
  exact List.drop_eq_getElem_cons h
theorem in_eq (l : List S71) (u : Int) (hl : l.length ≤ 100) {k : Nat} (hk : 100 < k) : chat_in.f k l u = some (decide (u ∈ l.map (·.f0))) := by
  obtain ⟨j, h1, h2⟩ := member_l0 l u hl l.length 0 k (by omega) (by omega)
  unfold chat_in.f api_Member_46_i1.f api_Member_67_i1.f
  rw [show (0 : Int) = ((0 : Nat) : Int) from rfl, h1]
  simp only [Option.bind_some]
  rw [List.drop_zero] at h2
  by_cases c : j ≥ 0
  · rw [if_pos (by exact c), decide_eq_true (h2.1 c)]; rfl
  · rw [if_neg (by exact c), decide_eq_false (fun h => c (h2.2 h))]; rfl
/-- In which group a unit is; 0: in none. -/
def groupOf : List S71 → Int → Int
  | [], _ => 0
  | p :: l, u => if p.f0 = u then p.f1 else groupOf l u
theorem find_l0 (l : List S71) (u : Int) (hl : l.length ≤ 100) : ∀ (n i k : Nat), i + n = l.length → n < k → ∃ j, api_Member_67_i2.l0 k l i u = some (j, u) ∧ ((j < 0 ∧ groupOf (l.drop i) u = 0) ∨ (0 ≤ j ∧ j < l.length ∧ (rd_T71 l j).f1 = groupOf (l.drop i) u)) := by
  intro n
  induction n with
  | zero =>
    intro i k hi hk
    obtain ⟨k, rfl⟩ : ∃ q, k = q + 1 := ⟨k - 1, by omega⟩
    rw [api_Member_67_i2.l0, if_neg (by omega), List.drop_of_length_le (by omega)]
    exact ⟨_, rfl, .inl ⟨by omega, rfl⟩⟩
  | succ n ih =>
    intro i k hi hk
    obtain ⟨k, rfl⟩ : ∃ q, k = q + 1 := ⟨k - 1, by omega⟩
    rw [api_Member_67_i2.l0, if_pos (by omega), if_pos (by omega), roster_find_1_i1.f, rd71_drop (by omega), wrap64_in (by omega), succ_cast]
    by_cases e : (rd_T71 l i).f0 = u
    · rw [if_pos e]
      simp only [Option.bind_some, if_true]
      refine ⟨_, rfl, .inr ⟨by omega, by omega, ?_⟩⟩
      simp [groupOf, e]
    · rw [if_neg e]
      simp only [Option.bind_some, Bool.false_eq_true, if_false]
      obtain ⟨j, h1, h2⟩ := ih (i + 1) k (by omega) (by omega)
      refine ⟨j, h1, ?_⟩
      rw [groupOf, if_neg e]
      exact h2
theorem group_eq (l : List S71) (u : Int) (hl : l.length ≤ 100) {k : Nat} (hk : 100 < k) : roster_Group.f k l u = some (groupOf l u) := by
  obtain ⟨j, h1, h2⟩ := find_l0 l u hl l.length 0 k (by omega) (by omega)
  unfold roster_Group.f roster_find.f api_Member_67_i2.f
  rw [show api_Member_67_i2.l0 k l 0 u = some (j, u) from h1]
  simp only [Option.bind_some]
  rw [List.drop_zero] at h2
  rcases h2 with ⟨a, b⟩ | ⟨a, b, c⟩
  · rw [if_pos a, b]
  · rw [if_neg (by omega), if_pos a, if_pos b, c]
/-- Does one not hear another one? -/
def muted (l : List S46) (a b : Int) : Bool := l.any fun m => decide (m.f0 = a ∧ m.f1 = b)
theorem mute_l0 (l : List S46) (a b : Int) (hl : l.length ≤ 100) : ∀ (n i k : Nat), i + n = l.length → n < k → ∃ j, api_Mute_42.l0 k l l.length i a b = some j ∧ decide (j ≥ 0) = muted (l.drop i) a b := by
  intro n
  induction n with
  | zero =>
    intro i k hi hk
    obtain ⟨k, rfl⟩ : ∃ q, k = q + 1 := ⟨k - 1, by omega⟩
    rw [api_Mute_42.l0, if_neg (by omega), List.drop_of_length_le (by omega)]
    exact ⟨_, rfl, rfl⟩
  | succ n ih =>
    intro i k hi hk
    obtain ⟨k, rfl⟩ : ∃ q, k = q + 1 := ⟨k - 1, by omega⟩
    rw [api_Mute_42.l0, if_pos (by omega), if_pos (by omega), if_pos (by omega), rd46_drop (by omega), wrap64_in (by omega), succ_cast]
    by_cases e : (rd_T46 l i).f0 = a ∧ (rd_T46 l i).f1 = b
    · rw [if_pos (by simp [e.1, e.2])]
      refine ⟨_, rfl, ?_⟩
      simp [muted, e.1, e.2]
    · rw [if_neg (by simp; intro h1 h2; exact e ⟨h1.symm, h2.symm⟩)]
      obtain ⟨j, h1, h2⟩ := ih (i + 1) k (by omega) (by omega)
      refine ⟨j, h1, ?_⟩
      rw [h2]
      simp only [muted, List.any_cons, decide_eq_false e, Bool.false_or]
theorem mutes_eq (l : List S46) (a b : Int) (hl : l.length ≤ 100) {k : Nat} (hk : 100 < k) : chat_Mutes.f k l a b = some (muted l a b) := by
  obtain ⟨j, h1, h2⟩ := mute_l0 l a b hl l.length 0 k (by omega) (by omega)
  unfold chat_Mutes.f api_Mute_28.f api_Mute_42.f
  rw [show api_Mute_42.l0 k l l.length 0 a b = some j from h1]
  simp only [Option.bind_some]
  rw [h2, List.drop_zero]
/-- Where a unit is, or nowhere. -/
def placeD (l : List S44) (u : Int) : S42 := (placeOf l u).getD z42
theorem placeD_in {l : List S44} (hin : ∀ p ∈ l, In42 p.f1) (u : Int) : In42 (placeD l u) := by
  unfold placeD
  cases h : placeOf l u with
  | none => exact ⟨⟨by decide, by decide⟩, ⟨by decide, by decide⟩⟩
  | some q => obtain ⟨p, h1, _, h2⟩ := placeOf_mem h; exact h2 ▸ hin p h1
/-- Could a unit hear what is said? -/
def hearsv (l : List S44) (m : List S71) (kind a b r u : Int) : Bool :=
  if kind = 1 then nr (placeD l a) (placeD l u) r
  else if kind = 2 then decide (a ∈ m.map (·.f0)) && decide (u ∈ m.map (·.f0))
  else if kind = 3 then decide (a ∈ m.map (·.f0)) && decide (u ∈ m.map (·.f0)) && decide (groupOf m a = groupOf m u)
  else if kind = 4 then decide (u = a ∨ u = b)
  else false
theorem beq_dec (a b : Int) : (a == b) = decide (a = b) := rfl
theorem reaches_eq (l : List S44) (m : List S71) (kind a b r u : Int) (hm : m.length ≤ 100) (hr : In64 r) (hin : ∀ p ∈ l, In42 p.f1) {D : List (Int × S42)} (hD : PD l D) {k : Nat} (hk : 101 < k) :
    chat_talk_reaches_i1.f k kind a b r m u D = some (hearsv l m kind a b r u) := by
  unfold chat_talk_reaches_i1.f
  have hg : ∀ v, mgetD z42 D v = placeD l v := fun v => by rw [mgetD_mgo, hD.go]; rfl
  rw [in_eq m a hm (by omega), in_eq m u hm (by omega)]
  obtain ⟨k, rfl⟩ : ∃ q, k = q + 1 := ⟨k - 1, by omega⟩
  have J : ∀ X, chat_talk_reaches_i1.l199 (k + 1) kind a b r m u D X = some (if kind = 1 then nr (placeD l a) (placeD l u) r else if kind = 2 then X else if kind = 3 then X && decide (groupOf m a = groupOf m u) else if kind = 4 then decide (u = a ∨ u = b) else false) := by
    intro X
    rw [chat_talk_reaches_i1.l199, group_eq m a hm (by omega), group_eq m u hm (by omega)]
    simp only [Option.bind_some, hg]
    rw [near42 k (by omega) (placeD_in hin a) (placeD_in hin u) hr]
    cases X <;> by_cases h1 : kind = 1 <;> by_cases h2 : kind = 2 <;> by_cases h3 : kind = 3 <;> by_cases h4 : kind = 4 <;> by_cases x : u = a <;> by_cases y : u = b <;> simp_all [beq_dec]
  simp only [Option.bind_some, J]
  unfold hearsv
  generalize decide (a ∈ m.map (·.f0)) = P
  generalize decide (u ∈ m.map (·.f0)) = Q
  cases P <;> cases Q <;> by_cases h1 : kind = 1 <;> by_cases h2 : kind = 2 <;> by_cases h3 : kind = 3 <;> by_cases h4 : kind = 4 <;> simp [h1, h2, h3, h4]
/-- Does a unit with a place hear it? -/
def hv (l : List S44) (m : List S71) (t : List S46) (kind a b r u : Int) : Bool := hearsv l m kind a b r u && (decide (u = a) || !muted t u a)
theorem sortI_nodup {l : List Int} (h : l.Nodup) : sortI l = canonv l := by
  refine canonv_of ?_ (fun z => sortI_mem l z)
  have h1 := sortI_up l
  have h2 : (sortI l).Nodup := (List.mergeSort_perm l _).nodup_iff.2 h
  refine (h1.and h2).imp ?_
  intro a b hab
  have := hab.1; have := hab.2; omega
theorem mdel_keys {κ β : Type} [DecidableEq κ] {p : κ × β} {D : List (κ × β)} (h : p ∈ D) : (D.map (·.1)).Perm (p.1 :: (mdel D p.1).map (·.1)) := by
  induction D with
  | nil => simp at h
  | cons q D ih =>
    unfold mdel
    by_cases e : q.1 = p.1
    · rw [if_pos e]; simp [e]
    · rw [if_neg e]
      have : p ∈ D := (List.mem_cons.1 h).resolve_left (fun c => e (by rw [c]))
      simp only [List.map_cons]
      exact ((ih this).cons q.1).trans (List.Perm.swap _ _ _)
theorem hear_l0 (l : List S44) (m : List S71) (t : List S46) (kind a b r : Int) (hm : m.length ≤ 100) (ht : t.length ≤ 100) (hr : In64 r) (hin : ∀ p ∈ l, In42 p.f1) {D : List (Int × S42)} (hD : PD l D) :
    ∀ (n k : Nat) (R : List (Int × S42)) (out : List Int), R.length = n → 200 + 2 * n < k → (out ++ R.map (·.1)).Nodup → out.length + n ≤ 1000 →
    chat_Hear.l0 k m t kind a b r D out R = some (canonv (out ++ (R.map (·.1)).filter (hv l m t kind a b r))) := by
  intro n
  induction n with
  | zero =>
    intro k R out hn hk hd ho
    obtain ⟨k, rfl⟩ : ∃ q, k = q + 1 := ⟨k - 1, by omega⟩
    obtain rfl : R = [] := List.eq_nil_of_length_eq_zero hn
    rw [chat_Hear.l0, if_pos (show ([] : List (Int × S42)).isEmpty = true from rfl)]
    unfold slices_Sort_int_int_c.f
    rw [if_pos (by omega), sortI_nodup (by simpa using hd)]
    simp
  | succ n ih =>
    intro k R out hn hk hd ho
    obtain ⟨k, rfl⟩ : ∃ q, k = q + 1 := ⟨k - 1, by omega⟩
    have hne : R ≠ [] := by intro e; rw [e] at hn; cases hn
    rw [chat_Hear.l0, if_neg (by simpa using hne)]
    refine everyOf_of hne fun p hp => ?_
    have hl := mdel_len hp
    have hperm := mdel_keys hp
    have hd1 : (out ++ (p.1 :: (mdel R p.1).map (·.1))).Nodup := ((hperm.append_left out).nodup_iff).1 hd
    have hd2 : ((out ++ [p.1]) ++ (mdel R p.1).map (·.1)).Nodup := by simpa using hd1
    have hd3 : (out ++ (mdel R p.1).map (·.1)).Nodup := hd1.sublist (List.Sublist.append_left (List.sublist_cons_self _ _) out)
    have hext : ∀ z, z ∈ out ++ (R.map (·.1)).filter (hv l m t kind a b r) ↔ z ∈ out ++ (p.1 :: (mdel R p.1).map (·.1)).filter (hv l m t kind a b r) := fun z => by
      simp only [List.mem_append, List.mem_filter, hperm.mem_iff]
    rw [canonv_ext hext, reaches_eq l m kind a b r p.1 hm hr hin hD (by omega), mutes_eq t p.1 a ht (by omega)]
    simp only [Option.bind_some]
    have hc : hv l m t kind a b r p.1 = (hearsv l m kind a b r p.1 && (decide (p.1 = a) || !muted t p.1 a)) := rfl
    have go : ∀ X : Bool, X = hv l m t kind a b r p.1 → chat_Hear.l299 k m t kind a b r D out R p X = some (canonv (out ++ (p.1 :: (mdel R p.1).map (·.1)).filter (hv l m t kind a b r))) := by
      intro X hX
      obtain ⟨k, rfl⟩ : ∃ q, k = q + 1 := ⟨k - 1, by omega⟩
      rw [chat_Hear.l299]
      cases X with
      | true =>
        rw [if_pos rfl]
        simp only [Option.bind_some]
        rw [if_pos (by simp; omega), ih k _ _ (by omega) (by omega) hd2 (by simp; omega), List.filter_cons_of_pos hX.symm]
        simp
      | false =>
        rw [if_neg (by decide), ih k _ _ (by omega) (by omega) hd3 (by omega), List.filter_cons_of_neg (by rw [← hX]; decide)]
    by_cases c1 : hearsv l m kind a b r p.1 = true
    · rw [if_pos c1]
      by_cases c2 : p.1 = a
      · rw [if_pos c2]; exact go true (by rw [hc, c1, decide_eq_true c2]; rfl)
      · rw [if_neg c2]; exact go _ (by rw [hc, c1, decide_eq_false c2]; rfl)
    · rw [if_neg c1]; exact go false (by rw [hc, Bool.eq_false_iff.2 c1]; rfl)
/-- Who hears what is said. -/
def hearv (l : List S44) (m : List S71) (t : List S46) (kind a b r : Int) : List Int := if a ∈ l.map (·.f0) then canonv ((l.map (·.f0)).filter (hv l m t kind a b r)) else []
theorem hear_eq (l : List S44) (m : List S71) (t : List S46) (kind a b r : Int) (hl : l.length ≤ 100) (hm : m.length ≤ 100) (ht : t.length ≤ 100) (hr : In64 r) (hin : ∀ p ∈ l, In42 p.f1) {k : Nat} (hk : 400 < k) :
    chat_Hear.f k l m t kind a b r = some (hearv l m t kind a b r) := by
  obtain ⟨D, hD1, hD⟩ := places_eq l hl (k := k) (by omega)
  unfold chat_Hear.f hearv
  rw [hD1]
  simp only [Option.bind_some]
  have hmem : ∀ z, z ∈ D.map (·.1) ↔ z ∈ l.map (·.f0) := fun z => by
    rw [← mhas_iff, mhas_mgo, hD.go, placeOf_some]
  by_cases c : a ∈ l.map (·.f0)
  · rw [if_pos ((mhas_iff a D).2 ((hmem a).2 c)), if_pos c, hear_l0 l m t kind a b r hm ht hr hin hD D.length k D [] rfl (by have := hD.len; omega) (by simpa using hD.nd) (by have := hD.len; simp; omega)]
    rw [List.nil_append]
    exact congrArg some (canonv_ext fun z => by simp only [List.mem_filter, hmem])
  · rw [if_neg (fun h => c ((hmem a).1 ((mhas_iff a D).1 h))), if_neg c]
end Go.Proofs.Ytdpeflbdoaccbaa.Pure
