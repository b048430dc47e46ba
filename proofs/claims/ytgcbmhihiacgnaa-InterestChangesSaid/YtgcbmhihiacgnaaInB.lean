/- Words of loops that end ('Ev'), of numbers of 64 bits. Rising rows of numbers, each once: of what stands in them there is one such row. Maps as lists of entries, in plain Lean. How far two tiles are apart, and whether they are near, as plain numbers. Interest: where units are, of whom one hears, who went and came: what the program's functions and the document's come to. Interest: what the document's functions come to; the small case. -/
import Derived.Test.YtgcbmhihiacgnaaSumX
import Derived.Test.YtgcbmhihiacgnaaSL6
import Derived.Test.YtgcbmhihiacgnaaSL5
import Derived.Test.YtgcbmhihiacgnaaRefSumX
import Derived.Test.YtgcbmhihiacgnaaXINx2
import Derived.Test.YtgcbmhihiacgnaaXINx1
import Derived.Test.YtgcbmhihiacgnaaXINx7
import Derived.Test.YtgcbmhihiacgnaaXINx1
import Derived.Test.YtgcbmhihiacgnaaXINx2
import Derived.Test.YtgcbmhihiacgnaaXINx3
import Derived.Test.YtgcbmhihiacgnaaXINx4
import Derived.Test.YtgcbmhihiacgnaaXINx5
import Derived.Test.YtgcbmhihiacgnaaXINx6
import Derived.Test.YtgcbmhihiacgnaaXINx8
import Derived.Test.YtgcbmhihiacgnaaXINx9
import Derived.Test.YtgcbmhihiacgnaaXINx10
import Derived.Test.YtgcbmhihiacgnaaXINx12
import Derived.Test.YtgcbmhihiacgnaaXINx11
set_option linter.unusedSimpArgs false
set_option linter.unusedVariables false
namespace Go.Proofs.Ytgcbmhihiacgnaa.Pure
open Go.RowKit Go.Proofs.Ytgcbmhihiacgnaa.XIN Go.Proofs.YtgcbmhihiacgnaaW.PrintWords Go.Proofs.YtgcbmhihiacgnaaW.PrintLast

/-- With rounds enough it is so. -/
def Ev (P : Nat → Prop) : Prop := ∃ K, ∀ k, K ≤ k → P k
theorem Ev.ge (B : Nat) : Ev (fun k => B ≤ k) := ⟨B, fun _ h => h⟩
theorem Ev.and {P Q : Nat → Prop} (h : Ev P) (h' : Ev Q) : Ev (fun k => P k ∧ Q k) := by
  obtain ⟨K, h⟩ := h
  obtain ⟨K', h'⟩ := h'
  exact ⟨max K K', fun k hk => ⟨h k (by omega), h' k (by omega)⟩⟩
theorem Ev.imp {P Q : Nat → Prop} (h : Ev P) (hs : ∀ k, P k → Q k) : Ev Q := let ⟨K, h⟩ := h; ⟨K, fun k hk => hs k (h k hk)⟩
theorem Ev.get {P : Nat → Prop} (h : Ev P) : ∃ k, P k := let ⟨K, h⟩ := h; ⟨K, h K (Nat.le_refl _)⟩
theorem Ev.of {α : Type} {f : Nat → Option α} (hm : ∀ k, LeO (f k) (f (k + 1))) {K : Nat} {v : α} (h : f K = some v) : Ev (fun k => f k = some v) := by
  refine ⟨K, fun k hk => ?_⟩
  obtain ⟨d, rfl⟩ := Nat.exists_eq_add_of_le hk
  induction d with
  | zero => exact h
  | succ d ih => exact hm _ _ (ih (by omega))
abbrev In64 (a : Int) : Prop := -9223372036854775808 ≤ a ∧ a ≤ 9223372036854775807
theorem satv64 (x : Int) : In64 (satv x) := by unfold satv; (repeat' split) <;> constructor <;> omega
theorem mn_min (a b : Int) : mn a b = min a b := by unfold mn; split <;> omega
theorem mx_max (a b : Int) : mx a b = max a b := by unfold mx; split <;> omega
theorem wrap64_in {x : Int} (h : In64 x) : wrap64 x = x := by unfold wrap64; omega
end Go.Proofs.Ytgcbmhihiacgnaa.Pure
namespace Go.Proofs.Ytgcbmhihiacgnaa.Pure
open Go.Proofs.YtgcbmhihiacgnaaS
theorem strict_ext : ∀ {a b : List Int}, a.Pairwise (· < ·) → b.Pairwise (· < ·) → (∀ x, x ∈ a ↔ x ∈ b) → a = b
  | [], [], _, _, _ => rfl
  | [], y :: b, _, _, h => by have := (h y).2 (by simp); simp at this
  | x :: a, [], _, _, h => by have := (h x).1 (by simp); simp at this
  | x :: a, y :: b, ha, hb, h => by
    have ha' := List.pairwise_cons.1 ha
    have hb' := List.pairwise_cons.1 hb
    have hxy : x = y := by
      have h1 : y ≤ x := by
        rcases List.mem_cons.1 ((h x).1 (by simp)) with e | e
        · omega
        · have := hb'.1 x e; omega
      have h2 : x ≤ y := by
        rcases List.mem_cons.1 ((h y).2 (by simp)) with e | e
        · omega
        · have := ha'.1 y e; omega
      omega
    subst hxy
    rw [strict_ext ha'.2 hb'.2 (fun z => ?_)]
    constructor
    · intro hz
      have h1 := ha'.1 z hz
      rcases List.mem_cons.1 ((h z).1 (List.mem_cons_of_mem _ hz)) with e | e
      · omega
      · exact e
    · intro hz
      have h1 := hb'.1 z hz
      rcases List.mem_cons.1 ((h z).2 (List.mem_cons_of_mem _ hz)) with e | e
      · omega
      · exact e
/-- A number in its place among rising ones, once. -/
def ins (x : Int) : List Int → List Int
  | [] => [x]
  | y :: l => if x < y then x :: y :: l else if x = y then y :: l else y :: ins x l
theorem mem_ins (x : Int) : ∀ (l : List Int) (z : Int), z ∈ ins x l ↔ z = x ∨ z ∈ l
  | [], z => by simp [ins]
  | y :: l, z => by
    unfold ins
    split
    · simp
    · split
      · rename_i h; subst h; simp
      · simp only [List.mem_cons, mem_ins x l z]
        constructor
        · rintro (h | h | h) <;> simp [h]
        · rintro (h | h | h) <;> simp [h]
theorem ins_up (x : Int) : ∀ {l : List Int}, l.Pairwise (· < ·) → (ins x l).Pairwise (· < ·)
  | [], _ => by simp [ins]
  | y :: l, h => by
    have h' := List.pairwise_cons.1 h
    unfold ins
    split
    · rename_i c
      refine List.pairwise_cons.2 ⟨fun z hz => ?_, h⟩
      rcases List.mem_cons.1 hz with e | e
      · omega
      · have := h'.1 z e; omega
    · split
      · exact h
      · refine List.pairwise_cons.2 ⟨fun z hz => ?_, ins_up x h'.2⟩
        rcases (mem_ins x l z).1 hz with e | e
        · omega
        · exact h'.1 z e
theorem ins_len (x : Int) : ∀ l : List Int, (ins x l).length ≤ l.length + 1
  | [] => by simp [ins]
  | y :: l => by
    unfold ins
    have := ins_len x l
    (repeat' split) <;> simp <;> omega
/-- Numbers, rising, each once. -/
def canonv (l : List Int) : List Int := l.foldr ins []
theorem mem_canonv : ∀ (l : List Int) (z : Int), z ∈ canonv l ↔ z ∈ l
  | [], z => by simp [canonv]
  | x :: l, z => by
    have := mem_canonv l z
    simp only [canonv, List.foldr_cons, mem_ins] at *
    rw [this]; simp
theorem canonv_up : ∀ (l : List Int), (canonv l).Pairwise (· < ·)
  | [] => by simp [canonv]
  | x :: l => by
    have := canonv_up l
    simp only [canonv, List.foldr_cons] at *
    exact ins_up x this
theorem canonv_len : ∀ (l : List Int), (canonv l).length ≤ l.length
  | [] => by simp [canonv]
  | x :: l => by
    have h1 := canonv_len l
    have h2 := ins_len x (canonv l)
    simp only [canonv, List.foldr_cons] at *
    simp; omega
theorem canonv_ext {a b : List Int} (h : ∀ z, z ∈ a ↔ z ∈ b) : canonv a = canonv b := strict_ext (canonv_up a) (canonv_up b) (fun z => by rw [mem_canonv, mem_canonv]; exact h z)
theorem canonv_of {a b : List Int} (h : a.Pairwise (· < ·)) (hm : ∀ z, z ∈ a ↔ z ∈ b) : a = canonv b := strict_ext h (canonv_up b) (fun z => by rw [mem_canonv]; exact hm z)
theorem canonv_self {a : List Int} (h : a.Pairwise (· < ·)) : canonv a = a := (canonv_of h (fun _ => Iff.rfl)).symm
theorem canonv_nil {a : List Int} : canonv a = [] ↔ a = [] := by
  constructor
  · intro h
    cases a with
    | nil => rfl
    | cons x l => have := (mem_canonv (x :: l) x).2 (by simp); rw [h] at this; simp at this
  · rintro rfl; rfl
theorem sortI_mem (l : List Int) (z : Int) : z ∈ sortI l ↔ z ∈ l := (List.mergeSort_perm l _).mem_iff
theorem sortI_up (l : List Int) : (sortI l).Pairwise (· ≤ ·) := by
  have := List.pairwise_mergeSort (le := fun x y : Int => decide (x ≤ y)) (by intro a b c h1 h2; simp at *; omega) (by intro a b; simp; omega) l
  refine this.imp ?_
  intro a b h
  simpa using h
theorem compact_up {d : Array Int} (h : d.toList.Pairwise (· ≤ ·)) : ∀ m, m ≤ d.size → (Lib.compactUpTo d m).Pairwise (· < ·) ∧ ∀ z, z ∈ Lib.compactUpTo d m ↔ ∃ j, j < m ∧ d[j]! = z
  | 0, _ => by simp [Lib.compactUpTo]
  | m + 1, hm => by
    obtain ⟨h1, h2⟩ := compact_up h m (by omega)
    have get : ∀ i j, i < j → j < d.size → d[i]! ≤ d[j]! := by
      intro i j hij hj
      have := List.pairwise_iff_getElem.1 h i j (by simp; omega) (by simpa using hj) hij
      simpa [getElem!_pos, hj, (by omega : i < d.size)] using this
    rw [Lib.compactUpTo_succ]
    by_cases hk : Lib.keeps d m = true
    · rw [if_pos hk]
      have hk' : m = 0 ∨ d[m]! ≠ d[m - 1]! := by simpa [Lib.keeps] using hk
      constructor
      · refine List.pairwise_append.2 ⟨h1, by simp, fun a ha b hb => ?_⟩
        obtain ⟨j, hj, rfl⟩ := (h2 a).1 ha
        simp at hb
        subst hb
        have e1 : d[j]! ≤ d[m - 1]! := by
          rcases Nat.lt_or_ge j (m - 1) with c | c
          · exact get _ _ c (by omega)
          · rw [show j = m - 1 by omega]; exact Int.le_refl _
        have e2 : d[m - 1]! ≤ d[m]! := get _ _ (by omega) (by omega)
        rcases hk' with c | c
        · omega
        · omega
      · intro z
        simp only [List.mem_append, List.mem_singleton, h2 z]
        constructor
        · rintro (⟨j, hj, e⟩ | e)
          · exact ⟨j, by omega, e⟩
          · exact ⟨m, by omega, e.symm⟩
        · rintro ⟨j, hj, e⟩
          rcases Nat.lt_or_ge j m with c | c
          · exact .inl ⟨j, c, e⟩
          · obtain rfl : j = m := by omega
            exact .inr e.symm
    · rw [if_neg hk, List.append_nil]
      refine ⟨h1, fun z => ?_⟩
      have hk' : ¬ (m = 0 ∨ d[m]! ≠ d[m - 1]!) := by simpa [Lib.keeps] using hk
      rw [h2 z]
      constructor
      · rintro ⟨j, hj, e⟩
        exact ⟨j, by omega, e⟩
      · rintro ⟨j, hj, e⟩
        rcases Nat.lt_or_ge j m with c | c
        · exact ⟨j, c, e⟩
        · obtain rfl : j = m := by omega
          have hm0 : j ≠ 0 := fun h => hk' (.inl h)
          have he : d[j]! = d[j - 1]! := by
            by_cases q : d[j]! = d[j - 1]!
            · exact q
            · exact absurd (.inr q) hk'
          exact ⟨j - 1, by omega, by rw [← he]; exact e⟩
/-- Sorted, and each once. -/
theorem canon_eq (l : List Int) : Lib.compact (sortI l) = canonv l := by
  have h := compact_up (d := (sortI l).toArray) (by simpa using sortI_up l) (sortI l).length (by simp)
  refine canonv_of h.1 (fun z => ?_)
  refine (h.2 z).trans ?_
  rw [← sortI_mem l z, List.mem_iff_getElem]
  constructor
  · rintro ⟨j, hj, e⟩
    exact ⟨j, hj, by rw [← e]; simp [getElem!_pos, hj]⟩
  · rintro ⟨j, hj, e⟩
    exact ⟨j, hj, by rw [← e]; simp [getElem!_pos, hj]⟩
end Go.Proofs.Ytgcbmhihiacgnaa.Pure
namespace Go.Proofs.Ytgcbmhihiacgnaa.Pure
open Go.Proofs.YtgcbmhihiacgnaaS
section
variable {κ β : Type} [DecidableEq κ]
def mgo : List (κ × β) → κ → Option β
  | [], _ => none
  | p :: D, k => if p.1 = k then some p.2 else mgo D k
theorem mgetD_mgo (z : β) (k : κ) : ∀ D : List (κ × β), mgetD z D k = (mgo D k).getD z
  | [] => rfl
  | p :: D => by unfold mgetD mgo; split <;> simp [mgetD_mgo z k D]
theorem mhas_mgo (k : κ) : ∀ D : List (κ × β), mhas D k = (mgo D k).isSome
  | [] => rfl
  | p :: D => by unfold mhas mgo; split <;> simp [mhas_mgo k D]
theorem mgo_mput (k : κ) (v : β) (u : κ) : ∀ D : List (κ × β), mgo (mput D k v) u = if k = u then some v else mgo D u
  | [] => by simp [mput, mgo]
  | p :: D => by
    unfold mput
    by_cases e : p.1 = k
    · rw [if_pos e]
      by_cases c : k = u
      · simp [mgo, c]
      · simp [mgo, c, e]
    · rw [if_neg e]
      simp only [mgo, mgo_mput k v u D]
      by_cases c : p.1 = u
      · have : ¬ k = u := fun h => e (c.trans h.symm)
        simp [c, this]
      · simp [c]
theorem mput_keys (k : κ) (v : β) : ∀ D : List (κ × β), (mput D k v).map (·.1) = if mhas D k = true then D.map (·.1) else D.map (·.1) ++ [k]
  | [] => by simp [mput, mhas]
  | p :: D => by
    unfold mput mhas
    by_cases e : p.1 = k
    · simp [e]
    · have := mput_keys k v D
      simp only [e, if_false, List.map_cons, this]
      split <;> simp
theorem nodup_mput {k : κ} {v : β} {D : List (κ × β)} (h : (D.map (·.1)).Nodup) : ((mput D k v).map (·.1)).Nodup := by
  rw [mput_keys]
  split
  · exact h
  · rename_i c
    rw [List.nodup_append]
    refine ⟨h, by simp, fun x hx y hy e => ?_⟩
    simp at hy
    subst hy; subst e
    rw [← mhas_iff] at hx
    exact c hx
theorem mput_len (k : κ) (v : β) (D : List (κ × β)) : (mput D k v).length ≤ D.length + 1 := by
  have h1 : (mput D k v).length = ((mput D k v).map (·.1)).length := by simp
  rw [h1, mput_keys]
  split <;> simp
theorem mem_mgo {D : List (κ × β)} (h : (D.map (·.1)).Nodup) (p : κ × β) : p ∈ D ↔ mgo D p.1 = some p.2 := by
  induction D with
  | nil => simp [mgo]
  | cons q D ih =>
    simp only [List.map_cons, List.nodup_cons] at h
    unfold mgo
    by_cases e : q.1 = p.1
    · rw [if_pos e]
      constructor
      · intro hp
        rcases List.mem_cons.1 hp with c | c
        · rw [c]
        · exact absurd (List.mem_map.2 ⟨p, c, e.symm⟩) h.1
      · intro hp
        injection hp with hp
        rw [show p = q from Prod.ext e.symm hp.symm]
        simp
    · rw [if_neg e, ← ih h.2]
      simp only [List.mem_cons]
      exact ⟨fun hp => hp.resolve_left (fun c => e (by rw [c])), .inr⟩
theorem mdel_sub (k : κ) : ∀ D : List (κ × β), (mdel D k).Sublist D
  | [] => by simp [mdel]
  | p :: D => by
    unfold mdel
    split
    · exact List.sublist_cons_self _ _
    · exact (mdel_sub k D).cons_cons p
theorem nodup_mdel {k : κ} {D : List (κ × β)} (h : (D.map (·.1)).Nodup) : ((mdel D k).map (·.1)).Nodup := h.sublist ((mdel_sub k D).map _)
theorem mdel_len {p : κ × β} {D : List (κ × β)} (h : p ∈ D) : (mdel D p.1).length + 1 = D.length := by
  induction D with
  | nil => simp at h
  | cons q D ih =>
    unfold mdel
    by_cases e : q.1 = p.1
    · simp [e]
    · rw [if_neg e]
      have : p ∈ D := (List.mem_cons.1 h).resolve_left (fun c => e (by rw [c]))
      simp [ih this]
theorem mem_mdel {k : κ} {D : List (κ × β)} (h : (D.map (·.1)).Nodup) (q : κ × β) : q ∈ mdel D k ↔ q ∈ D ∧ q.1 ≠ k := by
  induction D with
  | nil => simp [mdel]
  | cons p D ih =>
    simp only [List.map_cons, List.nodup_cons] at h
    unfold mdel
    by_cases e : p.1 = k
    · rw [if_pos e]
      constructor
      · intro hq
        exact ⟨List.mem_cons_of_mem _ hq, fun c => h.1 (List.mem_map.2 ⟨q, hq, c.trans e.symm⟩)⟩
      · rintro ⟨hq, hn⟩
        exact (List.mem_cons.1 hq).resolve_left (fun c => hn (by rw [c]; exact e))
    · rw [if_neg e]
      simp only [List.mem_cons, ih h.2]
      constructor
      · rintro (c | ⟨c1, c2⟩)
        · exact ⟨.inl c, by rw [c]; exact e⟩
        · exact ⟨.inr c1, c2⟩
      · rintro ⟨c1 | c1, c2⟩
        · exact .inl c1
        · exact .inr ⟨c1, c2⟩
theorem mgo_mdel {k u : κ} {D : List (κ × β)} (h : (D.map (·.1)).Nodup) : mgo (mdel D k) u = if u = k then none else mgo D u := by
  induction D with
  | nil => simp [mdel, mgo]
  | cons p D ih =>
    simp only [List.map_cons, List.nodup_cons] at h
    have hnone : ∀ D : List (κ × β), k ∉ D.map (·.1) → mgo D k = none := by
      intro D hk
      have h1 := mhas_mgo k D
      have h2 : mhas D k = false := by
        cases hh : mhas D k with
        | false => rfl
        | true => exact absurd ((mhas_iff k D).1 hh) hk
      rw [h2] at h1
      cases hm : mgo D k with
      | none => rfl
      | some v => rw [hm] at h1; cases h1
    unfold mdel
    by_cases e : p.1 = k
    · rw [if_pos e]
      by_cases c : u = k
      · rw [if_pos c, c]; exact hnone D (e ▸ h.1)
      · rw [if_neg c]
        have : ¬ p.1 = u := fun q => c (q.symm.trans e)
        simp [mgo, this]
    · rw [if_neg e]
      simp only [mgo, ih h.2]
      by_cases c : u = k
      · have : ¬ p.1 = u := fun q => e (q.trans c)
        simp [c, e]
      · simp [c]
end
end Go.Proofs.Ytgcbmhihiacgnaa.Pure
namespace Go.Proofs.Ytgcbmhihiacgnaa.Pure
open Go.RowKit Go.Proofs.Ytgcbmhihiacgnaa.XIN Go.Proofs.YtgcbmhihiacgnaaW.PrintWords Go.Proofs.YtgcbmhihiacgnaaW.PrintLast Go.Proofs.YtgcbmhihiacgnaaW.PrintMore

def farv (a b : Int) : Int := satv (max a b - min a b)
theorem farv64 (a b : Int) : In64 (farv a b) := satv64 _
theorem far_eq (k : Nat) (a b : Int) (ha : In64 a) (hb : In64 b) : grid_far.f (k + 1) a b = some (farv a b) := by
  unfold grid_far.f
  rw [mx_max, mn_min, sub_eq k _ _ (by omega) (by omega)]
  rfl
theorem rfar_eq (k : Nat) (a b : Int) (ha : In64 a) (hb : In64 b) : barrowref06_far.f (k + 1) a b = some (farv a b) := by
  unfold barrowref06_far.f farv
  split
  · rw [refsub_eq k _ _ hb ha]
    simp only [Option.bind_some]
    congr 2; omega
  · rw [refsub_eq k _ _ ha hb]
    simp only [Option.bind_some]
    congr 2; omega
def sqv (ax ay bx by_ : Int) : Int := satv (satv (farv ax bx * farv ax bx) + satv (farv ay by_ * farv ay by_))
def nearv (ax ay bx by_ r : Int) : Bool := if r ≥ 0 then decide (sqv ax ay bx by_ ≤ satv (r * r)) else false
section
variable (k : Nat) (ax ay bx by_ : Int) (hax : In64 ax) (hay : In64 ay) (hbx : In64 bx) (hby : In64 by_)
include hax hay hbx hby
theorem square_eq : grid_Square.f (k + 1) ax ay bx by_ = some (sqv ax ay bx by_) := by
  unfold grid_Square.f sqv
  rw [far_eq k ax bx hax hbx, far_eq k ay by_ hay hby]
  simp only [Option.bind_some]
  rw [mul_eq _ _ (farv64 _ _) (farv64 _ _), mul_eq _ _ (farv64 _ _) (farv64 _ _)]
  simp only [Option.bind_some]
  rw [add_eq k _ _ (satv64 _) (satv64 _)]
  rfl
theorem rsquare_eq : barrowref06_Square.f (k + 1) ax ay bx by_ = some (sqv ax ay bx by_) := by
  unfold barrowref06_Square.f sqv
  rw [rfar_eq k ax bx hax hbx, rfar_eq k ay by_ hay hby]
  simp only [Option.bind_some]
  rw [refmul_eq _ _ (farv64 _ _) (farv64 _ _), refmul_eq _ _ (farv64 _ _) (farv64 _ _)]
  simp only [Option.bind_some]
  rw [refadd_eq k _ _ (satv64 _) (satv64 _)]
  rfl
theorem near_eq (r : Int) (hr : In64 r) : grid_Near.f (k + 1) ax ay bx by_ r = some (nearv ax ay bx by_ r) := by
  unfold grid_Near.f nearv
  split
  · rw [square_eq k ax ay bx by_ hax hay hbx hby]
    simp only [Option.bind_some]
    rw [mul_eq _ _ hr hr]
    rfl
  · rfl
theorem rnear_eq (r : Int) (hr : In64 r) : barrowref06_Near.f (k + 1) ax ay bx by_ r = some (nearv ax ay bx by_ r) := by
  unfold barrowref06_Near.f nearv
  split
  · rw [rsquare_eq k ax ay bx by_ hax hay hbx hby]
    simp only [Option.bind_some]
    rw [refmul_eq _ _ hr hr]
    rfl
  · rfl
end
theorem farv_comm (a b : Int) : farv a b = farv b a := by unfold farv; rw [show max a b - min a b = max b a - min b a by omega]
theorem farv_nonneg (a b : Int) : 0 ≤ farv a b := by unfold farv satv; (repeat' split) <;> omega
theorem farv_zero (a b : Int) : farv a b = 0 ↔ a = b := by unfold farv satv; (repeat' split) <;> omega
theorem sqv_comm (ax ay bx by_ : Int) : sqv ax ay bx by_ = sqv bx by_ ax ay := by unfold sqv; rw [farv_comm ax, farv_comm ay]
theorem self_le {d : Int} (h : 0 ≤ d) : d ≤ d * d := by
  rcases Int.lt_or_le d 1 with h1 | h1
  · have : d = 0 := by omega
    subst this; decide
  · have := Int.mul_le_mul_of_nonneg_right h1 h
    omega
/-- A square, cut at the end, is above each number from 0 to 2^62 whose square is less. -/
theorem satv_sq {d : Int} (h : 0 ≤ d) (hd : In64 d) : 0 ≤ satv (d * d) ∧ d ≤ satv (d * d) := by
  have := self_le h
  unfold satv
  (repeat' split) <;> omega
theorem sqv_nonneg (ax ay bx by_ : Int) : 0 ≤ sqv ax ay bx by_ := by
  have h1 := (satv_sq (farv_nonneg ax bx) (farv64 ax bx)).1
  have h2 := (satv_sq (farv_nonneg ay by_) (farv64 ay by_)).1
  unfold sqv
  generalize satv (farv ax bx * farv ax bx) = p at *
  generalize satv (farv ay by_ * farv ay by_) = q at *
  unfold satv
  (repeat' split) <;> omega
theorem sqv_ge (ax ay bx by_ : Int) : satv (farv ax bx * farv ax bx) ≤ sqv ax ay bx by_ ∧ satv (farv ay by_ * farv ay by_) ≤ sqv ax ay bx by_ := by
  have h1 := (satv_sq (farv_nonneg ax bx) (farv64 ax bx)).1
  have h2 := (satv_sq (farv_nonneg ay by_) (farv64 ay by_)).1
  have h3 := satv64 (farv ax bx * farv ax bx)
  have h4 := satv64 (farv ay by_ * farv ay by_)
  unfold sqv
  generalize satv (farv ax bx * farv ax bx) = p at *
  generalize satv (farv ay by_ * farv ay by_) = q at *
  unfold satv
  (repeat' split) <;> omega
theorem sqv_zero (ax ay bx by_ : Int) : sqv ax ay bx by_ = 0 ↔ ax = bx ∧ ay = by_ := by
  constructor
  · intro h
    have h1 := sqv_ge ax ay bx by_
    have h2 := satv_sq (farv_nonneg ax bx) (farv64 ax bx)
    have h3 := satv_sq (farv_nonneg ay by_) (farv64 ay by_)
    have h4 := farv_nonneg ax bx
    have h5 := farv_nonneg ay by_
    have h6 := farv_zero ax bx
    have h7 := farv_zero ay by_
    omega
  · rintro ⟨rfl, rfl⟩
    have h1 := (farv_zero ax ax).2 rfl
    have h2 := (farv_zero ay ay).2 rfl
    unfold sqv
    rw [h1, h2]
    decide
theorem nearv_comm (ax ay bx by_ r : Int) : nearv ax ay bx by_ r = nearv bx by_ ax ay r := by unfold nearv; rw [sqv_comm]
theorem nearv_self (ax ay r : Int) (hr : 0 ≤ r) : nearv ax ay ax ay r = true := by
  unfold nearv
  rw [if_pos hr, (sqv_zero ax ay ax ay).2 ⟨rfl, rfl⟩]
  have := Int.mul_nonneg hr hr
  refine decide_eq_true ?_
  unfold satv
  (repeat' split) <;> omega
theorem nearv_up (ax ay bx by_ r : Int) (hr : 0 ≤ r) (h : nearv ax ay bx by_ r = true) : nearv ax ay bx by_ (r + 1) = true := by
  unfold nearv at *
  rw [if_pos hr] at h
  rw [if_pos (by omega)]
  have h1 := of_decide_eq_true h
  refine decide_eq_true (Int.le_trans h1 (satv_mono ?_))
  have := Int.mul_le_mul (show r ≤ r + 1 by omega) (show r ≤ r + 1 by omega) hr (by omega)
  exact this
end Go.Proofs.Ytgcbmhihiacgnaa.Pure
namespace Go.Proofs.Ytgcbmhihiacgnaa.Pure
open Go.RowKit Go.Proofs.Ytgcbmhihiacgnaa.XIN Go.Proofs.YtgcbmhihiacgnaaW.PrintWords Go.Proofs.YtgcbmhihiacgnaaW.PrintLast Go.Proofs.YtgcbmhihiacgnaaS

theorem rd50_drop {l : List S50} {i : Nat} (h : i < l.length) : l.drop i = rd_T50 l i :: l.drop (i + 1) := by
  unfold rd_T50
  rw [Int.toNat_natCast, List.getD_eq_getElem?_getD, List.getElem?_eq_getElem h]
  exact List.drop_eq_getElem_cons h
theorem rd36_drop {l : List S36} {i : Nat} (h : i < l.length) : l.drop i = rd_T36 l i :: l.drop (i + 1) := by
  unfold rd_T36
  rw [Int.toNat_natCast, List.getD_eq_getElem?_getD, List.getElem?_eq_getElem h]
  exact List.drop_eq_getElem_cons h
theorem rd_drop {l : List Int} {i : Nat} (h : i < l.length) : l.drop i = rd l i :: l.drop (i + 1) := by
  unfold rd
  rw [Int.toNat_natCast, List.getD_eq_getElem?_getD, List.getElem?_eq_getElem h]
  exact List.drop_eq_getElem_cons h
theorem succ_cast (i : Nat) : ((i : Int) + 1) = ((i + 1 : Nat) : Int) := by omega
/-- Where a unit is: its first place. -/
def placeOf : List S50 → Int → Option S41
  | [], _ => none
  | p :: l, u => if p.f0 = u then some p.f1 else placeOf l u
theorem placeOf_some {l : List S50} {u : Int} : (placeOf l u).isSome = true ↔ u ∈ l.map (·.f0) := by
  induction l with
  | nil => simp [placeOf]
  | cons p l ih =>
    unfold placeOf
    by_cases e : p.f0 = u
    · simp [e]
    · rw [if_neg e, ih]; simp [Ne.symm e]
theorem placeOf_mem {l : List S50} {u : Int} {q : S41} (h : placeOf l u = some q) : ∃ p ∈ l, p.f0 = u ∧ p.f1 = q := by
  induction l with
  | nil => simp [placeOf] at h
  | cons p l ih =>
    unfold placeOf at h
    by_cases e : p.f0 = u
    · rw [if_pos e] at h; injection h with h; exact ⟨p, by simp, e, h⟩
    · rw [if_neg e] at h
      obtain ⟨p, h1, h2⟩ := ih h
      exact ⟨p, by simp [h1], h2⟩
theorem placeOf_append (a b : List S50) (u : Int) : placeOf (a ++ b) u = (placeOf a u).or (placeOf b u) := by
  induction a with
  | nil => simp [placeOf]
  | cons p a ih => simp only [List.cons_append, placeOf, ih]; split <;> simp
structure PD (l : List S50) (D : List (Int × S41)) : Prop where
  go : ∀ u, mgo D u = placeOf l u
  nd : (D.map (·.1)).Nodup
  len : D.length ≤ l.length
theorem places_l0 (l : List S50) (hl : l.length ≤ 100) : ∀ (n i k : Nat) (D : List (Int × S41)), i + n = l.length → n < k → PD (l.take i) D → ∃ D', interest_places.l0 k l i D = some D' ∧ PD l D' := by
  intro n
  induction n with
  | zero =>
    intro i k D hi hk h
    obtain ⟨k, rfl⟩ : ∃ q, k = q + 1 := ⟨k - 1, by omega⟩
    rw [interest_places.l0, if_neg (by omega)]
    rw [List.take_of_length_le (by omega)] at h
    exact ⟨D, rfl, h⟩
  | succ n ih =>
    intro i k D hi hk h
    obtain ⟨k, rfl⟩ : ∃ q, k = q + 1 := ⟨k - 1, by omega⟩
    rw [interest_places.l0, if_pos (by omega), if_pos (by omega), Option.bind_some, Option.bind_some, mhas_mgo, h.go, wrap64_in (by omega), succ_cast]
    have ht : l.take (i + 1) = l.take i ++ [rd_T50 l i] := by
      have := rd50_drop (l := l) (i := i) (by omega)
      rw [List.take_add_one, ← List.head?_drop, this]; rfl
    have hone : ∀ u, placeOf [rd_T50 l i] u = if (rd_T50 l i).f0 = u then some (rd_T50 l i).f1 else none := fun u => rfl
    split
    · rename_i c
      refine ih (i + 1) k D (by omega) (by omega) ⟨fun u => ?_, h.nd, by have := h.len; simp at this ⊢; omega⟩
      rw [h.go, ht, placeOf_append, hone]
      split
      · rename_i e; rw [← e]
        cases hp : placeOf (l.take i) (rd_T50 l i).f0 with
        | none => rw [hp] at c; cases c
        | some v => rfl
      · cases placeOf (l.take i) u <;> rfl
    · rename_i c
      rw [Option.bind_some]
      refine ih (i + 1) k _ (by omega) (by omega) ⟨fun u => ?_, nodup_mput h.nd, ?_⟩
      · rw [mgo_mput, h.go, ht, placeOf_append, hone]
        split
        · rename_i e
          subst e
          cases hp : placeOf (l.take i) (rd_T50 l i).f0 with
          | none => rfl
          | some v => rw [hp] at c; simp at c
        · cases placeOf (l.take i) u <;> rfl
      · have := h.len
        have h2 := mput_len (rd_T50 l i).f0 (⟨(rd_T50 l i).f1.f0, (rd_T50 l i).f1.f1⟩ : S41) D
        rw [ht, List.length_append, List.length_singleton]; omega
theorem places_eq (l : List S50) (hl : l.length ≤ 100) {k : Nat} (hk : 100 < k) : ∃ D, interest_places.f k l = some D ∧ PD l D :=
  places_l0 l hl l.length 0 k [] (by omega) (by omega) ⟨fun u => by simp [mgo, placeOf], by simp, by simp⟩
theorem member_l0 (l : List S36) (u : Int) (hl : l.length ≤ 100) : ∀ (n i k : Nat), i + n = l.length → n < k → ∃ j, api_Member_30_i1.l0 k l i u = some (j, u) ∧ (j ≥ 0 ↔ u ∈ (l.drop i).map (·.f0)) := by
  intro n
  induction n with
  | zero =>
    intro i k hi hk
    obtain ⟨k, rfl⟩ : ∃ q, k = q + 1 := ⟨k - 1, by omega⟩
    rw [api_Member_30_i1.l0, if_neg (by omega), List.drop_of_length_le (by omega)]
    exact ⟨_, rfl, by simp⟩
  | succ n ih =>
    intro i k hi hk
    obtain ⟨k, rfl⟩ : ∃ q, k = q + 1 := ⟨k - 1, by omega⟩
    rw [api_Member_30_i1.l0, if_pos (by omega), if_pos (by omega), interest_Set_1_i1.f, rd36_drop (by omega), wrap64_in (by omega), succ_cast]
    by_cases e : (rd_T36 l i).f0 = u
    · rw [if_pos e]
      simp only [Option.bind_some, if_true]
      refine ⟨_, rfl, ?_⟩
      simp [e]
    · rw [if_neg e]
      simp only [Option.bind_some, Bool.false_eq_true, if_false]
      obtain ⟨j, h1, h2⟩ := ih (i + 1) k (by omega) (by omega)
      refine ⟨j, h1, ?_⟩
      rw [h2]
      simp [Ne.symm e]
theorem member_eq (l : List S36) (u : Int) (hl : l.length ≤ 100) {k : Nat} (hk : 100 < k) : api_Member_20_i1.f k l u = some (decide (u ∈ l.map (·.f0)), u) := by
  obtain ⟨j, h1, h2⟩ := member_l0 l u hl l.length 0 k (by omega) (by omega)
  unfold api_Member_20_i1.f api_Member_30_i1.f
  rw [show (0 : Int) = ((0 : Nat) : Int) from rfl, h1]
  simp only [Option.bind_some]
  rw [List.drop_zero] at h2
  by_cases c : j ≥ 0
  · rw [if_pos (by exact c), decide_eq_true (h2.1 c)]
  · rw [if_neg (by exact c), decide_eq_false (fun h => c (h2.2 h))]
theorem sorted_eq (l : List Int) (h : l.length < 4611686018427387904) : interest_sorted_i1.f l = some (canonv l) := by
  unfold interest_sorted_i1.f slices_Sort_int_int_c.f slices_Compact_int_int_c.f
  rw [if_pos h]
  simp only [Option.bind_some, canon_eq]
/-- Is a tile near another one? -/
def nr (p q : S41) (r : Int) : Bool := nearv p.f0 p.f1 q.f0 q.f1 r
def In41 (p : S41) : Prop := In64 p.f0 ∧ In64 p.f1
theorem near41 (k : Nat) (hk : 0 < k) {p q : S41} {r : Int} (hp : In41 p) (hq : In41 q) (hr : In64 r) : grid_Near.f k p.f0 p.f1 q.f0 q.f1 r = some (nr p q r) := by
  obtain ⟨k, rfl⟩ : ∃ m, k = m + 1 := ⟨k - 1, by omega⟩
  exact near_eq k _ _ _ _ hp.1 hp.2 hq.1 hq.2 r hr
/-- What the last loop has found. -/
def foundv (y : S41) (r : Int) (R : List (Int × S41)) : List Int := (R.filter fun p => nr y p.2 r).map (·.1)
theorem found_step {y : S41} {r : Int} {R : List (Int × S41)} (hn : (R.map (·.1)).Nodup) {p : Int × S41} (hp : p ∈ R) (out : List Int) :
    canonv ((if nr y p.2 r = true then out ++ [p.1] else out) ++ foundv y r (mdel R p.1)) = canonv (out ++ foundv y r R) := by
  refine canonv_ext fun z => ?_
  have key : z ∈ foundv y r R ↔ (z = p.1 ∧ nr y p.2 r = true) ∨ z ∈ foundv y r (mdel R p.1) := by
    unfold foundv
    simp only [List.mem_map, List.mem_filter, mem_mdel hn]
    constructor
    · rintro ⟨q, ⟨h1, h2⟩, rfl⟩
      by_cases e : q.1 = p.1
      · have : q = p := by
          have a1 := (mem_mgo hn q).1 h1
          have a2 := (mem_mgo hn p).1 hp
          rw [e, a2] at a1
          injection a1 with a1
          exact Prod.ext e a1.symm
        subst this
        exact .inl ⟨rfl, h2⟩
      · exact .inr ⟨q, ⟨⟨h1, e⟩, h2⟩, rfl⟩
    · rintro (⟨rfl, h⟩ | ⟨q, ⟨⟨h1, _⟩, h2⟩, rfl⟩)
      · exact ⟨p, ⟨hp, h⟩, rfl⟩
      · exact ⟨q, ⟨h1, h2⟩, rfl⟩
  rw [List.mem_append, List.mem_append, key]
  by_cases c : nr y p.2 r = true
  · rw [if_pos c]; simp [c, or_assoc]
  · rw [if_neg c]; simp [c]
theorem found_l1 (y : S41) (r : Int) (hy : In41 y) (hr : In64 r) : ∀ (n k : Nat) (R : List (Int × S41)) (out : List Int), R.length = n → n < k → (R.map (·.1)).Nodup → (∀ p ∈ R, In41 p.2) → out.length + n ≤ 1000 →
    interest_Set.l1 k r out R y = some (canonv (out ++ foundv y r R)) := by
  intro n
  induction n with
  | zero =>
    intro k R out hn hk _ _ ho
    obtain ⟨k, rfl⟩ : ∃ q, k = q + 1 := ⟨k - 1, by omega⟩
    obtain rfl : R = [] := List.eq_nil_of_length_eq_zero hn
    rw [interest_Set.l1, if_pos (show ([] : List (Int × S41)).isEmpty = true from rfl), sorted_eq _ (by omega)]
    simp [foundv]
  | succ n ih =>
    intro k R out hn hk hd hin ho
    obtain ⟨k, rfl⟩ : ∃ q, k = q + 1 := ⟨k - 1, by omega⟩
    have hne : R ≠ [] := by intro e; rw [e] at hn; cases hn
    rw [interest_Set.l1, if_neg (by simpa using hne)]
    refine everyOf_of hne fun p hp => ?_
    have hl := mdel_len hp
    rw [near41 k (by omega) hy (hin p hp) hr, Option.bind_some, ← found_step hd hp]
    have hin' : ∀ q ∈ mdel R p.1, In41 q.2 := fun q hq => hin q ((mdel_sub _ _).subset hq)
    split
    · simp only [Option.bind_some]
      rw [if_pos (by simp; omega)]
      exact ih k _ _ (by omega) (by omega) (nodup_mdel hd) hin' (by simp; omega)
    · exact ih k _ _ (by omega) (by omega) (nodup_mdel hd) hin' (by omega)
theorem found_l101 (y : S41) (r : Int) (hy : In41 y) (hr : In64 r) : ∀ (n k : Nat) (R : List (Int × S41)) (out : List Int), R.length = n → n < k → (R.map (·.1)).Nodup → (∀ p ∈ R, In41 p.2) → out.length + n ≤ 1000 →
    interest_Set.l101 k r y R out = some (canonv (out ++ foundv y r R)) := by
  intro n
  induction n with
  | zero =>
    intro k R out hn hk _ _ ho
    obtain ⟨k, rfl⟩ : ∃ q, k = q + 1 := ⟨k - 1, by omega⟩
    obtain rfl : R = [] := List.eq_nil_of_length_eq_zero hn
    rw [interest_Set.l101, if_pos (show ([] : List (Int × S41)).isEmpty = true from rfl), sorted_eq _ (by omega)]
    simp [foundv]
  | succ n ih =>
    intro k R out hn hk hd hin ho
    obtain ⟨k, rfl⟩ : ∃ q, k = q + 1 := ⟨k - 1, by omega⟩
    have hne : R ≠ [] := by intro e; rw [e] at hn; cases hn
    rw [interest_Set.l101, if_neg (by simpa using hne)]
    refine everyOf_of hne fun p hp => ?_
    have hl := mdel_len hp
    rw [near41 k (by omega) hy (hin p hp) hr, Option.bind_some, ← found_step hd hp]
    have hin' : ∀ q ∈ mdel R p.1, In41 q.2 := fun q hq => hin q ((mdel_sub _ _).subset hq)
    split
    · simp only [Option.bind_some]
      rw [if_pos (by simp; omega)]
      exact ih k _ _ (by omega) (by omega) (nodup_mdel hd) hin' (by simp; omega)
    · exact ih k _ _ (by omega) (by omega) (nodup_mdel hd) hin' (by omega)
/-- Those of a raid that have a place. -/
def raidv (l : List S50) (m : List S36) : List Int := (m.filter fun x => (placeOf l x.f0).isSome).map (·.f0)
/-- Those whose place is near. -/
def closev (l : List S50) (y : S41) (r : Int) : List Int := (l.map (·.f0)).filter fun u => match placeOf l u with | some q => nr y q r | none => false
/-- Of whom one hears. -/
def setv (l : List S50) (m : List S36) (u r : Int) : List Int :=
  match placeOf l u with
  | none => []
  | some y => canonv (u :: ((if u ∈ m.map (·.f0) then raidv l m else []) ++ closev l y r))
theorem found_close {l : List S50} {D : List (Int × S41)} (hD : PD l D) (y : S41) (r z : Int) : z ∈ foundv y r D ↔ z ∈ closev l y r := by
  unfold foundv closev
  simp only [List.mem_map, List.mem_filter]
  constructor
  · rintro ⟨p, ⟨h1, h2⟩, rfl⟩
    have h3 := (mem_mgo hD.nd p).1 h1
    rw [hD.go] at h3
    refine ⟨?_, by rw [h3]; exact h2⟩
    have := (placeOf_some (l := l) (u := p.1)).1 (by rw [h3]; rfl)
    simpa using this
  · rintro ⟨h1, h2⟩
    cases hp : placeOf l z with
    | none => rw [hp] at h2; cases h2
    | some q =>
      rw [hp] at h2
      exact ⟨(z, q), ⟨(mem_mgo hD.nd (z, q)).2 (by rw [hD.go]; exact hp), h2⟩, rfl⟩
theorem In_D {l : List S50} {D : List (Int × S41)} (hD : PD l D) (hin : ∀ p ∈ l, In41 p.f1) : ∀ p ∈ D, In41 p.2 := by
  intro p hp
  have h3 := (mem_mgo hD.nd p).1 hp
  rw [hD.go] at h3
  obtain ⟨q, h1, _, h2⟩ := placeOf_mem h3
  rw [← h2]
  exact hin q h1
theorem set_l0 (l : List S50) (m : List S36) (r : Int) (hl : l.length ≤ 80) (hm : m.length ≤ 80) (y : S41) (hy : In41 y) (hr : In64 r) (D : List (Int × S41)) (hD : PD l D) (hin : ∀ p ∈ l, In41 p.f1) (b : Bool) :
    ∀ (n i k : Nat) (out : List Int), i + n = m.length → 100 + n < k → out.length ≤ i + 1 →
    interest_Set.l0 k m r out i D y b = some (canonv (out ++ ((if b then raidv l (m.drop i) else []) ++ foundv y r D))) := by
  have hlen := hD.len
  intro n
  induction n with
  | zero =>
    intro i k out hi hk ho
    obtain ⟨k, rfl⟩ : ∃ q, k = q + 1 := ⟨k - 1, by omega⟩
    rw [interest_Set.l0, if_neg (by omega), found_l101 y r hy hr D.length k D out rfl (by omega) hD.nd (In_D hD hin) (by omega), List.drop_of_length_le (by omega)]
    cases b <;> simp [raidv]
  | succ n ih =>
    intro i k out hi hk ho
    obtain ⟨k, rfl⟩ : ∃ q, k = q + 1 := ⟨k - 1, by omega⟩
    rw [interest_Set.l0, if_pos (by omega), if_pos (by omega)]
    cases b with
    | false =>
      rw [if_neg (by decide), found_l1 y r hy hr D.length k D out rfl (by omega) hD.nd (In_D hD hin) (by omega)]
      simp
    | true =>
      rw [if_pos rfl, Option.bind_some, Option.bind_some, mhas_mgo, hD.go, wrap64_in (by omega), succ_cast, rd36_drop (by omega)]
      have ih' : ∀ o : List Int, o.length ≤ i + 2 → interest_Set.l0 k m r o ((i + 1 : Nat) : Int) D y true = some (canonv (o ++ (raidv l (m.drop (i + 1)) ++ foundv y r D))) := fun o h => by
        have := ih (i + 1) k o (by omega) (by omega) (by omega)
        simpa using this
      unfold raidv at ih' ⊢
      split
      · rename_i c
        simp only [Option.bind_some]
        rw [if_pos (by simp; omega), ih' _ (by simp; omega), if_pos trivial, List.filter_cons_of_pos (by exact c)]
        simp
      · rename_i c
        rw [ih' _ (by omega), if_pos rfl, List.filter_cons_of_neg (by simpa using c)]
theorem set_eq (l : List S50) (m : List S36) (u r : Int) (hl : l.length ≤ 80) (hm : m.length ≤ 80) (hr : In64 r) (hin : ∀ p ∈ l, In41 p.f1) {k : Nat} (hk : 300 < k) : interest_Set.f k l m u r = some (setv l m u r) := by
  obtain ⟨D, h1, hD⟩ := places_eq l (by omega) (k := k) (by omega)
  unfold interest_Set.f setv
  rw [h1, Option.bind_some, Option.bind_some, Option.bind_some, mhas_mgo, mgetD_mgo, hD.go]
  cases hp : placeOf l u with
  | none => rfl
  | some y =>
    obtain ⟨p, q1, _, q2⟩ := placeOf_mem hp
    have hy : In41 y := by rw [← q2]; exact hin p q1
    rw [if_pos (show (some y).isSome = true from rfl), Option.bind_some, member_eq m u (by omega) (by omega), Option.bind_some]
    have := set_l0 l m r hl hm y hy hr D hD hin (decide (u ∈ m.map (·.f0))) m.length 0 k [u] (by omega) (by omega) (by simp)
    rw [List.drop_zero] at this
    simp only [Option.getD_some]
    refine Eq.trans this ?_
    congr 1
    refine canonv_ext fun z => ?_
    simp only [List.mem_append, List.mem_singleton, List.mem_cons, found_close hD, decide_eq_true_eq, List.not_mem_nil, or_false]
/-- Are two near? -/
def mutv (l : List S50) (a b r : Int) : Bool := match placeOf l a, placeOf l b with | some p, some q => nr p q r | _, _ => false
theorem mutual_eq (l : List S50) (a b r : Int) (hl : l.length ≤ 80) (hr : In64 r) (hin : ∀ p ∈ l, In41 p.f1) {k : Nat} (hk : 300 < k) :
    interest_Mutual.f k l a b r = some (mutv l a b r) := by
  unfold mutv
  obtain ⟨D, h1, hD⟩ := places_eq l (by omega) (k := k) (by omega)
  unfold interest_Mutual.f
  rw [h1]
  simp only [Option.bind_some, mhas_mgo, mgetD_mgo, hD.go]
  cases ha : placeOf l a with
  | none => simp
  | some p =>
    cases hb : placeOf l b with
    | none => simp
    | some q =>
      obtain ⟨x, x1, _, x2⟩ := placeOf_mem ha
      obtain ⟨y, y1, _, y2⟩ := placeOf_mem hb
      simp only [Option.isSome_some, if_true, Option.getD_some]
      rw [near41 k (by omega) (by rw [← x2]; exact hin x x1) (by rw [← y2]; exact hin y y1) hr]
      rfl
theorem index_l0 (l : List Int) (u : Int) (hl : l.length ≤ 100000) : ∀ (n i k : Nat), i + n = l.length → n < k → ∃ j, slices_Index_int_int.l0 k l u (l.length : Int) i = some j ∧ (j ≥ 0 ↔ u ∈ l.drop i) := by
  intro n
  induction n with
  | zero =>
    intro i k hi hk
    obtain ⟨k, rfl⟩ : ∃ q, k = q + 1 := ⟨k - 1, by omega⟩
    rw [slices_Index_int_int.l0, if_neg (by omega), List.drop_of_length_le (by omega)]
    exact ⟨_, rfl, by simp⟩
  | succ n ih =>
    intro i k hi hk
    obtain ⟨k, rfl⟩ : ∃ q, k = q + 1 := ⟨k - 1, by omega⟩
    rw [slices_Index_int_int.l0, if_pos (by omega), if_pos (by omega), if_pos (by omega), rd_drop (l := l) (by omega), wrap64_in (by omega), succ_cast]
    by_cases e : u = rd l i
    · rw [if_pos e]
      refine ⟨_, rfl, ?_⟩
      simp [e]
    · rw [if_neg e]
      obtain ⟨j, h1, h2⟩ := ih (i + 1) k (by omega) (by omega)
      exact ⟨j, h1, by rw [h2]; simp [e]⟩
theorem contains_eq (l : List Int) (u : Int) (hl : l.length ≤ 100000) {k : Nat} (hk : l.length < k) : slices_Contains_int_int.f k l u = some (decide (u ∈ l)) := by
  obtain ⟨j, h1, h2⟩ := index_l0 l u hl l.length 0 k (by omega) hk
  unfold slices_Contains_int_int.f slices_Index_int_int.f
  rw [show (0 : Int) = ((0 : Nat) : Int) from rfl, h1]
  simp only [Option.bind_some]
  rw [List.drop_zero] at h2
  congr 1
  exact decide_eq_decide.2 h2
theorem without_l0 (l m : List Int) (hl : l.length ≤ 1000) (hm : m.length ≤ 1000) : ∀ (n i k : Nat) (out : List Int), i + n = l.length → 2000 + n < k → out.length ≤ i →
    interest_without.l0 k l m out i = some (canonv (out ++ (l.drop i).filter fun u => decide (u ∉ m))) := by
  intro n
  induction n with
  | zero =>
    intro i k out hi hk ho
    obtain ⟨k, rfl⟩ : ∃ q, k = q + 1 := ⟨k - 1, by omega⟩
    rw [interest_without.l0, if_neg (by omega), sorted_eq _ (by omega), List.drop_of_length_le (by omega)]
    simp
  | succ n ih =>
    intro i k out hi hk ho
    obtain ⟨k, rfl⟩ : ∃ q, k = q + 1 := ⟨k - 1, by omega⟩
    rw [interest_without.l0, if_pos (by omega), if_pos (by omega), contains_eq m _ (by omega) (by omega), Option.bind_some, wrap64_in (by omega), succ_cast, rd_drop (l := l) (by omega)]
    by_cases c : rd l i ∈ m
    · rw [if_pos (by simpa using c), ih (i + 1) k out (by omega) (by omega) (by omega), List.filter_cons_of_neg (by simpa using c)]
    · rw [if_neg (by simpa using c)]
      simp only [Option.bind_some]
      rw [if_pos (by simp; omega), ih (i + 1) k _ (by omega) (by omega) (by simp; omega), List.filter_cons_of_pos (by simpa using c)]
      simp
/-- Those of a row that are not in another one, rising. -/
def wov (l m : List Int) : List Int := canonv (l.filter fun u => decide (u ∉ m))
theorem mem_wov (l m : List Int) (z : Int) : z ∈ wov l m ↔ z ∈ l ∧ z ∉ m := by unfold wov; rw [mem_canonv]; simp
theorem change_eq (l m : List Int) (hl : l.length ≤ 1000) (hm : m.length ≤ 1000) {k : Nat} (hk : 4000 < k) : interest_Change.f k l m = some (wov l m, wov m l) := by
  unfold interest_Change.f interest_without.f
  have h1 := without_l0 l m hl hm l.length 0 k [] (by omega) (by omega) (by simp)
  have h2 := without_l0 m l hm hl m.length 0 k [] (by omega) (by omega) (by simp)
  rw [List.drop_zero, List.nil_append] at h1 h2
  rw [show (0 : Int) = ((0 : Nat) : Int) from rfl, h1, h2]
  rfl
theorem hears_eq (l : List Int) (a b : Int) (hl : l.length ≤ 1000) {k : Nat} (hk : 4000 < k) : interest_Hears.f k l a b = some (decide (a ≠ 0 ∧ a ∈ l ∨ b ≠ 0 ∧ b ∈ l)) := by
  unfold interest_Hears.f
  rw [contains_eq l a (by omega) (by omega), contains_eq l b (by omega) (by omega)]
  by_cases h1 : a = 0 <;> by_cases h2 : b = 0 <;> by_cases h3 : a ∈ l <;> by_cases h4 : b ∈ l <;> simp_all
theorem same_l0 (l m : List Int) (hl : l.length = m.length) (hb : l.length ≤ 100000) : ∀ (n i k : Nat), i + n = l.length → n < k → barrowref02_Same.l0 k l m i = some (decide (l.drop i = m.drop i)) := by
  intro n
  induction n with
  | zero =>
    intro i k hi hk
    obtain ⟨k, rfl⟩ : ∃ q, k = q + 1 := ⟨k - 1, by omega⟩
    rw [barrowref02_Same.l0, if_neg (by omega), List.drop_of_length_le (by omega), List.drop_of_length_le (by omega)]
    simp
  | succ n ih =>
    intro i k hi hk
    obtain ⟨k, rfl⟩ : ∃ q, k = q + 1 := ⟨k - 1, by omega⟩
    rw [barrowref02_Same.l0, if_pos (by omega), if_pos (by omega), if_pos (by omega), rd_drop (l := l) (by omega), rd_drop (l := m) (by omega), wrap64_in (by omega), succ_cast]
    by_cases e : rd l i = rd m i
    · rw [if_pos e, ih (i + 1) k (by omega) (by omega)]
      simp [e]
    · rw [if_neg e]
      simp [e]
theorem same_eq (l m : List Int) (hb : l.length ≤ 100000) {k : Nat} (hk : l.length < k) : barrowref02_Same.f k l m = some (decide (l = m)) := by
  unfold barrowref02_Same.f
  by_cases h : l.length = m.length
  · rw [if_pos (by omega)]
    have := same_l0 l m h hb l.length 0 k (by omega) hk
    rw [List.drop_zero, List.drop_zero] at this
    exact this
  · rw [if_neg (by omega)]
    have : l ≠ m := fun e => h (by rw [e])
    simp [this]
end Go.Proofs.Ytgcbmhihiacgnaa.Pure
namespace Go.Proofs.Ytgcbmhihiacgnaa.Pure
open Go.RowKit Go.Proofs.Ytgcbmhihiacgnaa.XIN Go.Proofs.YtgcbmhihiacgnaaW.PrintWords Go.Proofs.YtgcbmhihiacgnaaW.PrintLast Go.Proofs.YtgcbmhihiacgnaaS

def placev (l : List S50) (u : Int) : Int × Int × Bool := match placeOf l u with | some q => (q.f0, q.f1, true) | none => (0, 0, false)
theorem rplace_l0 (l : List S50) (u : Int) (hl : l.length ≤ 100) : ∀ (n i k : Nat), i + n = l.length → n < k → barrowref24_place.l0 k l u i = some (placev (l.drop i) u) := by
  intro n
  induction n with
  | zero =>
    intro i k hi hk
    obtain ⟨k, rfl⟩ : ∃ q, k = q + 1 := ⟨k - 1, by omega⟩
    rw [barrowref24_place.l0, if_neg (by omega), List.drop_of_length_le (by omega)]
    rfl
  | succ n ih =>
    intro i k hi hk
    obtain ⟨k, rfl⟩ : ∃ q, k = q + 1 := ⟨k - 1, by omega⟩
    rw [barrowref24_place.l0, if_pos (by omega), if_pos (by omega), rd50_drop (by omega), wrap64_in (by omega), succ_cast]
    by_cases e : (rd_T50 l i).f0 = u
    · rw [if_pos e]; simp [placev, placeOf, e]
    · rw [if_neg e, ih (i + 1) k (by omega) (by omega)]; simp [placev, placeOf, e]
theorem rplace_eq (l : List S50) (u : Int) (hl : l.length ≤ 100) {k : Nat} (hk : 100 < k) : barrowref24_place.f k l u = some (placev l u) := by
  have := rplace_l0 l u hl l.length 0 k (by omega) (by omega)
  rw [List.drop_zero] at this
  exact this
theorem rhas_l0 (l : List Int) (u : Int) (hl : l.length ≤ 100000) : ∀ (n i k : Nat), i + n = l.length → n < k → barrowref24_has.l0 k l u i = some (decide (u ∈ l.drop i)) := by
  intro n
  induction n with
  | zero =>
    intro i k hi hk
    obtain ⟨k, rfl⟩ : ∃ q, k = q + 1 := ⟨k - 1, by omega⟩
    rw [barrowref24_has.l0, if_neg (by omega), List.drop_of_length_le (by omega)]
    simp
  | succ n ih =>
    intro i k hi hk
    obtain ⟨k, rfl⟩ : ∃ q, k = q + 1 := ⟨k - 1, by omega⟩
    rw [barrowref24_has.l0, if_pos (by omega), if_pos (by omega), rd_drop (l := l) (by omega), wrap64_in (by omega), succ_cast]
    by_cases e : rd l i = u
    · rw [if_pos e]; simp [e]
    · rw [if_neg e, ih (i + 1) k (by omega) (by omega)]; simp [Ne.symm e]
theorem rhas_eq (l : List Int) (u : Int) (hl : l.length ≤ 100000) {k : Nat} (hk : l.length < k) : barrowref24_has.f k l u = some (decide (u ∈ l)) := by
  have := rhas_l0 l u hl l.length 0 k (by omega) (by omega)
  rw [List.drop_zero] at this
  exact this
theorem ins_skip {x : Int} : ∀ (a b : List Int), (∀ y ∈ a, y < x) → ins x (a ++ b) = a ++ ins x b
  | [], b, _ => rfl
  | y :: a, b, h => by
    have := h y (by simp)
    rw [List.cons_append, ins, if_neg (by omega), if_neg (by omega), ins_skip a b (fun z hz => h z (List.mem_cons_of_mem _ hz))]
    rfl
theorem ins_front {x : Int} (b : List Int) (h1 : x ∉ b) (h2 : ∀ y, b.head? = some y → x ≤ y) : ins x b = x :: b := by
  cases b with
  | nil => rfl
  | cons y b =>
    have := h2 y rfl
    have : x ≠ y := fun e => h1 (by simp [e])
    rw [ins, if_pos (by omega)]
theorem ins_in {x : Int} : ∀ {b : List Int}, b.Pairwise (· < ·) → x ∈ b → ins x b = b
  | [], _, h => by simp at h
  | y :: b, hb, h => by
    have hb' := List.pairwise_cons.1 hb
    unfold ins
    by_cases e : x = y
    · subst e; simp
    · have h3 : x ∈ b := (List.mem_cons.1 h).resolve_left e
      have := hb'.1 x h3
      rw [if_neg (by omega), if_neg e, ins_in hb'.2 h3]
theorem head_drop_rd {l : List Int} {i : Nat} {y : Int} (hi : i < l.length) (h : (l.drop i).head? = some y) : y = rd l i := by
  rw [rd_drop hi] at h
  simpa using h.symm
theorem rput_l0 (l : List Int) (x : Int) (hl : l.length ≤ 1000) (hx : x ∉ l) : ∀ (n i k : Nat), i + n = l.length → n < k → (∀ y ∈ l.take i, y < x) → barrowref24_put.l0 k l x (l.take i) i = some (ins x l) := by
  have fin : ∀ i : Nat, i ≤ l.length → (∀ y ∈ l.take i, y < x) → (i < l.length → x ≤ rd l i) → ins x l = l.take i ++ [x] ++ l.drop i := by
    intro i hi h h2
    conv => lhs; rw [← List.take_append_drop i l]
    rw [ins_skip _ _ h, ins_front _ (fun hm => hx (List.drop_subset _ _ hm)) (fun y hy => ?_)]
    · simp
    · rcases Nat.lt_or_ge i l.length with c | c
      · rw [head_drop_rd c hy]; exact h2 c
      · rw [List.drop_of_length_le c] at hy; simp at hy
  intro n
  induction n with
  | zero =>
    intro i k hi hk h
    obtain ⟨k, rfl⟩ : ∃ q, k = q + 1 := ⟨k - 1, by omega⟩
    rw [barrowref24_put.l0, if_neg (by omega), if_pos (by simp; omega), Option.bind_some, if_pos (by omega), if_pos (by omega), Option.bind_some, if_pos (by simp; omega), Int.toNat_natCast]
    rw [fin i (by omega) h (fun c => by omega)]
  | succ n ih =>
    intro i k hi hk h
    obtain ⟨k, rfl⟩ : ∃ q, k = q + 1 := ⟨k - 1, by omega⟩
    rw [barrowref24_put.l0, if_pos (by omega), if_pos (by omega)]
    have ht : l.take (i + 1) = l.take i ++ [rd l i] := by
      have := rd_drop (l := l) (i := i) (by omega)
      rw [List.take_add_one, ← List.head?_drop, this]; rfl
    by_cases c : rd l i < x
    · rw [if_pos c, if_pos (by simp; omega), wrap64_in (by omega), succ_cast, ← ht]
      refine ih (i + 1) k (by omega) (by omega) (fun y hy => ?_)
      rw [ht] at hy
      rcases List.mem_append.1 hy with q | q
      · exact h y q
      · simp at q; omega
    · rw [if_neg c, if_pos (by simp; omega), Option.bind_some, if_pos (by omega), Option.bind_some, if_pos (by simp; omega), Int.toNat_natCast]
      rw [fin i (by omega) h (fun _ => by omega)]
theorem rput_eq (l : List Int) (x : Int) (hl : l.length ≤ 1000) (hu : l.Pairwise (· < ·)) {k : Nat} (hk : 2000 < k) : barrowref24_put.f k l x = some (ins x l) := by
  unfold barrowref24_put.f
  rw [rhas_eq l x (by omega) (by omega), Option.bind_some]
  by_cases c : x ∈ l
  · rw [if_pos (by simpa using c), ins_in hu c]
  · rw [if_neg (by simpa using c)]
    exact rput_l0 l x hl c l.length 0 k (by omega) (by omega) (by simp)
theorem rput1_l0 (l : List Int) (x : Int) (hl : l.length ≤ 1000) (hx : x ∉ l) : ∀ (n i k : Nat), i + n = l.length → n < k → (∀ y ∈ l.take i, y < x) → barrowref24_put_i1.l0 k l x (l.take i) i = some (ins x l) := by
  have fin : ∀ i : Nat, i ≤ l.length → (∀ y ∈ l.take i, y < x) → (i < l.length → x ≤ rd l i) → ins x l = l.take i ++ [x] ++ l.drop i := by
    intro i hi h h2
    conv => lhs; rw [← List.take_append_drop i l]
    rw [ins_skip _ _ h, ins_front _ (fun hm => hx (List.drop_subset _ _ hm)) (fun y hy => ?_)]
    · simp
    · rcases Nat.lt_or_ge i l.length with c | c
      · rw [head_drop_rd c hy]; exact h2 c
      · rw [List.drop_of_length_le c] at hy; simp at hy
  intro n
  induction n with
  | zero =>
    intro i k hi hk h
    obtain ⟨k, rfl⟩ : ∃ q, k = q + 1 := ⟨k - 1, by omega⟩
    rw [barrowref24_put_i1.l0, if_neg (by omega)]
    simp only [Option.bind_some]
    rw [if_pos (by simp; omega), if_pos (by omega), if_pos (by omega), if_pos (by simp; omega), Int.toNat_natCast]
    rw [fin i (by omega) h (fun c => by omega)]
  | succ n ih =>
    intro i k hi hk h
    obtain ⟨k, rfl⟩ : ∃ q, k = q + 1 := ⟨k - 1, by omega⟩
    rw [barrowref24_put_i1.l0, if_pos (by omega), if_pos (by omega)]
    have ht : l.take (i + 1) = l.take i ++ [rd l i] := by
      have := rd_drop (l := l) (i := i) (by omega)
      rw [List.take_add_one, ← List.head?_drop, this]; rfl
    simp only [Option.bind_some]
    by_cases c : rd l i < x
    · rw [if_pos c, if_pos (by simp; omega), wrap64_in (by omega), succ_cast, ← ht]
      refine ih (i + 1) k (by omega) (by omega) (fun y hy => ?_)
      rw [ht] at hy
      rcases List.mem_append.1 hy with q | q
      · exact h y q
      · simp at q; omega
    · rw [if_neg c, if_pos (by simp; omega), if_pos (by omega), if_pos (by simp; omega), Int.toNat_natCast]
      rw [fin i (by omega) h (fun _ => by omega)]
theorem rput1_eq (l : List Int) (x : Int) (hl : l.length ≤ 1000) (hu : l.Pairwise (· < ·)) {k : Nat} (hk : 2000 < k) : barrowref24_put_i1.f k l x = some (ins x l) := by
  unfold barrowref24_put_i1.f
  rw [rhas_eq l x (by omega) (by omega), Option.bind_some]
  by_cases c : x ∈ l
  · rw [if_pos (by simpa using c), ins_in hu c]
  · rw [if_neg (by simpa using c)]
    exact rput1_l0 l x hl c l.length 0 k (by omega) (by omega) (by simp)
theorem ins_canonv (x : Int) (l : List Int) : ins x (canonv l) = canonv (x :: l) := rfl
theorem canonv_snoc (l : List Int) (x : Int) : ins x (canonv l) = canonv (l ++ [x]) := by
  rw [ins_canonv]; exact canonv_ext fun z => by simp [or_comm]
theorem rnear41 (k : Nat) (hk : 0 < k) {p q : S41} {r : Int} (hp : In41 p) (hq : In41 q) (hr : In64 r) : barrowref06_Near.f k p.f0 p.f1 q.f0 q.f1 r = some (nr p q r) := by
  obtain ⟨k, rfl⟩ : ∃ m, k = m + 1 := ⟨k - 1, by omega⟩
  exact rnear_eq k _ _ _ _ hp.1 hp.2 hq.1 hq.2 r hr
theorem placev_some {l : List S50} {u : Int} {q : S41} (h : placeOf l u = some q) : placev l u = (q.f0, q.f1, true) := by unfold placev; rw [h]
theorem placev_none {l : List S50} {u : Int} (h : placeOf l u = none) : placev l u = (0, 0, false) := by unfold placev; rw [h]
def nearOf (l : List S50) (y : S41) (r u : Int) : Bool := match placeOf l u with | some q => nr y q r | none => false
theorem closev_eq (l : List S50) (y : S41) (r : Int) : closev l y r = (l.map (·.f0)).filter (nearOf l y r) := rfl
theorem rset_l2 (l : List S50) (r : Int) (hl : l.length ≤ 80) (y : S41) (hy : In41 y) (hr : In64 r) (hin : ∀ p ∈ l, In41 p.f1) :
    ∀ (n i k : Nat) (A : List Int), i + n = l.length → 4000 + n < k → A.length ≤ 100 + i →
    barrowref24_Set.l2 k l r (canonv A) i y.f0 y.f1 = some (canonv (A ++ ((l.drop i).map (·.f0)).filter (nearOf l y r))) := by
  intro n
  induction n with
  | zero =>
    intro i k A hi hk ho
    obtain ⟨k, rfl⟩ : ∃ q, k = q + 1 := ⟨k - 1, by omega⟩
    rw [barrowref24_Set.l2, if_neg (by omega), List.drop_of_length_le (by omega)]
    simp
  | succ n ih =>
    intro i k A hi hk ho
    obtain ⟨k, rfl⟩ : ∃ q, k = q + 1 := ⟨k - 1, by omega⟩
    have hlen := canonv_len A
    have hu : (rd_T50 l i).f0 ∈ l.map (·.f0) := by
      have := rd50_drop (l := l) (i := i) (by omega)
      exact List.mem_map.2 ⟨_, List.drop_subset i l (by rw [this]; simp), rfl⟩
    obtain ⟨q, hq⟩ : ∃ q, placeOf l (rd_T50 l i).f0 = some q := Option.isSome_iff_exists.1 (placeOf_some.2 hu)
    obtain ⟨x, x1, _, x2⟩ := placeOf_mem hq
    rw [barrowref24_Set.l2, if_pos (by omega), if_pos (by omega), rplace_eq l _ (by omega) (by omega), Option.bind_some, placev_some hq, wrap64_in (by omega), succ_cast, rd50_drop (l := l) (by omega)]
    simp only
    rw [rnear41 k (by omega) hy (by rw [← x2]; exact hin x x1) hr, Option.bind_some, List.map_cons]
    have hn : nearOf l y r (rd_T50 l i).f0 = nr y q r := by unfold nearOf; rw [hq]
    by_cases c : nr y q r = true
    · rw [if_pos c, rput_eq _ _ (by omega) (canonv_up A) (by omega), Option.bind_some, canonv_snoc, ih (i + 1) k _ (by omega) (by omega) (by simp; omega), List.filter_cons_of_pos (by rw [hn]; exact c)]
      simp
    · rw [if_neg c, ih (i + 1) k A (by omega) (by omega) (by omega), List.filter_cons_of_neg (by rw [hn]; exact c)]
theorem rset_l1 (l : List S50) (m : List S36) (r : Int) (hl : l.length ≤ 80) (hm : m.length ≤ 80) (y : S41) (hy : In41 y) (hr : In64 r) (hin : ∀ p ∈ l, In41 p.f1) (b : Bool) :
    ∀ (n i k : Nat) (A : List Int), i + n = m.length → 5000 + 2 * n < k → A.length ≤ 1 + i →
    barrowref24_Set.l1 k l m r b (canonv A) i y.f0 y.f1 = some (canonv (A ++ ((if b then raidv l (m.drop i) else []) ++ closev l y r))) := by
  have last : ∀ (k : Nat) (A : List Int), 4500 < k → A.length ≤ 100 → barrowref24_Set.l2 k l r (canonv A) 0 y.f0 y.f1 = some (canonv (A ++ closev l y r)) := by
    intro k A hk hA
    have := rset_l2 l r hl y hy hr hin l.length 0 k A (by omega) (by omega) (by omega)
    rw [List.drop_zero] at this
    exact this
  intro n
  induction n with
  | zero =>
    intro i k A hi hk ho
    obtain ⟨k, rfl⟩ : ∃ q, k = q + 2 := ⟨k - 2, by omega⟩
    rw [barrowref24_Set.l1, if_neg (by omega), barrowref24_Set.j2, if_neg (by decide), last k A (by omega) (by omega), List.drop_of_length_le (by omega)]
    cases b <;> simp [raidv]
  | succ n ih =>
    intro i k A hi hk ho
    obtain ⟨k, rfl⟩ : ∃ q, k = q + 2 := ⟨k - 2, by omega⟩
    have hlen := canonv_len A
    rw [barrowref24_Set.l1, if_pos (by omega), barrowref24_Set.j2]
    cases b with
    | false => rw [if_neg (by decide), last k A (by omega) (by omega)]; simp
    | true =>
      rw [if_pos rfl, if_pos (by omega), if_pos (by omega), rplace_eq l _ (by omega) (by omega), Option.bind_some, wrap64_in (by omega), succ_cast, rd36_drop (l := m) (by omega)]
      have ih' : ∀ A : List Int, A.length ≤ i + 2 → barrowref24_Set.l1 k l m r true (canonv A) ((i + 1 : Nat) : Int) y.f0 y.f1 = some (canonv (A ++ (raidv l (m.drop (i + 1)) ++ closev l y r))) := fun A h => by
        have := ih (i + 1) k A (by omega) (by omega) (by omega)
        simpa using this
      unfold raidv at ih' ⊢
      cases hp : placeOf l (rd_T36 m i).f0 with
      | none =>
        rw [placev_none hp]
        simp only [Bool.false_eq_true, if_false]
        rw [ih' A (by omega), if_pos trivial, List.filter_cons_of_neg (by simp [hp])]
      | some q =>
        rw [placev_some hp]
        simp only [if_true]
        rw [rput_eq _ _ (by omega) (canonv_up A) (by omega), Option.bind_some, canonv_snoc, ih' _ (by simp; omega), List.filter_cons_of_pos (by simp [hp])]
        simp
theorem rset_l0 (l : List S50) (m : List S36) (u r : Int) (hl : l.length ≤ 80) (hm : m.length ≤ 80) (y : S41) (hy : In41 y) (hr : In64 r) (hin : ∀ p ∈ l, In41 p.f1) :
    ∀ (n i k : Nat) (b : Bool), i + n = m.length → 6000 + n < k →
    barrowref24_Set.l0 k l m u r b i y.f0 y.f1 = some (canonv ([u] ++ ((if (b || decide (u ∈ (m.drop i).map (·.f0))) = true then raidv l m else []) ++ closev l y r))) := by
  intro n
  induction n with
  | zero =>
    intro i k b hi hk
    obtain ⟨k, rfl⟩ : ∃ q, k = q + 1 := ⟨k - 1, by omega⟩
    rw [barrowref24_Set.l0, if_neg (by omega), List.drop_of_length_le (by omega)]
    have := rset_l1 l m r hl hm y hy hr hin b m.length 0 k [u] (by omega) (by omega) (by simp)
    rw [List.drop_zero, show canonv [u] = [u] from rfl] at this
    simpa using this
  | succ n ih =>
    intro i k b hi hk
    obtain ⟨k, rfl⟩ : ∃ q, k = q + 1 := ⟨k - 1, by omega⟩
    rw [barrowref24_Set.l0, if_pos (by omega), wrap64_in (by omega), succ_cast, rd36_drop (l := m) (by omega)]
    cases b with
    | true => rw [if_pos rfl, ih (i + 1) k true (by omega) (by omega)]; simp
    | false =>
      rw [if_neg (by decide), if_pos (by omega), ih (i + 1) k _ (by omega) (by omega)]
      by_cases e : (rd_T36 m i).f0 = u
      · simp [e]
      · have e2 : ((rd_T36 m i).f0 == u) = false := by simpa using e
        rw [e2]
        simp [Ne.symm e]
theorem rset_eq (l : List S50) (m : List S36) (u r : Int) (hl : l.length ≤ 80) (hm : m.length ≤ 80) (hr : In64 r) (hin : ∀ p ∈ l, In41 p.f1) {k : Nat} (hk : 7000 < k) : barrowref24_Set.f k l m u r = some (setv l m u r) := by
  unfold barrowref24_Set.f setv
  rw [rplace_eq l u (by omega) (by omega), Option.bind_some]
  cases hp : placeOf l u with
  | none => rw [placev_none hp]; rfl
  | some y =>
    obtain ⟨p, q1, _, q2⟩ := placeOf_mem hp
    have hy : In41 y := by rw [← q2]; exact hin p q1
    rw [placev_some hp]
    simp only [if_true]
    have := rset_l0 l m u r hl hm y hy hr hin m.length 0 k false (by omega) (by omega)
    rw [List.drop_zero] at this
    refine Eq.trans this ?_
    simp
theorem rmutual_eq (l : List S50) (a b r : Int) (hl : l.length ≤ 80) (hr : In64 r) (hin : ∀ p ∈ l, In41 p.f1) {k : Nat} (hk : 300 < k) :
    barrowref24_Mutual.f k l a b r = some (mutv l a b r) := by
  unfold mutv
  unfold barrowref24_Mutual.f
  rw [rplace_eq l a (by omega) (by omega), rplace_eq l b (by omega) (by omega)]
  simp only [Option.bind_some]
  cases ha : placeOf l a with
  | none => simp [placev_none ha]
  | some p =>
    cases hb : placeOf l b with
    | none => simp [placev_none hb]
    | some q =>
      obtain ⟨x, x1, _, x2⟩ := placeOf_mem ha
      obtain ⟨y, y1, _, y2⟩ := placeOf_mem hb
      rw [placev_some ha, placev_some hb]
      simp only [if_true]
      rw [rnear41 k (by omega) (by rw [← x2]; exact hin x x1) (by rw [← y2]; exact hin y y1) hr]
      rfl
theorem rchange_l1 (l m G : List Int) (hl : l.length ≤ 1000) (hm : m.length ≤ 1000) : ∀ (n i k : Nat) (A : List Int), i + n = m.length → 3000 + n < k → A.length ≤ i →
    barrowref24_Change.l1 k l m G (canonv A) i = some (G, canonv (A ++ (m.drop i).filter fun u => decide (u ∉ l))) := by
  intro n
  induction n with
  | zero =>
    intro i k A hi hk ho
    obtain ⟨k, rfl⟩ : ∃ q, k = q + 1 := ⟨k - 1, by omega⟩
    rw [barrowref24_Change.l1, if_neg (by omega), List.drop_of_length_le (by omega)]
    simp
  | succ n ih =>
    intro i k A hi hk ho
    obtain ⟨k, rfl⟩ : ∃ q, k = q + 1 := ⟨k - 1, by omega⟩
    have hlen := canonv_len A
    rw [barrowref24_Change.l1, if_pos (by omega), if_pos (by omega), rhas_eq l _ (by omega) (by omega), Option.bind_some, wrap64_in (by omega), succ_cast, rd_drop (l := m) (by omega)]
    by_cases c : rd m i ∈ l
    · rw [if_pos (by simpa using c), ih (i + 1) k A (by omega) (by omega) (by omega), List.filter_cons_of_neg (by simpa using c)]
    · rw [if_neg (by simpa using c), rput1_eq _ _ (by omega) (canonv_up A) (by omega), Option.bind_some, canonv_snoc, ih (i + 1) k _ (by omega) (by omega) (by simp; omega), List.filter_cons_of_pos (by simpa using c)]
      simp
theorem rchange_l0 (l m : List Int) (hl : l.length ≤ 1000) (hm : m.length ≤ 1000) : ∀ (n i k : Nat) (A : List Int), i + n = l.length → 5000 + n < k → A.length ≤ i →
    barrowref24_Change.l0 k l m (canonv A) i = some (canonv (A ++ (l.drop i).filter fun u => decide (u ∉ m)), wov m l) := by
  intro n
  induction n with
  | zero =>
    intro i k A hi hk ho
    obtain ⟨k, rfl⟩ : ∃ q, k = q + 1 := ⟨k - 1, by omega⟩
    rw [barrowref24_Change.l0, if_neg (by omega), List.drop_of_length_le (by omega)]
    have := rchange_l1 l m (canonv A) hl hm m.length 0 k [] (by omega) (by omega) (by simp)
    rw [List.drop_zero] at this
    refine Eq.trans this ?_
    simp [wov]
  | succ n ih =>
    intro i k A hi hk ho
    obtain ⟨k, rfl⟩ : ∃ q, k = q + 1 := ⟨k - 1, by omega⟩
    have hlen := canonv_len A
    rw [barrowref24_Change.l0, if_pos (by omega), if_pos (by omega), rhas_eq m _ (by omega) (by omega), Option.bind_some, wrap64_in (by omega), succ_cast, rd_drop (l := l) (by omega)]
    by_cases c : rd l i ∈ m
    · rw [if_pos (by simpa using c), ih (i + 1) k A (by omega) (by omega) (by omega), List.filter_cons_of_neg (by simpa using c)]
    · rw [if_neg (by simpa using c), rput1_eq _ _ (by omega) (canonv_up A) (by omega), Option.bind_some, canonv_snoc, ih (i + 1) k _ (by omega) (by omega) (by simp; omega), List.filter_cons_of_pos (by simpa using c)]
      simp
theorem rchange_eq (l m : List Int) (hl : l.length ≤ 1000) (hm : m.length ≤ 1000) {k : Nat} (hk : 7000 < k) : barrowref24_Change.f k l m = some (wov l m, wov m l) := by
  have := rchange_l0 l m hl hm l.length 0 k [] (by omega) (by omega) (by simp)
  rw [List.drop_zero, List.nil_append] at this
  exact this
theorem rhears_eq (l : List Int) (a b : Int) (hl : l.length ≤ 1000) {k : Nat} (hk : 4000 < k) : barrowref24_Hears.f k l a b = some (decide (a ≠ 0 ∧ a ∈ l ∨ b ≠ 0 ∧ b ∈ l)) := by
  unfold barrowref24_Hears.f
  rw [rhas_eq l a (by omega) (by omega), rhas_eq l b (by omega) (by omega)]
  by_cases h1 : a = 0 <;> by_cases h2 : b = 0 <;> by_cases h3 : a ∈ l <;> by_cases h4 : b ∈ l <;> simp_all
def at3 : List S50 := [⟨1, ⟨0, 0⟩⟩, ⟨2, ⟨9, 0⟩⟩, ⟨3, ⟨2, 0⟩⟩]
theorem small_eq {k : Nat} (hk : 9000 < k) : barrowlaw24_small.f k = some true := by
  have hin : ∀ p ∈ at3, In41 p.f1 := by
    intro p hp
    simp [at3] at hp
    rcases hp with rfl | rfl | rfl <;> exact ⟨⟨by decide, by decide⟩, ⟨by decide, by decide⟩⟩
  have e1 : setv at3 [⟨1, 1⟩, ⟨2, 1⟩] 1 3 = [1, 2, 3] := by decide +kernel
  have e2 : setv at3 [⟨1, 1⟩, ⟨2, 1⟩] 3 3 = [1, 3] := by decide +kernel
  have e3 : wov [1, 2, 3] [1, 3] = [2] := by decide +kernel
  have e4 : wov [1, 3] [1, 2, 3] = [] := by decide +kernel
  have s1 := set_eq at3 [⟨1, 1⟩, ⟨2, 1⟩] 1 3 (by decide) (by decide) (by constructor <;> decide) hin (k := k) (by omega)
  have s2 := set_eq at3 [⟨1, 1⟩, ⟨2, 1⟩] 3 3 (by decide) (by decide) (by constructor <;> decide) hin (k := k) (by omega)
  rw [e1] at s1
  rw [e2] at s2
  have c1 := change_eq [1, 2, 3] [1, 3] (by decide) (by decide) (k := k) (by omega)
  rw [e3, e4] at c1
  have m1 := mutual_eq at3 1 3 2 (by decide) (by constructor <;> decide) hin (k := k) (by omega)
  have m2 : mutv at3 1 3 2 = true := by decide +kernel
  replace m1 : interest_Mutual.f k at3 1 3 2 = some true := m1.trans (congrArg some m2)
  have hat : barrowlaw24_at.f = some at3 := rfl
  unfold barrowlaw24_small.f
  simp only [Option.bind_some, hat, s1, s2, c1, m1, same_eq [1, 2, 3] [1, 2, 3] (by decide) (k := k) (by simp; omega), same_eq [1, 3] [1, 3] (by decide) (k := k) (by simp; omega), same_eq [2] [2] (by decide) (k := k) (by simp; omega),
    hears_eq [1, 3] 0 3 (by decide) (k := k) (by omega), hears_eq [1, 3] 2 0 (by decide) (k := k) (by omega)]
  simp
theorem setv_len (l : List S50) (m : List S36) (u r : Int) (hl : l.length ≤ 80) (hm : m.length ≤ 80) : (setv l m u r).length ≤ 161 := by
  unfold setv
  split
  · simp
  · rename_i y _
    refine Nat.le_trans (canonv_len _) ?_
    have h1 : (raidv l m).length ≤ m.length := by unfold raidv; rw [List.length_map]; exact List.length_filter_le _ _
    have h2 : (closev l y r).length ≤ l.length := by unfold closev; exact Nat.le_trans (List.length_filter_le _ _) (by simp)
    simp only [List.length_cons, List.length_append]
    split <;> simp <;> omega
end Go.Proofs.Ytgcbmhihiacgnaa.Pure
