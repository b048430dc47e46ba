/- Maps as lists of entries, in plain Lean. -/
import Derived.Test.YtdpeflbdoaccbaaSL5
set_option linter.unusedSimpArgs false
set_option linter.unusedVariables false
namespace Go.Proofs.Ytdpeflbdoaccbaa.Pure
open Go.Proofs.YtdpeflbdoaccbaaS
section
variable {κ β : Type} [DecidableEq κ]
def mgo : List (κ × β) → κ → Option β
  | [], _ => none
  | p :: D, k => if p.1 = k then some p.2 else mgo D k
theorem mgetD_mgo (z : β) (k : κ) : ∀ D : List (κ × β), mgetD z D k = (mgo D k).getD z
  | [] => rfl
  | p :: D => by unfold mgetD mgo; split <;> simp [mgetD_mgo z k D]
theorem mhas_mgo (k : κ) : ∀ D : List (κ × β), mhas D k = (mgo D k).isSome
  | [] => rfl
  | p :: D => by unfold mhas mgo; split <;> simp [mhas_mgo k D]
theorem mgo_mput (k : κ) (v : β) (u : κ) : ∀ D : List (κ × β), mgo (mput D k v) u = if k = u then some v else mgo D u
  | [] => by simp [mput, mgo]
  | p :: D => by
    unfold mput
    by_cases e : p.1 = k
    · rw [if_pos e]
      by_cases c : k = u
      · simp [mgo, c]
      · simp [mgo, c, e]
    · rw [if_neg e]
      simp only [mgo, mgo_mput k v u D]
      by_cases c : p.1 = u
      · have : ¬ k = u := fun h => e (c.trans h.symm)
        simp [c, this]
      · simp [c]
theorem mput_keys (k : κ) (v : β) : ∀ D : List (κ × β), (mput D k v).map (·.1) = if mhas D k = true then D.map (·.1) else D.map (·.1) ++ [k]
  | [] => by simp [mput, mhas]
  | p :: D => by
    unfold mput mhas
    by_cases e : p.1 = k
    · simp [e]
    · have := mput_keys k v D
      simp only [e, if_false, List.map_cons, this]
      split <;> simp
theorem nodup_mput {k : κ} {v : β} {D : List (κ × β)} (h : (D.map (·.1)).Nodup) : ((mput D k v).map (·.1)).Nodup := by
  rw [mput_keys]
  split
  · exact h
  · rename_i c
    rw [List.nodup_append]
    refine ⟨h, by simp, fun x hx y hy e => ?_⟩
    simp at hy
    subst hy; subst e
    rw [← mhas_iff] at hx
    exact c hx
theorem mput_len (k : κ) (v : β) (D : List (κ × β)) : (mput D k v).length ≤ D.length + 1 := by
  have h1 : (mput D k v).length = ((mput D k v).map (·.1)).length := by simp
  rw [h1, mput_keys]
  split <;> simp
theorem mem_mgo {D : List (κ × β)} (h : (D.map (·.1)).Nodup) (p : κ × β) : p ∈ D ↔ mgo D p.1 = some p.2 := by
  induction D with
  | nil => simp [mgo]
  | cons q D ih =>
    simp only [List.map_cons, List.nodup_cons] at h
    unfold mgo
    by_cases e : q.1 = p.1
    · rw [if_pos e]
      constructor
      · intro hp
        rcases List.mem_cons.1 hp with c | c
        · rw [c]
        · exact absurd (List.mem_map.2 ⟨p, c, e.symm⟩) h.1
      · intro hp
        injection hp with hp
        rw [show p = q from Prod.ext e.symm hp.symm]
        simp
    · rw [if_neg e, ← ih h.2]
      simp only [List.mem_cons]
      exact ⟨fun hp => hp.resolve_left (fun c => e (by rw [c])), .inr⟩
theorem mdel_sub (k : κ) : ∀ D : List (κ × β), (mdel D k).Sublist D
  | [] => by simp [mdel]
  | p :: D => by
    unfold mdel
    split
    · exact List.sublist_cons_self _ _
    · exact (mdel_sub k D).cons_cons p
theorem nodup_mdel {k : κ} {D : List (κ × β)} (h : (D.map (·.1)).Nodup) : ((mdel D k).map (·.1)).Nodup := h.sublist ((mdel_sub k D).map _)
theorem mdel_len {p : κ × β} {D : List (κ × β)} (h : p ∈ D) : (mdel D p.1).length + 1 = D.length := by
  induction D with
  | nil => simp at h
  | cons q D ih =>
    unfold mdel
    by_cases e : q.1 = p.1
    · simp [e]
    · rw [if_neg e]
      have : p ∈ D := (List.mem_cons.1 h).resolve_left (fun c => e (by rw [c]))
      simp [ih this]
theorem mem_mdel {k : κ} {D : List (κ × β)} (h : (D.map (·.1)).Nodup) (q : κ × β) : q ∈ mdel D k ↔ q ∈ D ∧ q.1 ≠ k := by
  induction D with
  | nil => simp [mdel]
  | cons p D ih =>
    simp only [List.map_cons, List.nodup_cons] at h
    unfold mdel
    by_cases e : p.1 = k
    · rw [if_pos e]
      constructor
      · intro hq
        exact ⟨List.mem_cons_of_mem _ hq, fun c => h.1 (List.mem_map.2 ⟨q, hq, c.trans e.symm⟩)⟩
      · rintro ⟨hq, hn⟩
        exact (List.mem_cons.1 hq).resolve_left (fun c => hn (by rw [c]; exact e))
    · rw [if_neg e]
      simp only [List.mem_cons, ih h.2]
      constructor
      · rintro (c | ⟨c1, c2⟩)
        · exact ⟨.inl c, by rw [c]; exact e⟩
        · exact ⟨.inr c1, c2⟩
      · rintro ⟨c1 | c1, c2⟩
        · exact .inl c1
        · exact .inr ⟨c1, c2⟩
theorem mgo_mdel {k u : κ} {D : List (κ × β)} (h : (D.map (·.1)).Nodup) : mgo (mdel D k) u = if u = k then none else mgo D u := by
  induction D with
  | nil => simp [mdel, mgo]
  | cons p D ih =>
    simp only [List.map_cons, List.nodup_cons] at h
    have hnone : ∀ D : List (κ × β), k ∉ D.map (·.1) → mgo D k = none := by
      intro D hk
      have h1 := mhas_mgo k D
      have h2 : mhas D k = false := by
        cases hh : mhas D k with
        | false => rfl
        | true => exact absurd ((mhas_iff k D).1 hh) hk
      rw [h2] at h1
      cases hm : mgo D k with
      | none => rfl
      | some v => rw [hm] at h1; cases h1
    unfold mdel
    by_cases e : p.1 = k
    · rw [if_pos e]
      by_cases c : u = k
      · rw [if_pos c, c]; exact hnone D (e ▸ h.1)
      · rw [if_neg c]
        have : ¬ p.1 = u := fun q => c (q.symm.trans e)
        simp [mgo, this]
    · rw [if_neg e]
      simp only [mgo, ih h.2]
      by_cases c : u = k
      · have : ¬ p.1 = u := fun q => e (q.trans c)
        simp [c, e]
      · simp [c]
end
end Go.Proofs.Ytdpeflbdoaccbaa.Pure
