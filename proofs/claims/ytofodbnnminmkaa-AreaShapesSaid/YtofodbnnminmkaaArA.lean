/- Area: the small case; a shape that is moved. -/
import Derived.Test.YtofodbnnminmkaaNearO
import Derived.Test.YtofodbnnminmkaaSetX
import Derived.Test.YtofodbnnminmkaaMapX
import Derived.Test.YtofodbnnminmkaaXASx5
import Derived.Test.YtofodbnnminmkaaXASx8
import Derived.Test.YtofodbnnminmkaaXASx11
import Derived.Test.YtofodbnnminmkaaXASx7
import Derived.Test.YtofodbnnminmkaaXASx2
import Derived.Test.YtofodbnnminmkaaXASx13
import Derived.Test.YtofodbnnminmkaaXASx12
set_option linter.unusedSimpArgs false
set_option linter.unusedVariables false
namespace Go.Proofs.Ytofodbnnminmkaa.Pure
open Go.RowKit Go.Proofs.Ytofodbnnminmkaa.XAS Go.Proofs.YtofodbnnminmkaaW.PrintWords Go.Proofs.YtofodbnnminmkaaW.PrintLast Go.Proofs.YtofodbnnminmkaaS

theorem sortI_nodup {l : List Int} (h : l.Nodup) : sortI l = canonv l := by
  refine canonv_of ?_ (fun z => sortI_mem l z)
  have h1 := sortI_up l
  have h2 : (sortI l).Nodup := (List.mergeSort_perm l _).nodup_iff.2 h
  refine (h1.and h2).imp ?_
  intro a b hab
  have := hab.1; have := hab.2; omega
theorem mdel_keys {κ β : Type} [DecidableEq κ] {p : κ × β} {D : List (κ × β)} (h : p ∈ D) : (D.map (·.1)).Perm (p.1 :: (mdel D p.1).map (·.1)) := by
  induction D with
  | nil => simp at h
  | cons q D ih =>
    unfold mdel
    by_cases e : q.1 = p.1
    · rw [if_pos e]; simp [e]
    · rw [if_neg e]
      have : p ∈ D := (List.mem_cons.1 h).resolve_left (fun c => e (by rw [c]))
      simp only [List.map_cons]
      exact ((ih this).cons q.1).trans (List.Perm.swap _ _ _)
theorem units_l0 (a0 a1 a2 a3 a4 a5 a6 : Int) (P : Int → Bool) (K : Nat) (D : List (Int × S26)) (hP : ∀ p ∈ D, ∀ k, K ≤ k → area_In.f k a0 a1 a2 a3 a4 a5 a6 p.2.f0 p.2.f1 = some (P p.1)) :
    ∀ (n k : Nat) (R : List (Int × S26)) (out : List Int), R.length = n → K + n < k → (∀ p ∈ R, p ∈ D) → (out ++ R.map (·.1)).Nodup → out.length + n ≤ 1000 →
    area_Units.l0 k a0 a1 a2 a3 a4 a5 a6 out R = some (canonv (out ++ (R.map (·.1)).filter P)) := by
  intro n
  induction n with
  | zero =>
    intro k R out hn hk hs hd ho
    obtain ⟨k, rfl⟩ : ∃ q, k = q + 1 := ⟨k - 1, by omega⟩
    obtain rfl : R = [] := List.eq_nil_of_length_eq_zero hn
    rw [area_Units.l0, if_pos (show ([] : List (Int × S26)).isEmpty = true from rfl)]
    unfold slices_Sort_int_int_c.f
    rw [if_pos (by omega), sortI_nodup (by simpa using hd)]
    simp
  | succ n ih =>
    intro k R out hn hk hs hd ho
    obtain ⟨k, rfl⟩ : ∃ q, k = q + 1 := ⟨k - 1, by omega⟩
    have hne : R ≠ [] := by intro e; rw [e] at hn; cases hn
    rw [area_Units.l0, if_neg (by simpa using hne)]
    refine everyOf_of hne fun p hp => ?_
    have hl := mdel_len hp
    have hperm := mdel_keys hp
    have hd1 : (out ++ (p.1 :: (mdel R p.1).map (·.1))).Nodup := ((hperm.append_left out).nodup_iff).1 hd
    have hd2 : ((out ++ [p.1]) ++ (mdel R p.1).map (·.1)).Nodup := by simpa using hd1
    have hd3 : (out ++ (mdel R p.1).map (·.1)).Nodup := hd1.sublist (List.Sublist.append_left (List.sublist_cons_self _ _) out)
    have hext : ∀ z, z ∈ out ++ (R.map (·.1)).filter P ↔ z ∈ out ++ (p.1 :: (mdel R p.1).map (·.1)).filter P := fun z => by
      simp only [List.mem_append, List.mem_filter, hperm.mem_iff]
    have hs' : ∀ q ∈ mdel R p.1, q ∈ D := fun q hq => hs q ((mdel_sub _ _).subset hq)
    rw [canonv_ext hext, hP p (hs p hp) k (by omega)]
    simp only [Option.bind_some]
    by_cases c : P p.1 = true
    · rw [if_pos c, if_pos (by simp; omega), ih k _ _ (by omega) (by omega) hs' hd2 (by simp; omega), List.filter_cons_of_pos c]
      simp
    · rw [if_neg c, ih k _ _ (by omega) (by omega) hs' hd3 (by omega), List.filter_cons_of_neg c]
abbrev at3 : List S47 := [⟨3, ⟨4, 0⟩⟩, ⟨1, ⟨3, 0⟩⟩, ⟨2, ⟨0, 0⟩⟩]
abbrev D3 : List (Int × S26) := [(3, ⟨4, 0⟩), (1, ⟨3, 0⟩), (2, ⟨0, 0⟩)]
abbrev P3 (u : Int) : Bool := decide (u ≠ 1)
theorem in_ev {a0 a1 a2 a3 a4 a5 a6 x y : Int} {v : Bool} {K : Nat} (h : area_In.f K a0 a1 a2 a3 a4 a5 a6 x y = some v) : Ev (fun k => area_In.f k a0 a1 a2 a3 a4 a5 a6 x y = some v) := Ev.of (fun k => area_In.mono _ _ _ _ _ _ _ _ _ k) h
theorem units_ev : Ev (fun k => area_Units.f k at3 2 2 0 0 0 1 2 = some [2, 3]) := by
  have i1 := in_ev (a0 := 2) (a1 := 2) (a2 := 0) (a3 := 0) (a4 := 0) (a5 := 1) (a6 := 2) (x := 4) (y := 0) (v := true) (K := 20) (by decide +kernel)
  have i2 := in_ev (a0 := 2) (a1 := 2) (a2 := 0) (a3 := 0) (a4 := 0) (a5 := 1) (a6 := 2) (x := 3) (y := 0) (v := false) (K := 20) (by decide +kernel)
  have i3 := in_ev (a0 := 2) (a1 := 2) (a2 := 0) (a3 := 0) (a4 := 0) (a5 := 1) (a6 := 2) (x := 0) (y := 0) (v := true) (K := 20) (by decide +kernel)
  have hpl : Ev (fun k => area_places.f k at3 = some D3) := Ev.of (fun k => area_places.mono _ k) (K := 10) (by kernel_rfl)
  obtain ⟨K, hK⟩ := (i1.and i2).and i3
  have hu : Ev (fun k => area_Units.l0 k 2 2 0 0 0 1 2 [] D3 = some [2, 3]) := by
    refine ⟨K + 4, fun k hk => ?_⟩
    have := units_l0 2 2 0 0 0 1 2 P3 K D3 (fun p hp k hk => by
      obtain ⟨⟨h1, h2⟩, h3⟩ := hK k hk
      rcases List.mem_cons.1 hp with rfl | hp
      · exact h1
      rcases List.mem_cons.1 hp with rfl | hp
      · exact h2
      rcases List.mem_cons.1 hp with rfl | hp
      · exact h3
      simp at hp) 3 k D3 [] rfl (by omega) (fun _ h => h) (by decide) (by decide)
    exact this.trans (congrArg some (by decide +kernel))
  refine (hpl.and hu).imp fun k h => ?_
  unfold area_Units.f
  rw [h.1, Option.bind_some, h.2]
theorem small_ev : Ev (fun k => barrowlaw32_small.f k = some true) := by
  have t : ∀ a b : Int, barrowlaw32_tile.f a b = some (a, b) := fun a b => rfl
  have i1 := in_ev (a0 := 2) (a1 := 2) (a2 := 0) (a3 := 0) (a4 := 0) (a5 := 1) (a6 := 2) (x := 4) (y := 0) (v := true) (K := 20) (by decide +kernel)
  have i2 := in_ev (a0 := 2) (a1 := 2) (a2 := 0) (a3 := 0) (a4 := 0) (a5 := 1) (a6 := 2) (x := 3) (y := 0) (v := false) (K := 20) (by decide +kernel)
  have i3 := in_ev (a0 := 4) (a1 := 0) (a2 := 0) (a3 := 1) (a4 := 0) (a5 := 5) (a6 := 0) (x := 3) (y := 2) (v := true) (K := 20) (by decide +kernel)
  have i4 := in_ev (a0 := 4) (a1 := 0) (a2 := 0) (a3 := 1) (a4 := 0) (a5 := 5) (a6 := 0) (x := 3) (y := 3) (v := true) (K := 20) (by decide +kernel)
  have i5 := in_ev (a0 := 4) (a1 := 0) (a2 := 0) (a3 := 1) (a4 := 0) (a5 := 5) (a6 := 0) (x := 2) (y := 3) (v := false) (K := 20) (by decide +kernel)
  have hpl : Ev (fun k => area_places.f k at3 = some D3) := Ev.of (fun k => area_places.mono _ k) (K := 10) (by kernel_rfl)
  have hst : Ev (fun k => slices_SortStableFunc_int_int_i2.f k [2, 3] 5 0 D3 = some (5, 0, [3, 2])) := Ev.of (fun k => slices_SortStableFunc_int_int_i2.mono _ _ _ _ k) (K := 60) (by decide +kernel)
  have sm1 : Ev (fun k => barrowref02_Same.f k [2, 3] [2, 3] = some true) := Ev.of (fun k => barrowref02_Same.mono _ _ k) (K := 10) (by decide +kernel)
  have sm2 : Ev (fun k => barrowref02_Same.f k [3] [3] = some true) := Ev.of (fun k => barrowref02_Same.mono _ _ k) (K := 10) (by decide +kernel)
  have htl : ∃ y : List S26, y.length = 2 ∧ Ev (fun k => area_Tiles.f k 5 1 (List.replicate 5 false) 2 2 0 0 0 1 2 = some y) := by
    have h : (area_Tiles.f 60 5 1 (List.replicate 5 false) 2 2 0 0 0 1 2).map List.length = some 2 := by decide +kernel
    obtain ⟨y, h1, h2⟩ := Option.map_eq_some_iff.1 h
    exact ⟨y, h2, Ev.of (fun k => area_Tiles.mono _ _ _ _ _ _ _ _ _ _ k) h1⟩
  obtain ⟨y, hy, htl⟩ := htl
  have hr : area_Right.f 2 2 0 0 0 1 2 = some true := by decide +kernel
  refine ((((((((((i1.and i2).and i3).and i4).and i5).and hpl).and hst).and sm1).and sm2).and htl).and units_ev).imp ?_
  rintro k ⟨⟨⟨⟨⟨⟨⟨⟨⟨⟨e1, e2⟩, e3⟩, e4⟩, e5⟩, e6⟩, e7⟩, e8⟩, e9⟩, e10⟩, e11⟩
  have hn : area_Nearest.f k at3 2 2 0 0 0 1 2 5 0 1 = some [3] := by
    unfold area_Nearest.f
    rw [e6, e11]
    simp only [Option.bind_some, e7]
    rfl
  unfold barrowlaw32_small.f
  simp only [t, Option.bind_some, e1, e2, e3, e4, e5, e11, hn, e8, e9, e10, if_true, Bool.false_eq_true, if_false]
  rw [if_pos (by omega), if_pos (by omega), hr]
  rfl
end Go.Proofs.Ytofodbnnminmkaa.Pure
