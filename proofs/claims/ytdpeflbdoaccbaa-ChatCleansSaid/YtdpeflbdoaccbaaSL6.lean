/- Words of this session: the library's Sort and Compact over a row of one's own (by the kit's contracts). -/
import Derived.Test.YtdpeflbdoaccbaaSL3
import Derived.Shelf.SortM.Plain
import Derived.Shelf.SortM.SortNone
import Derived.Shelf.SlicesG.CompactI
import Derived.Shelf.SlGeneric
import Derived.Ground.SlgmProg
import Derived.Ground.SlgnProg
set_option linter.unusedVariables false
set_option linter.unusedSimpArgs false
namespace Go.Proofs.YtdpeflbdoaccbaaS
open Go.RowKit Go.Proofs.YtdpeflbdoaccbaaW.PrintWords Go.Proofs.YtdpeflbdoaccbaaW.PrintLast Go.Proofs.YtdpeflbdoaccbaaW.PrintMore Go.Proofs.YtdpeflbdoaccbaaV
theorem putCells_row {α : Type} [Inhabited α] (enc : α → Value) (off : Nat) (ys : List α) (cur : Array Value) (h : off + ys.length ≤ cur.size) :
    (Sort.putCells enc off ys.toArray cur).size = cur.size ∧ ((Sort.putCells enc off ys.toArray cur).toList.drop off).take ys.length = encs enc ys := by
  refine ⟨by simp [Sort.putCells], ?_⟩
  apply List.ext_getElem?
  intro j
  rw [List.getElem?_take]
  by_cases hj : j < ys.length
  · rw [if_pos hj, List.getElem?_drop]
    have hlt : off + j < cur.size := by omega
    simp only [Sort.putCells, Array.getElem?_toList, Array.getElem?_mapIdx, List.size_toArray]
    rw [Array.getElem?_eq_getElem hlt]
    have hif : off ≤ off + j ∧ off + j < off + ys.length := by omega
    simp only [Option.map_some, hif, and_self, if_true]
    simp [encs, hj, List.getElem?_eq_getElem hj]
  · rw [if_neg hj, List.getElem?_eq_none]
    rw [encs_length]; omega
section
variable {α : Type} {enc : α → Value} {h1 : ∀ x, (enc x).oneCell' = true}
theorem qs_holds [Inhabited α] {e n c g off : Nat} {w : World} {T : Nat → Prop} {xs : List α} (h : Qs (Kd.scalar enc h1) e w 0 T (.slice (some ⟨g, off, none⟩) n c) xs) (hn : 0 < xs.length) :
    g < w.heap.size ∧ Sort.Holds enc w g off xs.toArray ∧ T g := by
  obtain ⟨h0, c', hc, hok, inner, hq, hr⟩ := Qs_open h
  have hin := Kd.scalar_inner hr
  subst hin
  obtain ⟨q1, q2⟩ := hq
  rcases q2 with ⟨z, _⟩ | ⟨g', off', cap, cur, hv, hb, hg, hnc, hcm, hcs, htake⟩
  · omega
  · injection hv with e1 e2 e3
    injection e1 with e1
    injection e1 with e1 e4 _
    subst e1
    have hsz : (Kd.scalar enc h1).sz = 1 := rfl
    rw [hsz, Nat.mul_one] at e4 htake hcs
    subst e4
    rw [Nat.mul_one] at htake
    refine ⟨blk_lt hg, fun j hj => ?_, hok g (by simp [Value.ownBlock])⟩
    rw [List.size_toArray] at hj
    constructor
    · rw [cell_of_row w g (off + j) cur e (0, 0) hg]
      have h2 := congrArg (·[j]?) htake
      simp only [List.getElem?_take, hj, if_true, List.getElem?_drop] at h2
      rw [Array.getElem?_toList] at h2
      rw [h2]
      simp [encs, List.getElem?_eq_getElem hj, hj]
    · exact blk_frozen hg _
theorem qs_put [Inhabited α] {e n c g off : Nat} {w w' : World} {T : Nat → Prop} {xs ys : List α} (h : Qs (Kd.scalar enc h1) e w 0 T (.slice (some ⟨g, off, none⟩) n c) xs) (hn : 0 < xs.length) (hl : ys.length = xs.length)
    (hh : w'.heap[g]? = (Sort.putRow enc w g off ys.toArray).heap[g]?) : Qs (Kd.scalar enc h1) e w' 0 T (.slice (some ⟨g, off, none⟩) n c) ys := by
  obtain ⟨h0, c', hc, hok, inner, hq, hr⟩ := Qs_open h
  obtain ⟨q1, q2⟩ := hq
  rcases q2 with ⟨z, _⟩ | ⟨g', off', cap, cur, hv, hb, hg, hnc, hcm, hcs, htake⟩
  · omega
  · injection hv with e1 e2 e3
    injection e1 with e1
    injection e1 with e1 e4 _
    subst e1
    have hsz : (Kd.scalar enc h1).sz = 1 := rfl
    rw [hsz, Nat.mul_one] at e4 htake hcs
    subst e4
    subst e3
    have hfit : off + ys.length ≤ cur.size := by rw [hcs, hl]; omega
    obtain ⟨p1, p2⟩ := putCells_row enc off ys cur hfit
    have hg' : w'.heap[g]? = some (.cells (Sort.putCells enc off ys.toArray cur) e (0, 0)) := by
      rw [hh]
      simp only [Sort.putRow, Sort.mapBlock, Array.getElem?_modify, if_true, hg, Option.map_some, Sort.onCells]
    refine ⟨_, n, c, c', rfl, h0, hc, hok, encs enc ys, ⟨by rw [encs_length, hsz, Nat.mul_one], .inr ⟨g, off, c', _, by rw [hsz, Nat.mul_one, e2, hl], hb, hg', by omega, hcm, by rw [p1, hcs, hsz, Nat.mul_one], ?_⟩⟩, reps_scalar' ys⟩
    rw [hsz, Nat.mul_one, Nat.mul_one]
    exact p2
theorem put_keep [Inhabited α] {w : World} {g off m : Nat} {T : Nat → Prop} (hT : T g) (ys : List α) (os : Array Obj) : Keep T w (Sort.grow (Sort.putRow enc (Sort.ahead w m) g off ys.toArray) os) :=
  ⟨rfl, rfl, rfl, by simp, fun i hi hs => by
    have hne : g ≠ i := fun e => hs (e ▸ hT)
    rw [Sort.heap_grow_old _ _ (by simpa using hi)]
    simp [Sort.putRow, Sort.mapBlock, Array.getElem?_modify, hne]⟩
/-- A row of one's own, in which a call of the library's has laid others. -/
theorem SL.put [Inhabited α] {e n c g off m : Nat} {w : World} {S : Nat → Prop} {L : List Asr} {xs ys : List α} {os : Array Obj} (hf : Fresh S w) (H : SL (row (Kd.scalar enc h1) e (.slice (some ⟨g, off, none⟩) n c) xs :: L) w S) (hn : 0 < xs.length) (hl : ys.length = xs.length) :
    SL (row (Kd.scalar enc h1) e (.slice (some ⟨g, off, none⟩) n c) ys :: L) (Sort.grow (Sort.putRow enc (Sort.ahead w m) g off ys.toArray) os) S ∧ Keep S w (Sort.grow (Sort.putRow enc (Sort.ahead w m) g off ys.toArray) os) :=
  SL.upd hf H fun T hT hq => ⟨T, fun k hk => .inl hk, put_keep (qs_holds hq hn).2.2 ys os, qs_put hq hn hl (by rw [Sort.heap_grow_old _ _ (by simpa using (qs_holds hq hn).1)]; rfl)⟩
end
def sortI (l : List Int) : List Int := l.mergeSort fun x y => decide (x ≤ y)
theorem sortI_len (l : List Int) : (sortI l).length = l.length := by simp [sortI]
theorem slices_len {α : Type} {d : Kd α} {e : Nat} {A : Option Addr} {n c : Nat} {xs : List α} {w : World} {T : Nat → Prop} (h : Qs d e w 0 T (.slice A n c) xs) (hn : 0 < n) : ∃ g off, A = some ⟨g, off, none⟩ ∧ n ≤ maxLen := by
  obtain ⟨h0, c', hc, hok, inner, hq, hr⟩ := Qs_open h
  obtain ⟨q1, q2⟩ := hq
  rcases q2 with ⟨z, A', hv, _⟩ | ⟨g', off', cap, cur, hv, hb, hg, hnc, hcm, hcs, htake⟩
  · injection hv with e1 e2 e3
    omega
  · injection hv with e1 e2 e3
    exact ⟨_, _, e1, by omega⟩
section
variable {P : Program} {ρ : Go.Shelf.Ren} {w : World} {S : Nat → Prop} {L : List Asr}
theorem sort_calls (Ly : SlLaysM.n5 P ρ) {e : Nat} {A : Option Addr} {c : Nat} {l : List Int} (hf : Fresh S w) (hs : SL (row (Kd.int .i64) e (.slice A l.length c) l :: L) w S) (hlim : l.length < 4611686018427387904) :
    Calls P (ρ.f 5) #[.slice A l.length c] w fun e' w' => e' = .returned (.tuple #[]) ∧ SL (row (Kd.int .i64) e (.slice A l.length c) (sortI l) :: L) w' S ∧ Keep S w w' := by
  rcases Nat.eq_zero_or_pos l.length with h0 | hp
  · obtain rfl : l = [] := List.eq_nil_of_length_eq_zero h0
    refine (AnyM.slices_Sort_int_none Ly A c w).mono ?_
    rintro e' w' ⟨rfl, rfl⟩
    exact ⟨rfl, by simpa [sortI] using hs, .refl _ _⟩
  · have hq := hs
    obtain ⟨T, U, g1, g2, g3, g4, g5⟩ := hq
    obtain ⟨g, off, rfl, _⟩ := slices_len g4 hp
    obtain ⟨k1, k2, k3⟩ := qs_holds (h1 := fun _ => rfl) g4 hp
    refine (AnyM.slices_Sort_int Ly g off c l w k2 k1 hlim).mono ?_
    rintro e' w' ⟨rfl, n, os, rfl⟩
    obtain ⟨p1, p2⟩ := SL.put (enc := Value.int .i64) (h1 := fun _ => rfl) (ys := sortI l) (m := n) (os := os) hf hs hp (sortI_len l)
    exact ⟨rfl, p1, p2⟩
theorem compact_len (l : List Int) : (Lib.compact l).length ≤ l.length := by
  unfold Lib.compact Lib.compactUpTo
  rw [List.length_map]
  exact Nat.le_trans (List.length_filter_le _ _) (by simp)
theorem compact_calls (Ly : SlLaysN.n43 P ρ) {e : Nat} {A : Option Addr} {c : Nat} {l : List Int} (hf : Fresh S w) (hs : SL (row (Kd.int .i64) e (.slice A l.length c) l :: L) w S) :
    Calls P (ρ.f 43) #[.slice A l.length c] w fun e' w' => ∃ c', e' = .returned (.slice A (Lib.compact l).length c') ∧ SL (row (Kd.int .i64) e (.slice A (Lib.compact l).length c') (Lib.compact l) :: L) w' S ∧ Keep S w w' := by
  rcases Nat.eq_zero_or_pos l.length with h0 | hp
  · obtain rfl : l = [] := List.eq_nil_of_length_eq_zero h0
    refine (AnyG.slices_Compact_int_empty Ly A c w).mono ?_
    rintro e' w' ⟨rfl, rfl⟩
    exact ⟨c, rfl, by simpa [Lib.compact, Lib.compactUpTo] using hs, .refl _ _⟩
  · have hq := hs
    obtain ⟨T, U, g1, g2, g3, g4, g5⟩ := hq
    obtain ⟨g, off, rfl, hm⟩ := slices_len g4 hp
    obtain ⟨k1, k2, k3⟩ := qs_holds (h1 := fun _ => rfl) g4 hp
    have hc := (Qs_open g4).1
    refine (AnyG.slices_Compact_int Ly g off c l w k2 (by simpa [maxLen] using hm) hc).mono ?_
    rintro e' w' ⟨rfl, q, rfl⟩
    have hl := compact_len l
    obtain ⟨p1, p2⟩ := SL.put (enc := Value.int .i64) (h1 := fun _ => rfl) (ys := Lib.compact l ++ List.replicate (l.length - (Lib.compact l).length) 0) (m := q) (os := #[]) hf hs hp (by simp; omega)
    rw [Sort.grow_empty] at p1 p2
    have p3 := SL.row_take (m := (Lib.compact l).length) p1 (by simp)
    rw [List.take_left' rfl] at p3
    exact ⟨c, rfl, p3, p2⟩
end
end Go.Proofs.YtdpeflbdoaccbaaS
