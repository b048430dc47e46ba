/- Words of this session: rows of elements of several cells, as cells: copies, and a row made anew out of its cells. -/
import Derived.Test.YtbhgohomgfjjfaaSL8
import Derived.Shelf.Spec.SlicesInsert
import Derived.Lib.AppendZerosOnto
set_option linter.unusedVariables false
set_option linter.unusedSimpArgs false
namespace Go.Proofs.YtbhgohomgfjjfaaS
open Go.RowKit Go.Proofs.YtbhgohomgfjjfaaW.PrintWords Go.Proofs.YtbhgohomgfjjfaaW.PrintLast Go.Proofs.YtbhgohomgfjjfaaW.PrintMore Go.Proofs.YtbhgohomgfjjfaaV
theorem run_copyK {P : Program} (w : World) (dT sT ty elem : TypeId) (b o dLen dCap : Nat) (a : Addr) (sLen sCap m size : Nat) (cs : List Value)
    (hu : P.underlying dT = some (.slice elem)) (hs : (P.info? elem).map (·.size) = some size) (hm : Nat.min sLen dLen = m) (hl : cs.length = m * size)
    (hsrc : ∀ j v, cs[j]? = some v → w.cell? (a.add j) = some v) (hc : ∀ j, j < cs.length → (w.cell? ⟨b, o + j, none⟩).isSome = true) (hf : ∀ j, j < cs.length → w.frozen? ⟨b, o + j, none⟩ = false) (h1 : ∀ v ∈ cs, v.oneCell' = true) :
    (Builtin.copy_ #[dT, sT] ty #[.slice (some ⟨b, o, none⟩) dLen dCap, .slice (some a) sLen sCap]).run P w = .ok (.int .i64 (m : Int)) (w.setCells b o cs) := by
  have hfc := run_firstCells_some (P := P) (w := w) size m a sLen sCap cs hl hsrc
  have hst := run_storeCells_cells (P := P) b o cs 0 w (by simpa using hc) (by simpa using hf) h1
  obtain ⟨i, hi, hi2⟩ := Option.map_eq_some_iff.1 hs
  simp [Builtin.copy_, run_underlying hu, Builtin.lenOf, sizeOf, typeInfo, hi, hi2, hm, hfc, hst, goInt]
section
variable {α : Type} {d : Kd α}
theorem qs_mk (hfl : Flat d) {e n c c' g of : Nat} {w w0 : World} {T : Nat → Prop} {xs : List α} {inner : List Value} {cur : Array Value} (hn : n = xs.length) (hnc : n ≤ c) (hcc : c ≤ c') (hm : of + c' ≤ maxLen)
    (hg : w.heap[g]? = some (.cells cur e (0, 0))) (hcs : cur.size = (of + c') * d.sz) (hil : inner.length = n * d.sz) (htake : (cur.toList.drop (of * d.sz)).take (n * d.sz) = inner) (hT : T g) (hr : Reps (d.K w0) d.sz xs inner) :
    Qs d e w 0 T (.slice (some ⟨g, of * d.sz, none⟩) n c) xs := by
  subst hn
  refine ⟨_, xs.length, c, c', rfl, hnc, hcc, ⟨fun k' hk' => ?_, inner, ⟨hil, .inr ⟨g, of, c', cur, rfl, Nat.zero_le _, hg, by omega, hm, hcs, htake⟩⟩, hr.imp_ (fun x c hp => d.M_mono (fun _ h => h.elim) (d.M_move (ok := fun _ => False) (fun _ h => h.elim) (hfl.MK hp)))⟩⟩
  have : g = k' := by simpa [Value.ownBlock] using hk'
  exact this ▸ hT
/-- A row's tail cleared, and cut off. -/
theorem row_clear {P : Program} {S : Nat → Prop} {L : List Asr} {w : World} (hfl : Flat d) {e n c p : Nat} {A : Option Addr} {xs : List α} (t ty : TypeId) (z : Value) (ht : P.underlying t = some (.slice e)) (hv : ∀ w, (zeroValue e).run P w = .ok z w) (hz : z.cells.size = d.sz) (hz1 : ∀ u ∈ z.cells, u.oneCell' = true)
    (h : SL (row d e (.slice A n c) xs :: L) w S) (hp : p < n) :
    ∃ g o W', A = some ⟨g, o, none⟩ ∧ (Builtin.clear_ #[t] ty #[.slice (some ⟨g, o + p * d.sz, none⟩) (n - p) (c - p)]).run P w = .ok (.tuple #[]) W' ∧ SL (row d e (.slice A p c) (xs.take p) :: L) W' S ∧ Keep S w W' := by
  obtain ⟨T, U, s1, s2, s3, hq, s5⟩ := h
  have hnx := (Qs_c hq).1
  obtain ⟨g, of, c', cur, inner, rfl, hn, hnc, hcc, hm, hg, hcs, hil, htake, hT, hr⟩ := qs_raw hq (by omega)
  obtain ⟨zs, hzs⟩ : ∃ zs, zs = (Builtin.zeroCells z.cells (n - p)).toList := ⟨_, rfl⟩
  have hzl : zs.length = (n - p) * d.sz := by rw [hzs, Array.length_toList, size_zeroCells, hz]
  have hzo : ∀ u ∈ zs, u.oneCell' = true := by
    intro u hu
    rw [hzs] at hu
    simp only [Builtin.zeroCells, Array.toList_map, List.mem_map, Array.toList_range, List.mem_range] at hu
    obtain ⟨i, hi, rfl⟩ := hu
    have hs : 0 < z.cells.size := by
      rcases Nat.eq_zero_or_pos z.cells.size with h0 | h0
      · rw [h0, Nat.mul_zero] at hi; omega
      · exact h0
    rw [getElem!_pos z.cells (i % z.cells.size) (Nat.mod_lt _ hs)]
    exact hz1 _ (Array.getElem_mem _)
  have hpn : p * d.sz + (n - p) * d.sz = n * d.sz := by rw [← Nat.add_mul]; congr 1; omega
  have hle : n * d.sz ≤ c' * d.sz := Nat.mul_le_mul_right _ (by omega)
  have hcs2 : cur.size = of * d.sz + c' * d.sz := by rw [hcs, Nat.add_mul]
  obtain ⟨cur', h1, h2, h3⟩ := setCells_row zs (of * d.sz + p * d.sz) w cur hg (by omega)
  refine ⟨g, of * d.sz, _, rfl, run_clear_cells w t e ty z ht hv g (of * d.sz + p * d.sz) (n - p) (c - p) (by omega) zs hzs.symm hzo (fun j hj => ?_) (fun j hj => blk_frozen hg _), ⟨T, _, s1, s2, s3, ?_, SL.far s5 (setCells_keep (S := T) hT zs (of * d.sz + p * d.sz) w) (fun k hk hk' => s3 k hk' hk)⟩, (setCells_keep (S := T) hT zs (of * d.sz + p * d.sz) w).sub s1⟩
  · rw [cell_of_row w g _ cur e (0, 0) hg, Array.getElem?_eq_getElem (by omega)]
    rfl
  · refine qs_mk hfl (w0 := w) (inner := inner.take (p * d.sz)) (cur := cur') (by rw [List.length_take]; omega) (by omega) hcc hm h1 (by rw [h2]; exact hcs) (by rw [List.length_take]; omega) ?_ hT (Kd.reps_take hr (by omega))
    rw [h3, ← htake]
    have hcl : cur.toList.length = cur.size := by simp
    rw [List.take_take, Nat.min_eq_left (by omega), List.append_assoc, List.drop_append_of_le_length (by rw [List.length_take]; omega), List.drop_take, Nat.add_sub_cancel_left, List.take_append_of_le_length (by rw [List.length_take, List.length_drop]; omega), List.take_take, Nat.min_self]
theorem ins_cells {α : Type} (C inner xc : List α) (o a m s : Nat) (ha : a ≤ m) (hl : o + m + s ≤ C.length) (hx : xc.length = s) (hi : (C.drop o).take m = inner) :
    (((C.take (o + (a + s)) ++ inner.drop a ++ C.drop (o + (a + s) + (inner.drop a).length)).take (o + a) ++ xc ++ (C.take (o + (a + s)) ++ inner.drop a ++ C.drop (o + (a + s) + (inner.drop a).length)).drop (o + a + xc.length)).drop o).take (m + s) = inner.take a ++ xc ++ inner.drop a := by
  obtain ⟨C1, hC1⟩ : ∃ C1, C1 = C.take (o + (a + s)) ++ inner.drop a ++ C.drop (o + (a + s) + (inner.drop a).length) := ⟨_, rfl⟩
  rw [← hC1]
  have hil : inner.length = m := by rw [← hi, List.length_take, List.length_drop]; omega
  have h1 : C1.take (o + a) = C.take o ++ inner.take a := by
    rw [hC1, List.append_assoc, List.take_append_of_le_length (by rw [List.length_take]; omega), List.take_take, Nat.min_eq_left (by omega), List.take_add, ← hi, List.take_take, Nat.min_eq_left ha]
  have h2 : C1.drop (o + a + s) = inner.drop a ++ C.drop (o + (a + s) + (inner.drop a).length) := by
    rw [hC1, List.append_assoc, List.drop_append_of_le_length (by rw [List.length_take]; omega), List.drop_take, show o + (a + s) - (o + a + s) = 0 by omega, List.take_zero, List.nil_append]
  rw [h1, hx, h2]
  have e1 : (C.take o).length = o := by rw [List.length_take]; omega
  rw [List.append_assoc, List.append_assoc, List.drop_append_of_le_length (by omega), List.drop_of_length_le (by omega), List.nil_append, ← List.append_assoc, ← List.append_assoc, List.take_append_of_le_length (by simp only [List.length_append, List.length_take, List.length_drop]; omega), List.take_of_length_le (by simp only [List.length_append, List.length_take, List.length_drop]; omega)]
theorem ins_wrap (z : Int) (h1 : 0 ≤ z) (h2 : z < 1000000) : wrap64 z = z := by unfold wrap64; omega
end
end Go.Proofs.YtbhgohomgfjjfaaS
