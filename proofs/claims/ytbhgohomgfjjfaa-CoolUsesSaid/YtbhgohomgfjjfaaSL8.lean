/- Words of this session: an element taken out of a row of one's own, in place, and the cells behind it cleared. -/
import Derived.Test.YtbhgohomgfjjfaaSL4
import Derived.ArgAppend
import Derived.Lib.SliceRun
import Derived.Deep.RegionLaw
set_option linter.unusedVariables false
set_option linter.unusedSimpArgs false
namespace Go.Proofs.YtbhgohomgfjjfaaS
open Go.RowKit Go.Proofs.YtbhgohomgfjjfaaW.PrintWords Go.Proofs.YtbhgohomgfjjfaaW.PrintLast Go.Proofs.YtbhgohomgfjjfaaW.PrintMore Go.Proofs.YtbhgohomgfjjfaaV
section
variable {α : Type} {d : Kd α}
/-- A row of one's own that is not empty, as cells. -/
theorem qs_raw {e n c : Nat} {A : Option Addr} {w : World} {T : Nat → Prop} {xs : List α} (h : Qs d e w 0 T (.slice A n c) xs) (hn : 0 < n) :
    ∃ g of c' cur inner, A = some ⟨g, of * d.sz, none⟩ ∧ n = xs.length ∧ n ≤ c ∧ c ≤ c' ∧ of + c' ≤ maxLen ∧ w.heap[g]? = some (.cells cur e (0, 0)) ∧ cur.size = (of + c') * d.sz ∧ inner.length = n * d.sz ∧
      (cur.toList.drop (of * d.sz)).take (n * d.sz) = inner ∧ T g ∧ Reps (d.K w) d.sz xs inner := by
  obtain ⟨h0, c', hc, hok, inner, hq, hr⟩ := Qs_open h
  obtain ⟨q1, q2⟩ := hq
  rcases q2 with ⟨z, A', hv, _⟩ | ⟨g, of, cap, cur, hv, hb, hg, hnc, hcm, hcs, htake⟩
  · injection hv with e1 e2 e3
    omega
  · injection hv with e1 e2 e3
    subst e1; subst e2; subst e3
    exact ⟨g, of, c', cur, inner, rfl, rfl, h0, hc, hcm, hg, hcs, q1, htake, hok g (by simp [Value.ownBlock]), hr.imp_ (fun _ _ hp => d.K_of_M hp)⟩
theorem reps_one {w : World} {xs : List α} {inner : List Value} (hr : Reps (d.K w) d.sz xs inner) : ∀ u ∈ inner, u.oneCell' = true := by
  intro u hu
  obtain ⟨q, hq, rfl⟩ := List.mem_iff_getElem.1 hu
  have hs0 : 0 < d.sz := by
    rcases Nat.eq_zero_or_pos d.sz with h | h
    · have := hr.1; rw [h, Nat.mul_zero] at this; omega
    · exact h
  have hql : q / d.sz < xs.length := by
    rw [Nat.div_lt_iff_lt_mul hs0, ← hr.1]
    exact hq
  refine d.K_one (hr.2 (q / d.sz) _ (List.getElem?_eq_getElem hql)) _ ?_
  rw [List.mem_iff_getElem?]
  refine ⟨q % d.sz, ?_⟩
  rw [List.getElem?_take, if_pos (Nat.mod_lt _ hs0), List.getElem?_drop, Nat.mul_comm, Nat.div_add_mod, List.getElem?_eq_getElem hq]
theorem qs_del (hfl : Flat d) {e n c g of k : Nat} {w : World} {T : Nat → Prop} {xs : List α} {inner zs : List Value} {cur : Array Value} {c' : Nat} (h : Qs d e w 0 T (.slice (some ⟨g, of * d.sz, none⟩) n c) xs) (hn : n = xs.length) (hnc : n ≤ c) (hcc : c ≤ c') (hm : of + c' ≤ maxLen)
    (hg : w.heap[g]? = some (.cells cur e (0, 0))) (hcs : cur.size = (of + c') * d.sz) (hil : inner.length = n * d.sz) (htake : (cur.toList.drop (of * d.sz)).take (n * d.sz) = inner) (hT : T g) (hr : Reps (d.K w) d.sz xs inner) (hk : k < n) (hz : zs.length = d.sz) :
    Qs d e (((w.drew).setCells g (of * d.sz + k * d.sz) (inner.drop ((k + 1) * d.sz))).setCells g (of * d.sz + (n - 1) * d.sz) zs) 0 T (.slice (some ⟨g, of * d.sz, none⟩) (n - 1) c) (xs.eraseIdx k) := by
  have hnl : (inner.drop ((k + 1) * d.sz)).length = (n - (k + 1)) * d.sz := by rw [List.length_drop, hil, Nat.sub_mul]
  have hks : (k + 1) * d.sz = k * d.sz + d.sz := Nat.succ_mul _ _
  have hsub : (n - (k + 1)) * d.sz = n * d.sz - (k + 1) * d.sz := Nat.sub_mul _ _ _
  have h6 : (n - 1) * d.sz = n * d.sz - d.sz := by rw [Nat.sub_mul, Nat.one_mul]
  have hle : (k + 1) * d.sz ≤ n * d.sz := Nat.mul_le_mul_right _ hk
  have hnc' : n * d.sz ≤ c' * d.sz := Nat.mul_le_mul_right _ (by omega)
  have hadd : (of + c') * d.sz = of * d.sz + c' * d.sz := Nat.add_mul _ _ _
  have hg' : w.drew.heap[g]? = some (.cells cur e (0, 0)) := hg
  obtain ⟨cur1, a1, a2, a3⟩ := setCells_row (inner.drop ((k + 1) * d.sz)) (of * d.sz + k * d.sz) w.drew cur hg' (by omega)
  obtain ⟨cur2, b1, b2, b3⟩ := setCells_row zs (of * d.sz + (n - 1) * d.sz) _ cur1 a1 (by omega)
  have hel : (xs.eraseIdx k).length = n - 1 := by rw [List.length_eraseIdx_of_lt (by omega), hn]
  have hcl : cur.toList.length = cur.size := by simp
  have t1 : (cur2.toList.drop (of * d.sz)).take ((n - 1) * d.sz) = inner.take (k * d.sz) ++ inner.drop ((k + 1) * d.sz) := by
    have e1 : cur1.toList.take (of * d.sz + (n - 1) * d.sz) = cur.toList.take (of * d.sz + k * d.sz) ++ inner.drop ((k + 1) * d.sz) := by
      rw [a3]
      exact List.take_left' (by rw [List.length_append, List.length_take, hnl]; omega)
    have e2 : cur2.toList.take (of * d.sz + (n - 1) * d.sz) = cur1.toList.take (of * d.sz + (n - 1) * d.sz) := by
      rw [b3, List.append_assoc]
      exact List.take_left' (by rw [List.length_take]; have : cur1.toList.length = cur1.size := by simp
                                omega)
    have e3 : (cur2.toList.drop (of * d.sz)).take ((n - 1) * d.sz) = (cur2.toList.take (of * d.sz + (n - 1) * d.sz)).drop (of * d.sz) := by
      rw [List.drop_take]; congr 1; omega
    rw [e3, e2, e1, List.drop_append_of_le_length (by rw [List.length_take]; omega), List.drop_take, show of * d.sz + k * d.sz - of * d.sz = k * d.sz by omega]
    congr 1
    rw [← htake, List.take_take, Nat.min_eq_left (by omega)]
  have hrk := Kd.reps_append (Kd.reps_take hr (show k ≤ xs.length by omega)) (Kd.reps_drop (m := k + 1) hr)
  rw [← List.eraseIdx_eq_take_drop_succ] at hrk
  refine ⟨_, n - 1, c, c', rfl, by omega, hcc, ⟨fun k' hk' => ?_, inner.take (k * d.sz) ++ inner.drop ((k + 1) * d.sz), ⟨?_, .inr ⟨g, of, c', cur2, by rw [hel], Nat.zero_le _, b1, by omega, hm, by rw [b2, a2, hcs], by rw [hel]; exact t1⟩⟩, hrk.imp_ (fun x c hp => d.M_mono (fun _ h => h.elim) (d.M_move (ok := fun _ => False) (fun _ h => h.elim) (hfl.MK hp)))⟩⟩
  · have : g = k' := by simpa [Value.ownBlock] using hk'
    exact this ▸ hT
  · rw [List.length_append, List.length_take, hnl, hel]; omega
end
theorem run_clear_cells {P : Program} (w : World) (t e ty : TypeId) (z : Value) (ht : P.underlying t = some (.slice e)) (hv : ∀ w, (zeroValue e).run P w = .ok z w) (b o n c : Nat) (hn : 0 < n) (zs : List Value) (hzs : (Builtin.zeroCells z.cells n).toList = zs) (hone : ∀ u ∈ zs, u.oneCell' = true)
    (hc : ∀ j, j < zs.length → (w.cell? ⟨b, o + j, none⟩).isSome = true) (hf : ∀ j, j < zs.length → w.frozen? ⟨b, o + j, none⟩ = false) :
    (Builtin.clear_ #[t] ty #[.slice (some ⟨b, o, none⟩) n c]).run P w = .ok (.tuple #[]) (w.setCells b o zs) := by
  have hst := run_storeCells_cells (P := P) b o zs 0 w (by simpa using hc) (by simpa using hf) hone
  simp only [Nat.add_zero] at hst
  obtain ⟨m, rfl⟩ : ∃ m, n = m + 1 := ⟨n - 1, by omega⟩
  simp [Builtin.clear_, run_underlying ht, hv, hzs, hst]
end Go.Proofs.YtbhgohomgfjjfaaS
