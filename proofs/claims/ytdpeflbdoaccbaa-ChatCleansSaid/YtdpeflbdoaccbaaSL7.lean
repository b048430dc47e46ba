/- Words of this session: rows of bytes out of texts, written in. -/
import Derived.Test.YtdpeflbdoaccbaaSL3
set_option linter.unusedVariables false
set_option linter.unusedSimpArgs false
namespace Go.Proofs.YtdpeflbdoaccbaaS
open Go.RowKit Go.Proofs.YtdpeflbdoaccbaaW.PrintWords Go.Proofs.YtdpeflbdoaccbaaW.PrintLast Go.Proofs.YtdpeflbdoaccbaaW.PrintMore Go.Proofs.YtdpeflbdoaccbaaV
/-- A row of bytes that a text was turned into: one's own to write in; its block bears a mark behind its last cell. -/
def rowM (e : TypeId) (v : Value) (xs : List Int) : Asr where
  H w S := ∃ g n c cur, v = .slice (some ⟨g, 0, none⟩) n c ∧ n = xs.length ∧ n ≤ c ∧ n ≤ 9223372036854775807 ∧ S g ∧ w.heap[g]? = some (.cells cur e (cur.size, cur.size + 1)) ∧ n ≤ cur.size ∧ cur.toList.take n = encs (Value.int .u8) xs
  mono hs h := let ⟨g, n, c, cur, h1, h2, h3, h4, h5, h6⟩ := h; ⟨g, n, c, cur, h1, h2, h3, h4, hs _ h5, h6⟩
  bound h := let ⟨g, n, c, cur, h1, h2, h3, h4, h5, h6, h7⟩ := h; ⟨g, n, c, cur, h1, h2, h3, h4, ⟨h5, (Array.getElem?_eq_some_iff.1 h6).1⟩, h6, h7⟩
  move hm h := let ⟨g, n, c, cur, h1, h2, h3, h4, h5, h6, h7⟩ := h; ⟨g, n, c, cur, h1, h2, h3, h4, h5, (hm _ h5).trans h6, h7⟩
theorem rowM_h {e : TypeId} {A : Option Addr} {n c : Nat} {xs : List Int} {w : World} {T : Nat → Prop} (h : (rowM e (.slice A n c) xs).H w T) : n = xs.length ∧ n ≤ c ∧ (Kd.int .u8).C w A n xs := by
  obtain ⟨g, n', c', cur, h1, h2, h3, h4, h5, h6, h7, h8⟩ := h
  injection h1 with e1 e2 e3
  subst e1; subst e2; subst e3
  refine ⟨h2, h3, Kd.C_of_reads (enc := Value.int .u8) (d := (0 : Int)) (h1 := fun _ => rfl) ⟨h2.symm, h4, fun _ => ⟨_, rfl, fun j hj => ?_⟩⟩⟩
  rw [add_at, Nat.zero_add, cell_of_row w g j cur e _ h6]
  have h9 := congrArg (·[j]?) h8
  simp only [List.getElem?_take, hj, if_true] at h9
  rw [Array.getElem?_toList] at h9
  rw [h9, encs, List.getElem?_map, List.getElem?_eq_getElem (by omega)]
  simp [List.getD_eq_getElem?_getD, List.getElem?_eq_getElem (show j < xs.length by omega)]
theorem rowM_c {e : TypeId} {A : Option Addr} {n c : Nat} {xs : List Int} {L : List Asr} {w : World} {S : Nat → Prop} (h : SL (rowM e (.slice A n c) xs :: L) w S) : n = xs.length ∧ n ≤ c ∧ (Kd.int .u8).C w A n xs := let ⟨_, _, _, _, _, h, _⟩ := h; rowM_h h
theorem rowM_len {e : TypeId} {A : Option Addr} {n c : Nat} {xs : List Int} {L : List Asr} {w : World} {S : Nat → Prop} (h : SL (rowM e (.slice A n c) xs :: L) w S) : SL (rowM e (.slice A xs.length c) xs :: L) w S := by
  have e_ := (rowM_c h).1
  subst e_
  exact h
theorem rowM_n {e : TypeId} {A : Option Addr} {m n c : Nat} {xs : List Int} {L : List Asr} {w : World} {S : Nat → Prop} (e_ : n = m) (h : SL (rowM e (.slice A m c) xs :: L) w S) : SL (rowM e (.slice A n c) xs :: L) w S := e_ ▸ h
section
variable {P : Program} {ops : Array Oper} {rest : List Oper} {o : Oper} {a : Act} {Q : Exit → Act → World → Prop} {Kc : Act → World → Prop}
theorem op_bytesM {w : World} (src dst e : TypeId) (x : Operand) (hs : P.underlying src = some .string) (hd : P.underlying dst = some (.slice e)) (he : P.underlying e = some (.int .u8)) (s : ByteArray) (ho : o.op = .convert src dst x) (hx : a.eval x = .string s) (hsz : s.size ≤ 9223372036854775807) (y : List Int) (hy : bytesOf s = y) {S : Nat → Prop} {L : List Asr} (hf : Fresh S w) (H : SL L w S)
    (h : ∀ A c w1, SL (rowM e (.slice A y.length c) y :: L) w1 S → Keep S w w1 → Kc (a.put o.dst (.slice A y.length c)) w1) : Oper.wp P o a w Kc Q := by
  subst hy
  have hr := print_bytes (P := P) src dst e hs hd he s w
  have hb : Below w.heap.size w (Lib.bytesWorld w e s) := bytes_below (Below.refl _ _) (Nat.le_refl _) e s
  have hl := bytesOf_length s
  have hr1 : (execOp a.eval o).run P w = .ok (.value (.slice (some ⟨w.heap.size, 0, none⟩) s.size (grownCap w s.size 0 e))) (Lib.bytesWorld w e s) := by
    unfold execOp
    simp only [ho, hx, Sem.run_bind, hr, Sem.run_pure, Result.andThen_ok]
  have hcap : s.size ≤ grownCap w s.size 0 e := grownCap_ge _ _ _ _
  have hcell : (Lib.bytesWorld w e s).heap[w.heap.size]? = some (.cells (Lib.bytesCells w e s) e ((Lib.bytesCells w e s).size, (Lib.bytesCells w e s).size + 1)) := by
    unfold Lib.bytesWorld
    exact freeze_at _ _ _ (blk_new w.drew _)
  rw [← hl] at hr1 hcap
  have hsize : (bytesOf s).length ≤ (Lib.bytesCells w e s).size := by
    unfold Lib.bytesCells
    simp [hl]
  have htake : (Lib.bytesCells w e s).toList.take (bytesOf s).length = encs (Value.int .u8) (bytesOf s) := by
    rw [hl]
    unfold Lib.bytesCells bytesOf encs
    rw [Array.toList_append, List.take_left' (by simp)]
    simp
  refine op_value hr1 (h _ _ _ (SL.new (A := rowM e (.slice (some ⟨w.heap.size, 0, none⟩) (bytesOf s).length (grownCap w (bytesOf s).length 0 e)) (bytesOf s)) hf H hb ⟨_, _, _, _, rfl, rfl, hcap, by omega, Nat.le_refl _, hcell, by omega, htake⟩).1 (.below hb))
theorem op_setM {w : World} (t : TypeId) (x y : Operand) (ho : o.op = .store t x y) (ad : Addr) (i : Int) (u : Int) {e : TypeId} {n c : Nat} {xs : List Int} {S : Nat → Prop} {L : List Asr}
    (H : SL (rowM e (.slice (some ad) n c) xs :: L) w S) (hx : a.eval x = .pointer (some (ad.add i.toNat))) (hy : a.eval y = .int .u8 u) (ht : (P.info? t).map (·.size) = some 1) (h0 : 0 ≤ i) (hi : i < n) (ys : List Int) (hys : xs.set i.toNat u = ys)
    (h : ∀ w1, SL (rowM e (.slice (some ad) n c) ys :: L) w1 S → Keep S w w1 → Kc (a.put o.dst undef) w1) : Oper.wp P o a w Kc Q := by
  subst hys
  obtain ⟨T, U, g1, g2, g3, ⟨g, n', c', cur, hv, p2, p3, p4, p5, p6, p7, p8⟩, g5⟩ := H
  injection hv with hv1 hv2 hv3
  injection hv1 with hv1
  subst hv1; subst hv2; subst hv3
  rw [add_at, Nat.zero_add] at hx
  have hlt : i.toNat < cur.size := by omega
  obtain ⟨inf, hinf, hsz⟩ := Option.map_eq_some_iff.1 ht
  have hst := run_storeCells_cells (P := P) g i.toNat [.int .u8 u] 0 w (fun j hj => by
      have : j = 0 := by simpa using hj
      subst this
      rw [cell_of_row w g _ cur e _ p6]; simp; omega) (fun j hj => by
      have : j = 0 := by simpa using hj
      subst this
      unfold World.frozen?
      rw [p6]
      simp; omega) (by simp [Value.oneCell'])
  simp only [Nat.add_zero] at hst
  have hr : (Instr.storeAt t (.pointer (some ⟨g, i.toNat, none⟩)) (.int .u8 u)).run P w = .ok () (w.setCells g i.toNat [.int .u8 u]) := by
    simp [Instr.storeAt, Instr.sureAddr, storeVar, sizeOf, typeInfo, hinf, hsz, hst, Value.cells]
  have hk : Keep T w (w.setCells g i.toNat [.int .u8 u]) := setCells_keep p5 _ _ w
  have hcell : (w.setCells g i.toNat [.int .u8 u]).heap[g]? = some (.cells (cur.setIfInBounds i.toNat (.int .u8 u)) e ((cur.setIfInBounds i.toNat (.int .u8 u)).size, (cur.setIfInBounds i.toNat (.int .u8 u)).size + 1)) := by
    simp [World.setCells, World.setCell, Array.getElem?_modify, p6]
  unfold Oper.wp execOp
  simp only [ho, hx, hy, hr, Sem.run_bind, Sem.run_pure, Result.andThen_ok]
  refine h _ ⟨T, U, g1, g2, g3, ⟨g, n, c, _, rfl, by simpa using p2, p3, p4, p5, hcell, by simpa using p7, ?_⟩, SL.far g5 hk (fun k q q' => g3 k q' q)⟩ (hk.sub g1)
  rw [Array.toList_setIfInBounds, List.take_set, p8]
  simp [encs, List.map_set]
end
end Go.Proofs.YtdpeflbdoaccbaaS
