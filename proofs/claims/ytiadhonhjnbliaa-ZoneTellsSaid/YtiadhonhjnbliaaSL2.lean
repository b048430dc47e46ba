/- Words of this session: rows whose elements are structs, or rows; cuts with a capacity. -/
import Derived.Test.YtiadhonhjnbliaaSL
set_option linter.unusedVariables false
set_option linter.unusedSimpArgs false
set_option linter.unnecessarySimpa false
namespace Go.Proofs.YtiadhonhjnbliaaS
open Go.RowKit Go.Proofs.YtiadhonhjnbliaaW.PrintWords Go.Proofs.YtiadhonhjnbliaaW.PrintLast Go.Proofs.YtiadhonhjnbliaaW.PrintMore Go.Proofs.YtiadhonhjnbliaaV
/-- Cells as they are. -/
def raw (n : Nat) : Kd (List Value) where
  sz := n
  E := []
  K := fun w x cs => cs = x ∧ x.length = n ∧ ∀ u ∈ x, u.oneCell' = true
  M := fun w base ok x cs => cs = x ∧ x.length = n ∧ ∀ u ∈ x, u.oneCell' = true
  K_len := by rintro w x cs ⟨rfl, h, _⟩; exact h
  K_one := by rintro w x cs ⟨rfl, _, h⟩; exact h
  K_below := fun _ h => h
  K_of_M := fun h => h
  M_mono := fun _ h => h
  M_bound := fun h => h
  M_move := fun _ h => h
  M_lower := fun _ h => h
/-- Objects that are told as one. -/
def blk (L : List Asr) : Asr where
  H w S := SL L w S
  mono hs h := SL.mono hs h
  bound h := SL.bound h
  move hm h := SL.move hm h
theorem SL.one {A : Asr} {L : List Asr} {w : World} {S : Nat → Prop} (h : SL L w S) (hm : A ∈ L) : ∃ T, (∀ k, T k → S k) ∧ A.H w T := by
  obtain ⟨L1, L2, rfl⟩ := List.append_of_mem hm
  obtain ⟨T, U, h1, _, _, h4, _⟩ := SL.perm (List.perm_middle) h
  exact ⟨T, h1, h4⟩
/-- A row of one's own whose elements lead to objects of their own. -/
def rows {α : Type} (K : α → List Value → Asr) (n e : Nat) (v : Value) (xs : List α) : Asr where
  H w S := ∃ css : List (List Value), css.length = xs.length ∧ SL (row (raw n) e v css :: List.zipWith K xs css) w S
  mono hs h := let ⟨css, h1, h2⟩ := h; ⟨css, h1, SL.mono hs h2⟩
  bound h := let ⟨css, h1, h2⟩ := h; ⟨css, h1, SL.bound h2⟩
  move hm h := let ⟨css, h1, h2⟩ := h; ⟨css, h1, SL.move hm h2⟩
section
variable {α : Type} {K : α → List Value → Asr} {n e : Nat} {v : Value} {xs : List α} {L : List Asr} {w : World} {S : Nat → Prop}
end
section
variable {P : Program} {ops : Array Oper} {rest : List Oper} {o : Oper} {a : Act} {Q : Exit → Act → World → Prop} {Kc : Act → World → Prop} {α : Type}
/-- append of elements that lead nowhere. -/
theorem op_appendF {d : Kd α} (hfl : Flat d) {w : World} (s x : Operand) (t e : TypeId) (z : Value) (bytes : Nat)
    (ho : o.op = .call { callee := .builtin .append, args := #[s, x], argTypes := #[t, t] })
    (ht : P.underlying t = some (.slice e)) (hinfo : (P.info? e).map (fun i => (i.zero, i.size, i.bytes)) = some (some z, d.sz, bytes)) (hz : z.cells.size = d.sz) (hs0 : 0 < d.sz) (hb0 : 0 < bytes)
    (v : Value) {xs ys : List α} {A : Option Addr} {m c : Nat} {S : Nat → Prop} {L : List Asr} (hs : a.eval s = v) (hx : a.eval x = .slice A m c) (hf : Fresh S w)
    (HO : SL (row d e v xs :: L) w S) (HR : d.C w A m ys) (hl : (xs.length + m) * bytes ≤ 140737488355328) (y : List α) (hy : xs ++ ys = y)
    (h : ∀ A c w1, SL (row d e (.slice A y.length c) y :: L) w1 S → Keep S w w1 → Kc (a.put o.dst (.slice A y.length c)) w1) : Oper.wp P o a w Kc Q := by
  subst hy
  obtain ⟨T, U, g1, g2, g3, g4, g5⟩ := HO
  obtain ⟨v1, w1, hr1, hq, hk⟩ := app_gen (P := P) t o.type e z bytes ht hinfo hz hs0 hb0 (T := fun k => T k ∧ k < w.heap.size) (okp := fun _ => False) (Qs_mono (Qs_bound g4) (fun k hk => ⟨hk.1, hk.2.2.1⟩)) (hfl.reads HR) (fun _ h _ => h) (c := c) hl
  obtain ⟨A', c', hv, _⟩ := Qs_reads hq
  subst hv
  unfold Oper.wp execOp
  simp only [ho, resolve, invoke, builtin, Sem.run_bind, Sem.run_pure, Result.andThen_ok, List.map_toArray, List.map_cons, List.map_nil, hs, hx, hr1]
  refine h _ _ _ ⟨_, fun k => U k ∧ k < w.heap.size, ?_, fun k hk => g2 k hk.1, ?_, hq, SL.far (SL.bound g5) hk (fun k q q' => g3 k q'.1 q.1)⟩ (hk.sub fun k q => g1 k q.1)
  · rintro k (hk | hk | hk)
    · exact g1 k hk.1
    · exact hk.elim
    · exact hf k hk
  · rintro k (hk | hk | hk) hk'
    · exact g3 k hk.1 hk'.1
    · exact hk
    · have := hk'.2; omega
/-- A literal of elements that lead nowhere. -/
theorem op_rowF {d : Kd α} (hfl : Flat d) {w : World} (e : TypeId) (xs : List α) (cs : Array Value) (n : Nat) (hcs : Reps (d.M w 0 (fun _ => False)) d.sz xs cs.toList) (hn : xs.length = n) (hm : n ≤ 9223372036854775807) {S : Nat → Prop} {L : List Asr} (hf : Fresh S w) (H : SL L w S)
    (hrun : (execOp a.eval o).run P w = .ok (.value (.slice (some ⟨w.heap.size, 0, none⟩) n n)) (w.alloc (.cells cs e (0, 0))))
    (h : ∀ A c w1, SL (row d e (.slice A n c) xs :: L) w1 S → Keep S w w1 → Kc (a.put o.dst (.slice A n c)) w1) : Oper.wp P o a w Kc Q := by
  refine op_value hrun (h _ _ _ (SL.new (A := row d e (.slice (some ⟨w.heap.size, 0, none⟩) n n) xs) hf H (below_alloc (Below.refl _ _) _) ?_).1 (.below (below_alloc (Below.refl _ _) _)))
  have hl := World.ownsRow_lit (base := 0) (e := e) (size := d.sz) w cs n (Nat.zero_le _) (by simpa [maxLen] using hm) (by have := hcs.1; rw [Array.length_toList, hn] at this; exact this)
  refine Qs_of ⟨fun k hk => ?_, cs.toList, by rw [hn]; exact q_of_own hl, hcs.imp_ (fun _ _ hp => d.M_mono (fun _ hk => hk.elim) (d.M_move (w1 := w.alloc (.cells cs e (0, 0))) (fun _ hk => hk.elim) hp))⟩
  have : w.heap.size = k := by simpa [Value.ownBlock] using hk
  unfold news; omega
/-- A store into an element (or into a part of it) of a row whose elements lead nowhere. -/
theorem op_setF {d : Kd α} (hfl : Flat d) {w : World} (t : TypeId) (x y : Operand) (ho : o.op = .store t x y) (ad : Addr) (i : Int) (z : α) (j : Nat) (seg : List Value) (u : Value) {e : TypeId} {n c : Nat} {xs : List α} {S : Nat → Prop} {L : List Asr}
    (H : SL (row d e (.slice (some ad) n c) xs :: L) w S) (p : Addr) (hp : ∀ g o : Nat, ad = ⟨g, o, none⟩ → p = ⟨g, o + i.toNat * d.sz + j, none⟩) (hx : a.eval x = .pointer (some p)) (hy : a.eval y = u) (hu : u.cells.toList = seg) (ht : (P.info? t).map (·.size) = some seg.length) (h1 : ∀ q ∈ seg, q.oneCell' = true) (h0 : 0 ≤ i) (hi : i < n) (hj : j + seg.length ≤ d.sz)
    (x' : α) (hx' : ∀ c, d.K w (xs.getD i.toNat z) c → d.K w x' (c.take j ++ seg ++ c.drop (j + seg.length))) (ys : List α) (hys : xs.set i.toNat x' = ys)
    (h : ∀ w1, SL (row d e (.slice (some ad) n c) ys :: L) w1 S → Keep S w w1 → Kc (a.put o.dst undef) w1) : Oper.wp P o a w Kc Q := by
  subst hys
  obtain ⟨T, U, g1, g2, g3, g4q, g5⟩ := H
  have hn := (Qs_c g4q).1
  obtain ⟨hnc0, c', hcc0, g4⟩ := Qs_open g4q
  obtain ⟨g, of, cap, hv, _, hlt, cur, hcur⟩ := Kd.Q_form g4 (by omega)
  injection hv with hv1 _ _
  injection hv1 with hv1
  subst hv1
  have hpe := hp g of rfl
  subst hpe
  have g4' : d.Q e w 0 T (.slice (some ⟨g, of, none⟩) n c') xs := g4
  obtain ⟨cc, hcl, hM, hcc, _⟩ := Kd.Q_elem g4' z i h0 hi
  obtain ⟨p1, p2⟩ := Kd.Q_seg (okp := fun _ => False) g4' i h0 hi hcl hcc hj (x' := x') (hfl.MK (hx' cc (d.K_of_M hM))) (fun _ h => h.elim)
  have hT : T g := g4.1 g (by simp [Value.ownBlock])
  have hk : Keep T w (w.setCells g (of + i.toNat * d.sz + j) seg) := setCells_keep hT seg _ w
  have hfit : of + i.toNat * d.sz + j + seg.length ≤ cur.size := by
    rcases Nat.eq_zero_or_pos seg.length with hz | hz
    · have h3 := hcc 0
      rcases Nat.eq_zero_or_pos d.sz with hd | hd
      · obtain ⟨inner, ⟨hq1, hq⟩, hr⟩ := g4'.2
        rcases hq with ⟨h4, _⟩ | ⟨g', off, cap', cur', hv', _, hh', hnc, _, hcs, _⟩
        · omega
        · injection hv' with ha _ hc'
          injection ha with ha
          injection ha with hg' ho'
          subst hg'; subst ho'
          rw [hcur] at hh'
          injection hh' with hh'
          injection hh' with hh'
          rw [hd] at hj ⊢
          omega
      · have h5 := hcc (d.sz - 1) _ (List.getElem?_eq_getElem (by omega))
        rw [cell_of_row w g _ cur e (0, 0) hcur] at h5
        have := (Array.getElem?_eq_some_iff.1 h5).1
        omega
    · have h5 := hcc (j + seg.length - 1) _ (List.getElem?_eq_getElem (by omega))
      rw [cell_of_row w g _ cur e (0, 0) hcur] at h5
      have := (Array.getElem?_eq_some_iff.1 h5).1
      omega
  have hr := run_store_run (P := P) t u seg hcur hu ht hfit h1
  unfold Oper.wp execOp
  simp only [ho, hx, hy, hr, Sem.run_bind, Sem.run_pure, Result.andThen_ok]
  exact h _ ⟨T, U, g1, g2, g3, ⟨_, _, c, c', rfl, hnc0, hcc0, p1⟩, SL.far g5 hk (fun k q q' => g3 k q' q)⟩ (hk.sub g1)
end
end Go.Proofs.YtiadhonhjnbliaaS
