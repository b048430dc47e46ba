/- Words of this session: rows whose elements are structs, or rows; cuts with a capacity. -/
import Derived.Test.YtbhgohomgfjjfaaSL
set_option linter.unusedVariables false
set_option linter.unusedSimpArgs false
set_option linter.unnecessarySimpa false
namespace Go.Proofs.YtbhgohomgfjjfaaS
open Go.RowKit Go.Proofs.YtbhgohomgfjjfaaW.PrintWords Go.Proofs.YtbhgohomgfjjfaaW.PrintLast Go.Proofs.YtbhgohomgfjjfaaW.PrintMore Go.Proofs.YtbhgohomgfjjfaaV
/-- Cells as they are. -/
def raw (n : Nat) : Kd (List Value) where
  sz := n
  E := []
  K := fun w x cs => cs = x ∧ x.length = n ∧ ∀ u ∈ x, u.oneCell' = true
  M := fun w base ok x cs => cs = x ∧ x.length = n ∧ ∀ u ∈ x, u.oneCell' = true
  K_len := by rintro w x cs ⟨rfl, h, _⟩; exact h
  K_one := by rintro w x cs ⟨rfl, _, h⟩; exact h
  K_below := fun _ h => h
  K_of_M := fun h => h
  M_mono := fun _ h => h
  M_bound := fun h => h
  M_move := fun _ h => h
  M_lower := fun _ h => h
theorem flat_raw (n : Nat) : Flat (raw n) := ⟨fun h => h⟩
/-- Objects that are told as one. -/
def blk (L : List Asr) : Asr where
  H w S := SL L w S
  mono hs h := SL.mono hs h
  bound h := SL.bound h
  move hm h := SL.move hm h
theorem SL.flat {L : List Asr} : ∀ {L0 : List Asr} {w : World} {S : Nat → Prop}, SL (blk L0 :: L) w S → SL (L0 ++ L) w S
  | [], _, _, h => SL.tail h
  | A :: L0, w, S, ⟨T, U, h1, h2, h3, ⟨T', U', g1, g2, g3, g4, g5⟩, h5⟩ =>
    ⟨T', fun k => U' k ∨ U k, fun k hk => h1 k (g1 k hk), fun k hk => hk.elim (fun q => h1 k (g2 k q)) (h2 k), fun k hk hk' => hk'.elim (g3 k hk) (h3 k (g1 k hk)), g4,
      SL.flat ⟨U', U, fun k hk => .inl hk, fun k hk => .inr hk, fun k hk => h3 k (g2 k hk), g5, h5⟩⟩
theorem SL.unflat {L : List Asr} : ∀ {L0 : List Asr} {w : World} {S : Nat → Prop}, SL (L0 ++ L) w S → SL (blk L0 :: L) w S
  | [], _, S, h => ⟨fun _ => False, S, fun _ hk => hk.elim, fun _ hk => hk, fun _ hk _ => hk, trivial, h⟩
  | A :: L0, w, S, ⟨T, U, h1, h2, h3, h4, h5⟩ => by
    obtain ⟨T', U', g1, g2, g3, g4, g5⟩ := SL.unflat h5
    exact ⟨fun k => T k ∨ T' k, U', fun k hk => hk.elim (h1 k) (fun q => h2 k (g1 k q)), fun k hk => h2 k (g2 k hk), fun k hk hk' => hk.elim (fun q => h3 k q (g2 k hk')) (fun q => g3 k q hk'), ⟨T, T', fun k hk => .inl hk, fun k hk => .inr hk, fun k hk hk' => h3 k hk (g1 k hk'), h4, g4⟩, g5⟩
theorem SL.sub_tail {L : List Asr} : ∀ {L0 : List Asr} {w : World} {S : Nat → Prop}, SL (L0 ++ L) w S → SL L w S
  | [], _, _, h => h
  | _ :: _, _, _, h => SL.sub_tail (SL.tail h)
theorem SL.one {A : Asr} {L : List Asr} {w : World} {S : Nat → Prop} (h : SL L w S) (hm : A ∈ L) : ∃ T, (∀ k, T k → S k) ∧ A.H w T := by
  obtain ⟨L1, L2, rfl⟩ := List.append_of_mem hm
  obtain ⟨T, U, h1, _, _, h4, _⟩ := SL.perm (List.perm_middle) h
  exact ⟨T, h1, h4⟩
/-- A row of one's own whose elements lead to objects of their own. -/
def rows {α : Type} (K : α → List Value → Asr) (n e : Nat) (v : Value) (xs : List α) : Asr where
  H w S := ∃ css : List (List Value), css.length = xs.length ∧ SL (row (raw n) e v css :: List.zipWith K xs css) w S
  mono hs h := let ⟨css, h1, h2⟩ := h; ⟨css, h1, SL.mono hs h2⟩
  bound h := let ⟨css, h1, h2⟩ := h; ⟨css, h1, SL.bound h2⟩
  move hm h := let ⟨css, h1, h2⟩ := h; ⟨css, h1, SL.move hm h2⟩
/-- An element that is a row. -/
def inn {α : Type} (d : Kd α) (e : Nat) (x : List α) (cs : List Value) : Asr where
  H w S := ∃ v, cs = [v] ∧ Qs d e w 0 S v x
  mono hs h := let ⟨v, h1, h2⟩ := h; ⟨v, h1, Qs_mono h2 hs⟩
  bound h := let ⟨v, h1, h2⟩ := h; ⟨v, h1, Qs_mono (Qs_bound h2) (fun _ hk => ⟨hk.1, hk.2.2.1⟩)⟩
  move hm h := let ⟨v, h1, h2⟩ := h; ⟨v, h1, Qs_move h2 hm⟩
/-- A row that is only read. -/
def seenR {α : Type} (d : Kd α) (v : Value) (xs : List α) : Asr where
  H w S := ∃ A n c, v = .slice A n c ∧ n = xs.length ∧ n ≤ c ∧ ∃ b, S b ∧ b < w.heap.size ∧ ∀ w' : World, w'.heap[b]? = w.heap[b]? → d.C w' A n xs
  mono hs h := let ⟨A, n, c, h1, h2, h3, b, h4, h5, h6⟩ := h; ⟨A, n, c, h1, h2, h3, b, hs _ h4, h5, h6⟩
  bound h := let ⟨A, n, c, h1, h2, h3, b, h4, h5, h6⟩ := h; ⟨A, n, c, h1, h2, h3, b, ⟨h4, h5⟩, h5, h6⟩
  move {w w' S} hm h := by
    obtain ⟨A, n, c, h1, h2, h3, b, h4, h5, h6⟩ := h
    refine ⟨A, n, c, h1, h2, h3, b, h4, ?_, fun w2 hw => h6 w2 (hw.trans (hm _ h4))⟩
    have := hm _ h4
    rw [Array.getElem?_eq_getElem h5] at this
    exact (Array.getElem?_eq_some_iff.1 this).1
theorem seen_h {α : Type} {d : Kd α} {A : Option Addr} {n c : Nat} {xs : List α} {w : World} {T : Nat → Prop} (h : (seenR d (.slice A n c) xs).H w T) : n = xs.length ∧ n ≤ c ∧ d.C w A n xs := by
  obtain ⟨A', n', c', h1, h2, h3, b, h4, h5, h6⟩ := h
  injection h1 with e1 e2 e3
  subst e1; subst e2; subst e3
  exact ⟨h2, h3, h6 w rfl⟩
theorem seen_c {α : Type} {d : Kd α} {A : Option Addr} {n c : Nat} {xs : List α} {L : List Asr} {w : World} {S : Nat → Prop} (h : SL (seenR d (.slice A n c) xs :: L) w S) : n = xs.length ∧ n ≤ c ∧ d.C w A n xs := let ⟨_, _, _, _, _, h, _⟩ := h; seen_h h
/-- How an element's object is read. -/
structure Reads {α : Type} (K : α → List Value → Asr) (d : Kd α) : Prop where
  K : ∀ {x cs w T}, (K x cs).H w T → d.K w x cs
theorem reads_inn {α : Type} {d : Kd α} {e : Nat} : Reads (inn d e) (Kd.slice e d) := ⟨fun ⟨v, h1, h2⟩ => by
  obtain ⟨A, c, rfl, hl, hr⟩ := Qs_reads h2
  exact ⟨A, c, h1, hl, hr⟩⟩
section
variable {α : Type} {K : α → List Value → Asr} {n e : Nat} {v : Value} {xs : List α} {L : List Asr} {w : World} {S : Nat → Prop}
theorem rows_open (h : SL (rows K n e v xs :: L) w S) : ∃ css : List (List Value), css.length = xs.length ∧ SL (row (raw n) e v css :: (List.zipWith K xs css ++ L)) w S := by
  obtain ⟨T, U, h1, h2, h3, ⟨css, h4, h4'⟩, h5⟩ := h
  exact ⟨css, h4, SL.flat (L0 := row (raw n) e v css :: List.zipWith K xs css) ⟨T, U, h1, h2, h3, h4', h5⟩⟩
theorem rows_close {css : List (List Value)} (hl : css.length = xs.length) (h : SL (row (raw n) e v css :: (List.zipWith K xs css ++ L)) w S) : SL (rows K n e v xs :: L) w S := by
  obtain ⟨T, U, h1, h2, h3, h4, h5⟩ := SL.unflat (L0 := row (raw n) e v css :: List.zipWith K xs css) h
  exact ⟨T, U, h1, h2, h3, ⟨css, hl, h4⟩, h5⟩
theorem rows_c {d : Kd α} (hd : Reads K d) (hs : d.sz = n) {A : Option Addr} {m c : Nat} (h : SL (rows K n e (.slice A m c) xs :: L) w S) : m = xs.length ∧ m ≤ c ∧ d.C w A m xs := by
  obtain ⟨css, hl, h⟩ := rows_open h
  obtain ⟨h1, h2, h3⟩ := SL.row_c h
  refine ⟨by omega, h2, by omega, h3.2.1, fun hp => ?_⟩
  obtain ⟨ad, ha, hc⟩ := h3.2.2 hp
  refine ⟨ad, ha, fun j p hj => ?_⟩
  have hjx := (List.getElem?_eq_some_iff.1 hj).1
  have hjc : css[j]? = some css[j] := List.getElem?_eq_getElem (by omega)
  obtain ⟨cs, g1, ⟨g2, _, _⟩, g4⟩ := hc j _ hjc
  have hmem : K p css[j] ∈ row (raw n) e (.slice A m c) css :: (List.zipWith K xs css ++ L) := by
    refine List.mem_cons_of_mem _ (List.mem_append_left _ ?_)
    rw [List.mem_iff_getElem?]
    exact ⟨j, by rw [List.getElem?_zipWith, hj, hjc]⟩
  obtain ⟨T, _, ht⟩ := SL.one h hmem
  have hk := hd.K ht
  refine ⟨cs, by rw [hs]; exact g1, by rw [g2]; exact hk, ?_⟩
  rw [hs]
  exact g4
theorem rows_h {d : Kd α} (hd : Reads K d) (hs : d.sz = n) {A : Option Addr} {m c : Nat} {T : Nat → Prop} (h : (rows K n e (.slice A m c) xs).H w T) : d.C w A m xs :=
  (rows_c hd hs (L := []) (S := T) ⟨T, fun _ => False, fun _ hk => hk, fun _ hk => hk.elim, fun _ _ hk => hk, h, trivial⟩).2.2
/-- What an own row's element is, now. -/
theorem rows_at {β : Type} {d : Kd β} {e' : Nat} {A : Option Addr} {m c : Nat} {xs : List (List β)} (h : SL (rows (inn d e') n e (.slice A m c) xs :: L) w S) (hn : n = 1) (i : Int) (h0 : 0 ≤ i) (h1 : i < m) (y : List β) (hy : xs.getD i.toNat [] = y) :
    ∃ ad A' c', A = some ad ∧ w.cell? (ad.add i.toNat) = some (.slice A' y.length c') ∧ d.C w A' y.length y ∧ y.length ≤ c' := by
  subst hy
  obtain ⟨_, _, hC⟩ := rows_c (d := Kd.slice e' d) reads_inn (by rw [hn]; rfl) h
  obtain ⟨ad, cs, hA, hl, hk, hc⟩ := Kd.C_get hC [] i h0 h1
  obtain ⟨A', c', hcs, hle, hCi⟩ := hk
  subst hcs
  refine ⟨ad, A', c', hA, ?_, hCi, hle⟩
  have := hc 0 _ rfl
  rwa [Nat.add_zero, show (Kd.slice e' d).sz = 1 from rfl, Nat.mul_one] at this
theorem rows_reads (h : SL (rows K n e v xs :: L) w S) : ∃ A c, v = .slice A xs.length c ∧ xs.length ≤ c := by
  obtain ⟨css, hl, h⟩ := rows_open h
  obtain ⟨A, c, h1, h2, _⟩ := SL.row_reads h
  exact ⟨A, c, by rw [h1, hl], by omega⟩
theorem inn_len {d : Kd α} {e' : Nat} {x : List α} {cs : List Value} {w : World} (T : Nat → Prop) (h : (inn d e' x cs).H w T) : cs.length = 1 ∧ ∀ u ∈ cs, u.oneCell' = true := by
  obtain ⟨v, rfl, h⟩ := h
  obtain ⟨A, c, rfl, _⟩ := Qs_reads h
  exact ⟨rfl, fun u hu => by rw [List.mem_singleton.1 hu]; rfl⟩
theorem rows_len {A : Option Addr} {m c : Nat} (h : SL (rows K n e (.slice A m c) xs :: L) w S) : SL (rows K n e (.slice A xs.length c) xs :: L) w S := by
  obtain ⟨A', c', h1, _⟩ := rows_reads h
  injection h1 with e1 e2 e3
  subst e2
  exact h
theorem rows_nil (K : α → List Value → Asr) (n e : Nat) (h : SL L w S) : SL (rows K n e (.slice none 0 0) [] :: L) w S :=
  rows_close (css := []) rfl (SL.nil_row (raw n) e h)
theorem rows_take {A : Option Addr} {m c k : Nat} (h : SL (rows K n e (.slice A m c) xs :: L) w S) (hk : k ≤ xs.length) : SL (rows K n e (.slice A k c) (xs.take k) :: L) w S := by
  obtain ⟨css, hl, h⟩ := rows_open h
  have h2 := SL.row_take (m := k) h (by omega)
  refine rows_close (css := css.take k) (by simp [hl]) ?_
  rw [← List.take_zipWith]
  refine SL.cons (fun w S h => ?_) h2
  rw [← List.take_append_drop k (List.zipWith K xs css), List.append_assoc] at h
  have h3 : SL (List.take k (List.zipWith K xs css) ++ L ++ List.drop k (List.zipWith K xs css)) w S := SL.perm (by rw [List.append_assoc]; exact List.Perm.append_left _ List.perm_append_comm) h
  exact SL.perm_init h3
theorem rows_shut {A : Option Addr} {m c k : Nat} (h : SL (rows K n e (.slice A m c) xs :: L) w S) (hm : m ≤ k) (hk : k ≤ c) : SL (rows K n e (.slice A m k) xs :: L) w S := by
  obtain ⟨css, hl, h⟩ := rows_open h
  exact rows_close hl (SL.row_shut h hm hk)
theorem rows_drop {A : Option Addr} {m c k : Nat} (h : SL (rows K n e (.slice A m c) xs :: L) w S) (hk : k ≤ xs.length) :
    SL (rows K n e (.slice (if c = k then A else A.map (·.add (k * n))) (m - k) (c - k)) (xs.drop k) :: L) w S := by
  obtain ⟨css, hl, h⟩ := rows_open h
  have h2 := SL.row_drop (k := k) h (by omega)
  refine rows_close (css := css.drop k) (by simp [hl]) ?_
  rw [← List.drop_zipWith]
  refine SL.cons (fun w S h => ?_) h2
  rw [← List.take_append_drop k (List.zipWith K xs css), List.append_assoc] at h
  exact SL.sub_tail h
end
section
variable {P : Program} {ops : Array Oper} {rest : List Oper} {o : Oper} {a : Act} {Q : Exit → Act → World → Prop} {Kc : Act → World → Prop} {α : Type}
/-- append of elements that lead nowhere. -/
theorem op_appendF {d : Kd α} (hfl : Flat d) {w : World} (s x : Operand) (t e : TypeId) (z : Value) (bytes : Nat)
    (ho : o.op = .call { callee := .builtin .append, args := #[s, x], argTypes := #[t, t] })
    (ht : P.underlying t = some (.slice e)) (hinfo : (P.info? e).map (fun i => (i.zero, i.size, i.bytes)) = some (some z, d.sz, bytes)) (hz : z.cells.size = d.sz) (hs0 : 0 < d.sz) (hb0 : 0 < bytes)
    (v : Value) {xs ys : List α} {A : Option Addr} {m c : Nat} {S : Nat → Prop} {L : List Asr} (hs : a.eval s = v) (hx : a.eval x = .slice A m c) (hf : Fresh S w)
    (HO : SL (row d e v xs :: L) w S) (HR : d.C w A m ys) (hl : (xs.length + m) * bytes ≤ 140737488355328) (y : List α) (hy : xs ++ ys = y)
    (h : ∀ A c w1, SL (row d e (.slice A y.length c) y :: L) w1 S → Keep S w w1 → Kc (a.put o.dst (.slice A y.length c)) w1) : Oper.wp P o a w Kc Q := by
  subst hy
  obtain ⟨T, U, g1, g2, g3, g4, g5⟩ := HO
  obtain ⟨v1, w1, hr1, hq, hk⟩ := app_gen (P := P) t o.type e z bytes ht hinfo hz hs0 hb0 (T := fun k => T k ∧ k < w.heap.size) (okp := fun _ => False) (Qs_mono (Qs_bound g4) (fun k hk => ⟨hk.1, hk.2.2.1⟩)) (hfl.reads HR) (fun _ h _ => h) (c := c) hl
  obtain ⟨A', c', hv, _⟩ := Qs_reads hq
  subst hv
  unfold Oper.wp execOp
  simp only [ho, resolve, invoke, builtin, Sem.run_bind, Sem.run_pure, Result.andThen_ok, List.map_toArray, List.map_cons, List.map_nil, hs, hx, hr1]
  refine h _ _ _ ⟨_, fun k => U k ∧ k < w.heap.size, ?_, fun k hk => g2 k hk.1, ?_, hq, SL.far (SL.bound g5) hk (fun k q q' => g3 k q'.1 q.1)⟩ (hk.sub fun k q => g1 k q.1)
  · rintro k (hk | hk | hk)
    · exact g1 k hk.1
    · exact hk.elim
    · exact hf k hk
  · rintro k (hk | hk | hk) hk'
    · exact g3 k hk.1 hk'.1
    · exact hk
    · have := hk'.2; omega
/-- append of a row of one's own whose elements, with their objects, go over. -/
theorem op_appendR {K : α → List Value → Asr} {n : Nat} {w : World} (s x : Operand) (t e : TypeId) (z : Value) (bytes : Nat)
    (ho : o.op = .call { callee := .builtin .append, args := #[s, x], argTypes := #[t, t] })
    (ht : P.underlying t = some (.slice e)) (hinfo : (P.info? e).map (fun i => (i.zero, i.size, i.bytes)) = some (some z, n, bytes)) (hz : z.cells.size = n) (hs0 : 0 < n) (hb0 : 0 < bytes)
    (v : Value) {xs ys : List α} {A : Option Addr} {m c : Nat} {S : Nat → Prop} {L : List Asr} (hs : a.eval s = v) (hx : a.eval x = .slice A m c) (hf : Fresh S w)
    (HO : SL (rows K n e v xs :: rows K n e (.slice A m c) ys :: L) w S) (hl : (xs.length + m) * bytes ≤ 140737488355328) (y : List α) (hy : xs ++ ys = y)
    (h : ∀ A c w1, SL (rows K n e (.slice A y.length c) y :: L) w1 S → Keep S w w1 → Kc (a.put o.dst (.slice A y.length c)) w1) : Oper.wp P o a w Kc Q := by
  subst hy
  obtain ⟨css, hc, HO⟩ := rows_open (SL.swap HO)
  have HO2 : SL (rows K n e v xs :: (row (raw n) e (.slice A m c) css :: (List.zipWith K ys css ++ L))) w S := SL.perm (List.perm_middle (l₁ := row (raw n) e (.slice A m c) css :: List.zipWith K ys css)) HO
  obtain ⟨css2, hc2, HO3⟩ := rows_open HO2
  have HO4 : SL (row (raw n) e (.slice A m c) css :: (row (raw n) e v css2 :: (List.zipWith K xs css2 ++ (List.zipWith K ys css ++ L)))) w S := SL.perm (List.perm_middle (l₁ := row (raw n) e v css2 :: List.zipWith K xs css2)) HO3
  have hR := (SL.row_c HO4).2.2
  refine op_appendF (flat_raw n) (S := S) s x t e z bytes ho ht hinfo hz hs0 hb0 v hs hx hf (SL.tail HO4) hR (by rw [hc2]; exact hl) _ rfl fun A1 c1 w1 h1 hk => ?_
  have hle : (css2 ++ css).length = (xs ++ ys).length := by simp [hc, hc2]
  rw [hle] at h1 ⊢
  refine h A1 c1 w1 (rows_close (css := css2 ++ css) hle ?_) hk
  rw [List.zipWith_append (by omega), List.append_assoc]
  exact h1
/-- A literal of elements that lead nowhere. -/
theorem op_rowF {d : Kd α} (hfl : Flat d) {w : World} (e : TypeId) (xs : List α) (cs : Array Value) (n : Nat) (hcs : Reps (d.M w 0 (fun _ => False)) d.sz xs cs.toList) (hn : xs.length = n) (hm : n ≤ 9223372036854775807) {S : Nat → Prop} {L : List Asr} (hf : Fresh S w) (H : SL L w S)
    (hrun : (execOp a.eval o).run P w = .ok (.value (.slice (some ⟨w.heap.size, 0, none⟩) n n)) (w.alloc (.cells cs e (0, 0))))
    (h : ∀ A c w1, SL (row d e (.slice A n c) xs :: L) w1 S → Keep S w w1 → Kc (a.put o.dst (.slice A n c)) w1) : Oper.wp P o a w Kc Q := by
  refine op_value hrun (h _ _ _ (SL.new (A := row d e (.slice (some ⟨w.heap.size, 0, none⟩) n n) xs) hf H (below_alloc (Below.refl _ _) _) ?_).1 (.below (below_alloc (Below.refl _ _) _)))
  have hl := World.ownsRow_lit (base := 0) (e := e) (size := d.sz) w cs n (Nat.zero_le _) (by simpa [maxLen] using hm) (by have := hcs.1; rw [Array.length_toList, hn] at this; exact this)
  refine Qs_of ⟨fun k hk => ?_, cs.toList, by rw [hn]; exact q_of_own hl, hcs.imp_ (fun _ _ hp => d.M_mono (fun _ hk => hk.elim) (d.M_move (w1 := w.alloc (.cells cs e (0, 0))) (fun _ hk => hk.elim) hp))⟩
  have : w.heap.size = k := by simpa [Value.ownBlock] using hk
  unfold news; omega
/-- An empty literal. -/
theorem op_rowR0 {K : α → List Value → Asr} {n : Nat} {w : World} (e : TypeId) {S : Nat → Prop} {L : List Asr} (hf : Fresh S w) (H : SL L w S)
    (hrun : (execOp a.eval o).run P w = .ok (.value (.slice (some ⟨w.heap.size, 0, none⟩) 0 0)) (w.alloc (.cells #[] e (0, 0)))) (ys : List α) (hys : [] = ys)
    (h : ∀ A c w1, SL (rows K n e (.slice A 0 c) ys :: L) w1 S → Keep S w w1 → Kc (a.put o.dst (.slice A 0 c)) w1) : Oper.wp P o a w Kc Q := by
  subst hys
  exact op_rowF (flat_raw n) (S := S) (L := L) e [] #[] 0 (Reps.none _ _) rfl (by omega) hf H hrun fun A c w1 g1 g2 => h A c w1 (rows_close (css := []) rfl g1) g2
/-- A literal of one element that takes an object in. -/
theorem op_rowR {K : α → List Value → Asr} {n : Nat} {w : World} (e : TypeId) (p : α) (cs : List Value) {B : Asr} {S : Nat → Prop} {L : List Asr} (hf : Fresh S w) (H : SL (B :: L) w S) (hB : ∀ w T, B.H w T → (K p cs).H w T) (hK : ∀ T, (K p cs).H w T → cs.length = n ∧ ∀ u ∈ cs, u.oneCell' = true) (ys : List α) (hys : [p] = ys)
    (hrun : (execOp a.eval o).run P w = .ok (.value (.slice (some ⟨w.heap.size, 0, none⟩) 1 1)) (w.alloc (.cells cs.toArray e (0, 0))))
    (h : ∀ A c w1, SL (rows K n e (.slice A 1 c) ys :: L) w1 S → Keep S w w1 → Kc (a.put o.dst (.slice A 1 c)) w1) : Oper.wp P o a w Kc Q := by
  subst hys
  have H2 := SL.imp (hB w) H
  obtain ⟨T, _, _, _, _, hT, _⟩ := H2
  obtain ⟨hl, h1⟩ := hK T hT
  have hM : (raw n).M w 0 (fun _ => False) cs cs := ⟨rfl, hl, h1⟩
  have hr : Reps ((raw n).M w 0 (fun _ => False)) (raw n).sz [cs] cs := by
    refine ⟨by simp [raw, hl], fun j q hq => ?_⟩
    cases j with
    | zero =>
      simp only [List.getElem?_cons_zero, Option.some.injEq] at hq
      subst hq
      rw [Nat.zero_mul, List.drop_zero, List.take_of_length_le (by simp [raw, hl])]
      exact hM
    | succ j => simp at hq
  refine op_rowF (flat_raw n) (S := S) (L := B :: L) e [cs] cs.toArray 1 (by simpa using hr) rfl (by omega) hf H (by simpa using hrun) fun A c w1 g1 g2 => ?_
  exact h A c w1 (rows_close (css := [cs]) rfl (SL.cons (fun w' _ => SL.imp (hB w')) g1)) g2
/-- A store into an element (or into a part of it) of a row whose elements lead nowhere. -/
theorem op_setF {d : Kd α} (hfl : Flat d) {w : World} (t : TypeId) (x y : Operand) (ho : o.op = .store t x y) (ad : Addr) (i : Int) (z : α) (j : Nat) (seg : List Value) (u : Value) {e : TypeId} {n c : Nat} {xs : List α} {S : Nat → Prop} {L : List Asr}
    (H : SL (row d e (.slice (some ad) n c) xs :: L) w S) (p : Addr) (hp : ∀ g o : Nat, ad = ⟨g, o, none⟩ → p = ⟨g, o + i.toNat * d.sz + j, none⟩) (hx : a.eval x = .pointer (some p)) (hy : a.eval y = u) (hu : u.cells.toList = seg) (ht : (P.info? t).map (·.size) = some seg.length) (h1 : ∀ q ∈ seg, q.oneCell' = true) (h0 : 0 ≤ i) (hi : i < n) (hj : j + seg.length ≤ d.sz)
    (x' : α) (hx' : ∀ c, d.K w (xs.getD i.toNat z) c → d.K w x' (c.take j ++ seg ++ c.drop (j + seg.length))) (ys : List α) (hys : xs.set i.toNat x' = ys)
    (h : ∀ w1, SL (row d e (.slice (some ad) n c) ys :: L) w1 S → Keep S w w1 → Kc (a.put o.dst undef) w1) : Oper.wp P o a w Kc Q := by
  subst hys
  obtain ⟨T, U, g1, g2, g3, g4q, g5⟩ := H
  have hn := (Qs_c g4q).1
  obtain ⟨hnc0, c', hcc0, g4⟩ := Qs_open g4q
  obtain ⟨g, of, cap, hv, _, hlt, cur, hcur⟩ := Kd.Q_form g4 (by omega)
  injection hv with hv1 _ _
  injection hv1 with hv1
  subst hv1
  have hpe := hp g of rfl
  subst hpe
  have g4' : d.Q e w 0 T (.slice (some ⟨g, of, none⟩) n c') xs := g4
  obtain ⟨cc, hcl, hM, hcc, _⟩ := Kd.Q_elem g4' z i h0 hi
  obtain ⟨p1, p2⟩ := Kd.Q_seg (okp := fun _ => False) g4' i h0 hi hcl hcc hj (x' := x') (hfl.MK (hx' cc (d.K_of_M hM))) (fun _ h => h.elim)
  have hT : T g := g4.1 g (by simp [Value.ownBlock])
  have hk : Keep T w (w.setCells g (of + i.toNat * d.sz + j) seg) := setCells_keep hT seg _ w
  have hfit : of + i.toNat * d.sz + j + seg.length ≤ cur.size := by
    rcases Nat.eq_zero_or_pos seg.length with hz | hz
    · have h3 := hcc 0
      rcases Nat.eq_zero_or_pos d.sz with hd | hd
      · obtain ⟨inner, ⟨hq1, hq⟩, hr⟩ := g4'.2
        rcases hq with ⟨h4, _⟩ | ⟨g', off, cap', cur', hv', _, hh', hnc, _, hcs, _⟩
        · omega
        · injection hv' with ha _ hc'
          injection ha with ha
          injection ha with hg' ho'
          subst hg'; subst ho'
          rw [hcur] at hh'
          injection hh' with hh'
          injection hh' with hh'
          rw [hd] at hj ⊢
          omega
      · have h5 := hcc (d.sz - 1) _ (List.getElem?_eq_getElem (by omega))
        rw [cell_of_row w g _ cur e (0, 0) hcur] at h5
        have := (Array.getElem?_eq_some_iff.1 h5).1
        omega
    · have h5 := hcc (j + seg.length - 1) _ (List.getElem?_eq_getElem (by omega))
      rw [cell_of_row w g _ cur e (0, 0) hcur] at h5
      have := (Array.getElem?_eq_some_iff.1 h5).1
      omega
  have hr := run_store_run (P := P) t u seg hcur hu ht hfit h1
  unfold Oper.wp execOp
  simp only [ho, hx, hy, hr, Sem.run_bind, Sem.run_pure, Result.andThen_ok]
  exact h _ ⟨T, U, g1, g2, g3, ⟨_, _, c, c', rfl, hnc0, hcc0, p1⟩, SL.far g5 hk (fun k q q' => g3 k q' q)⟩ (hk.sub g1)
/-- A cut with an end and a capacity: x[:j:m]. -/
theorem cut_cap (d : Kd α) (t e : TypeId) (kh km : IntKind) {size : Nat} (ht : P.underlying t = some (.slice e)) (hi : (P.info? e).map (·.size) = some size) (hsz : d.sz = size) (A : Option Addr) (n c : Nat) (xs : List α) (hn : n = xs.length) (hc : n ≤ c) (j m : Int) (h0 : 0 ≤ j) (hjm : j ≤ m) (hm : m ≤ n) (y : List α) (hy : xs.take j.toNat = y) :
    (∀ W : World, (Instr.slice t (.slice A n c) none (some (.int kh j)) (some (.int km m))).run P W = .ok (.slice A y.length m.toNat) W) ∧ (∀ S L w, SL (row d e (.slice A n c) xs :: L) w S → SL (row d e (.slice A y.length m.toNat) y :: L) w S) ∧ (∀ w, d.C w A n xs → d.C w A y.length y) ∧ y.length ≤ m.toNat := by
  subst hn
  subst hy
  have he : P.elem t = e := by simp [Program.elem, ht]
  have hl : (xs.take j.toNat).length = j.toNat := by rw [List.length_take]; omega
  have ht' : P.underlying t = some (.slice (P.elem t)) := by rw [he]; exact ht
  obtain ⟨i, hi1, hi2⟩ := Option.map_eq_some_iff.1 hi
  refine ⟨fun W => ?_, fun S L w h => ?_, fun w h => ?_, by omega⟩
  · rw [run_slice_hm W t A xs.length c ht' kh km j m h0 hjm (by omega), hl, he]
    cases A <;> simp [sizeOf, typeInfo, hi1, sliced, Addr.add_zero']
  · rw [hl]
    exact SL.row_shut (SL.row_take (m := j.toNat) h (by omega)) (by omega) (by omega)
  · exact Kd.C_take (m := j.toNat) h (by omega)
/-- A cut with both ends: x[i:j]. -/
theorem cut_mid (d : Kd α) (t e : TypeId) (kl kh : IntKind) {size : Nat} (ht : P.underlying t = some (.slice e)) (hi : (P.info? e).map (·.size) = some size) (hsz : d.sz = size) (A : Option Addr) (n c : Nat) (xs : List α) (hn : n = xs.length) (hc : n ≤ c) (i j : Int) (h0 : 0 ≤ i) (hij : i ≤ j) (hm : j ≤ n) (y : List α) (hy : (xs.drop i.toNat).take (j.toNat - i.toNat) = y) :
    ∃ A' c', (∀ W : World, (Instr.slice t (.slice A n c) (some (.int kl i)) (some (.int kh j)) none).run P W = .ok (.slice A' y.length c') W) ∧ (∀ S L w, SL (row d e (.slice A n c) xs :: L) w S → SL (row d e (.slice A' y.length c') y :: L) w S) ∧ (∀ w, d.C w A n xs → d.C w A' y.length y) ∧ y.length ≤ c' := by
  subst hn
  subst hy
  have he : P.elem t = e := by simp [Program.elem, ht]
  have hl : ((xs.drop i.toNat).take (j.toNat - i.toNat)).length = j.toNat - i.toNat := by rw [List.length_take, List.length_drop]; omega
  have ht' : P.underlying t = some (.slice (P.elem t)) := by rw [he]; exact ht
  obtain ⟨i0, hi1, hi2⟩ := Option.map_eq_some_iff.1 hi
  refine ⟨if c = i.toNat then A else A.map (·.add (i.toNat * size)), c - i.toNat, fun W => ?_, fun S L w h => ?_, fun w h => ?_, by omega⟩
  · rw [run_slice_lh W t A xs.length c ht' kl kh i j h0 hij (by omega), hl, he]
    simp [sizeOf, typeInfo, hi1, hi2, sliced]
  · rw [hl, ← hsz]
    exact SL.row_take (SL.row_drop (k := i.toNat) h (by omega)) (by rw [List.length_drop]; omega)
  · rw [← hsz]
    have := Kd.C_take (m := j.toNat - i.toNat) (Kd.C_drop (m := i.toNat) h (by omega) hc) (by rw [List.length_drop]; omega)
    exact this
theorem rows_cut_of {K : α → List Value → Asr} {d : Kd α} (hd : Reads K d) (d_ : Kd α) (t e : TypeId) (kl kh : IntKind) {size : Nat} (ht : P.underlying t = some (.slice e)) (hi : (P.info? e).map (·.size) = some size) (hsz : d.sz = size) (A : Option Addr) (n c : Nat) (xs : List α) (hn : n = xs.length) (hc : n ≤ c) (j : Int) (h0 : 0 ≤ j) (hm : j ≤ n) (y : List α) (hy : xs.drop j.toNat = y) :
    ∃ A' c', (∀ W : World, (Instr.slice t (.slice A n c) (some (.int kl j)) none none).run P W = .ok (.slice A' y.length c') W) ∧ (∀ S L w, SL (rows K size e (.slice A n c) xs :: L) w S → SL (rows K size e (.slice A' y.length c') y :: L) w S) ∧ (∀ w, d.C w A n xs → d.C w A' y.length y) ∧ y.length ≤ c' := by
  have hb := cut_of (P := P) d t e kl kh ht hi hsz A n c xs hn hc j h0 hm y hy
  subst hn
  subst hy
  have hl : (xs.drop j.toNat).length = xs.length - j.toNat := List.length_drop
  refine ⟨if c = j.toNat then A else A.map (·.add (j.toNat * size)), c - j.toNat, fun W => ?_, fun S L w h => ?_, fun w h => ?_, by omega⟩
  · obtain ⟨i, hi1, hi2⟩ := Option.map_eq_some_iff.1 hi
    rw [hl]
    exact Go.Proofs.YtbhgohomgfjjfaaW.PrintWords.cut_from t e kl ht hi1 size hi2 A xs.length c j h0 hm W
  · rw [hl]
    exact rows_drop (k := j.toNat) h (by omega)
  · rw [← hsz]
    exact Kd.C_drop (m := j.toNat) h (by omega) hc
theorem rows_cut_upto {K : α → List Value → Asr} {d : Kd α} (hd : Reads K d) (d_ : Kd α) (t e : TypeId) (kl kh : IntKind) {size : Nat} (ht : P.underlying t = some (.slice e)) (hi : (P.info? e).map (·.size) = some size) (hsz : d.sz = size) (A : Option Addr) (n c : Nat) (xs : List α) (hn : n = xs.length) (hc : n ≤ c) (j : Int) (h0 : 0 ≤ j) (hm : j ≤ n) (y : List α) (hy : xs.take j.toNat = y) :
    (∀ W : World, (Instr.slice t (.slice A n c) none (some (.int kh j)) none).run P W = .ok (.slice A y.length c) W) ∧ (∀ S L w, SL (rows K size e (.slice A n c) xs :: L) w S → SL (rows K size e (.slice A y.length c) y :: L) w S) ∧ (∀ w, d.C w A n xs → d.C w A y.length y) ∧ y.length ≤ c := by
  obtain ⟨h1, _, h3, h4⟩ := cut_upto (P := P) d t e kl kh ht hi hsz A n c xs hn hc j h0 hm y hy
  subst hn
  subst hy
  have hl : (xs.take j.toNat).length = j.toNat := by rw [List.length_take]; omega
  refine ⟨h1, fun S L w h => ?_, h3, h4⟩
  rw [hl]
  exact rows_take (k := j.toNat) h (by omega)
theorem rows_cut_cap {K : α → List Value → Asr} {d : Kd α} (hd : Reads K d) (d_ : Kd α) (t e : TypeId) (kl kh : IntKind) {size : Nat} (ht : P.underlying t = some (.slice e)) (hi : (P.info? e).map (·.size) = some size) (hsz : d.sz = size) (A : Option Addr) (n c : Nat) (xs : List α) (hn : n = xs.length) (hc : n ≤ c) (j m : Int) (h0 : 0 ≤ j) (hjm : j ≤ m) (hm : m ≤ n) (y : List α) (hy : xs.take j.toNat = y) :
    (∀ W : World, (Instr.slice t (.slice A n c) none (some (.int kl j)) (some (.int kh m))).run P W = .ok (.slice A y.length m.toNat) W) ∧ (∀ S L w, SL (rows K size e (.slice A n c) xs :: L) w S → SL (rows K size e (.slice A y.length m.toNat) y :: L) w S) ∧ (∀ w, d.C w A n xs → d.C w A y.length y) ∧ y.length ≤ m.toNat := by
  obtain ⟨h1, _, h3, h4⟩ := cut_cap (P := P) d t e kl kh ht hi hsz A n c xs hn hc j m h0 hjm hm y hy
  subst hn
  subst hy
  have hl : (xs.take j.toNat).length = j.toNat := by rw [List.length_take]; omega
  refine ⟨h1, fun S L w h => ?_, h3, h4⟩
  rw [hl]
  exact rows_shut (rows_take (k := j.toNat) h (by omega)) (by omega) (by omega)
/-- []byte(s). -/
theorem op_bytes {w : World} (src dst e : TypeId) (x : Operand) (hs : P.underlying src = some .string) (hd : P.underlying dst = some (.slice e)) (he : P.underlying e = some (.int .u8)) (s : ByteArray) (ho : o.op = .convert src dst x) (hx : a.eval x = .string s) (hsz : s.size ≤ 9223372036854775807) (y : List Int) (hy : bytesOf s = y) {S : Nat → Prop} {L : List Asr} (hf : Fresh S w) (H : SL L w S)
    (h : ∀ A c w1, SL (seenR (Kd.int .u8) (.slice A y.length c) y :: L) w1 S → Keep S w w1 → Kc (a.put o.dst (.slice A y.length c)) w1) : Oper.wp P o a w Kc Q := by
  subst hy
  have hr := print_bytes (P := P) src dst e hs hd he s w
  have hR := bytes_reads w e s hsz
  have hb : Below w.heap.size w (Lib.bytesWorld w e s) := bytes_below (Below.refl _ _) (Nat.le_refl _) e s
  have hlt : w.heap.size < (Lib.bytesWorld w e s).heap.size := by rw [Lib.bytesWorld_size]; omega
  have hl := bytesOf_length s
  have hr1 : (execOp a.eval o).run P w = .ok (.value (.slice (some ⟨w.heap.size, 0, none⟩) s.size (grownCap w s.size 0 e))) (Lib.bytesWorld w e s) := by
    unfold execOp
    simp only [ho, hx, Sem.run_bind, hr, Sem.run_pure, Result.andThen_ok]
  have hcap : s.size ≤ grownCap w s.size 0 e := grownCap_ge _ _ _ _
  rw [← hl] at hr1 hR hcap
  refine op_value hr1 (h _ _ _ (SL.new hf H hb ?_).1 (.below hb))
  refine ⟨_, _, _, rfl, rfl, by rw [hl] at hcap ⊢; exact hcap, w.heap.size, Nat.le_refl _, hlt, fun w' hw => Kd.C_of_reads (enc := Value.int .u8) (d := (0 : Int)) (h1 := fun _ => rfl) ?_⟩
  refine ⟨hR.1, hR.2.1, fun hp => ?_⟩
  obtain ⟨ad, e1, hc⟩ := hR.2.2 hp
  refine ⟨ad, e1, fun j hj => ?_⟩
  injection e1 with e1
  subst e1
  rw [← hc j hj]
  exact World.cell?_of_block (by rw [show ((⟨w.heap.size, 0, none⟩ : Addr).add j).block = w.heap.size by rw [add_at]]; exact hw)
theorem freeze_at (w : World) (g n : Nat) {cur : Array Value} {e : TypeId} (h : w.heap[g]? = some (.cells cur e (0, 0))) : (w.freeze ⟨g, n, none⟩ 1).heap[g]? = some (.cells cur e (n, n + 1)) := by
  unfold World.freeze
  rw [if_neg (by decide)]
  simp [Array.getElem?_modify, h]
theorem freeze_keep (w : World) (g n : Nat) {S : Nat → Prop} (hg : S g) : Keep S w (w.freeze ⟨g, n, none⟩ 1) := by
  unfold World.freeze
  rw [if_neg (by decide)]
  refine ⟨rfl, rfl, rfl, by simp, fun k hk hs => ?_⟩
  have : g ≠ k := fun e => hs (e ▸ hg)
  simp [Array.getElem?_modify, this]
/-- []byte of a constant: the literal's row is marked, and only read from there on. -/
theorem op_mark {w : World} (t e : TypeId) (x : Operand) (ht : P.underlying t = some (.slice e)) (he : P.underlying e = some (.int .u8)) (ho : o.op = .convert t t x) {A : Option Addr} {n c : Nat} {xs : List Int} {S : Nat → Prop} {L : List Asr} (hx : a.eval x = .slice A n c) (hn : 0 < n) (H : SL (row (Kd.int .u8) e (.slice A n c) xs :: L) w S)
    (h : ∀ w1, SL (seenR (Kd.int .u8) (.slice A n c) xs :: L) w1 S → Keep S w w1 → Kc (a.put o.dst (.slice A n c)) w1) : Oper.wp P o a w Kc Q := by
  obtain ⟨T, U, g1, g2, g3, g4q, g5⟩ := H
  obtain ⟨hn1, hnc1, hC⟩ := Qs_c g4q
  obtain ⟨hnc0, c', hcc0, g4⟩ := Qs_open g4q
  obtain ⟨g, of, cap, hv, _, hlt, cur, hcur⟩ := Kd.Q_form g4 (by omega)
  injection hv with hv1 _ _
  subst hv1
  have hT : T g := g4.1 g (by simp [Value.ownBlock])
  have hk : Keep T w (w.freeze ⟨g, cur.size, none⟩ 1) := freeze_keep w g cur.size hT
  have hsh : w.shape? g = some (e, cur.size) := by unfold World.shape?; rw [hcur]
  have hr : (execOp a.eval o).run P w = .ok (.value (.slice (some ⟨g, of, none⟩) n c)) (w.freeze ⟨g, cur.size, none⟩ 1) := by
    unfold execOp
    simp [ho, hx, convert, run_underlying ht, run_underlying he, markStringish, hsh, Sem.run_bind, Sem.run_pure, Result.andThen_ok]
  refine op_value hr (h _ ⟨T, U, g1, g2, g3, ⟨_, n, c, rfl, hn1, hnc1, g, hT, by have := hk.size; omega, fun w' hw => ?_⟩, SL.far g5 hk (fun k q q' => g3 k q' q)⟩ (hk.sub g1))
  rw [freeze_at w g cur.size hcur] at hw
  have hR := Kd.reads_of_C (enc := Value.int .u8) (d := (0 : Int)) (h1 := fun _ => rfl) hC
  refine Kd.C_of_reads (enc := Value.int .u8) (d := (0 : Int)) (h1 := fun _ => rfl) ⟨hR.1, hR.2.1, fun hp => ?_⟩
  obtain ⟨ad, e1, hc⟩ := hR.2.2 hp
  refine ⟨ad, e1, fun j hj => ?_⟩
  injection e1 with e1
  subst e1
  have h2 := hc j hj
  rw [add_at, cell_of_row w g _ cur e (0, 0) hcur] at h2
  rw [add_at, cell_of_row w' g _ cur e _ hw]
  exact h2
theorem zipWith_at {β γ : Type} (f : α → β → γ) {xs : List α} {css : List β} {j : Nat} {x : α} {cs : β} (hx : xs[j]? = some x) (hc : css[j]? = some cs) :
    List.zipWith f xs css = (List.zipWith f xs css).take j ++ f x cs :: (List.zipWith f xs css).drop (j + 1) := by
  have h : (List.zipWith f xs css)[j]? = some (f x cs) := by rw [List.getElem?_zipWith, hx, hc]
  obtain ⟨hl, he⟩ := List.getElem?_eq_some_iff.1 h
  conv => lhs; rw [← List.take_append_drop j (List.zipWith f xs css), List.drop_eq_getElem_cons hl, he]
theorem zipWith_set {β γ : Type} (f : α → β → γ) {xs : List α} {css : List β} {j : Nat} {x : α} {cs : β} (hj : j < xs.length) (hc : css[j]? = some cs) :
    List.zipWith f (xs.set j x) css = (List.zipWith f xs css).take j ++ f x cs :: (List.zipWith f xs css).drop (j + 1) := by
  rw [zipWith_at f (xs := xs.set j x) (css := css) (j := j) (x := x) (cs := cs) (by simp [hj]) hc]
  congr 1
  · rw [List.take_zipWith, List.take_zipWith, List.take_set_of_le (Nat.le_refl _)]
  · rw [List.drop_zipWith, List.drop_zipWith, List.drop_set_of_lt (by omega)]
/-- A store into an element of an element. -/
theorem op_setI {enc : α → Value} {h1 : ∀ x, (enc x).oneCell' = true} {w : World} (t : TypeId) (x y : Operand) (ho : o.op = .store t x y) (ad : Addr) (i : Int) {e e' : TypeId} {m c : Nat} {xs : List (List α)} {S : Nat → Prop} {L : List Asr}
    (H : SL (rows (inn (Kd.scalar enc h1) e') 1 e (.slice (some ad) m c) xs :: L) w S) (h0 : 0 ≤ i) (hi : i < m) (ad' : Addr) (len c' : Nat) (hcell : w.cell? (ad.add i.toNat) = some (.slice (some ad') len c')) (j : Int) (u : α)
    (hx : a.eval x = .pointer (some (ad'.add j.toNat))) (hy : a.eval y = enc u) (ht : (P.info? t).map (·.size) = some 1) (hj0 : 0 ≤ j) (hj : j < len) (yi : List α) (hyi : xs.getD i.toNat [] = yi) (ys : List (List α)) (hys : xs.set i.toNat (yi.set j.toNat u) = ys)
    (h : ∀ w1, SL (rows (inn (Kd.scalar enc h1) e') 1 e (.slice (some ad) m c) ys :: L) w1 S → Keep S w w1 → Kc (a.put o.dst undef) w1) : Oper.wp P o a w Kc Q := by
  subst hyi
  subst hys
  obtain ⟨css, hl, H⟩ := rows_open H
  obtain ⟨hm, _, hC⟩ := SL.row_c H
  have hlx : i.toNat < xs.length := by omega
  have hlc : i.toNat < css.length := by omega
  obtain ⟨ad2, hA, hc⟩ := hC.2.2 (by omega)
  injection hA with hA
  subst hA
  obtain ⟨cs, g1, ⟨g2, _, _⟩, g4⟩ := hc i.toNat _ (List.getElem?_eq_getElem hlc)
  have hx1 : xs[i.toNat]? = some (xs.getD i.toNat []) := by rw [List.getD_eq_getElem?_getD, List.getElem?_eq_getElem hlx]; rfl
  have hc1 : css[i.toNat]? = some css[i.toNat] := List.getElem?_eq_getElem hlc
  have hv : css[i.toNat] = [.slice (some ad') len c'] := by
    rw [← g2]
    have hlen : cs.length = 1 := g1
    obtain ⟨v, rfl⟩ := List.length_eq_one_iff.1 hlen
    have := g4 0 v rfl
    rw [Nat.add_zero, show (raw 1).sz = 1 from rfl, Nat.mul_one, hcell] at this
    injection this with this
    rw [this]
  rw [zipWith_at _ hx1 hc1, hv] at H
  have H2 : SL (row (Kd.scalar enc h1) e' (.slice (some ad') len c') (xs.getD i.toNat []) :: (row (raw 1) e (.slice (some ad) m c) css :: ((List.zipWith (inn (Kd.scalar enc h1) e') xs css).take i.toNat ++ (List.zipWith (inn (Kd.scalar enc h1) e') xs css).drop (i.toNat + 1) ++ L))) w S := by
    refine SL.imp (A := inn (Kd.scalar enc h1) e' (xs.getD i.toNat []) [.slice (some ad') len c']) (fun T hT => ?_) (SL.perm ?_ H)
    · obtain ⟨v, hv1, hv2⟩ := hT
      injection hv1 with hv1 _
      subst hv1
      exact hv2
    · rw [List.append_assoc, List.append_assoc, List.cons_append]
      exact List.perm_middle (l₁ := row (raw 1) e (.slice (some ad) m c) css :: (List.zipWith (inn (Kd.scalar enc h1) e') xs css).take i.toNat)
  refine op_set (S := S) t x y ho ad' j u H2 hx hy ht hj0 hj _ rfl fun w1 H3 hk => h w1 (rows_close (css := css) (by simp [hl]) ?_) hk
  rw [zipWith_set _ hlx hc1, hv]
  refine SL.perm ?_ (SL.imp (B := inn (Kd.scalar enc h1) e' ((xs.getD i.toNat []).set j.toNat u) [.slice (some ad') len c']) (fun T hT => ⟨_, rfl, hT⟩) H3)
  rw [List.append_assoc, List.append_assoc, List.cons_append]
  exact (List.perm_middle (l₁ := row (raw 1) e (.slice (some ad) m c) css :: (List.zipWith (inn (Kd.scalar enc h1) e') xs css).take i.toNat)).symm
end
end Go.Proofs.YtbhgohomgfjjfaaS
