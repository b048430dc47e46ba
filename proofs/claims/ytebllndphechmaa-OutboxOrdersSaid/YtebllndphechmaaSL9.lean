/- Words of this session: channels of rows, in one goroutine: what waits, the eldest first; a select of one case with a default. -/
import Derived.Test.YtebllndphechmaaSL4
import Derived.Conc.LoneSelect
import Derived.Conc.LoneSelectN
set_option linter.unusedVariables false
set_option linter.unusedSimpArgs false
namespace Go.Proofs.YtebllndphechmaaS
open Go.RowKit Go.Conc Go.Proofs.YtebllndphechmaaW.PrintWords Go.Proofs.YtebllndphechmaaW.PrintLast Go.Proofs.YtebllndphechmaaW.PrintMore Go.Proofs.YtebllndphechmaaV
def Ops (P : Program) (ops : Array Oper) (Q : Exit → Act → World → Prop) (l : List Nat) (a : Act) (w : World) : Prop :=
  ∀ (b : Frame) (k : List Item) (cs : List Frame), ∃ e a' w', Q e a' w' ∧ Arrives P (lone (b.at a (.inRegion ops l :: k)) cs w) b k cs e a' w'
section
variable {P : Program} {ops : Array Oper} {Q : Exit → Act → World → Prop} {a : Act} {w w1 : World} {i : Nat} {rest : List Nat} {o : Oper}
theorem ops_region {id : Nat} (h : Ops P ops Q (List.range ops.size) a w) : (Code.region id ops false).wp P Q a w :=
  fun b k cs => let ⟨e, a', w', q, r⟩ := h b k cs; ⟨e, a', w', q, .of_steps (.one step_region) r⟩
theorem ops_done (h : Q .normal a w) : Ops P ops Q [] a w := fun b k cs => ⟨.normal, a, w, h, .one step_region_end⟩
theorem ops_of_wp {l : List Nat} (h : wpOps P ops Q l a w) : Ops P ops Q l a w := wp_ops l a w h
theorem ops_step {a1 : Act} (hs : ∀ (b : Frame) (k : List Item) (cs : List Frame), step P (lone (b.at a (.inRegion ops (i :: rest) :: k)) cs w) = .next (lone (b.at a1 (.inRegion ops rest :: k)) cs w1)) (h : Ops P ops Q rest a1 w1) : Ops P ops Q (i :: rest) a w :=
  fun b k cs => let ⟨e, a', w', q, r⟩ := h b k cs; ⟨e, a', w', q, .of_steps (.one (hs b k cs)) r⟩
theorem ops_fin (b : Frame) (k : List Item) (ho : ops[i]? = some o) (v : Value) : (b.at a (.inRegion ops (i :: rest) :: k)).finish v = b.at (a.put o.dst v) (.inRegion ops rest :: k) := by
  rw [Frame.finish_at, ho]; rfl
theorem ops_value {v : Value} (ho : ops[i]? = some o) (hw : Region.wanted o (yielded ops a.tmps) = true) (hr : (execOp a.eval o).run P w = .ok (.value v) w1) (h : Ops P ops Q rest (a.put o.dst v) w1) : Ops P ops Q (i :: rest) a w := by
  refine ops_step (fun b k cs => step_lone_go ?_) h
  rw [stepG_op ho hw, ← ops_fin b k ho]; simp [stepG.apply, hr]
theorem ops_call {f : FuncId} {args : Array Value} {R : Ending → World → Prop} (ho : ops[i]? = some o) (hw : Region.wanted o (yielded ops a.tmps) = true) (hr : (execOp a.eval o).run P w = .ok (.enter f args) w1) (hc : Calls P f args w1 R)
    (h : ∀ e w', R e w' → ∃ v, e = .returned v ∧ Ops P ops Q rest (a.put o.dst v) w') : Ops P ops Q (i :: rest) a w := by
  intro b k cs
  obtain ⟨e, w'', fr, hR, hsteps, _, hleave⟩ := hc (b.at a (.inRegion ops (i :: rest) :: k) :: cs)
  obtain ⟨v, rfl, h⟩ := h e w'' hR
  have henter : step P (lone (b.at a (.inRegion ops (i :: rest) :: k)) cs w) = .next (lone (Frame.enter P f args .normal) (b.at a (.inRegion ops (i :: rest) :: k) :: cs) w1) :=
    step_lone_go (by rw [stepG_op ho hw]; simp [stepG.apply, hr, Frame.at])
  obtain ⟨e, a', w₃, hq, harr⟩ := h b k cs
  refine ⟨e, a', w₃, hq, .of_steps (.head henter (hsteps.trans (.one ?_))) harr⟩
  rw [← ops_fin b k ho]; exact step_leave_returned hleave
theorem ops_comm {cases : Array CommCase} {bl : Bool} {sh : CommShape} (b : Frame) (k : List Item) (cs : List Frame) (ho : ops[i]? = some o) (hw : Region.wanted o (yielded ops a.tmps) = true) (hr : (execOp a.eval o).run P w = .ok (.comm cases bl sh) w1) :
    ∃ es, stepG P true (G (b.at a (.inRegion ops (i :: rest) :: k)) cs) w = .comm (G (b.at a (.inRegion ops (i :: rest) :: k)) cs) cases bl sh w1 es := by
  unfold G
  rw [stepG_op ho hw]
  simp only [stepG.apply, Sem.runT_eq, hr]
  exact ⟨_, rfl⟩
/-- A select of one receive with a default: something waits. -/
theorem ops_recv {c cap s r : Nat} {v : Value} {vs : List Value} {z : Value} (ho : ops[i]? = some o) (hw : Region.wanted o (yielded ops a.tmps) = true) (hr : (execOp a.eval o).run P w = .ok (.comm #[rcase c z] false .select) w)
    (hc : w.heap[c]? = some (.chan cap (v :: vs).toArray false s r false)) (h : Ops P ops Q rest (a.put o.dst (.tuple #[goInt 0, .bool true, v])) (w.setChan c cap vs.toArray false s (r + 1) false)) : Ops P ops Q (i :: rest) a w := by
  refine ops_step (fun b k cs => ?_) h
  obtain ⟨es, he⟩ := ops_comm b k cs ho hw hr
  have := step_lone_select_recv_buf he hc (by simp)
  rw [ops_fin b k ho] at this
  simp at this
  exact this
theorem ops_recv0 {c cap s r : Nat} {z : Value} (ho : ops[i]? = some o) (hw : Region.wanted o (yielded ops a.tmps) = true) (hr : (execOp a.eval o).run P w = .ok (.comm #[rcase c z] false .select) w)
    (hc : w.heap[c]? = some (.chan cap #[] false s r false)) (h : Ops P ops Q rest (a.put o.dst (.tuple #[goInt (-1), .bool false, z])) w) : Ops P ops Q (i :: rest) a w := by
  refine ops_step (fun b k cs => ?_) h
  obtain ⟨es, he⟩ := ops_comm b k cs ho hw hr
  have := step_lone_select_default he hc
  rw [ops_fin b k ho] at this
  exact this
theorem ops_send {c cap s r : Nat} {v : Value} {vs : List Value} {z : Value} (ho : ops[i]? = some o) (hw : Region.wanted o (yielded ops a.tmps) = true) (hr : (execOp a.eval o).run P w = .ok (.comm #[scase c v z] false .select) w)
    (hc : w.heap[c]? = some (.chan cap vs.toArray false s r false)) (hl : vs.length < cap) (h : Ops P ops Q rest (a.put o.dst (.tuple #[goInt 0, .bool false])) (w.setChan c cap (vs ++ [v]).toArray false (s + 1) r false)) : Ops P ops Q (i :: rest) a w := by
  refine ops_step (fun b k cs => ?_) h
  obtain ⟨es, he⟩ := ops_comm b k cs ho hw hr
  have := step_lone_select_send_room he hc (by simpa using hl)
  rw [ops_fin b k ho] at this
  simp at this
  exact this
theorem ops_send1 {c cap s r : Nat} {v : Value} {vs : List Value} {z : Value} (ho : ops[i]? = some o) (hw : Region.wanted o (yielded ops a.tmps) = true) (hr : (execOp a.eval o).run P w = .ok (.comm #[scase c v z] false .select) w)
    (hc : w.heap[c]? = some (.chan cap vs.toArray false s r false)) (hl : cap ≤ vs.length) (h : Ops P ops Q rest (a.put o.dst (.tuple #[goInt (-1), .bool false])) w) : Ops P ops Q (i :: rest) a w := by
  refine ops_step (fun b k cs => ?_) h
  obtain ⟨es, he⟩ := ops_comm b k cs ho hw hr
  have := step_lone_select_send_full he hc (by simpa using hl)
  rw [ops_fin b k ho] at this
  exact this
end
/-- A channel: its capacity, and the values that wait. -/
def chraw (b cap : Nat) (vs : List Value) : Asr where
  H w S := S b ∧ ∃ s r, w.heap[b]? = some (.chan cap vs.toArray false s r false)
  mono hs h := ⟨hs _ h.1, h.2⟩
  bound h := ⟨⟨h.1, let ⟨_, _, h⟩ := h.2; (Array.getElem?_eq_some_iff.1 h).1⟩, h.2⟩
  move hm h := ⟨h.1, let ⟨s, r, h2⟩ := h.2; ⟨s, r, (hm _ h.1).trans h2⟩⟩
/-- A channel whose values lead to objects of their own. -/
def chano {α : Type} (b : Nat) (K : α → List Value → Asr) (D : Int × List α) : Asr where
  H w S := ∃ vs : List Value, vs.length = D.2.length ∧ SL (chraw b D.1.toNat vs :: List.zipWith K D.2 (vs.map fun v => [v])) w S
  mono hs h := let ⟨vs, h1, h2⟩ := h; ⟨vs, h1, SL.mono hs h2⟩
  bound h := let ⟨vs, h1, h2⟩ := h; ⟨vs, h1, SL.bound h2⟩
  move hm h := let ⟨vs, h1, h2⟩ := h; ⟨vs, h1, SL.move hm h2⟩
section
variable {α : Type} {K : α → List Value → Asr} {D : Int × List α} {b : Nat} {L : List Asr} {w : World} {S : Nat → Prop}
theorem chan_open (h : SL (chano b K D :: L) w S) : ∃ vs : List Value, vs.length = D.2.length ∧ SL (chraw b D.1.toNat vs :: (List.zipWith K D.2 (vs.map fun v => [v]) ++ L)) w S := by
  obtain ⟨T, U, h1, h2, h3, ⟨vs, hl, h4⟩, h5⟩ := h
  refine ⟨vs, hl, ?_⟩
  exact SL.flat (L0 := chraw b D.1.toNat vs :: List.zipWith K D.2 (vs.map fun v => [v])) ⟨T, U, h1, h2, h3, h4, h5⟩
theorem chan_close {vs : List Value} (hl : vs.length = D.2.length) (h : SL (chraw b D.1.toNat vs :: (List.zipWith K D.2 (vs.map fun v => [v]) ++ L)) w S) : SL (chano b K D :: L) w S := by
  obtain ⟨T, U, h1, h2, h3, h4, h5⟩ := SL.unflat (L0 := chraw b D.1.toNat vs :: List.zipWith K D.2 (vs.map fun v => [v])) h
  exact ⟨T, U, h1, h2, h3, ⟨vs, hl, h4⟩, h5⟩
theorem chraw_at {cap : Nat} {vs : List Value} (h : SL (chraw b cap vs :: L) w S) : S b ∧ ∃ s r, w.heap[b]? = some (.chan cap vs.toArray false s r false) := let ⟨_, _, h1, _, _, h4, _⟩ := h; ⟨h1 _ h4.1, h4.2⟩
theorem setChan_keep (hb : S b) (cap : Nat) (buf : Array Value) (s r : Nat) : Keep S w (w.setChan b cap buf false s r false) :=
  ⟨rfl, rfl, rfl, by simp [World.setChan], fun k _ hs => by
    simp only [World.setChan]
    rw [Array.getElem?_setIfInBounds_ne]
    intro e
    subst e
    exact hs hb⟩
theorem chraw_set {cap : Nat} {vs : List Value} (h : SL (chraw b cap vs :: L) w S) (vs' : List Value) (s r : Nat) : SL (chraw b cap vs' :: L) (w.setChan b cap vs'.toArray false s r false) S ∧ Keep S w (w.setChan b cap vs'.toArray false s r false) := by
  obtain ⟨T, U, h1, h2, h3, h4, h5⟩ := h
  have hlt : b < w.heap.size := by obtain ⟨_, _, _, h⟩ := h4; exact (Array.getElem?_eq_some_iff.1 h).1
  exact ⟨⟨T, U, h1, h2, h3, ⟨h4.1, s, r, by simp [World.setChan, hlt]⟩, SL.far h5 (setChan_keep (S := T) h4.1 cap _ s r) (fun k hk hk' => h3 k hk' hk)⟩, setChan_keep (h1 _ h4.1) cap _ s r⟩
variable {P : Program} {o : Oper} {a : Act} {Kc : Act → World → Prop} {Q : Exit → Act → World → Prop}
theorem op_makeChan (K : α → List Value → Asr) (t : TypeId) (s : Operand) (ho : o.op = .makeChan t s) {dir : ChanDir} {e : TypeId} (ht : P.underlying t = some (.chan dir e)) {bytes : Nat} (hi : (P.info? e).map (·.bytes) = some bytes) (n : Int) (hs : a.eval s = .int .i64 n) (h0 : 0 ≤ n) (h1 : n ≤ 1000000) (hb : bytes ≤ 1000)
    (hf : Fresh S w) (H : SL L w S) (D : Int × List α) (hD : (n, []) = D) (h : ∀ g w1, SL (chano g K D :: L) w1 S → Keep S w w1 → Kc (a.put o.dst (.chan (some g))) w1) : Oper.wp P o a w Kc Q := by
  subst hD
  obtain ⟨m, rfl⟩ : ∃ m : Nat, n = m := ⟨n.toNat, by omega⟩
  cases hi' : P.info? e with
  | none => rw [hi'] at hi; simp at hi
  | some i =>
    rw [hi'] at hi
    simp only [Option.map_some, Option.some.injEq] at hi
    have hrun := run_makeChan (w := w) ht hi' .i64 m (by omega) (by rw [hi]; have : (bytes : Int) * m ≤ 1000 * 1000000 := Int.mul_le_mul (by omega) (by omega) (by omega) (by omega); omega)
    have h2 := h w.heap.size (w.alloc (.chan m #[] false 0 0 false)) (SL.new (A := chano w.heap.size K ((m : Int), [])) hf H (below_alloc (Below.refl _ _) _) ⟨[], rfl, news w, fun _ => False, fun _ hk => hk, fun _ hk => hk.elim, fun _ _ hk => hk, ⟨Nat.le_refl _, 0, 0, by simpa using blk_new w _⟩, trivial⟩).1 (.below (below_alloc (Below.refl _ _) _))
    refine op_value ?_ h2
    unfold execOp
    simp only [ho, hs]
    rw [Sem.run_bind, hrun]
    rfl
theorem op_chanLen {T e : TypeId} {dir : ChanDir} (x : Operand) (ho : o.op = .call { callee := .builtin .len, args := #[x], argTypes := #[T] }) (hT : P.underlying T = some (.chan dir e)) (g : Nat) (hx : a.eval x = .chan (some g))
    (H : SL (chano g K D :: L) w S) (h : Kc (a.put o.dst (.int .i64 (D.2.length : Int))) w) : Oper.wp P o a w Kc Q := by
  obtain ⟨vs, hl, H2⟩ := chan_open H
  obtain ⟨_, s, r, h1⟩ := chraw_at H2
  refine op_value (v := .int .i64 (D.2.length : Int)) (w1 := w) ?_ h
  unfold execOp
  simp only [ho, resolve, invoke, builtin, List.map_toArray, List.map_cons, List.map_nil, hx]
  have := run_len_chan (P := P) (w := w) T o.type hT h1
  simp only [Sem.run_bind, Sem.run_pure, Result.andThen_ok]
  rw [this]
  simp [goInt, hl]
end
end Go.Proofs.YtebllndphechmaaS
