/- Words of this session: maps in memory, and a range over one: whichever entry comes first. -/
import Derived.Test.YtbhgohomgfjjfaaSL3
set_option linter.unusedVariables false
set_option linter.unusedSimpArgs false
namespace Go.Proofs.YtbhgohomgfjjfaaS
open Go.RowKit Go.Proofs.YtbhgohomgfjjfaaW.PrintWords Go.Proofs.YtbhgohomgfjjfaaW.PrintLast Go.Proofs.YtbhgohomgfjjfaaW.PrintMore Go.Proofs.YtbhgohomgfjjfaaV
/-! Whichever of some comes, the answer is the same. -/
open Classical in
noncomputable def everyOf {α ρ : Type} (R : List α) (g : α → Option ρ) : Option ρ := if h : R ≠ [] ∧ ∃ r, ∀ x ∈ R, g x = some r then some h.2.choose else none
theorem everyOf_some {α ρ : Type} {R : List α} {g : α → Option ρ} {r : ρ} (h : everyOf R g = some r) : ∀ x ∈ R, g x = some r := by
  unfold everyOf at h
  split at h
  · rename_i hh
    have := hh.2.choose_spec
    injection h with h
    rw [h] at this
    exact this
  · cases h
theorem everyOf_of {α ρ : Type} {R : List α} {g : α → Option ρ} {r : ρ} (hn : R ≠ []) (h : ∀ x ∈ R, g x = some r) : everyOf R g = some r := by
  have hh : R ≠ [] ∧ ∃ r, ∀ x ∈ R, g x = some r := ⟨hn, r, h⟩
  unfold everyOf
  rw [dif_pos hh]
  obtain ⟨x, hx⟩ := List.exists_mem_of_ne_nil R hn
  have h1 := hh.2.choose_spec x hx
  rw [h x hx] at h1
  injection h1 with h1
  rw [h1]
theorem everyOf_mono {α ρ : Type} {R : List α} {g g' : α → Option ρ} (h : ∀ x r, g x = some r → g' x = some r) {r : ρ} (h1 : everyOf R g = some r) : everyOf R g' = some r := by
  have hn : R ≠ [] := by
    intro e
    unfold everyOf at h1
    rw [dif_neg (fun hh => hh.1 e)] at h1
    cases h1
  exact everyOf_of hn fun x hx => h x r (everyOf_some h1 x hx)
section
variable {κ β : Type} [DecidableEq κ]
def mgetD (z : β) : List (κ × β) → κ → β
  | [], _ => z
  | p :: D, k => if p.1 = k then p.2 else mgetD z D k
def mhas : List (κ × β) → κ → Bool
  | [], _ => false
  | p :: D, k => if p.1 = k then true else mhas D k
def mput : List (κ × β) → κ → β → List (κ × β)
  | [], k, v => [(k, v)]
  | p :: D, k, v => if p.1 = k then (k, v) :: D else p :: mput D k v
def mdel : List (κ × β) → κ → List (κ × β)
  | [], _ => []
  | p :: D, k => if p.1 = k then D else p :: mdel D k
def mfind (ev : β → Value) : List (κ × β) → κ → Nat → Option (Nat × Value)
  | [], _, _ => none
  | p :: D, k, i => if p.1 = k then some (i, ev p.2) else mfind ev D k (i + 1)
def ents (ek : κ → Value) (ev : β → Value) : List (κ × β) → List Nat → List MapEntry
  | p :: D, n :: bs => ⟨ek p.1, ev p.2, n⟩ :: ents ek ev D bs
  | _, _ => []
/-- What the model does with a key of this kind. -/
structure KeyL (P : Program) (kt : TypeId) (ek : κ → Value) : Prop where
  check : ∀ (w : World) (em : Bool) (k : κ), (Instr.checkKey em 10000 kt (ek k)).run P w = .ok () w
  find : ∀ (w : World) (k : κ) (ev : β → Value) (D : List (κ × β)) (bs : List Nat), D.length = bs.length → (Instr.findKey kt (ek k) (ents ek ev D bs)).run P w = .ok (mfind ev D k 0) w
  stays : ∀ (w : World) (k : κ), (Instr.keyThatStays (ek k) (ek k)).run P w = .ok (ek k) w
end
theorem findNow_int {β : Type} (k : Int) (ev : β → Value) (q : IntKind) : ∀ (D : List (Int × β)) (bs : List Nat) (i : Nat), D.length = bs.length →
    Instr.findNow (.int q) (.int q k) (ents (Value.int q) ev D bs) i = some (mfind ev D k i)
  | [], _, _, _ => by simp [ents, Instr.findNow, mfind]
  | p :: D, [], _, h => by simp at h
  | p :: D, n :: bs, i, h => by
    have ih := findNow_int k ev q D bs (i + 1) (by simpa using h)
    by_cases e : p.1 = k
    · subst e; simp [ents, Instr.findNow, Instr.sameNow, mfind]
    · have e2 : (k == p.1) = false := by simpa using fun h => e h.symm
      simp [ents, Instr.findNow, Instr.sameNow, mfind, e, e2, ih]
theorem keyL_int {β : Type} {P : Program} {kt : TypeId} {q : IntKind} (h : P.underlying kt = some (.int q)) : KeyL (β := β) P kt (Value.int q : Int → Value) where
  check w em k := by
    unfold Instr.checkKey
    rw [Sem.run_bind, run_underlying h w]
    simp
  find w k ev D bs hl := by
    unfold Instr.findKey
    rw [Sem.run_bind, run_underlying h w]
    simp [findNow_int k ev q D bs 0 hl]
  stays w k := by
    unfold Instr.keyThatStays
    simp [Instr.sameBits]
/-- A map in memory: its entries in the order in which they came. -/
structure MOk {κ β : Type} (D : List (κ × β)) (bs : List Nat) (clk : Nat) : Prop where
  len : D.length = bs.length
  up : bs.Pairwise (· < ·)
  lt : ∀ n ∈ bs, n < clk
  apart : (D.map (·.1)).Nodup
def mapo {κ β : Type} (b : Nat) (ek : κ → Value) (ev : β → Value) (D : List (κ × β)) (bs : List Nat) (clk : Nat) : Asr where
  H w S := S b ∧ w.heap[b]? = some (.map (ents ek ev D bs).toArray clk) ∧ MOk D bs clk
  mono hs h := ⟨hs _ h.1, h.2⟩
  bound h := ⟨⟨h.1, by have := h.2.1; exact (Array.getElem?_eq_some_iff.1 this).1⟩, h.2⟩
  move hm h := ⟨h.1, (hm _ h.1).trans h.2.1, h.2.2⟩
/-- What is left of a map behind those that have been seen. -/
def mleft {κ β : Type} (D : List (κ × β)) (bs seen : List Nat) : List (κ × β) := ((D.zip bs).filter (fun q => !seen.contains q.2)).map (·.1)
def iter {κ β : Type} (b bm : Nat) (D : List (κ × β)) (bs : List Nat) (clk : Nat) (R : List (κ × β)) : Asr where
  H w S := S b ∧ ∃ seen : Array Nat, w.heap[b]? = some (.mapIter (some bm) clk seen clk) ∧ R = mleft D bs seen.toList
  mono hs h := ⟨hs _ h.1, h.2⟩
  bound h := ⟨⟨h.1, by obtain ⟨_, s, h, _⟩ := h; exact (Array.getElem?_eq_some_iff.1 h).1⟩, h.2⟩
  move hm h := ⟨h.1, let ⟨s, h1, h2⟩ := h.2; ⟨s, (hm _ h.1).trans h1, h2⟩⟩
/-- The iterator stands at an entry. -/
def iterAt {κ β : Type} (b bm : Nat) (D : List (κ × β)) (bs : List Nat) (clk : Nat) (p : κ × β) (R : List (κ × β)) : Asr where
  H w S := S b ∧ ∃ seen : Array Nat, w.heap[b]? = some (.mapIter (some bm) clk seen clk) ∧ R = mleft D bs seen.toList ∧ ∃ n, seen.back? = some n ∧ (p, n) ∈ D.zip bs
  mono hs h := ⟨hs _ h.1, h.2⟩
  bound h := ⟨⟨h.1, by obtain ⟨_, s, h, _⟩ := h; exact (Array.getElem?_eq_some_iff.1 h).1⟩, h.2⟩
  move hm h := ⟨h.1, let ⟨s, h1, h2⟩ := h.2; ⟨s, (hm _ h.1).trans h1, h2⟩⟩
section
variable {κ β : Type} {D : List (κ × β)} {bs : List Nat} {clk : Nat} {ek : κ → Value} {ev : β → Value}
theorem SL.map_at {b : Nat} {L : List Asr} {w : World} {S : Nat → Prop} : SL (mapo b ek ev D bs clk :: L) w S → w.heap[b]? = some (.map (ents ek ev D bs).toArray clk) ∧ MOk D bs clk := fun ⟨_, _, _, _, _, h, _⟩ => h.2
theorem ents_len : ∀ {D : List (κ × β)} {bs : List Nat}, D.length = bs.length → (ents ek ev D bs).length = D.length
  | [], _, _ => by simp [ents]
  | _ :: _, [], h => by simp at h
  | _ :: D, _ :: bs, h => by simp [ents, ents_len (D := D) (bs := bs) (by simpa using h)]
variable {P : Program} {ops : Array Oper} {rest : List Oper} {o : Oper} {a : Act} {Q : Exit → Act → World → Prop} {Kc : Act → World → Prop} {w : World} {S : Nat → Prop} {L : List Asr}
theorem op_makeMap (ek : κ → Value) (ev : β → Value) (t : TypeId) (ho : o.op = .makeMap t none) (hf : Fresh S w) (H : SL L w S)
    (h : ∀ g w1, SL (mapo g ek ev [] [] 0 :: L) w1 S → Keep S w w1 → Kc (a.put o.dst (.map (some g))) w1) : Oper.wp P o a w Kc Q := by
  have h2 := h w.heap.size (w.alloc (.map #[] 0)) (SL.new (A := mapo w.heap.size ek ev [] [] 0) hf H (below_alloc (Below.refl _ _) _) ⟨Nat.le_refl _, blk_new w _, ⟨rfl, List.Pairwise.nil, by simp, by simp⟩⟩).1 (.below (below_alloc (Below.refl _ _) _))
  unfold Oper.wp execOp
  simp only [ho, Option.map_none, Instr.makeMap, Sem.run_bind, Sem.run_pure, Result.andThen_ok, run_newObj]
  exact h2
theorem mfind_has [DecidableEq κ] (ev : β → Value) (z : β) (k : κ) : ∀ (D : List (κ × β)) (i : Nat), mhas D k = true → ∃ j p, mfind ev D k i = some (i + j, ev (mgetD z D k)) ∧ D[j]? = some p ∧ p.1 = k
  | [], _, h => by simp [mhas] at h
  | p :: D, i, h => by
    by_cases e : p.1 = k
    · exact ⟨0, p, by simp [mfind, mgetD, e], by simp, e⟩
    · obtain ⟨j, q, h1, h2, h3⟩ := mfind_has ev z k D (i + 1) (by simpa [mhas, e] using h)
      exact ⟨j + 1, q, by simp [mfind, mgetD, e, h1]; omega, by simpa using h2, h3⟩
theorem mfind_none [DecidableEq κ] (ev : β → Value) (k : κ) : ∀ (D : List (κ × β)) (i : Nat), mhas D k = false → mfind ev D k i = none
  | [], _, _ => rfl
  | p :: D, i, h => by
    by_cases e : p.1 = k
    · simp [mhas, e] at h
    · simp [mfind, e, mfind_none ev k D (i + 1) (by simpa [mhas, e] using h)]
theorem mgetD_none [DecidableEq κ] (z : β) (k : κ) : ∀ (D : List (κ × β)), mhas D k = false → mgetD z D k = z
  | [], _ => rfl
  | p :: D, h => by
    by_cases e : p.1 = k
    · simp [mhas, e] at h
    · simp [mgetD, e, mgetD_none z k D (by simpa [mhas, e] using h)]
theorem run_zero {et : TypeId} {v : Value} (h : (P.info? et).bind (·.zero) = some v) (w : World) : (zeroValue et).run P w = .ok v w := by
  unfold zeroValue
  cases hi : P.info? et with
  | none => simp [hi] at h
  | some i =>
    have hz : i.zero = some v := by simpa [hi] using h
    simp [typeInfo, hi, hz]
theorem getObj_map {b : Nat} (h : w.heap[b]? = some (.map (ents ek ev D bs).toArray clk)) : (getObj b).run P w = .ok (.map (ents ek ev D bs).toArray clk) w := by simp [getObj, Sem.run, h]
theorem run_lookup [DecidableEq κ] {T kt et : TypeId} (K : KeyL (β := β) P kt ek) (z : β) (ok : Bool) (hT : P.underlying T = some (.map kt et)) (hz : (P.info? et).bind (·.zero) = some (ev z)) {g : Nat} (k : κ)
    (H : w.heap[g]? = some (.map (ents ek ev D bs).toArray clk)) (hm : MOk D bs clk) : (Instr.lookup T (.map (some g)) (ek k) ok).run P w = .ok (if ok then .tuple #[ev (mgetD z D k), .bool (mhas D k)] else ev (mgetD z D k)) w := by
  unfold Instr.lookup
  rw [Sem.run_bind, run_underlying hT w]
  simp only [Result.andThen_ok, Sem.run_bind, Sem.run_pure, getObj_map H, K.check, K.find w k ev D bs hm.len]
  cases hh : mhas D k with
  | true =>
    obtain ⟨j, p, h1, _, _⟩ := mfind_has ev z k D 0 hh
    rw [h1]
    simp
  | false =>
    rw [mfind_none ev k D 0 hh, mgetD_none z k D hh]
    simp [run_zero hz]
theorem op_lookup [DecidableEq κ] {T kt et : TypeId} (K : KeyL (β := β) P kt ek) (z : β) (x y : Operand) (ho : o.op = .lookup T x y true) (hT : P.underlying T = some (.map kt et)) (hz : (P.info? et).bind (·.zero) = some (ev z)) (g : Nat) (hx : a.eval x = .map (some g)) (k : κ) (hy : a.eval y = ek k)
    (H : SL (mapo g ek ev D bs clk :: L) w S) (u : β) (hu : mgetD z D k = u) (b : Bool) (hb : mhas D k = b) (v : Value) (hv : ev u = v) (h : Kc (a.put o.dst (.tuple #[v, .bool b])) w) : Oper.wp P o a w Kc Q := by
  subst hv; subst hu; subst hb
  obtain ⟨h1, h2⟩ := SL.map_at H
  unfold Oper.wp execOp
  simp only [ho, hx, hy, run_lookup K z true hT hz k h1 h2, Sem.run_bind, Sem.run_pure, Result.andThen_ok]
  exact h
theorem op_lookup1 [DecidableEq κ] {T kt et : TypeId} (K : KeyL (β := β) P kt ek) (z : β) (x y : Operand) (ho : o.op = .lookup T x y false) (hT : P.underlying T = some (.map kt et)) (hz : (P.info? et).bind (·.zero) = some (ev z)) (g : Nat) (hx : a.eval x = .map (some g)) (k : κ) (hy : a.eval y = ek k)
    (H : SL (mapo g ek ev D bs clk :: L) w S) (u : β) (hu : mgetD z D k = u) (v : Value) (hv : ev u = v) (h : Kc (a.put o.dst v) w) : Oper.wp P o a w Kc Q := by
  subst hv; subst hu
  obtain ⟨h1, h2⟩ := SL.map_at H
  unfold Oper.wp execOp
  simp only [ho, hx, hy, run_lookup K z false hT hz k h1 h2, Sem.run_bind, Sem.run_pure, Result.andThen_ok]
  exact h
theorem run_look1 [DecidableEq κ] {T kt et : TypeId} (K : KeyL (β := β) P kt ek) (z : β) (x y : Operand) (ho : o.op = .lookup T x y false) (hT : P.underlying T = some (.map kt et)) (hz : (P.info? et).bind (·.zero) = some (ev z)) (g : Nat) (hx : a.eval x = .map (some g)) (k : κ) (hy : a.eval y = ek k)
    (hm : MOk D bs clk) (H : w.heap[g]? = some (.map (ents ek ev D bs).toArray clk)) (u : β) (hu : mgetD z D k = u) (v : Value) (hv : ev u = v) : (execOp a.eval o).run P w = .ok (.value v) w := by
  subst hv; subst hu
  unfold execOp
  simp only [ho, hx, hy, run_lookup K z false hT hz k H hm, Sem.run_bind, Sem.run_pure, Result.andThen_ok]
  rfl
theorem run_look2 [DecidableEq κ] {T kt et : TypeId} (K : KeyL (β := β) P kt ek) (z : β) (x y : Operand) (ho : o.op = .lookup T x y true) (hT : P.underlying T = some (.map kt et)) (hz : (P.info? et).bind (·.zero) = some (ev z)) (g : Nat) (hx : a.eval x = .map (some g)) (k : κ) (hy : a.eval y = ek k)
    (hm : MOk D bs clk) (H : w.heap[g]? = some (.map (ents ek ev D bs).toArray clk)) (u : β) (hu : mgetD z D k = u) (b : Bool) (hb : mhas D k = b) (v : Value) (hv : ev u = v) : (execOp a.eval o).run P w = .ok (.value (.tuple #[v, .bool b])) w := by
  subst hv; subst hu; subst hb
  unfold execOp
  simp only [ho, hx, hy, run_lookup K z true hT hz k H hm, Sem.run_bind, Sem.run_pure, Result.andThen_ok]
  rfl
theorem ents_get : ∀ {D : List (κ × β)} {bs : List Nat} (j : Nat) (p : κ × β), D.length = bs.length → D[j]? = some p → ∃ n, (ents ek ev D bs)[j]? = some ⟨ek p.1, ev p.2, n⟩ ∧ bs[j]? = some n
  | [], _, j, p, _, h => by simp at h
  | _ :: _, [], _, _, h, _ => by simp at h
  | q :: D, n :: bs, 0, p, _, h => by
    simp at h; subst h
    exact ⟨n, by simp [ents], by simp⟩
  | q :: D, n :: bs, j + 1, p, hl, h => by
    obtain ⟨m, h1, h2⟩ := ents_get (D := D) (bs := bs) j p (by simpa using hl) (by simpa using h)
    exact ⟨m, by simpa [ents] using h1, by simpa using h2⟩
theorem ents_put [DecidableEq κ] (k : κ) (u : β) : ∀ (D : List (κ × β)) (bs : List Nat) (i j : Nat) (v : Value), D.length = bs.length → mfind ev D k i = some (i + j, v) →
    (ents ek ev D bs).modify j (fun e => { e with key := ek k, val := ev u }) = ents ek ev (mput D k u) bs ∧ (mput D k u).length = D.length ∧ (mput D k u).map (·.1) = D.map (·.1)
  | [], _, _, _, _, _, h => by simp [mfind] at h
  | _ :: _, [], _, _, _, h, _ => by simp at h
  | p :: D, n :: bs, i, j, v, hl, h => by
    by_cases e : p.1 = k
    · simp only [mfind, e, if_true, Option.some.injEq, Prod.mk.injEq] at h
      obtain rfl : j = 0 := by omega
      simp [ents, mput, e]
    · simp only [mfind, e, if_false] at h
      have hj : ∃ m, j = m + 1 := by
        cases j with
        | zero =>
          exfalso
          have key : ∀ (D : List (κ × β)) (i m : Nat) (v : Value), mfind ev D k i = some (m, v) → i ≤ m := by
            intro D
            induction D with
            | nil => intro i m v h; simp [mfind] at h
            | cons q D ih =>
              intro i m v h
              by_cases e : q.1 = k
              · simp [mfind, e] at h; omega
              · simp [mfind, e] at h; have := ih _ _ _ h; omega
          have := key _ _ _ _ h
          omega
        | succ m => exact ⟨m, rfl⟩
      obtain ⟨m, rfl⟩ := hj
      obtain ⟨h1, h2, h3⟩ := ents_put k u D bs (i + 1) m v (by simpa using hl) (by rw [h]; congr 2; omega)
      simp [ents, mput, e, h1, h2, h3]
theorem ents_push [DecidableEq κ] (k : κ) (u : β) (c : Nat) : ∀ (D : List (κ × β)) (bs : List Nat), D.length = bs.length → mhas D k = false →
    ents ek ev D bs ++ [⟨ek k, ev u, c⟩] = ents ek ev (mput D k u) (bs ++ [c]) ∧ mput D k u = D ++ [(k, u)]
  | [], [], _, _ => by simp [ents, mput]
  | [], _ :: _, h, _ => by simp at h
  | _ :: _, [], h, _ => by simp at h
  | p :: D, n :: bs, hl, h => by
    by_cases e : p.1 = k
    · simp [mhas, e] at h
    · obtain ⟨h1, h2⟩ := ents_push k u c D bs (by simpa using hl) (by simpa [mhas, e] using h)
      simp [ents, mput, e, h1, h2]
theorem mhas_iff [DecidableEq κ] (k : κ) : ∀ (D : List (κ × β)), mhas D k = true ↔ k ∈ D.map (·.1)
  | [] => by simp [mhas]
  | p :: D => by
    by_cases e : p.1 = k
    · simp [mhas, e]
    · simp only [mhas, e, if_false, List.map_cons, List.mem_cons, mhas_iff k D]
      exact ⟨fun h => .inr h, fun h => h.resolve_left (fun q => e q.symm)⟩
theorem SL.map_put {b : Nat} {D' : List (κ × β)} {bs' : List Nat} {clk' : Nat} (H : SL (mapo b ek ev D bs clk :: L) w S) (hm : MOk D' bs' clk') :
    SL (mapo b ek ev D' bs' clk' :: L) { w with heap := w.heap.setIfInBounds b (.map (ents ek ev D' bs').toArray clk') } S ∧ Keep S w { w with heap := w.heap.setIfInBounds b (.map (ents ek ev D' bs').toArray clk') } := by
  obtain ⟨T, U, h1, h2, h3, h4, h5⟩ := H
  have hlt : b < w.heap.size := (Array.getElem?_eq_some_iff.1 h4.2.1).1
  have hk : Keep T w { w with heap := w.heap.setIfInBounds b (.map (ents ek ev D' bs').toArray clk') } := ⟨rfl, rfl, rfl, by simp, fun i _ hs => by
    have : i ≠ b := fun e => hs (e ▸ h4.1)
    simp [Array.getElem?_setIfInBounds, this, Ne.symm this]⟩
  exact ⟨⟨T, U, h1, h2, h3, ⟨h4.1, by simp [Array.getElem?_setIfInBounds, hlt], hm⟩, SL.far h5 hk (fun k hk hk' => h3 k hk' hk)⟩, hk.sub h1⟩
theorem op_mapUpdate [DecidableEq κ] {T kt et : TypeId} (K : KeyL (β := β) P kt ek) (x y v : Operand) (ho : o.op = .mapUpdate T x y v) (hT : P.underlying T = some (.map kt et)) (g : Nat) (hx : a.eval x = .map (some g)) (k : κ) (hy : a.eval y = ek k) (u : β) (hv : a.eval v = ev u)
    (hf : Fresh S w) (H : SL (mapo g ek ev D bs clk :: L) w S) (D' : List (κ × β)) (hD : mput D k u = D') (h : ∀ bs' clk' w1, SL (mapo g ek ev D' bs' clk' :: L) w1 S → Keep S w w1 → Kc (a.put o.dst undef) w1) : Oper.wp P o a w Kc Q := by
  subst hD
  obtain ⟨h1, h2⟩ := SL.map_at H
  have hset : ∀ (es : Array MapEntry) (c : Nat), (setObj g (.map es c)).run P w = .ok () { w with heap := w.heap.setIfInBounds g (.map es c) } := by
    intro es c; simp [setObj, Sem.run, h1]
  unfold Oper.wp execOp
  simp only [ho, hx, hy, hv, Instr.mapUpdate, Sem.run_bind, Sem.run_pure, Result.andThen_ok, run_underlying hT w, getObj_map h1, K.check, K.find w k ev D bs h2.len]
  cases hh : mhas D k with
  | true =>
    obtain ⟨j, p, f1, f2, f3⟩ := mfind_has ev u k D 0 hh
    obtain ⟨n, f4, f5⟩ := ents_get (ek := ek) (ev := ev) j p h2.len f2
    obtain ⟨e1, e2, e3⟩ := ents_put (ek := ek) (ev := ev) k u D bs 0 j _ h2.len f1
    have hm : MOk (mput D k u) bs clk := ⟨by rw [e2]; exact h2.len, h2.up, h2.lt, by rw [e3]; exact h2.apart⟩
    obtain ⟨g1, g2⟩ := SL.map_put H hm
    have hold : (((ents ek ev D bs).toArray[0 + j]?).map (·.key)).getD (ek k) = ek k := by
      rw [Nat.zero_add]; simp [f4, f3]
    have hmod : (ents ek ev D bs).toArray.modify (0 + j) (fun e => { e with key := ek k, val := ev u }) = (ents ek ev (mput D k u) bs).toArray := by
      rw [Nat.zero_add, ← e1]; apply Array.ext'; simp
    rw [f1]
    simp only [Sem.run_bind, Sem.run_pure, Result.andThen_ok, hold, K.stays, hset, hmod]
    exact h _ _ _ g1 g2
  | false =>
    obtain ⟨e1, e2⟩ := ents_push (ek := ek) (ev := ev) k u clk D bs h2.len hh
    have hm : MOk (mput D k u) (bs ++ [clk]) (clk + 1) := by
      refine ⟨by rw [e2]; simp [h2.len], ?_, ?_, ?_⟩
      · rw [List.pairwise_append]
        exact ⟨h2.up, by simp, fun x hx y hy => by simp at hy; subst hy; exact h2.lt x hx⟩
      · intro n hn
        rcases List.mem_append.1 hn with hn | hn
        · have := h2.lt n hn; omega
        · simp at hn; omega
      · rw [e2, List.map_append, List.nodup_append]
        refine ⟨h2.apart, by simp, fun x hx y hy e => ?_⟩
        simp at hy
        subst hy; subst e
        rw [← mhas_iff, hh] at hx
        cases hx
    obtain ⟨g1, g2⟩ := SL.map_put H hm
    have hpush : (ents ek ev D bs).toArray.push ⟨ek k, ev u, clk⟩ = (ents ek ev (mput D k u) (bs ++ [clk])).toArray := by
      rw [← e1]; apply Array.ext'; simp
    rw [mfind_none ev k D 0 hh]
    simp only [Sem.run_bind, Sem.run_pure, Result.andThen_ok, hset, hpush]
    exact h _ _ _ g1 g2
theorem ents_del [DecidableEq κ] (k : κ) : ∀ (D : List (κ × β)) (bs : List Nat) (i j : Nat) (v : Value), D.length = bs.length → mfind ev D k i = some (i + j, v) →
    (ents ek ev D bs).eraseIdx j = ents ek ev (mdel D k) (bs.eraseIdx j) ∧ (mdel D k).length + 1 = D.length ∧ (mdel D k).map (·.1) = (D.map (·.1)).eraseIdx j ∧ j < bs.length
  | [], _, _, _, _, _, h => by simp [mfind] at h
  | _ :: _, [], _, _, _, h, _ => by simp at h
  | p :: D, n :: bs, i, j, v, hl, h => by
    by_cases e : p.1 = k
    · simp only [mfind, e, if_true, Option.some.injEq, Prod.mk.injEq] at h
      obtain rfl : j = 0 := by omega
      simp [ents, mdel, e]
    · simp only [mfind, e, if_false] at h
      have hj : ∃ m, j = m + 1 := by
        cases j with
        | zero =>
          exfalso
          have key : ∀ (D : List (κ × β)) (i m : Nat) (v : Value), mfind ev D k i = some (m, v) → i ≤ m := by
            intro D
            induction D with
            | nil => intro i m v h; simp [mfind] at h
            | cons q D ih =>
              intro i m v h
              by_cases e : q.1 = k
              · simp [mfind, e] at h; omega
              · simp [mfind, e] at h; have := ih _ _ _ h; omega
          have := key _ _ _ _ h
          omega
        | succ m => exact ⟨m, rfl⟩
      obtain ⟨m, rfl⟩ := hj
      obtain ⟨h1, h2, h3, h4⟩ := ents_del k D bs (i + 1) m v (by simpa using hl) (by rw [h]; congr 2; omega)
      refine ⟨by simp [ents, mdel, e, h1], by simp [mdel, e, h2], by simp [mdel, e, h3], by simpa using h4⟩
theorem mdel_none [DecidableEq κ] (k : κ) : ∀ (D : List (κ × β)), mhas D k = false → mdel D k = D
  | [], _ => rfl
  | p :: D, h => by
    by_cases e : p.1 = k
    · simp [mhas, e] at h
    · simp [mdel, e, mdel_none k D (by simpa [mhas, e] using h)]
theorem op_mapDelete [DecidableEq κ] {T kt et : TypeId} (K : KeyL (β := β) P kt ek) (x y : Operand) (t2 : TypeId) (ho : o.op = .call { callee := .builtin .delete, args := #[x, y], argTypes := #[T, t2] }) (hT : P.underlying T = some (.map kt et)) (g : Nat) (hx : a.eval x = .map (some g)) (k : κ) (hy : a.eval y = ek k)
    (hf : Fresh S w) (H : SL (mapo g ek ev D bs clk :: L) w S) (D' : List (κ × β)) (hD : mdel D k = D') (h : ∀ bs' clk' w1, SL (mapo g ek ev D' bs' clk' :: L) w1 S → Keep S w w1 → Kc (a.put o.dst (.tuple #[])) w1) : Oper.wp P o a w Kc Q := by
  subst hD
  obtain ⟨h1, h2⟩ := SL.map_at H
  have hset : ∀ (es : Array MapEntry) (c : Nat), (setObj g (.map es c)).run P w = .ok () { w with heap := w.heap.setIfInBounds g (.map es c) } := by
    intro es c; simp [setObj, Sem.run, h1]
  unfold Oper.wp execOp
  simp only [ho, resolve, invoke, builtin, Builtin.delete_, List.map_toArray, List.map_cons, List.map_nil, hx, hy, List.getElem?_toArray, List.getElem?_cons_zero, List.getElem?_cons_succ, Sem.run_bind, Sem.run_pure, Result.andThen_ok, run_underlying hT w, getObj_map h1, K.check, K.find w k ev D bs h2.len]
  cases hh : mhas D k with
  | true =>
    obtain ⟨j, p, f1, f2, f3⟩ := mfind_has ev (show β from (by cases D with | nil => simp [mhas] at hh | cons q _ => exact q.2)) k D 0 hh
    obtain ⟨e1, e2, e3, e4⟩ := ents_del (ek := ek) (ev := ev) k D bs 0 j _ h2.len f1
    have hm : MOk (mdel D k) (bs.eraseIdx j) clk := ⟨by rw [List.length_eraseIdx, if_pos e4, ← h2.len]; omega, h2.up.sublist (List.eraseIdx_sublist _ _), fun n hn => h2.lt n ((List.eraseIdx_sublist _ _).subset hn), by rw [e3]; exact h2.apart.sublist (List.eraseIdx_sublist _ _)⟩
    obtain ⟨g1, g2⟩ := SL.map_put H hm
    have hmod : (ents ek ev D bs).toArray.eraseIdxIfInBounds (0 + j) = (ents ek ev (mdel D k) (bs.eraseIdx j)).toArray := by
      rw [Nat.zero_add, ← e1]; apply Array.ext'; simp
    rw [f1]
    simp only [Sem.run_bind, Sem.run_pure, Result.andThen_ok, hset, hmod]
    exact h _ _ _ g1 g2
  | false =>
    obtain ⟨g1, g2⟩ := SL.map_put H h2
    rw [mfind_none ev k D 0 hh]
    simp only [Sem.run_bind, Sem.run_pure, Result.andThen_ok, hset]
    rw [mdel_none k D hh] at h
    exact h _ _ _ g1 g2
theorem op_mapLen {T kt et : TypeId} (x : Operand) (ho : o.op = .call { callee := .builtin .len, args := #[x], argTypes := #[T] }) (hT : P.underlying T = some (.map kt et)) (g : Nat) (hx : a.eval x = .map (some g))
    (H : SL (mapo g ek ev D bs clk :: L) w S) (h : Kc (a.put o.dst (.int .i64 (D.length : Int))) w) : Oper.wp P o a w Kc Q := by
  obtain ⟨h1, h2⟩ := SL.map_at H
  unfold Oper.wp execOp
  simp only [ho, resolve, invoke, builtin, Builtin.len_, List.map_toArray, List.map_cons, List.map_nil, hx, List.getElem?_toArray, List.getElem?_cons_zero, Sem.run_bind, Sem.run_pure, Result.andThen_ok, run_underlying hT w, getObj_map h1, List.size_toArray, ents_len h2.len]
  exact h
/-! A range over a map -/
theorem mleft_nil : ∀ {D : List (κ × β)} {bs : List Nat}, D.length = bs.length → mleft D bs [] = D
  | [], _, _ => by simp [mleft]
  | _ :: _, [], h => by simp at h
  | p :: D, n :: bs, h => by
    have := mleft_nil (D := D) (bs := bs) (by simpa using h)
    simp only [mleft] at this ⊢
    simpa using this
theorem op_range {T kt et : TypeId} (x : Operand) (ho : o.op = .range T x) (hT : P.underlying T = some (.map kt et)) (g : Nat) (hx : a.eval x = .map (some g))
    (hf : Fresh S w) (H : SL (mapo g ek ev D bs clk :: L) w S) (h : ∀ gi w1, SL (iter gi g D bs clk D :: mapo g ek ev D bs clk :: L) w1 S → Keep S w w1 → Kc (a.put o.dst (.pointer (some ⟨gi, 0, none⟩))) w1) : Oper.wp P o a w Kc Q := by
  obtain ⟨h1, h2⟩ := SL.map_at H
  have h3 := h w.heap.size (w.alloc (.mapIter (some g) clk #[] clk)) (SL.new (A := iter w.heap.size g D bs clk D) hf H (below_alloc (Below.refl _ _) _) ⟨Nat.le_refl _, #[], blk_new w _, (mleft_nil h2.len).symm⟩).1 (.below (below_alloc (Below.refl _ _) _))
  unfold Oper.wp execOp
  simp only [ho, hx, Instr.range, Sem.run_bind, Sem.run_pure, Result.andThen_ok, run_underlying hT w, getObj_map h1, run_newObj_alloc]
  exact h3
def mkE (ek : κ → Value) (ev : β → Value) (q : (κ × β) × Nat) : MapEntry := ⟨ek q.1.1, ev q.1.2, q.2⟩
theorem ents_zip : ∀ (D : List (κ × β)) (bs : List Nat), ents ek ev D bs = (D.zip bs).map (mkE ek ev)
  | [], _ => by simp [ents]
  | _ :: _, [] => by simp [ents]
  | p :: D, n :: bs => by simp [ents, ents_zip D bs, mkE]
/-- What is left, with the births. -/
def mleftz (D : List (κ × β)) (bs seen : List Nat) : List ((κ × β) × Nat) := (D.zip bs).filter (fun q => !seen.contains q.2)
theorem mleft_z (D : List (κ × β)) (bs seen : List Nat) : mleft D bs seen = (mleftz D bs seen).map (·.1) := rfl
theorem zip_born {D : List (κ × β)} {bs : List Nat} (h : MOk D bs clk) : ((D.zip bs).map (·.2)).Nodup ∧ ((D.zip bs).map (·.1.1)).Nodup ∧ ∀ q ∈ D.zip bs, q.2 < clk := by
  refine ⟨?_, ?_, fun q hq => h.lt _ (List.of_mem_zip hq).2⟩
  · rw [List.map_snd_zip (by rw [h.len]; exact Nat.le_refl _)]
    exact h.up.imp (fun hab => Nat.ne_of_lt hab)
  · have : (D.zip bs).map (fun q => q.1.1) = ((D.zip bs).map (·.1)).map (·.1) := by simp
    rw [this, List.map_fst_zip (by rw [h.len]; exact Nat.le_refl _)]
    exact h.apart
theorem mdel_filter [DecidableEq κ] {p : κ × β} {n : Nat} : ∀ (Z : List ((κ × β) × Nat)), (Z.map (·.2)).Nodup → (Z.map (·.1.1)).Nodup → (p, n) ∈ Z → (Z.filter (fun q => q.2 != n)).map (·.1) = mdel (Z.map (·.1)) p.1
  | [], _, _, h => by simp at h
  | (q, m) :: Z, h1, h2, h => by
    simp only [List.map_cons, List.nodup_cons] at h1 h2
    by_cases e : m = n
    · subst e
      have hq : q = p := by
        rcases List.mem_cons.1 h with h | h
        · injection h with h _; exact h.symm
        · exact absurd (List.mem_map.2 ⟨_, h, rfl⟩) h1.1
      subst hq
      have : Z.filter (fun z => z.2 != m) = Z := List.filter_eq_self.2 (fun z hz => by
        have : z.2 ≠ m := fun e => h1.1 (List.mem_map.2 ⟨z, hz, e⟩)
        simpa using this)
      simp [mdel, this]
    · have hm : (p, n) ∈ Z := (List.mem_cons.1 h).resolve_left (fun h => e (by injection h with _ h; exact h.symm))
      have hk : q.1 ≠ p.1 := fun e => h2.1 (List.mem_map.2 ⟨_, hm, e.symm⟩)
      simp [mdel, e, hk, mdel_filter Z h1.2 h2.2 hm]
theorem mleft_step [DecidableEq κ] {D : List (κ × β)} {bs seen : List Nat} (h : MOk D bs clk) {p : κ × β} {n : Nat} (hp : (p, n) ∈ mleftz D bs seen) : mleft D bs (seen ++ [n]) = mdel (mleft D bs seen) p.1 := by
  obtain ⟨h1, h2, _⟩ := zip_born h
  have hs := List.filter_sublist (l := D.zip bs) (p := fun q => !seen.contains q.2)
  rw [mleft_z, mleft_z, ← mdel_filter (mleftz D bs seen) (h1.sublist (hs.map _)) (h2.sublist (hs.map _)) hp]
  congr 1
  simp only [mleftz, List.filter_filter]
  congr 1
  funext q
  by_cases e1 : q.2 ∈ seen <;> by_cases e2 : q.2 = n <;> simp [e1, e2]
theorem SL.iter_of {b bm : Nat} {p : κ × β} {R : List (κ × β)} (H : SL (iterAt b bm D bs clk p R :: L) w S) : SL (iter b bm D bs clk R :: L) w S := SL.imp (A := iterAt b bm D bs clk p R) (B := iter b bm D bs clk R) (fun T h => by obtain ⟨h0, s, h1, h2, _⟩ := h; exact ⟨h0, s, h1, h2⟩) H
theorem getObj_iter {b : Nat} {m : Option Nat} {s c : Nat} {seen : Array Nat} (h : w.heap[b]? = some (.mapIter m s seen c)) : (getObj b).run P w = .ok (.mapIter m s seen c) w := by simp [getObj, Sem.run, h]
theorem iter_open {b bm : Nat} {R : List (κ × β)} (H : SL (iter b bm D bs clk R :: mapo bm ek ev D bs clk :: L) w S) :
    ∃ seen : Array Nat, w.heap[b]? = some (.mapIter (some bm) clk seen clk) ∧ R = mleft D bs seen.toList ∧ w.heap[bm]? = some (.map (ents ek ev D bs).toArray clk) ∧ MOk D bs clk := by
  obtain ⟨h1, h2⟩ := SL.map_at (SL.tail H)
  obtain ⟨T, U, _, _, _, ⟨_, seen, h3, h4⟩, _⟩ := H
  exact ⟨seen, h3, h4, h1, h2⟩
/-- The candidates of the next step. -/
theorem next_cands {seen : Array Nat} (h : MOk D bs clk) :
    (((ents ek ev D bs).toArray.filter fun e => !seen.contains e.born).filter (fun e => decide (e.born < clk))) = ((mleftz D bs seen.toList).map (mkE ek ev)).toArray ∧
    (((ents ek ev D bs).toArray.filter fun e => !seen.contains e.born).filter (fun e => decide (e.born ≥ clk))) = #[] := by
  have hl : ((ents ek ev D bs).toArray.filter fun e => !seen.contains e.born) = ((mleftz D bs seen.toList).map (mkE ek ev)).toArray := by
    apply Array.ext'
    rw [ents_zip]
    simp only [Array.toList_filter, List.filter_map, mleftz]
    congr 1
    refine List.filter_congr fun q _ => ?_
    simp [mkE]
    exact decide_eq_decide.2 Iff.rfl
  rw [hl]
  have hlt : ∀ q ∈ mleftz D bs seen.toList, q.2 < clk := fun q hq => (zip_born h).2.2 q (List.mem_filter.1 hq).1
  constructor
  · apply Array.ext'
    simp only [Array.toList_filter, List.filter_map]
    congr 1
    exact List.filter_eq_self.2 (fun q hq => by have := hlt q hq; simp [mkE, this])
  · apply Array.ext'
    simp only [Array.toList_filter, List.filter_map]
    simp only [List.map_eq_nil_iff, List.filter_eq_nil_iff]
    intro q hq
    have := hlt q hq
    simp [mkE]
    exact decide_eq_false (by omega)
theorem next_ok {seen : Array Nat} (h : MOk D bs clk) : (!seen.isEmpty && !(ents ek ev D bs).toArray.isEmpty && (ents ek ev D bs).toArray.all (fun e => decide (e.born ≥ clk))) = false := by
  cases hD : D with
  | nil => simp [ents]
  | cons p D' =>
    cases hb : bs with
    | nil => simp [ents]
    | cons n bs' =>
      have := h.lt n (by rw [hb]; simp)
      simp [ents]
      intro _ h2
      omega
theorem op_next_end (x : Operand) (ho : o.op = .next x false) {gi g : Nat} {R : List (κ × β)} (hx : a.eval x = .pointer (some ⟨gi, 0, none⟩)) (H : SL (iter gi g D bs clk R :: mapo g ek ev D bs clk :: L) w S) (hR : R.isEmpty = true)
    (h : Kc (a.put o.dst (.tuple #[.bool false])) w) : Oper.wp P o a w Kc Q := by
  obtain ⟨seen, h1, h2, h3, h4⟩ := iter_open H
  obtain ⟨c1, c2⟩ := next_cands (ek := ek) (ev := ev) (seen := seen) h4
  have hz : mleftz D bs seen.toList = [] := by
    have : R = [] := by simpa using hR
    rw [this, mleft_z] at h2
    simpa using h2.symm
  rw [hz] at c1
  unfold Oper.wp execOp
  simp only [ho, hx, Instr.next, Sem.run_bind, Sem.run_pure, Result.andThen_ok, getObj_iter h1, getObj_map h3, next_ok h4, c1, c2]
  simp [Question.forced]
  exact h
theorem op_next [DecidableEq κ] (x : Operand) (ho : o.op = .next x false) {gi g : Nat} {R : List (κ × β)} (hx : a.eval x = .pointer (some ⟨gi, 0, none⟩)) (H : SL (iter gi g D bs clk R :: mapo g ek ev D bs clk :: L) w S) (hR : ¬ R.isEmpty = true)
    (h : ∀ p, p ∈ R → ∀ w1, SL (iterAt gi g D bs clk p (mdel R p.1) :: mapo g ek ev D bs clk :: L) w1 S → Keep S w w1 → Kc (a.put o.dst (.tuple #[.bool true, ek p.1, ev p.2])) w1) : Oper.wp P o a w Kc Q := by
  obtain ⟨seen, h1, h2, h3, h4⟩ := iter_open H
  obtain ⟨c1, c2⟩ := next_cands (ek := ek) (ev := ev) (seen := seen) h4
  have hz : mleftz D bs seen.toList ≠ [] := by
    intro hz
    rw [mleft_z, hz] at h2
    exact hR (by simp [h2])
  have hpos : 0 < (mleftz D bs seen.toList).length := List.length_pos_iff.2 hz
  unfold Oper.wp execOp
  simp only [ho, hx, Instr.next, Sem.run_bind, Sem.run_pure, Result.andThen_ok, getObj_iter h1, getObj_map h3, next_ok h4, c1, c2]
  have hne : ((mleftz D bs seen.toList).map (mkE ek ev)).toArray.isEmpty = false := by simp [hz]
  simp only [hne, Bool.false_eq_true, if_false, List.append_toArray, List.append_nil, List.map_toArray, List.nil_append, List.size_toArray, List.length_map, Array.append_empty, Array.empty_append]
  obtain ⟨j, w1, hj, hrun, hsame⟩ : ∃ j w1, j < (mleftz D bs seen.toList).length ∧ (choose (.mapNext (mleftz D bs seen.toList).length)).run P w = .ok j w1 ∧ (w1 = w ∨ w1 = w.drew) := by
    rw [run_choose_drew]
    split
    · exact ⟨0, w, hpos, rfl, .inl rfl⟩
    · exact ⟨_, w.drew, Nat.mod_lt _ hpos, rfl, .inr rfl⟩
  rw [Sem.run_bind, hrun]
  have hgz : (mleftz D bs seen.toList)[j]? = some (mleftz D bs seen.toList)[j] := List.getElem?_eq_getElem hj
  generalize hq : (mleftz D bs seen.toList)[j] = q at hgz
  have hmem : q ∈ mleftz D bs seen.toList := by rw [← hq]; exact List.getElem_mem hj
  have hcand : (List.map some (List.map (mkE ek ev) (mleftz D bs seen.toList))).toArray[j]? = some (some (mkE ek ev q)) := by simp [hgz]
  have hk0 : Keep S w w1 := by rcases hsame with rfl | rfl; exact .refl _ _; exact Keep.drew (.refl _ _)
  have H1 : SL (iter gi g D bs clk R :: mapo g ek ev D bs clk :: L) w1 S := by rcases hsame with rfl | rfl; exact H; exact SL.drew H
  have h1' : w1.heap[gi]? = some (.mapIter (some g) clk seen clk) := by rcases hsame with rfl | rfl; exact h1; exact h1
  simp only [Result.andThen_ok, hcand, Sem.run_bind]
  have hset : ∀ ob : Obj, (setObj gi ob).run P w1 = .ok () { w1 with heap := w1.heap.setIfInBounds gi ob } := by intro ob; simp [setObj, Sem.run, h1']
  simp only [mkE, hset, Result.andThen_ok, Sem.run_pure]
  obtain ⟨⟨p, n⟩, hpn⟩ : ∃ z : (κ × β) × Nat, z = q := ⟨q, rfl⟩
  subst hpn
  have hmemR : p ∈ R := by rw [h2, mleft_z]; exact List.mem_map.2 ⟨_, hmem, rfl⟩
  obtain ⟨T, U, s1, s2, s3, s4, s5⟩ := H1
  have hlt : gi < w1.heap.size := (Array.getElem?_eq_some_iff.1 h1').1
  have hk : Keep T w1 { w1 with heap := w1.heap.setIfInBounds gi (.mapIter (some g) clk (seen.push n) clk) } := ⟨rfl, rfl, rfl, by simp, fun i _ hs => by
    have : i ≠ gi := fun e => hs (e ▸ s4.1)
    simp [Array.getElem?_setIfInBounds, Ne.symm this]⟩
  refine h p hmemR _ ⟨T, U, s1, s2, s3, ⟨s4.1, seen.push n, by simp [Array.getElem?_setIfInBounds, hlt], ?_, n, by simp, (List.mem_filter.1 hmem).1⟩, SL.far s5 hk (fun k hk hk' => s3 k hk' hk)⟩ (hk0.trans (hk.sub s1))
  rw [Array.toList_push, mleft_step h4 hmem, ← h2]
theorem op_entry (x : Operand) (ho : o.op = .entry x) {gi g : Nat} {p : κ × β} {R : List (κ × β)} (hx : a.eval x = .pointer (some ⟨gi, 0, none⟩)) (H : SL (iterAt gi g D bs clk p R :: mapo g ek ev D bs clk :: L) w S)
    (kv vv : Value) (hkv : ek p.1 = kv) (hvv : ev p.2 = vv) (h : SL (iter gi g D bs clk R :: mapo g ek ev D bs clk :: L) w S → Kc (a.put o.dst (.tuple #[kv, vv])) w) : Oper.wp P o a w Kc Q := by
  subst hkv; subst hvv
  have H1 := H
  obtain ⟨h3, h4⟩ := SL.map_at (SL.tail H)
  obtain ⟨T, U, _, _, _, ⟨_, seen, h1, h2, n, h5, h6⟩, _⟩ := H
  have hfind : (ents ek ev D bs).find? (fun e => e.born == n) = some (mkE ek ev (p, n)) := by
    rw [ents_zip]
    obtain ⟨z1, _, _⟩ := zip_born h4
    generalize D.zip bs = Z at z1 h6
    induction Z with
    | nil => simp at h6
    | cons z Z ih =>
      simp only [List.map_cons, List.nodup_cons] at z1
      by_cases e : z.2 = n
      · rcases List.mem_cons.1 h6 with h | h
        · rw [← h]; simp [mkE]
        · exact absurd (List.mem_map.2 ⟨_, h, e.symm⟩) z1.1
      · have hm : (p, n) ∈ Z := (List.mem_cons.1 h6).resolve_left (fun h => e (by rw [← h]))
        rw [List.map_cons, List.find?_cons_of_neg (by simp [mkE, e])]
        exact ih z1.2 hm
  unfold Oper.wp execOp
  simp only [ho, hx, Instr.entry, Sem.run_bind, Sem.run_pure, Result.andThen_ok, getObj_iter h1, getObj_map h3, h5]
  simp only [List.find?_toArray, hfind, bne_self_eq_false, Bool.false_eq_true, if_false, Sem.run_pure, Sem.run_bind, Result.andThen_ok, mkE]
  exact h (SL.iter_of H1)
end
theorem everyOf_le {α ρ : Type} {R : List α} {g g' : α → Option ρ} (h : ∀ x, LeO (g x) (g' x)) : LeO (everyOf R g) (everyOf R g') := fun r hr => everyOf_mono (fun x r hx => h x r hx) hr
section
variable {P : Program} {ops : Array Oper} {rest : List Oper} {o : Oper} {a : Act} {Q : Exit → Act → World → Prop} {W : World}
theorem gate_mapUpdate {T : TypeId} {m k v : Operand} (_ho : o.op = .mapUpdate T m k v) (h : wpList P ops Q (o :: rest) a W) : wpList P ops Q (o :: rest) a W := h
theorem gate_range {T : TypeId} {x : Operand} (_ho : o.op = .range T x) (h : wpList P ops Q (o :: rest) a W) : wpList P ops Q (o :: rest) a W := h
end
end Go.Proofs.YtbhgohomgfjjfaaS
