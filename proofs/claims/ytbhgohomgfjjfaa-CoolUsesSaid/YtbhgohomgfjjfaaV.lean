/- Words of this session beside the printed ones: a call by a slot that holds a function; what a law's argument of any shape reads as. -/
import Derived.ChangeArms
import Derived.ChangeSame
import Derived.WideShapes
import Derived.DataReads
import Derived.SizedLaws
import Derived.ChangeShapes
import Derived.OpenShut
import Derived.Test.YtbhgohomgfjjfaaWMore
import Derived.Test.YtbhgohomgfjjfaaWLast
set_option linter.unusedVariables false
set_option linter.unusedSimpArgs false
namespace Go.Proofs.YtbhgohomgfjjfaaV
open Go.RowKit Go.Proofs.YtbhgohomgfjjfaaW.PrintWords Go.Proofs.YtbhgohomgfjjfaaW.PrintLast Go.Proofs.YtbhgohomgfjjfaaW.PrintMore
section
variable {P : Program} {md : Region.Mode} {ops : Array Oper} {rest : List Oper} {o : Oper} {a : Act} {Q : Exit → Act → World → Prop} {W : World}
/-- The operation calls the function that a slot holds. -/
theorem gate_fn {c : Operand} {f : FuncId} {as : Array Operand} {ts : Array TypeId} (_ho : o.op = .call { callee := .value c, args := as, argTypes := ts }) (_hc : a.eval c = .func (.func f) #[] #[]) (h : wpList P ops Q (o :: rest) a W) : wpList P ops Q (o :: rest) a W := h
theorem goesLf_ {oi : Oper} {w : World} (N : Option Tmp) (hd : oi.dst = N) {c : Operand} {f : FuncId} (hc : a.eval c = .func (.func f) #[] #[]) (hg : oi.guard = none) {fn : Func} {as : Array Operand} {ts : Array TypeId} (hf : P.funcs[f]? = some fn) (hname : (fn.name == "runtime.NumGoroutine") = false) (hb : fn.body.isSome = true) (args : Array Value)
    (hop : oi.op = .call { callee := .value c, args := as, argTypes := ts }) (hargs : as.map a.eval = args)
    (h : Calls P f args w fun e w' => ∃ v, e = .returned v ∧ wpList P ops Q rest (a.put N v) w') : wpList P ops Q (oi :: rest) a w := by
  refine wpList_plain hg fun K hK => ?_
  have he := enters_ hf hname hb args w
  have hrun : (execOp a.eval oi).run P w = .ok (.enter f args) w := by
    unfold execOp
    simp [hop, resolve, hc, Deferred.ofValue, invoke, hargs, he]
  unfold Oper.wp
  rw [hrun, Oper.upon_enter]
  refine h.mono fun e w'' hh => ?_
  obtain ⟨v, rfl, hk⟩ := hh
  subst hd
  exact hK _ _ hk
theorem goesf_ {oi : Oper} {N : Option Tmp} {w : World} {K : Act → World → Prop} {f : FuncId} {fn : Func} {c : Operand} {as : Array Operand} {ts : Array TypeId} (hf : P.funcs[f]? = some fn) (hname : (fn.name == "runtime.NumGoroutine") = false) (hb : fn.body.isSome = true) (args : Array Value)
    (hw : Region.wanted oi (yielded ops a.tmps) = true) (hN : oi.dst = N) (hop : oi.op = .call { callee := .value c, args := as, argTypes := ts }) (hc : a.eval c = .func (.func f) #[] #[]) (hargs : as.map a.eval = args)
    (h : Calls P f args w fun e w' => ∃ v, e = .returned v ∧ K (a.put N v) w') : if Region.wanted oi (yielded ops a.tmps) = true then Oper.wp P oi a w K Q else K (a.put N undef) w := by
  refine call_ f args hw hN ?_ h
  have he := enters_ hf hname hb args w
  unfold execOp
  simp [hop, resolve, hc, Deferred.ofValue, invoke, hargs, he]
/-- The same where the slot's function has captured variables: they are handed in behind the arguments. -/
theorem gate_clo {c : Operand} {f : FuncId} {lb : Array Value} {as : Array Operand} {ts : Array TypeId} (_ho : o.op = .call { callee := .value c, args := as, argTypes := ts }) (_hc : a.eval c = .func (.func f) #[] lb) (h : wpList P ops Q (o :: rest) a W) : wpList P ops Q (o :: rest) a W := h
theorem goesLc_ {oi : Oper} {w : World} (N : Option Tmp) (hd : oi.dst = N) {c : Operand} {f : FuncId} {lb : Array Value} (hc : a.eval c = .func (.func f) #[] lb) (hg : oi.guard = none) {fn : Func} {as : Array Operand} {ts : Array TypeId} (hf : P.funcs[f]? = some fn) (hname : (fn.name == "runtime.NumGoroutine") = false) (hb : fn.body.isSome = true) (args : Array Value)
    (hop : oi.op = .call { callee := .value c, args := as, argTypes := ts }) (hargs : as.map a.eval ++ lb = args)
    (h : Calls P f args w fun e w' => ∃ v, e = .returned v ∧ wpList P ops Q rest (a.put N v) w') : wpList P ops Q (oi :: rest) a w := by
  refine wpList_plain hg fun K hK => ?_
  have he := enters_ hf hname hb args w
  have hrun : (execOp a.eval oi).run P w = .ok (.enter f args) w := by
    unfold execOp
    simp [hop, resolve, hc, Deferred.ofValue, invoke, hargs, he]
  unfold Oper.wp
  rw [hrun, Oper.upon_enter]
  refine h.mono fun e w'' hh => ?_
  obtain ⟨v, rfl, hk⟩ := hh
  subst hd
  exact hK _ _ hk
theorem goesc_ {oi : Oper} {N : Option Tmp} {w : World} {K : Act → World → Prop} {f : FuncId} {fn : Func} {c : Operand} {lb : Array Value} {as : Array Operand} {ts : Array TypeId} (hf : P.funcs[f]? = some fn) (hname : (fn.name == "runtime.NumGoroutine") = false) (hb : fn.body.isSome = true) (args : Array Value)
    (hw : Region.wanted oi (yielded ops a.tmps) = true) (hN : oi.dst = N) (hop : oi.op = .call { callee := .value c, args := as, argTypes := ts }) (hc : a.eval c = .func (.func f) #[] lb) (hargs : as.map a.eval ++ lb = args)
    (h : Calls P f args w fun e w' => ∃ v, e = .returned v ∧ K (a.put N v) w') : if Region.wanted oi (yielded ops a.tmps) = true then Oper.wp P oi a w K Q else K (a.put N undef) w := by
  refine call_ f args hw hN ?_ h
  have he := enters_ hf hname hb args w
  unfold execOp
  simp [hop, resolve, hc, Deferred.ofValue, invoke, hargs, he]
end

/-! ### What a law's argument reads as, kind by kind -/
/-- Whatever reads as data of type t is a value of the kind d, and it is in order ('ok'). -/
def Opens (P : Program) {α : Type} (d : Kd α) (t : TypeId) (ok : α → Prop) : Prop :=
  ∀ (H : Type) (enc : TypeId × Value → H) (W : World) (fuel : Nat) (cs : List Value) (x : DataW H × List MemPlace), DataW.trod enc P W 0 (fun _ => true) true fuel t cs = some x → (∀ n ∈ x.1.weights P t, n ≤ reachBytes) → ∃ a, d.K W a cs ∧ ok a
section
variable {P : Program} {t : TypeId}
theorem opens_int {k : IntKind} (hu : P.underlying t = some (.int k)) : Opens P (Kd.int k) t (fun n => (Lit.int k n).wf = true) := by
  intro H enc W fuel cs x h _
  obtain ⟨n, rfl, _, hw⟩ := DataW.trod_int hu h
  exact ⟨n, rfl, hw⟩
theorem opens_bool (hu : P.underlying t = some .bool) : Opens P Kd.bool t (fun _ => True) := by
  intro H enc W fuel cs x h _
  obtain ⟨b, rfl, _⟩ := DataW.trod_bool hu h
  exact ⟨b, rfl, trivial⟩
theorem opens_str (hu : P.underlying t = some .string) : Opens P Kd.string t (fun s => s.size ≤ 140737488351232) := by
  intro H enc W fuel cs x h hz
  obtain ⟨s, rfl, rfl, _⟩ := DataW.trod_string hu h
  refine ⟨s, rfl, ?_⟩
  have := hz s.data.toList.length (by simp [DataW.weights])
  rw [Array.length_toList] at this
  exact this
theorem opens_slice {α : Type} {d : Kd α} {e : TypeId} {ok : α → Prop} {B : Nat} (hu : P.underlying t = some (.slice e)) (hc : P.cellsOf e = d.sz) (hB : P.bytesOf e = B) (hd : Opens P d e ok) : Opens P (Kd.slice e d) t (fun l => l.length ≤ maxLen ∧ l.length * B ≤ 140737488351232 ∧ ∀ x ∈ l, ok x) := by
  intro H enc W fuel cs x h hz
  rcases DataW.trod_slice hu h with ⟨rfl, rfl⟩ | ⟨a, len, cap, elems, rest, n, rfl, rfl, rfl, hb, hl, hm, hlen, hel, _, _⟩
  · exact ⟨[], ⟨none, 0, rfl, Nat.le_refl _, Kd.C_nil d W⟩, by simp, by simp, fun x hx => by simp at hx⟩
  · subst hlen
    have hw : ∀ q, q ∈ (DataW.slice (elems.map (·.1)) (rest.map (·.1))).weights P t → q ≤ reachBytes := hz
    simp only [DataW.weights, hu] at hw
    have hwe : ∀ (l : List (DataW H)) (i : Nat) (y : DataW H), l[i]? = some y → ∀ q ∈ y.weights P e, q ∈ DataW.weightsAll P e l := by
      intro l
      induction l with
      | nil => intro i y hy; simp at hy
      | cons z l ih =>
        intro i y hy q hq
        rw [DataW.weightsAll]
        cases i with
        | zero => simp at hy; subst hy; exact List.mem_append_left _ hq
        | succ i => simp at hy; exact List.mem_append_right _ (ih i y hy q hq)
    have each : ∀ i : Nat, i < elems.length → ∃ y : α, ∃ cs', W.cells? 0 (a.add (i * P.cellsOf e)) (P.cellsOf e) = some cs' ∧ d.K W y cs' ∧ ok y := by
      intro i hi
      have h1 := hel i hi
      obtain ⟨cs', h2, h3⟩ := Option.bind_eq_some_iff.1 (h1.trans (List.getElem?_eq_getElem hi))
      obtain ⟨y, hy, hk⟩ := hd H enc W n cs' _ h3 (fun q hq => hw q (List.mem_cons_of_mem _ (List.mem_append_left _ (hwe _ i _ (by simp [hi]) q hq))))
      exact ⟨y, cs', h2, hy, hk⟩
    have build : ∀ m : Nat, m ≤ elems.length → ∃ l : List α, l.length = m ∧ ∀ i y, l[i]? = some y → ∃ cs', W.cells? 0 (a.add (i * P.cellsOf e)) (P.cellsOf e) = some cs' ∧ d.K W y cs' ∧ ok y := by
      intro m
      induction m with
      | zero => exact fun _ => ⟨[], rfl, fun i y hy => by simp at hy⟩
      | succ m ih =>
        intro hm
        obtain ⟨l, hl1, hl2⟩ := ih (by omega)
        obtain ⟨y, hy⟩ := each m (by omega)
        refine ⟨l ++ [y], by simp [hl1], fun i z hz => ?_⟩
        rcases Nat.lt_or_ge i l.length with hlt | hge
        · rw [List.getElem?_append_left hlt] at hz; exact hl2 i z hz
        · rw [List.getElem?_append_right hge] at hz
          have : i = m := by
            have := (List.getElem?_eq_some_iff.1 hz).1
            simp at this; omega
          subst this
          simp [hl1] at hz
          subst hz
          exact hy
    obtain ⟨l, hl1, hl2⟩ := build elems.length (Nat.le_refl _)
    refine ⟨l, ⟨some a, cap, by rw [hl1], by omega, ⟨rfl, by rw [hl1]; exact Nat.le_trans hl hm, fun _ => ⟨a, rfl, fun j p hp => ?_⟩⟩⟩, by rw [hl1]; exact Nat.le_trans hl hm, ?_, fun x hx => ?_⟩
    · obtain ⟨cs', h1, h2, _⟩ := hl2 j p hp
      obtain ⟨_, h3, h4⟩ := World.cells?_some h1
      refine ⟨cs', by rw [h3, hc], h2, fun i u hi => ?_⟩
      have hlt : i < P.cellsOf e := by rw [← h3]; exact (List.getElem?_eq_some_iff.1 hi).1
      have h5 := h4 i hlt
      rw [hi] at h5
      rw [← h5, hc, Addr.add_add]
    · have h0 : ((elems.map (·.1)).length + (rest.map (·.1)).length) * P.bytesOf e ≤ reachBytes := hw _ List.mem_cons_self
      rw [hB, List.length_map, List.length_map] at h0
      have : l.length * B ≤ (elems.length + rest.length) * B := Nat.mul_le_mul_right _ (by omega)
      exact Nat.le_trans this h0
    · obtain ⟨i, hi, rfl⟩ := List.mem_iff_getElem.1 hx
      obtain ⟨_, _, _, hk⟩ := hl2 i _ (List.getElem?_eq_getElem hi)
      exact hk
/-- The fields of a struct, from one on. -/
def OpensF (P : Program) {α : Type} (d : Kd α) (fs : List Field) (off : Nat) (ok : α → Prop) : Prop :=
  ∀ (H : Type) (enc : TypeId × Value → H) (W : World) (fuel : Nat) (cs : List Value) (xs : List (DataW H × List MemPlace)), cs.length = off + d.sz → xs.length = fs.length →
    (∀ (i : Nat) (f : Field), fs[i]? = some f → DataW.trod enc P W 0 (fun _ => true) true fuel f.type ((cs.drop f.offset).take (P.cellsOf f.type)) = xs[i]?) → (∀ n ∈ DataW.weightsEach P (fs.map (·.type)) (xs.map (·.1)), n ≤ reachBytes) → ∃ a, d.K W a (cs.drop off) ∧ ok a
theorem opensF_one {α : Type} {d : Kd α} {f : Field} {off : Nat} {ok : α → Prop} (ho : f.offset = off) (hs : P.cellsOf f.type = d.sz) (h : Opens P d f.type ok) : OpensF P d [f] off ok := by
  intro H enc W fuel cs xs hl hx hf hz
  match xs, hx with
  | [x], _ =>
    have h1 := hf 0 f rfl
    rw [ho, hs, List.take_of_length_le (by rw [List.length_drop]; omega)] at h1
    exact h H enc W fuel _ x h1 (fun n hn => hz n (by simp [DataW.weightsEach, hn]))
theorem opensF_cons {α β : Type} {a : Kd α} {b : Kd β} {f : Field} {fs : List Field} {off : Nat} {oka : α → Prop} {okb : β → Prop} (ho : f.offset = off) (hs : P.cellsOf f.type = a.sz) (ha : Opens P a f.type oka) (hb : OpensF P b fs (off + a.sz) okb) : OpensF P (Kd.pair a b) (f :: fs) off (fun x => oka x.1 ∧ okb x.2) := by
  intro H enc W fuel cs xs hl hx hf hz
  have hl' : cs.length = off + (a.sz + b.sz) := hl
  match xs, hx with
  | x :: xs, hx =>
    have h1 := hf 0 f rfl
    rw [ho, hs] at h1
    obtain ⟨u, hu, hku⟩ := ha H enc W fuel _ x h1 (fun n hn => hz n (by simp only [List.map_cons, DataW.weightsEach]; exact List.mem_append_left _ hn))
    obtain ⟨v, hv, hkv⟩ := hb H enc W fuel cs xs (by omega) (by simpa using hx) (fun i g hg => by simpa using hf (i + 1) g (by simpa using hg)) (fun n hn => hz n (by simp only [List.map_cons, DataW.weightsEach]; exact List.mem_append_right _ hn))
    refine ⟨(u, v), ⟨_, _, ?_, hu, hv⟩, hku, hkv⟩
    rw [← List.drop_drop, List.take_append_drop]
theorem opens_struct {α : Type} {d : Kd α} {fs : Array Field} {ok : α → Prop} (hu : P.underlying t = some (.struct fs)) (hs : P.cellsOf t = d.sz) (h : OpensF P d fs.toList 0 ok) : Opens P d t ok := by
  intro H enc W fuel cs x hx hz
  obtain ⟨xs, n, rfl, rfl, hl, hlen, hf⟩ := DataW.trod_struct hu hx
  obtain ⟨a, ha, hk⟩ := h H enc W n cs xs (by omega) (by simpa using hlen) (fun i f hi => hf i f (by simpa using hi)) (fun q hq => hz q (by simp only [DataW.weights, hu]; exact hq))
  exact ⟨a, by simpa using ha, hk⟩
theorem opens_iso {α β : Type} {d : Kd α} {f : β → α} (g : α → β) (hfg : ∀ a, f (g a) = a) {ok : α → Prop} (h : Opens P d t ok) : Opens P (Kd.iso d f) t (fun b => ok (f b)) := by
  intro H enc W fuel cs x hx hz
  obtain ⟨a, ha, hk⟩ := h H enc W fuel cs x hx hz
  refine ⟨g a, ?_, ?_⟩
  · show d.K W (f (g a)) cs
    rw [hfg]; exact ha
  · show ok (f (g a))
    rw [hfg]; exact hk
/-- The elements of an array, as a pair of the first one and the others. -/
def OpensA (P : Program) {α : Type} (d : Kd α) (e : TypeId) (n : Nat) (ok : α → Prop) : Prop :=
  ∀ (H : Type) (enc : TypeId × Value → H) (W : World) (fuel : Nat) (cs : List Value) (xs : List (DataW H × List MemPlace)), cs.length = d.sz → xs.length = n →
    (∀ i, i < n → DataW.trod enc P W 0 (fun _ => true) true fuel e ((cs.drop (i * P.cellsOf e)).take (P.cellsOf e)) = xs[i]?) → (∀ q ∈ DataW.weightsAll P e (xs.map (·.1)), q ≤ reachBytes) → ∃ a, d.K W a cs ∧ ok a
theorem opensA_one {α : Type} {d : Kd α} {e : TypeId} {ok : α → Prop} (hs : P.cellsOf e = d.sz) (h : Opens P d e ok) : OpensA P d e 1 ok := by
  intro H enc W fuel cs xs hl hx hf hz
  match xs, hx with
  | [x], _ =>
    have h1 := hf 0 (by omega)
    rw [Nat.zero_mul, List.drop_zero, hs, List.take_of_length_le (by omega)] at h1
    exact h H enc W fuel _ x h1 (fun n hn => hz n (by simp [DataW.weightsAll, hn]))
theorem opensA_cons {α β : Type} {a : Kd α} {b : Kd β} {e : TypeId} {n : Nat} {oka : α → Prop} {okb : β → Prop} (hs : P.cellsOf e = a.sz) (ha : Opens P a e oka) (hb : OpensA P b e n okb) : OpensA P (Kd.pair a b) e (n + 1) (fun x => oka x.1 ∧ okb x.2) := by
  intro H enc W fuel cs xs hl hx hf hz
  have hl' : cs.length = a.sz + b.sz := hl
  match xs, hx with
  | x :: xs, hx =>
    have h1 := hf 0 (by omega)
    rw [Nat.zero_mul, List.drop_zero, hs] at h1
    obtain ⟨u, hu, hku⟩ := ha H enc W fuel _ x h1 (fun n hn => hz n (by simp only [List.map_cons, DataW.weightsAll]; exact List.mem_append_left _ hn))
    obtain ⟨v, hv, hkv⟩ := hb H enc W fuel (cs.drop a.sz) xs (by rw [List.length_drop]; omega) (by simpa using hx) (fun i hi => by
      have h2 := hf (i + 1) (by omega)
      rw [Nat.add_mul, Nat.one_mul, Nat.add_comm, hs] at h2
      rw [List.drop_drop, hs]
      simpa using h2) (fun n hn => hz n (by simp only [List.map_cons, DataW.weightsAll]; exact List.mem_append_right _ hn))
    refine ⟨(u, v), ⟨_, _, ?_, hu, hv⟩, hku, hkv⟩
    rw [List.take_append_drop]
theorem opens_array {α : Type} {d : Kd α} {e n : Nat} {ok : α → Prop} (hu : P.underlying t = some (.array n e)) (hs : P.cellsOf t = d.sz) (h : OpensA P d e n ok) : Opens P d t ok := by
  intro H enc W fuel cs x hx hz
  cases fuel with
  | zero => simp [DataW.trod] at hx
  | succ m =>
    unfold DataW.trod at hx
    rw [hu] at hx
    simp only at hx
    split at hx
    · rename_i hl
      obtain ⟨xs, hxs, rfl⟩ := Option.map_eq_some_iff.1 hx
      have hlen : xs.length = n := by simpa using mapM_some_length hxs
      obtain ⟨a, ha, hk⟩ := h H enc W m cs xs (by omega) hlen (fun i hi => mapM_some_get hxs i i (by simp [hi])) (fun q hq => hz q (by simp only [DataW.weights, hu]; exact hq))
      exact ⟨a, ha, hk⟩
    · cases hx
/-- An argument. -/
theorem opens_arg {α : Type} {d : Kd α} {ok : α → Prop} (h : Opens P d t ok) {H : Type} {enc : TypeId × Value → H} {W : World} {v : Value} {x : DataW H} {ps : List MemPlace} {ts : List TypeId} {ds : List (DataW H)} {j : Nat}
    (hsz : (DataW.weightsEach P ts ds).all (· ≤ reachBytes) = true) (ht : ts[j]? = some t) (hd : ds[j]? = some x) (hv : DataW.Trod enc P W 0 (fun _ => true) true t v x ps) : ∃ a, d.K W a v.cells.toList ∧ ok a := by
  obtain ⟨fuel, hf⟩ := hv
  refine h H enc W fuel _ _ hf (fun n hn => ?_)
  have := List.all_eq_true.1 hsz _ (DataW.weights_mem_each ht hd n hn)
  simpa using this
theorem slice_of {v : Value} {e : TypeId} {r : Reach} {base : Nat} {W : World} (hu : P.underlying t = some (.slice e)) (hv : Value.okWide P W r base t v) {u : Value} (h : v.cells.toList = [u]) : v = u := by
  obtain ⟨a, len, cap, rfl⟩ := WideShapes.okWide_slice hu hv
  simpa [Value.cells] using h
theorem agg_of_array {v : Value} {e n : Nat} {r : Reach} {base : Nat} {W : World} (hu : P.underlying t = some (.array n e)) (hv : Value.okWide P W r base t v) {l : List Value} (h : v.cells.toList = l) : v = .agg l.toArray := by
  simp only [Value.okWide, hu] at hv
  obtain ⟨cs, rfl, _⟩ := hv
  simp only [Value.cells] at h
  rw [← h]
theorem agg_of {v : Value} {fs : Array Field} {r : Reach} {base : Nat} {W : World} (hu : P.underlying t = some (.struct fs)) (hv : Value.okWide P W r base t v) {l : List Value} (h : v.cells.toList = l) : v = .agg l.toArray := by
  obtain ⟨cs, rfl, _⟩ := WideShapes.okWide_struct hu hv
  simp only [Value.cells] at h
  rw [← h]
end
end Go.Proofs.YtbhgohomgfjjfaaV
