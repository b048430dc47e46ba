/- Words of this session: objects in memory that lie apart from each other (a small separation logic over the printed words), and what lies outside of them stays. -/
import Derived.Test.YtbhgohomgfjjfaaV
import Derived.WalkMore
import Derived.Lib.ReflectliteSwap
set_option linter.unusedVariables false
set_option linter.unusedSimpArgs false
set_option linter.unnecessarySimpa false
namespace Go.Proofs.YtbhgohomgfjjfaaS
open Go.RowKit Go.Proofs.YtbhgohomgfjjfaaW.PrintWords Go.Proofs.YtbhgohomgfjjfaaW.PrintLast Go.Proofs.YtbhgohomgfjjfaaW.PrintMore Go.Proofs.YtbhgohomgfjjfaaV

/-- What lies outside of S stays. -/
structure Keep (S : Nat → Prop) (w w' : World) : Prop where
  os : w'.os = w.os
  tape : w'.tape = w.tape
  output : w'.output = w.output
  size : w.heap.size ≤ w'.heap.size
  block : ∀ k, k < w.heap.size → ¬ S k → w'.heap[k]? = w.heap[k]?
/-- S holds whatever will be made. -/
def Fresh (S : Nat → Prop) (w : World) : Prop := ∀ k, w.heap.size ≤ k → S k
def news (w : World) : Nat → Prop := fun k => w.heap.size ≤ k
theorem fresh_news (w : World) : Fresh (news w) w := fun _ h => h
theorem Keep.refl (S : Nat → Prop) (w : World) : Keep S w w := ⟨rfl, rfl, rfl, Nat.le_refl _, fun _ _ _ => rfl⟩
theorem Keep.trans {S : Nat → Prop} {w w1 w2 : World} (h : Keep S w w1) (k : Keep S w1 w2) : Keep S w w2 :=
  ⟨k.os.trans h.os, k.tape.trans h.tape, k.output.trans h.output, Nat.le_trans h.size k.size, fun i hi hs => (k.block i (Nat.lt_of_lt_of_le hi h.size) hs).trans (h.block i hi hs)⟩
theorem Keep.sub {S T : Nat → Prop} {w w1 : World} (h : Keep S w w1) (hs : ∀ k, S k → T k) : Keep T w w1 := ⟨h.os, h.tape, h.output, h.size, fun i hi ht => h.block i hi (fun q => ht (hs i q))⟩
theorem Keep.below {S : Nat → Prop} {w w1 : World} (h : Below w.heap.size w w1) : Keep S w w1 := ⟨h.os, h.tape, h.output, h.size, fun i hi _ => h.block i hi⟩
theorem Keep.to_below {w w1 : World} (h : Keep (news w) w w1) : Below w.heap.size w w1 := ⟨h.os, h.tape, h.output, h.size, fun i hi => h.block i hi (fun q => by unfold news at q; omega)⟩
theorem Keep.alloc {S : Nat → Prop} {w w1 : World} (h : Keep S w w1) (o : Obj) : Keep S w (w1.alloc o) := h.trans (.below (below_alloc (Below.refl _ _) o))
theorem Keep.drew {S : Nat → Prop} {w w1 : World} (h : Keep S w w1) : Keep S w w1.drew := h.trans (.below (below_drew (Below.refl _ _)))
theorem Keep.drewN {S : Nat → Prop} {w w1 : World} (h : Keep S w w1) (n : Nat) : Keep S w (w1.drewN n) := h.trans (.below (pw_below_drewN (Below.refl _ _) n))
theorem Keep.grown {S : Nat → Prop} {w w1 : World} {r : Option Nat} (h : w.grownBy w1 r) (hr : ∀ k, r = some k → S k) : Keep S w w1 := ⟨h.os, h.tape, h.output, h.size, fun i hi hs => h.block i hi (fun e => hs (hr i e.symm))⟩
theorem Keep.set {S : Nat → Prop} {w : World} {p : Addr} (hp : S p.block) (u : Value) : Keep S w (w.setCell p u) :=
  ⟨rfl, rfl, rfl, by simp [World.setCell], fun i _ hs => Below.heap_setCell w p u i (fun e => hs (e ▸ hp))⟩
theorem Fresh.keep {S T : Nat → Prop} {w w1 : World} (h : Fresh S w) (k : Keep T w w1) : Fresh S w1 := fun i hi => h i (Nat.le_trans k.size hi)
/-- What is read: whatever happens in S, it holds. -/
def RO (S : Nat → Prop) (w : World) (p : World → Prop) : Prop := ∀ w', Keep S w w' → p w'
theorem RO.now {S : Nat → Prop} {w : World} {p : World → Prop} (h : RO S w p) : p w := h w (.refl _ _)
theorem RO.at_ {S : Nat → Prop} {w w1 : World} {p : World → Prop} (h : RO S w p) (k : Keep S w w1) : p w1 := h w1 k
theorem RO.keep {S : Nat → Prop} {w w1 : World} {p : World → Prop} (h : RO S w p) (k : Keep S w w1) : RO S w1 p := fun w' hk => h w' (k.trans hk)
theorem RO.sub {S T : Nat → Prop} {w : World} {p : World → Prop} (h : RO S w p) (hs : ∀ k, T k → S k) : RO T w p := fun w' hk => h w' (hk.sub hs)
theorem RO.imp {S : Nat → Prop} {w : World} {p q : World → Prop} (h : RO S w p) (hq : ∀ w', p w' → q w') : RO S w q := fun w' hk => hq _ (h w' hk)
theorem RO.top {α : Type} {d : Kd α} {w : World} {A : Option Addr} {n : Nat} {xs : List α} (h : d.C w A n xs) : RO (news w) w (fun w => d.C w A n xs) := fun w' hk => Kd.C_below h hk.to_below

/-- An object in memory: what holds of it, with the blocks in which it lies. -/
structure Asr where
  H : World → (Nat → Prop) → Prop
  mono : ∀ {w S S'}, (∀ k, S k → S' k) → H w S → H w S'
  bound : ∀ {w S}, H w S → H w (fun k => S k ∧ k < w.heap.size)
  move : ∀ {w w' S}, (∀ k, S k → w'.heap[k]? = w.heap[k]?) → H w S → H w' S
def cells (b : Nat) (t : TypeId) (vs : Array Value) : Asr where
  H w S := S b ∧ w.heap[b]? = some (.cells vs t (0, 0))
  mono hs h := ⟨hs _ h.1, h.2⟩
  bound h := ⟨⟨h.1, blk_lt h.2⟩, h.2⟩
  move hm h := ⟨h.1, (hm _ h.1).trans h.2⟩
/-- A row of one's own: it may begin inside its block, and its capacity may end ahead of the block's end. -/
def Qs {α : Type} (d : Kd α) (e : Nat) (w : World) (base : Nat) (T : Nat → Prop) (v : Value) (xs : List α) : Prop := ∃ A n c c', v = .slice A n c ∧ n ≤ c ∧ c ≤ c' ∧ d.Q e w base T (.slice A n c') xs
section
variable {α : Type} {d : Kd α} {e base : Nat} {w : World} {T : Nat → Prop} {v : Value} {xs : List α}
theorem Qs_of (h : d.Q e w base T v xs) : Qs d e w base T v xs := by
  obtain ⟨A, c, rfl, hl, _⟩ := Kd.Q_reads h
  exact ⟨A, _, c, c, rfl, hl, Nat.le_refl _, h⟩
theorem Qs_mono {T' : Nat → Prop} (h : Qs d e w base T v xs) (hs : ∀ k, T k → T' k) : Qs d e w base T' v xs := let ⟨A, n, c, c', h1, h2, h3, h⟩ := h; ⟨A, n, c, c', h1, h2, h3, Kd.Q_mono h hs⟩
theorem Qs_bound (h : Qs d e w base T v xs) : Qs d e w base (fun k => T k ∧ base ≤ k ∧ k < w.heap.size ∧ ∃ q, q ∈ e :: d.E ∧ ∃ cells, w.heap[k]? = some (.cells cells q (0, 0))) v xs := let ⟨A, n, c, c', h1, h2, h3, h⟩ := h; ⟨A, n, c, c', h1, h2, h3, Kd.Q_bound h⟩
theorem Qs_move {w' : World} (h : Qs d e w base T v xs) (hm : ∀ k, T k → w'.heap[k]? = w.heap[k]?) : Qs d e w' base T v xs := let ⟨A, n, c, c', h1, h2, h3, h⟩ := h; ⟨A, n, c, c', h1, h2, h3, Kd.Q_move h hm⟩
theorem Qs_lower {base' : Nat} (h : Qs d e w base T v xs) (hb : base' ≤ base) : Qs d e w base' T v xs := let ⟨A, n, c, c', h1, h2, h3, h⟩ := h; ⟨A, n, c, c', h1, h2, h3, Kd.Q_lower h hb⟩
theorem Qs_reads' {A : Option Addr} {n c : Nat} (h : Qs d e w base T (.slice A n c) xs) : n = xs.length ∧ n ≤ c ∧ d.C w A xs.length xs := by
  obtain ⟨A', n', c1, c', hv, h2, h3, h⟩ := h
  injection hv with e1 e2 e3
  subst e1; subst e2; subst e3
  obtain ⟨g1, _, g3⟩ := Kd.Q_reads' h
  exact ⟨g1, h2, g3⟩
theorem Qs_reads (h : Qs d e w base T v xs) : ∃ A c, v = .slice A xs.length c ∧ xs.length ≤ c ∧ d.C w A xs.length xs := by
  obtain ⟨A, n, c, c', rfl, h2, h3, h⟩ := h
  obtain ⟨g1, _, g3⟩ := Kd.Q_reads' h
  subst g1
  exact ⟨A, c, rfl, h2, g3⟩
theorem Qs_open {A : Option Addr} {n c : Nat} (h : Qs d e w base T (.slice A n c) xs) : n ≤ c ∧ ∃ c', c ≤ c' ∧ d.Q e w base T (.slice A n c') xs := by
  obtain ⟨A', n', c1, c', hv, h2, h3, h⟩ := h
  injection hv with e1 e2 e3
  subst e1; subst e2; subst e3
  exact ⟨h2, c', h3, h⟩
theorem Q_none {A : Option Addr} {n c : Nat} (h : d.Q e w base T (.slice A n c) xs) : d.Q e w base T (.slice A 0 0) [] := by
  refine ⟨fun k hk => h.1 k (by cases A <;> simpa [Value.ownBlock] using hk), [], ⟨by simp, .inl ⟨rfl, A, rfl, fun a ha => ?_⟩⟩, Reps.none _ _⟩
  obtain ⟨_, inner, ⟨_, hq⟩, _⟩ := h
  rcases hq with ⟨_, A', hv, hA⟩ | ⟨g, off, cap, cur, hv, hb, hh, _⟩
  · injection hv with e1 _ _
    subst e1
    exact hA a ha
  · injection hv with e1 _ _
    rw [e1] at ha
    injection ha with ha
    subst ha
    exact ⟨hb, cur, hh⟩
theorem Qs_take {A : Option Addr} {m n c : Nat} (h : Qs d e w base T (.slice A n c) xs) (hm : m ≤ xs.length) : Qs d e w base T (.slice A m c) (xs.take m) := by
  obtain ⟨h1, c', h2, h⟩ := Qs_open h
  have := (Kd.Q_reads' h).1
  exact ⟨A, m, c, c', rfl, by omega, h2, Kd.Q_take h hm⟩
theorem Qs_shut {A : Option Addr} {m n c : Nat} (h : Qs d e w base T (.slice A n c) xs) (hn : n ≤ m) (hm : m ≤ c) : Qs d e w base T (.slice A n m) xs := by
  obtain ⟨h1, c', h2, h⟩ := Qs_open h
  exact ⟨A, n, m, c', rfl, hn, by omega, h⟩
theorem Qs_drop {A : Option Addr} {k n c : Nat} (h : Qs d e w base T (.slice A n c) xs) (hk : k ≤ xs.length) : Qs d e w base T (.slice (if c = k then A else A.map (·.add (k * d.sz))) (n - k) (c - k)) (xs.drop k) := by
  obtain ⟨h1, c', h2, h⟩ := Qs_open h
  have hn := (Kd.Q_reads' h).1
  by_cases hc : c = k
  · rw [if_pos hc, show n - k = 0 by omega, show c - k = 0 by omega, List.drop_eq_nil_of_le (by omega)]
    exact ⟨A, 0, 0, 0, rfl, Nat.le_refl _, Nat.le_refl _, Q_none h⟩
  · have := Kd.Q_drop h hk
    rw [if_neg (by omega)] at this
    rw [if_neg hc]
    exact ⟨_, _, _, _, rfl, by omega, by omega, this⟩
theorem Qs_ok (h : Qs d e w base T v xs) : ∀ k, v.ownBlock = some k → T k := by
  obtain ⟨A, n, c, c', rfl, h2, h3, h⟩ := h
  exact fun k hk => h.1 k (by cases A <;> simpa [Value.ownBlock] using hk)
end
/-- A row (it may begin inside its block) of elements of type e. -/
def row {α : Type} (d : Kd α) (e : Nat) (v : Value) (xs : List α) : Asr where
  H w S := Qs d e w 0 S v xs
  mono hs h := Qs_mono h hs
  bound h := Qs_mono (Qs_bound h) (fun _ hk => ⟨hk.1, hk.2.2.1⟩)
  move hm h := Qs_move h hm
def ex {ι : Type} (f : ι → Asr) : Asr where
  H w S := ∃ i, (f i).H w S
  mono hs h := let ⟨i, h⟩ := h; ⟨i, (f i).mono hs h⟩
  bound h := let ⟨i, h⟩ := h; ⟨i, (f i).bound h⟩
  move hm h := let ⟨i, h⟩ := h; ⟨i, (f i).move hm h⟩
def pure (p : Prop) (A : Asr) : Asr where
  H w S := p ∧ A.H w S
  mono hs h := ⟨h.1, A.mono hs h.2⟩
  bound h := ⟨h.1, A.bound h.2⟩
  move hm h := ⟨h.1, A.move hm h.2⟩
/-- Objects apart from each other, all of them in S. -/
def SL : List Asr → World → (Nat → Prop) → Prop
  | [], _, _ => True
  | A :: L, w, S => ∃ T U : Nat → Prop, (∀ k, T k → S k) ∧ (∀ k, U k → S k) ∧ (∀ k, T k → U k → False) ∧ A.H w T ∧ SL L w U
theorem SL.mono : ∀ {L : List Asr} {w : World} {S S' : Nat → Prop}, (∀ k, S k → S' k) → SL L w S → SL L w S'
  | [], _, _, _, _, _ => trivial
  | _ :: _, _, _, _, hs, ⟨T, U, h1, h2, h3, h4, h5⟩ => ⟨T, U, fun k hk => hs k (h1 k hk), fun k hk => hs k (h2 k hk), h3, h4, h5⟩
theorem SL.bound : ∀ {L : List Asr} {w : World} {S : Nat → Prop}, SL L w S → SL L w (fun k => S k ∧ k < w.heap.size)
  | [], _, _, _ => trivial
  | A :: _, _, _, ⟨T, U, h1, h2, h3, h4, h5⟩ => ⟨_, _, fun k hk => ⟨h1 k hk.1, hk.2⟩, fun k hk => ⟨h2 k hk.1, hk.2⟩, fun k hk hk' => h3 k hk.1 hk'.1, A.bound h4, SL.bound h5⟩
theorem SL.move : ∀ {L : List Asr} {w w' : World} {S : Nat → Prop}, (∀ k, S k → w'.heap[k]? = w.heap[k]?) → SL L w S → SL L w' S
  | [], _, _, _, _, _ => trivial
  | A :: _, _, _, _, hm, ⟨T, U, h1, h2, h3, h4, h5⟩ => ⟨T, U, h1, h2, h3, A.move (fun k hk => hm k (h1 k hk)) h4, SL.move (fun k hk => hm k (h2 k hk)) h5⟩
/-- What happens elsewhere leaves them. -/
theorem SL.far {L : List Asr} {w w' : World} {S T : Nat → Prop} (h : SL L w S) (k : Keep T w w') (hd : ∀ k, S k → T k → False) : SL L w' S :=
  SL.mono (fun _ hk => hk.1) (SL.move (fun i hi => k.block i hi.2 (hd i hi.1)) (SL.bound h))
theorem SL.below {L : List Asr} {w w' : World} {S : Nat → Prop} (h : SL L w S) (hb : Below w.heap.size w w') : SL L w' S :=
  SL.mono (fun _ hk => hk.1) (SL.move (fun i hi => hb.block i hi.2) (SL.bound h))
theorem SL.alloc' {L : List Asr} {w : World} {S : Nat → Prop} (h : SL L w S) (o : Obj) : SL L (w.alloc o) S := h.below (below_alloc (Below.refl _ _) o)
theorem SL.drew {L : List Asr} {w : World} {S : Nat → Prop} (h : SL L w S) : SL L w.drew S := h.below (below_drew (Below.refl _ _))
theorem SL.drewN {L : List Asr} {w : World} {S : Nat → Prop} (h : SL L w S) (n : Nat) : SL L (w.drewN n) S := h.below (pw_below_drewN (Below.refl _ _) n)
theorem SL.tail {A : Asr} {L : List Asr} {w : World} {S : Nat → Prop} : SL (A :: L) w S → SL L w S := fun ⟨_, _, _, h2, _, _, h5⟩ => SL.mono h2 h5
theorem SL.swap {A B : Asr} {L : List Asr} {w : World} {S : Nat → Prop} : SL (A :: B :: L) w S → SL (B :: A :: L) w S := by
  rintro ⟨T, U, h1, h2, h3, h4, T', U', h1', h2', h3', h4', h5'⟩
  exact ⟨T', fun k => T k ∨ U' k, fun k hk => h2 k (h1' k hk), fun k hk => hk.elim (h1 k) (fun q => h2 k (h2' k q)), fun k hk hk' => hk'.elim (fun q => h3 k q (h1' k hk)) (h3' k hk), h4', T, U', fun k hk => .inl hk, fun k hk => .inr hk, fun k hk hk' => h3 k hk (h2' k hk'), h4, h5'⟩
theorem SL.cons {A : Asr} {L L' : List Asr} (hi : ∀ w S, SL L w S → SL L' w S) {w : World} {S : Nat → Prop} : SL (A :: L) w S → SL (A :: L') w S :=
  fun ⟨T, U, h1, h2, h3, h4, h5⟩ => ⟨T, U, h1, h2, h3, h4, hi _ _ h5⟩
theorem SL.perm {L L' : List Asr} (h : L.Perm L') : ∀ {w : World} {S : Nat → Prop}, SL L w S → SL L' w S := by
  induction h with
  | nil => exact fun h => h
  | cons a _ ih => exact fun h => SL.cons (fun w S => ih) h
  | swap a b l => exact fun h => SL.swap h
  | trans _ _ ih1 ih2 => exact fun h => ih2 (ih1 h)
theorem SL.perm_init {L0 : List Asr} : ∀ {L : List Asr} {w : World} {S : Nat → Prop}, SL (L ++ L0) w S → SL L w S
  | [], _, _, _ => trivial
  | _ :: _, _, _, h => SL.cons (fun _ _ h => SL.perm_init h) h
/-- The third, the fourth object to the front. -/
theorem SL.get2 {A B C : Asr} {L : List Asr} {w : World} {S : Nat → Prop} (h : SL (A :: B :: C :: L) w S) : SL (C :: A :: B :: L) w S := SL.swap (SL.cons (fun _ _ => SL.swap) h)
theorem SL.back2 {A B C : Asr} {L : List Asr} {w : World} {S : Nat → Prop} (h : SL (C :: A :: B :: L) w S) : SL (A :: B :: C :: L) w S := SL.cons (fun _ _ => SL.swap) (SL.swap h)
theorem SL.get3 {A B C D : Asr} {L : List Asr} {w : World} {S : Nat → Prop} (h : SL (A :: B :: C :: D :: L) w S) : SL (D :: A :: B :: C :: L) w S := SL.swap (SL.cons (fun _ _ => SL.get2) h)
theorem SL.back3 {A B C D : Asr} {L : List Asr} {w : World} {S : Nat → Prop} (h : SL (D :: A :: B :: C :: L) w S) : SL (A :: B :: C :: D :: L) w S := SL.cons (fun _ _ => SL.back2) (SL.swap h)
theorem SL.back1 {A B : Asr} {L : List Asr} {w : World} {S : Nat → Prop} (h : SL (B :: A :: L) w S) : SL (A :: B :: L) w S := SL.swap h
theorem SL.back4 {A B C D E : Asr} {L : List Asr} {w : World} {S : Nat → Prop} (h : SL (E :: A :: B :: C :: D :: L) w S) : SL (A :: B :: C :: D :: E :: L) w S := SL.cons (fun _ _ => SL.back3) (SL.swap h)
theorem SL.back5 {A B C D E F : Asr} {L : List Asr} {w : World} {S : Nat → Prop} (h : SL (F :: A :: B :: C :: D :: E :: L) w S) : SL (A :: B :: C :: D :: E :: F :: L) w S := SL.cons (fun _ _ => SL.back4) (SL.swap h)
theorem SL.back6 {A B C D E F G : Asr} {L : List Asr} {w : World} {S : Nat → Prop} (h : SL (G :: A :: B :: C :: D :: E :: F :: L) w S) : SL (A :: B :: C :: D :: E :: F :: G :: L) w S := SL.cons (fun _ _ => SL.back5) (SL.swap h)
theorem SL.back7 {A B C D E F G I : Asr} {L : List Asr} {w : World} {S : Nat → Prop} (h : SL (I :: A :: B :: C :: D :: E :: F :: G :: L) w S) : SL (A :: B :: C :: D :: E :: F :: G :: I :: L) w S := SL.cons (fun _ _ => SL.back6) (SL.swap h)
theorem SL.back8 {A B C D E F G I J : Asr} {L : List Asr} {w : World} {S : Nat → Prop} (h : SL (J :: A :: B :: C :: D :: E :: F :: G :: I :: L) w S) : SL (A :: B :: C :: D :: E :: F :: G :: I :: J :: L) w S := SL.cons (fun _ _ => SL.back7) (SL.swap h)
theorem SL.back9 {A B C D E F G I J K : Asr} {L : List Asr} {w : World} {S : Nat → Prop} (h : SL (K :: A :: B :: C :: D :: E :: F :: G :: I :: J :: L) w S) : SL (A :: B :: C :: D :: E :: F :: G :: I :: J :: K :: L) w S := SL.cons (fun _ _ => SL.back8) (SL.swap h)
theorem SL.imp {A B : Asr} {L : List Asr} {w : World} {S : Nat → Prop} (hi : ∀ T, A.H w T → B.H w T) : SL (A :: L) w S → SL (B :: L) w S :=
  fun ⟨T, U, h1, h2, h3, h4, h5⟩ => ⟨T, U, h1, h2, h3, hi T h4, h5⟩
theorem SL.open_ex {ι : Type} {f : ι → Asr} {L : List Asr} {w : World} {S : Nat → Prop} : SL (ex f :: L) w S → ∃ i, SL (f i :: L) w S := fun ⟨T, U, h1, h2, h3, ⟨i, h4⟩, h5⟩ => ⟨i, T, U, h1, h2, h3, h4, h5⟩
theorem SL.close_ex {ι : Type} {f : ι → Asr} {L : List Asr} {w : World} {S : Nat → Prop} (i : ι) (h : SL (f i :: L) w S) : SL (ex f :: L) w S := SL.imp (fun _ hk => ⟨i, hk⟩) h
theorem SL.open_pure {p : Prop} {A : Asr} {L : List Asr} {w : World} {S : Nat → Prop} : SL (pure p A :: L) w S → p ∧ SL (A :: L) w S := fun ⟨T, U, h1, h2, h3, ⟨i, h4⟩, h5⟩ => ⟨i, T, U, h1, h2, h3, h4, h5⟩
theorem SL.close_pure {p : Prop} {A : Asr} {L : List Asr} {w : World} {S : Nat → Prop} (hp : p) (h : SL (A :: L) w S) : SL (pure p A :: L) w S := SL.imp (fun _ hk => ⟨hp, hk⟩) h
/-- Two objects that are told as one. -/
def two (A B : Asr) : Asr where
  H w S := SL [A, B] w S
  mono hs h := SL.mono hs h
  bound h := SL.bound h
  move hm h := SL.move hm h
theorem SL.split {A B : Asr} {L : List Asr} {w : World} {S : Nat → Prop} : SL (two A B :: L) w S → SL (A :: B :: L) w S := by
  rintro ⟨T, U, h1, h2, h3, ⟨T', U', h1', h2', h3', h4', ⟨V, _, h6, _, _, h7, _⟩⟩, h5⟩
  exact ⟨T', fun k => U' k ∨ U k, fun k hk => h1 k (h1' k hk), fun k hk => hk.elim (fun q => h1 k (h2' k q)) (h2 k), fun k hk hk' => hk'.elim (h3' k hk) (h3 k (h1' k hk)), h4', V, U, fun k hk => .inl (h6 k hk), fun k hk => .inr hk, fun k hk hk' => h3 k (h2' k (h6 k hk)) hk', h7, h5⟩
theorem SL.joint {A B : Asr} {L : List Asr} {w : World} {S : Nat → Prop} : SL (A :: B :: L) w S → SL (two A B :: L) w S := by
  rintro ⟨T, U, h1, h2, h3, h4, T', U', h1', h2', h3', h4', h5'⟩
  exact ⟨fun k => T k ∨ T' k, U', fun k hk => hk.elim (h1 k) (fun q => h2 k (h1' k q)), fun k hk => h2 k (h2' k hk), fun k hk hk' => hk.elim (fun q => h3 k q (h2' k hk')) (fun q => h3' k q hk'), ⟨T, T', fun k hk => .inl hk, fun k hk => .inr hk, fun k hk hk' => h3 k hk (h1' k hk'), h4, T', fun _ => False, fun k hk => hk, fun k hk => hk.elim, fun k _ hk => hk, h4', trivial⟩, h5'⟩
/-- The first object turns, and what is made meanwhile may be its own. -/
theorem SL.upd {A B : Asr} {L : List Asr} {w w' : World} {S : Nat → Prop} (hf : Fresh S w) (h : SL (A :: L) w S)
    (step : ∀ T : Nat → Prop, (∀ k, T k → S k ∧ k < w.heap.size) → A.H w T → ∃ T' : Nat → Prop, (∀ k, T' k → T k ∨ w.heap.size ≤ k) ∧ Keep T w w' ∧ B.H w' T') : SL (B :: L) w' S ∧ Keep S w w' := by
  obtain ⟨T, U, h1, h2, h3, h4, h5⟩ := h
  obtain ⟨T', ht, hk, hb⟩ := step (fun k => T k ∧ k < w.heap.size) (fun k hk => ⟨h1 k hk.1, hk.2⟩) (A.bound h4)
  refine ⟨⟨T', fun k => U k ∧ k < w.heap.size, fun k hk => (ht k hk).elim (fun q => h1 k q.1) (hf k), fun k hk => h2 k hk.1, fun k hk hk' => (ht k hk).elim (fun q => h3 k q.1 hk'.1) (fun q => by have := hk'.2; omega), hb, SL.far (SL.bound h5) hk (fun k hk hk' => h3 k hk'.1 hk.1)⟩, hk.sub (fun k hk => h1 k hk.1)⟩
/-- An object that is made. -/
theorem SL.new {A : Asr} {L : List Asr} {w w' : World} {S : Nat → Prop} (hf : Fresh S w) (h : SL L w S) (hb : Below w.heap.size w w') (ha : A.H w' (news w)) : SL (A :: L) w' S ∧ Keep S w w' :=
  ⟨⟨news w, fun k => S k ∧ k < w.heap.size, fun k hk => hf k hk, fun k hk => hk.1, fun k hk hk' => by unfold news at hk; omega, ha, SL.below (SL.bound h) hb⟩, .below hb⟩
theorem SL.alloc {L : List Asr} {w : World} {S : Nat → Prop} (hf : Fresh S w) (h : SL L w S) (vs : Array Value) (t : TypeId) : SL (cells w.heap.size t vs :: L) (w.alloc (.cells vs t (0, 0))) S :=
  (SL.new (A := cells w.heap.size t vs) hf h (below_alloc (Below.refl _ _) _) ⟨Nat.le_refl _, blk_new w _⟩).1
theorem SL.at_ {b : Nat} {t : TypeId} {vs : Array Value} {L : List Asr} {w : World} {S : Nat → Prop} : SL (cells b t vs :: L) w S → w.heap[b]? = some (.cells vs t (0, 0)) := fun ⟨_, _, _, _, _, h, _⟩ => h.2
theorem SL.in_ {b : Nat} {t : TypeId} {vs : Array Value} {L : List Asr} {w : World} {S : Nat → Prop} : SL (cells b t vs :: L) w S → S b := fun ⟨_, _, h1, _, _, h, _⟩ => h1 _ h.1
theorem SL.set {b : Nat} {t : TypeId} {vs : Array Value} {L : List Asr} {w : World} {S : Nat → Prop} (h : SL (cells b t vs :: L) w S) (i : Nat) (u : Value) : SL (cells b t (vs.setIfInBounds i u) :: L) (w.setCell ⟨b, i, none⟩ u) S := by
  obtain ⟨T, U, h1, h2, h3, h4, h5⟩ := h
  exact ⟨T, U, h1, h2, h3, ⟨h4.1, blk_set h4.2 i u⟩, SL.far h5 (.set (S := T) (p := ⟨b, i, none⟩) h4.1 u) (fun k hk hk' => h3 k hk' hk)⟩
theorem SL.set_keep {b : Nat} {t : TypeId} {vs : Array Value} {L : List Asr} {w : World} {S : Nat → Prop} (h : SL (cells b t vs :: L) w S) (i : Nat) (u : Value) : Keep S w (w.setCell ⟨b, i, none⟩ u) := .set (p := ⟨b, i, none⟩) h.in_ u
theorem SL.row_reads {α : Type} {d : Kd α} {e : Nat} {v : Value} {xs : List α} {L : List Asr} {w : World} {S : Nat → Prop} : SL (row d e v xs :: L) w S → ∃ A c, v = .slice A xs.length c ∧ xs.length ≤ c ∧ d.C w A xs.length xs := fun ⟨_, _, _, _, _, h, _⟩ => Qs_reads h
/-- The first object is lent: the others lie in U, and what it reads holds whatever happens there. -/
theorem SL.lend {A : Asr} {L : List Asr} {w : World} {S : Nat → Prop} (hf : Fresh S w) (h : SL (A :: L) w S) {p : World → Prop} (hp : ∀ w T, A.H w T → p w) :
    ∃ U : Nat → Prop, Fresh U w ∧ (∀ k, U k → S k) ∧ SL L w U ∧ RO U w p ∧ ∀ w' L', Keep U w w' → SL L' w' U → SL (A :: L') w' S := by
  obtain ⟨T, U, h1, h2, h3, h4, h5⟩ := h
  refine ⟨fun k => S k ∧ ¬ (T k ∧ k < w.heap.size), fun k hk => ⟨hf k hk, fun q => by omega⟩, fun k hk => hk.1, SL.mono (fun k hk => ⟨h2 k hk, fun q => h3 k q.1 hk⟩) h5, fun w' hk => ?_, fun w' L' hk hl => ?_⟩
  · exact hp w' _ (A.move (fun k hk' => hk.block k hk'.2 (fun q => q.2 hk')) (A.bound h4))
  · exact ⟨fun k => T k ∧ k < w.heap.size, _, fun k hk' => h1 k hk'.1, fun k hk' => hk'.1, fun k hk' hk'' => hk''.2 hk', A.move (fun k hk' => hk.block k hk'.2 (fun q => q.2 hk')) (A.bound h4), hl⟩
theorem row_of_R {α : Type} {d : Kd α} {e : Nat} {v : Value} {xs : List α} {w w' : World} {ok : Nat → Prop} (h : d.R e w' w.heap.size ok v xs) : (row d e v xs).H w' (news w) :=
  Qs_mono (Qs_lower (Qs_bound (Qs_of (Kd.Q_of_R h))) (Nat.zero_le _)) (fun _ hk => hk.2.1)
theorem SL.nil_row {α : Type} (d : Kd α) (e : Nat) {L : List Asr} {w : World} {S : Nat → Prop} (h : SL L w S) : SL (row d e (.slice none 0 0) [] :: L) w S :=
  ⟨fun _ => False, S, fun _ hk => hk.elim, fun _ hk => hk, fun _ hk _ => hk, Qs_of (Kd.Q_nil _ _ _ _ _), h⟩
/-- A row that is cut from the front. -/
theorem SL.row_drop {α : Type} {d : Kd α} {e : Nat} {A : Option Addr} {n c k : Nat} {xs : List α} {L : List Asr} {w : World} {S : Nat → Prop} (h : SL (row d e (.slice A n c) xs :: L) w S) (hk : k ≤ xs.length) :
    SL (row d e (.slice (if c = k then A else A.map (·.add (k * d.sz))) (n - k) (c - k)) (xs.drop k) :: L) w S := SL.imp (fun _ hq => Qs_drop hq hk) h
theorem SL.row_take {α : Type} {d : Kd α} {e : Nat} {A : Option Addr} {n c m : Nat} {xs : List α} {L : List Asr} {w : World} {S : Nat → Prop} (h : SL (row d e (.slice A n c) xs :: L) w S) (hm : m ≤ xs.length) :
    SL (row d e (.slice A m c) (xs.take m) :: L) w S := SL.imp (fun _ hq => Qs_take hq hm) h
theorem SL.row_shut {α : Type} {d : Kd α} {e : Nat} {A : Option Addr} {n c m : Nat} {xs : List α} {L : List Asr} {w : World} {S : Nat → Prop} (h : SL (row d e (.slice A n c) xs :: L) w S) (hn : n ≤ m) (hm : m ≤ c) :
    SL (row d e (.slice A n m) xs :: L) w S := SL.imp (fun _ hq => Qs_shut hq hn hm) h
theorem Kd.scalar_inner {α : Type} {enc : α → Value} {h1 : ∀ x, (enc x).oneCell' = true} {w : World} {base : Nat} {ok : Nat → Prop} {xs : List α} {inner : List Value} (h : Reps ((Kd.scalar enc h1).M w base ok) (Kd.scalar enc h1).sz xs inner) : inner = encs enc xs := by
  apply List.ext_getElem?
  intro j
  have hsz : (Kd.scalar enc h1).sz = 1 := rfl
  have hl0 : inner.length = xs.length := by have := h.1; rw [hsz] at this; omega
  rcases Nat.lt_or_ge j xs.length with hj | hj
  · have h2 := h.2 j _ (List.getElem?_eq_getElem hj)
    have hl : j < inner.length := by omega
    have h3 : (inner.drop (j * 1)).take 1 = [enc xs[j]] := h2
    rw [Nat.mul_one, List.drop_eq_getElem_cons hl] at h3
    have h4 : inner[j] = enc xs[j] := by
      have h5 := congrArg List.head? h3
      rw [List.take_succ_cons] at h5
      exact Option.some.inj h5
    rw [List.getElem?_eq_getElem hl, h4]
    simp [encs, List.getElem?_eq_getElem hj]
  · rw [List.getElem?_eq_none (by omega), List.getElem?_eq_none (by rw [encs_length]; omega)]
theorem reps_scalar' {α : Type} {enc : α → Value} {h1 : ∀ x, (enc x).oneCell' = true} {w : World} {base : Nat} {ok : Nat → Prop} (xs : List α) : Reps ((Kd.scalar enc h1).M w base ok) (Kd.scalar enc h1).sz xs (encs enc xs) := Kd.reps_scalar xs
section
variable {P : Program} {ops : Array Oper} {rest : List Oper} {o : Oper} {a : Act} {Q : Exit → Act → World → Prop} {Kc : Act → World → Prop} {α : Type}
theorem qs_append (w : World) (base : Nat) (t ty e : TypeId) (i : TypeInfo) (z : Value) (size bytes : Nat) (ht : P.underlying t = some (.slice e)) (hi : P.info? e = some i) (hz : i.zero = some z)
    (hsize : i.size = size) (hby : i.bytes = bytes) (hzs : z.cells.size = size) (hsz : 0 < size)
    (A : Option Addr) (n cap c' : Nat) (xs : List Value) (hown : QRow w base e size (.slice A n c') n xs) (hnc : n ≤ cap) (hcc : cap ≤ c')
    (a : Addr) (m c : Nat) (news : List Value) (hl : news.length = m * size) (hnews : ∀ j u, news[j]? = some u → w.cell? (a.add j) = some u) (h1 : ∀ u ∈ news, u.oneCell' = true) (hm : 0 < m)
    (h63 : n + m ≤ maxLen) (hbytes : (n + m) * bytes ≤ 140737488355328) (hbase : base ≤ w.heap.size) :
    ∃ B p p' w', (Builtin.append_ #[t, t] ty #[.slice A n cap, .slice (some a) m c]).run P w = .ok (.slice B (n + m) p) w' ∧ n + m ≤ p ∧ p ≤ p' ∧ QRow w' base e size (.slice B (n + m) p') (n + m) (xs ++ news) ∧ w.grownBy w' (Value.slice A n c').ownBlock ∧
      ((Value.slice B (n + m) p').ownBlock = (Value.slice A n c').ownBlock ∨ ∃ b, (Value.slice B (n + m) p').ownBlock = some b ∧ w.heap.size ≤ b) := by
  cases A with
  | none =>
    rcases hown.2 with ⟨h0, A, hv, hA⟩ | ⟨g, off, cap, cur, hv, hbg, hg, hnc, hcm, hcs, htake⟩
    · injection hv with e1 e2 e3
      subst e1; subst e3
      have : cap = 0 := by omega
      subst this
      obtain ⟨v', w', hr, hq, hg, hat⟩ := q_append (P := P) w base t ty e i z size bytes ht hi hz hsize hby hzs hsz (.slice none n 0) n xs hown a m c news hl hnews h1 hm h63 hbytes hbase
      obtain ⟨B, p, rfl, hp⟩ := q_slice hq
      exact ⟨B, p, p, w', hr, hp, Nat.le_refl _, hq, hg, hat⟩
    · injection hv with e1 e2 e3
      cases e1
  | some b =>
    by_cases hroom : n + m ≤ cap
    · rcases hown.2 with ⟨h0, A, hv, hA⟩ | ⟨g, off, cap', cur, hv, hbg, hg, hnc', hcm, hcs, htake⟩
      · injection hv with e1 e2 e3
        omega
      · injection hv with e1 e2 e3
        injection e1 with e1
        subst e1; subst e3
        have hfit : off * size + n * size + news.length ≤ cur.size := by
          rw [hl, hcs, ← Nat.add_mul, ← Nat.add_mul]
          exact Nat.mul_le_mul_right _ (by omega)
        subst hsize
        have hr := run_append_room_cells (P := P) (w := w) t ty e i ht hi g (off * i.size) n cap a m c news hl hnews h1 hroom
          (fun j hj => by rw [cell_of_row w g _ cur e (0, 0) hg]; simp; omega) (fun j _ => blk_frozen hg _)
        obtain ⟨cur', h3, h4, h5⟩ := setCells_row news (off * i.size + n * i.size) w cur hg hfit
        obtain ⟨s1, s2, s3, s4⟩ := setCells_same g news (off * i.size + n * i.size) w
        refine ⟨_, _, c', _, hr, hroom, hcc, ⟨by rw [List.length_append, hown.1, hl, Nat.add_mul], .inr ⟨g, off, c', cur', rfl, hbg, h3, by omega, hcm, by rw [h4, hcs], ?_⟩⟩,
          ⟨s1, s2, s3, by rw [s4]; exact Nat.le_refl _, fun k _ hk => setCells_far news _ k (fun he => hk (by rw [he]; simp [Value.ownBlock]))⟩, .inl rfl⟩
        rw [h5, List.append_assoc, List.drop_append_of_le_length (by rw [List.length_take, Array.length_toList]; omega), List.drop_take]
        rw [show off * i.size + n * i.size - off * i.size = n * i.size by omega, htake]
        rw [← List.append_assoc]
        exact List.take_left' (by rw [List.length_append, hown.1, hl, Nat.add_mul])
    · have hcells : ∀ j u, xs[j]? = some u → w.cell? (b.add j) = some u := by
        intro j u hu
        rcases hown.2 with ⟨h0, A, hv, hA⟩ | ⟨g, off, cap', cur, hv, hbg, hg, hnc', hcm, hcs, htake⟩
        · have hx : xs = [] := List.eq_nil_of_length_eq_zero (by rw [hown.1, h0, Nat.zero_mul])
          rw [hx] at hu
          simp at hu
        · injection hv with e1 e2 e3
          injection e1 with e1
          subst e1
          rw [add_at, cell_of_row w g _ cur e (0, 0) hg]
          rw [← htake, List.getElem?_take] at hu
          split at hu
          · rw [List.getElem?_drop] at hu
            rw [← Array.getElem?_toList]
            exact hu
          · cases hu
      obtain ⟨v', w', hr, ho, hg⟩ := run_append_arg_grows (P := P) (w := w) t ty e i z size bytes ht hi hz hsize hby hzs hsz b n cap xs hown.1 hcells a m c news hl hnews (by omega) h63 hbytes
      obtain ⟨g', cap', he, hb, _⟩ := ho.form (by omega)
      have hq := q_lower (q_of_own ho) hbase
      subst he
      obtain ⟨_, _, he2, hp⟩ := q_slice hq
      injection he2 with _ _ he3
      subst he3
      exact ⟨_, _, _, w', hr, hp, Nat.le_refl _, hq, ⟨hg.os, hg.tape, hg.output, hg.size, fun k hk _ => hg.block k hk (by simp)⟩, .inr ⟨g', by simp [Value.ownBlock], hb⟩⟩
/-- append(v, ys...), as a run: the new elements lead to okp. -/
theorem app_gen {d : Kd α} {w : World} (t ty e : TypeId) (z : Value) (bytes : Nat)
    (ht : P.underlying t = some (.slice e)) (hinfo : (P.info? e).map (fun i => (i.zero, i.size, i.bytes)) = some (some z, d.sz, bytes)) (hz : z.cells.size = d.sz) (hs0 : 0 < d.sz) (hb0 : 0 < bytes)
    {v : Value} {xs ys : List α} {A : Option Addr} {m c : Nat} {T okp : Nat → Prop} (HO : Qs d e w 0 T v xs) (HR : ReadsRow (d.M w 0 okp) d.sz w A m ys) (hd : ∀ k, okp k → T k → False) (hl : (xs.length + m) * bytes ≤ 140737488355328) :
    ∃ v1 w1, (Builtin.append_ #[t, t] ty #[v, .slice A m c]).run P w = .ok v1 w1 ∧ Qs d e w1 0 (fun k => T k ∨ okp k ∨ w.heap.size ≤ k) v1 (xs ++ ys) ∧ Keep T w w1 := by
  obtain ⟨i0, hi, hzz⟩ := Option.map_eq_some_iff.1 hinfo
  simp only [Prod.mk.injEq] at hzz
  obtain ⟨hz0, hz1, hz2⟩ := hzz
  have hm : ys.length = m := HR.1
  have hlen : xs.length + m ≤ 140737488355328 := Nat.le_trans (Nat.le_mul_of_pos_right _ hb0) hl
  obtain ⟨B, n, cp, c', rfl, hncp, hcp, hQ⟩ := HO
  have hn := (Kd.Q_reads' hQ).1
  subst hn
  obtain ⟨hok, inner, hown, hr⟩ := hQ
  rcases Nat.eq_zero_or_pos m with h0 | hp
  · subst h0
    obtain rfl : ys = [] := List.eq_nil_of_length_eq_zero hm
    refine ⟨_, w, ?_, by rw [List.append_nil]; exact ⟨B, _, cp, c', rfl, hncp, hcp, Kd.Q_mono ⟨hok, inner, hown, hr⟩ (fun _ h => .inl h)⟩, .refl _ _⟩
    cases A <;> cases B <;> simp [Builtin.append_, run_underlying ht, sizeOf, typeInfo, hi, Builtin.lenOf, Builtin.firstCells, storeCells, loadCells, loadCellsFrom, hncp]
  · obtain ⟨ad, hA, _⟩ := HR.2.2 hp
    subst hA
    obtain ⟨nw, hnr, hnc⟩ := ReadsRow.inner_ HR
    have hone : ∀ u ∈ nw, u.oneCell' = true := by
      intro u hu
      obtain ⟨q, hq, rfl⟩ := List.mem_iff_getElem.1 hu
      have hql : q / d.sz < ys.length := by
        rw [Nat.div_lt_iff_lt_mul hs0, ← hnr.1]
        exact hq
      have hc := hnr.2 (q / d.sz) _ (List.getElem?_eq_getElem hql)
      refine d.K_one (d.K_of_M hc) _ ?_
      rw [List.mem_iff_getElem?]
      refine ⟨q % d.sz, ?_⟩
      rw [List.getElem?_take, if_pos (Nat.mod_lt _ hs0), List.getElem?_drop, Nat.mul_comm, Nat.div_add_mod, List.getElem?_eq_getElem hq]
    obtain ⟨B1, p, p', w1, hrun, hp1, hp2, h2, hg, hat⟩ := qs_append (P := P) w 0 t ty e i0 z d.sz bytes ht hi hz0 hz1 hz2 hz hs0 B xs.length cp c' inner hown hncp hcp ad m c nw (by rw [hnr.1, hm]) hnc hone hp (by simp only [maxLen]; omega) hl (Nat.zero_le _)
    have hne : ∀ k, some k ≠ (Value.slice B xs.length c').ownBlock → k < w.heap.size → some k ≠ (Value.slice B1 (xs.length + m) p').ownBlock := by
      intro k hk hlt
      rcases hat with hat | ⟨b, hb, hle⟩
      · rw [hat]; exact hk
      · rw [hb]
        intro he
        injection he with he
        omega
    have hkn : ∀ k, okp k → some k ≠ (Value.slice B xs.length c').ownBlock := fun k hk he => hd k hk (hok k he.symm)
    have step : ∀ {q : α} {cc : List Value} {o : Nat → Prop}, d.M w 0 o q cc → (∀ k, o k → (T k ∨ okp k) ∧ some k ≠ (Value.slice B xs.length c').ownBlock) → d.M w1 0 (fun k => (T k ∨ okp k ∨ w.heap.size ≤ k) ∧ some k ≠ (Value.slice B1 (xs.length + m) p').ownBlock) q cc := by
      intro q cc o hq ho
      have h1 := d.M_move (w1 := w1) (fun k hk => hg.block k hk.2.2.1 (ho k hk.1).2) (d.M_bound hq)
      exact d.M_mono (fun k hk => ⟨(ho k hk.1).1.elim .inl (fun h => .inr (.inl h)), hne k (ho k hk.1).2 hk.2.2.1⟩) h1
    refine ⟨_, w1, hrun, ⟨B1, _, p, p', rfl, hp1, hp2, fun k hk => ?_, inner ++ nw, by rw [List.length_append, hm]; exact h2, Kd.reps_append (hr.imp_ (fun _ _ hq => step hq (fun k hk => ⟨.inl hk.1, hk.2⟩))) (hnr.imp_ (fun _ _ hq => step hq (fun k hk => ⟨.inr hk, hkn k hk⟩)))⟩, .grown hg (fun k hk => hok k hk)⟩
    rcases hat with hat | ⟨b, hb, hle⟩
    · exact .inl (hok k (hat ▸ hk))
    · rw [hb] at hk; injection hk with hk; exact .inr (.inr (by omega))
/-- A kind whose values lead to no memory. -/
structure Flat {α : Type} (d : Kd α) : Prop where
  MK : ∀ {w base ok x cs}, d.K w x cs → d.M w base ok x cs
theorem flat_scalar {α : Type} {enc : α → Value} {h1 : ∀ x, (enc x).oneCell' = true} : Flat (Kd.scalar enc h1) := ⟨fun h => h⟩
theorem flat_int (k : IntKind) : Flat (Kd.int k) := ⟨fun h => h⟩
theorem flat_bool : Flat Kd.bool := ⟨fun h => h⟩
theorem flat_string : Flat Kd.string := ⟨fun h => h⟩
theorem Flat.reads {α : Type} {d : Kd α} (hf : Flat d) {w : World} {A : Option Addr} {n base : Nat} {ok : Nat → Prop} {xs : List α} (h : d.C w A n xs) : ReadsRow (d.M w base ok) d.sz w A n xs :=
  ⟨h.1, h.2.1, fun hp => let ⟨ad, e, hc⟩ := h.2.2 hp; ⟨ad, e, fun j p hj => let ⟨c, h1, h2, h3⟩ := hc j p hj; ⟨c, h1, hf.MK h2, h3⟩⟩⟩
/-- append(v, ys...) of scalars, as a run. -/
theorem app_run {enc : α → Value} {h1 : ∀ x, (enc x).oneCell' = true} (z0 : α) {w : World} (t ty e : TypeId) (z : Value) (bytes : Nat)
    (ht : P.underlying t = some (.slice e)) (hinfo : (P.info? e).map (fun i => (i.zero, i.size, i.bytes)) = some (some z, 1, bytes)) (hz : z.cells.size = 1) (hb0 : 0 < bytes)
    {v : Value} {xs ys : List α} {A : Option Addr} {m c : Nat} {T : Nat → Prop} (HO : Qs (Kd.scalar enc h1) e w 0 T v xs) (HR : (Kd.scalar enc h1).C w A m ys) (hl : (xs.length + m) * bytes ≤ 140737488355328) :
    ∃ v1 w1, (Builtin.append_ #[t, t] ty #[v, .slice A m c]).run P w = .ok v1 w1 ∧ Qs (Kd.scalar enc h1) e w1 0 (fun k => T k ∨ w.heap.size ≤ k) v1 (xs ++ ys) ∧ Keep T w w1 := by
  obtain ⟨v1, w1, g1, g2, g3⟩ := app_gen (P := P) (d := Kd.scalar enc h1) (T := T) (okp := fun _ => False) t ty e z bytes ht hinfo hz (show 0 < 1 by omega) hb0 HO (flat_scalar.reads HR) (fun _ h _ => h) (c := c) hl
  exact ⟨v1, w1, g1, Qs_mono g2 (fun k hk => hk.elim .inl (fun q => q.elim (fun q => q.elim) .inr)), g3⟩
theorem op_append0 {enc : α → Value} {h1 : ∀ x, (enc x).oneCell' = true} (z0 : α) {w : World} (s x : Operand) (t e : TypeId) (z : Value) (bytes : Nat)
    (ho : o.op = .call { callee := .builtin .append, args := #[s, x], argTypes := #[t, t] })
    (ht : P.underlying t = some (.slice e)) (hinfo : (P.info? e).map (fun i => (i.zero, i.size, i.bytes)) = some (some z, 1, bytes)) (hz : z.cells.size = 1) (hb0 : 0 < bytes)
    (v : Value) {xs ys : List α} {A : Option Addr} {m c : Nat} {S : Nat → Prop} {L : List Asr} (hs : a.eval s = v) (hx : a.eval x = .slice A m c) (hf : Fresh S w)
    (HO : SL (row (Kd.scalar enc h1) e v xs :: L) w S) (HR : (Kd.scalar enc h1).C w A m ys) (hl : (xs.length + m) * bytes ≤ 140737488355328)
    (h : ∀ v1 w1, SL (row (Kd.scalar enc h1) e v1 (xs ++ ys) :: L) w1 S → Keep S w w1 → Kc (a.put o.dst v1) w1) :
    Oper.wp P o a w Kc Q := by
  obtain ⟨T, U, g1, g2, g3, g4, g5⟩ := HO
  obtain ⟨v1, w1, hr1, hq, hk⟩ := app_run (P := P) z0 t o.type e z bytes ht hinfo hz hb0 (Qs_mono (Qs_bound g4) (fun k hk => (⟨hk.1, hk.2.2.1⟩ : T k ∧ k < w.heap.size))) HR (c := c) hl
  have hH := SL.upd (A := row (Kd.scalar enc h1) e v xs) (B := row (Kd.scalar enc h1) e v1 (xs ++ ys)) (w' := w1) hf ⟨T, U, g1, g2, g3, g4, g5⟩
  unfold Oper.wp execOp
  simp only [ho, resolve, invoke, builtin, Sem.run_bind, Sem.run_pure, Result.andThen_ok, List.map_toArray, List.map_cons, List.map_nil, hs, hx, hr1]
  refine h v1 w1 ?_ (hk.sub fun k q => g1 k q.1)
  exact ⟨fun k => (T k ∧ k < w.heap.size) ∨ w.heap.size ≤ k, fun k => U k ∧ k < w.heap.size, fun k hk => hk.elim (fun q => g1 k q.1) (hf k), fun k hk => g2 k hk.1, fun k hk hk' => hk.elim (fun q => g3 k q.1 hk'.1) (fun q => by have := hk'.2; omega), hq, SL.far (SL.bound g5) hk (fun k q q' => g3 k q'.1 q.1)⟩
end
theorem SL.row_c {α : Type} {d : Kd α} {e : Nat} {A : Option Addr} {n c : Nat} {xs : List α} {L : List Asr} {w : World} {S : Nat → Prop} : SL (row d e (.slice A n c) xs :: L) w S → n = xs.length ∧ n ≤ c ∧ d.C w A n xs := fun ⟨_, _, _, _, _, h, _⟩ => by
  obtain ⟨h1, h2, h3⟩ := Qs_reads' h
  exact ⟨h1, h2, h1 ▸ h3⟩
theorem SL.get4 {A B C D E : Asr} {L : List Asr} {w : World} {S : Nat → Prop} (h : SL (A :: B :: C :: D :: E :: L) w S) : SL (E :: A :: B :: C :: D :: L) w S := SL.swap (SL.cons (fun _ _ => SL.get3) h)
theorem SL.get5 {A B C D E F : Asr} {L : List Asr} {w : World} {S : Nat → Prop} (h : SL (A :: B :: C :: D :: E :: F :: L) w S) : SL (F :: A :: B :: C :: D :: E :: L) w S := SL.swap (SL.cons (fun _ _ => SL.get4) h)
theorem SL.get6 {A B C D E F G : Asr} {L : List Asr} {w : World} {S : Nat → Prop} (h : SL (A :: B :: C :: D :: E :: F :: G :: L) w S) : SL (G :: A :: B :: C :: D :: E :: F :: L) w S := SL.swap (SL.cons (fun _ _ => SL.get5) h)
theorem SL.get7 {A B C D E F G I : Asr} {L : List Asr} {w : World} {S : Nat → Prop} (h : SL (A :: B :: C :: D :: E :: F :: G :: I :: L) w S) : SL (I :: A :: B :: C :: D :: E :: F :: G :: L) w S := SL.swap (SL.cons (fun _ _ => SL.get6) h)
theorem SL.get8 {A B C D E F G I J : Asr} {L : List Asr} {w : World} {S : Nat → Prop} (h : SL (A :: B :: C :: D :: E :: F :: G :: I :: J :: L) w S) : SL (J :: A :: B :: C :: D :: E :: F :: G :: I :: L) w S := SL.swap (SL.cons (fun _ _ => SL.get7) h)
theorem SL.get9 {A B C D E F G I J K : Asr} {L : List Asr} {w : World} {S : Nat → Prop} (h : SL (A :: B :: C :: D :: E :: F :: G :: I :: J :: K :: L) w S) : SL (K :: A :: B :: C :: D :: E :: F :: G :: I :: J :: L) w S := SL.swap (SL.cons (fun _ _ => SL.get8) h)
theorem SL.get1 {A B : Asr} {L : List Asr} {w : World} {S : Nat → Prop} (h : SL (A :: B :: L) w S) : SL (B :: A :: L) w S := SL.swap h
section
variable {P : Program} {ops : Array Oper} {rest : List Oper} {o : Oper} {a : Act} {Q : Exit → Act → World → Prop} {Kc : Act → World → Prop}
theorem op_value {w w1 : World} {v : Value} (hrun : (execOp a.eval o).run P w = .ok (.value v) w1) (h : Kc (a.put o.dst v) w1) : Oper.wp P o a w Kc Q := by
  unfold Oper.wp
  rw [hrun]
  exact h
theorem st_of {w : World} {N : Option Tmp} (hw : Region.wanted o (yielded ops a.tmps) = true) (h : Oper.wp P o a w Kc Q) : if Region.wanted o (yielded ops a.tmps) = true then Oper.wp P o a w Kc Q else Kc (a.put N undef) w := by
  rw [if_pos hw]
  exact h
theorem setCells_keep {S : Nat → Prop} {g : Nat} (hg : S g) (vs : List Value) (i : Nat) (w : World) : Keep S w (w.setCells g i vs) := by
  obtain ⟨s1, s2, s3, s4⟩ := setCells_same g vs i w
  exact ⟨s1, s2, s3, by rw [s4]; exact Nat.le_refl _, fun k _ hk => setCells_far vs i k (fun e => hk (e ▸ hg))⟩
/-- What a run of cells written leaves of an array of cells. -/
def putSeg (vs : List Value) (i : Nat) (seg : List Value) : List Value := vs.take i ++ seg ++ vs.drop (i + seg.length)
theorem SL.sets {b : Nat} {t : TypeId} {vs : List Value} {L : List Asr} {w : World} {S : Nat → Prop} (h : SL (cells b t vs.toArray :: L) w S) (i : Nat) (seg : List Value) (hi : i + seg.length ≤ vs.length) :
    SL (cells b t (putSeg vs i seg).toArray :: L) (w.setCells b i seg) S ∧ Keep S w (w.setCells b i seg) := by
  obtain ⟨T, U, h1, h2, h3, h4, h5⟩ := h
  obtain ⟨cur', g1, g2, g3⟩ := setCells_row seg i w vs.toArray h4.2 (by simpa using hi)
  have hk : Keep T w (w.setCells b i seg) := setCells_keep h4.1 seg i w
  refine ⟨⟨T, U, h1, h2, h3, ⟨h4.1, ?_⟩, SL.far h5 hk (fun k hk hk' => h3 k hk' hk)⟩, hk.sub h1⟩
  rw [g1]
  have : cur' = (putSeg vs i seg).toArray := by
    apply Array.ext'
    rw [g3]; rfl
  rw [this]
/-- A store into a variable in memory. -/
theorem op_store {w : World} (t : TypeId) (x y : Operand) (ho : o.op = .store t x y) (b i : Nat) (u : Value) (seg : List Value) (hx : a.eval x = .pointer (some ⟨b, i, none⟩)) (hy : a.eval y = u) (hu : u.cells.toList = seg)
    (ht : (P.info? t).map (·.size) = some seg.length) (h1 : ∀ q ∈ seg, q.oneCell' = true) {T : TypeId} {vs : List Value} {S : Nat → Prop} {L : List Asr} (H : SL (cells b T vs.toArray :: L) w S) (hi : i + seg.length ≤ vs.length)
    (h : ∀ w1, SL (cells b T (putSeg vs i seg).toArray :: L) w1 S → Keep S w w1 → Kc (a.put o.dst undef) w1) : Oper.wp P o a w Kc Q := by
  have hb := H.at_
  have hr := run_store_run (P := P) t u seg hb hu ht (by simpa using hi) h1
  obtain ⟨h2, h3⟩ := SL.sets H i seg hi
  unfold Oper.wp execOp
  simp only [ho, hx, hy, hr, Sem.run_bind, Sem.run_pure, Result.andThen_ok]
  exact h _ h2 h3
/-- A variable in memory that is made. -/
theorem op_box {w : World} {cs : Array Value} {t : TypeId} {S : Nat → Prop} {L : List Asr} (hf : Fresh S w) (H : SL L w S)
    (hrun : (execOp a.eval o).run P w = .ok (.value (.pointer (some ⟨w.heap.size, 0, none⟩))) (w.alloc (.cells cs t (0, 0))))
    (h : ∀ g w1, SL (cells g t cs :: L) w1 S → Keep S w w1 → Kc (a.put o.dst (.pointer (some ⟨g, 0, none⟩))) w1) : Oper.wp P o a w Kc Q :=
  op_value hrun (h _ _ (SL.alloc hf H cs t) (.below (below_alloc (Below.refl _ _) _)))
/-- A row that is made, as a literal or by make. -/
theorem op_row {α : Type} {enc : α → Value} {h1 : ∀ x, (enc x).oneCell' = true} {w : World} (e : TypeId) (xs : List α) (cs : Array Value) (n : Nat) (hcs : cs.toList = encs enc xs) (hn : xs.length = n) (hm : n ≤ 9223372036854775807) {S : Nat → Prop} {L : List Asr} (hf : Fresh S w) (H : SL L w S)
    (hrun : (execOp a.eval o).run P w = .ok (.value (.slice (some ⟨w.heap.size, 0, none⟩) n n)) (w.alloc (.cells cs e (0, 0))))
    (h : ∀ A c w1, SL (row (Kd.scalar enc h1) e (.slice A n c) xs :: L) w1 S → Keep S w w1 → Kc (a.put o.dst (.slice A n c)) w1) : Oper.wp P o a w Kc Q := by
  refine op_value hrun (h _ _ _ (SL.new hf H (below_alloc (Below.refl _ _) _) ?_).1 (.below (below_alloc (Below.refl _ _) _)))
  have hl := World.ownsRow_lit (base := w.heap.size) (e := e) (size := 1) w cs n (Nat.le_refl _) (by simpa [maxLen] using hm) (by
    have := congrArg List.length hcs
    rw [Array.length_toList, encs_length, hn] at this
    rw [this, Nat.mul_one])
  subst hn
  rw [hcs] at hl
  exact row_of_R (Kd.R_of_own (ok := fun _ => True) (h1 := h1) hl (fun _ _ => trivial))
/-- A cut of a row: what it comes to, as a value, of an own row, and as what is read. -/
theorem cut_of {α : Type} (d : Kd α) (t e : TypeId) (kl kh : IntKind) {size : Nat} (ht : P.underlying t = some (.slice e)) (hi : (P.info? e).map (·.size) = some size) (hsz : d.sz = size) (A : Option Addr) (n c : Nat) (xs : List α) (hn : n = xs.length) (hc : n ≤ c) (j : Int) (h0 : 0 ≤ j) (hm : j ≤ n) (y : List α) (hy : xs.drop j.toNat = y) :
    ∃ A' c', (∀ W : World, (Instr.slice t (.slice A n c) (some (.int kl j)) none none).run P W = .ok (.slice A' y.length c') W) ∧ (∀ S L w, SL (row d e (.slice A n c) xs :: L) w S → SL (row d e (.slice A' y.length c') y :: L) w S) ∧ (∀ w, d.C w A n xs → d.C w A' y.length y) ∧ y.length ≤ c' := by
  subst hn
  subst hy
  obtain ⟨i, hi1, hi2⟩ := Option.map_eq_some_iff.1 hi
  have hl : (xs.drop j.toNat).length = xs.length - j.toNat := List.length_drop
  refine ⟨if c = j.toNat then A else A.map (·.add (j.toNat * size)), c - j.toNat, fun W => ?_, fun S L w h => ?_, fun w h => ?_, by omega⟩
  · rw [hl]
    exact Go.Proofs.YtbhgohomgfjjfaaW.PrintWords.cut_from t e kl ht hi1 size hi2 A xs.length c j h0 hm W
  · rw [hl, ← hsz]
    exact SL.row_drop (k := j.toNat) h (by omega)
  · rw [← hsz]
    exact Kd.C_drop (m := j.toNat) h (by omega) hc
theorem cut_upto {α : Type} (d : Kd α) (t e : TypeId) (kl kh : IntKind) {size : Nat} (ht : P.underlying t = some (.slice e)) (hi : (P.info? e).map (·.size) = some size) (hsz : d.sz = size) (A : Option Addr) (n c : Nat) (xs : List α) (hn : n = xs.length) (hc : n ≤ c) (j : Int) (h0 : 0 ≤ j) (hm : j ≤ n) (y : List α) (hy : xs.take j.toNat = y) :
    (∀ W : World, (Instr.slice t (.slice A n c) none (some (.int kh j)) none).run P W = .ok (.slice A y.length c) W) ∧ (∀ S L w, SL (row d e (.slice A n c) xs :: L) w S → SL (row d e (.slice A y.length c) y :: L) w S) ∧ (∀ w, d.C w A n xs → d.C w A y.length y) ∧ y.length ≤ c := by
  subst hn
  subst hy
  obtain ⟨i, hi1, hi2⟩ := Option.map_eq_some_iff.1 hi
  have hl : (xs.take j.toNat).length = j.toNat := by rw [List.length_take]; omega
  refine ⟨fun W => ?_, fun S L w h => ?_, fun w h => ?_, by omega⟩
  · rw [hl]
    exact Go.Proofs.YtbhgohomgfjjfaaW.PrintWords.cut_to t e kh ht hi1 A xs.length c j h0 hm hc W
  · rw [hl]
    exact SL.row_take (m := j.toNat) h (by omega)
  · exact Kd.C_take (m := j.toNat) h (by omega)
end

theorem SL.row_len {α : Type} {d : Kd α} {e : Nat} {A : Option Addr} {n c : Nat} {xs : List α} {L : List Asr} {w : World} {S : Nat → Prop} (h : SL (row d e (.slice A n c) xs :: L) w S) : SL (row d e (.slice A xs.length c) xs :: L) w S := by
  have e_ := (SL.row_c h).1
  subst e_
  exact h
theorem Qs_c {α : Type} {d : Kd α} {e : Nat} {A : Option Addr} {n c base : Nat} {ok : Nat → Prop} {xs : List α} {w : World} (h : Qs d e w base ok (.slice A n c) xs) : n = xs.length ∧ n ≤ c ∧ d.C w A n xs := by
  obtain ⟨h1, h2, h3⟩ := Qs_reads' h
  exact ⟨h1, h2, h1 ▸ h3⟩

section
variable {P : Program} {ops : Array Oper} {rest : List Oper} {o : Oper} {a : Act} {Q : Exit → Act → World → Prop} {Kc : Act → World → Prop} {α : Type}
theorem op_append {enc : α → Value} {h1 : ∀ x, (enc x).oneCell' = true} (z0 : α) {w : World} (s x : Operand) (t e : TypeId) (z : Value) (bytes : Nat)
    (ho : o.op = .call { callee := .builtin .append, args := #[s, x], argTypes := #[t, t] })
    (ht : P.underlying t = some (.slice e)) (hinfo : (P.info? e).map (fun i => (i.zero, i.size, i.bytes)) = some (some z, 1, bytes)) (hz : z.cells.size = 1) (hb0 : 0 < bytes)
    (v : Value) {xs ys : List α} {A : Option Addr} {m c : Nat} {S : Nat → Prop} {L : List Asr} (hs : a.eval s = v) (hx : a.eval x = .slice A m c) (hf : Fresh S w)
    (HO : SL (row (Kd.scalar enc h1) e v xs :: L) w S) (HR : (Kd.scalar enc h1).C w A m ys) (hl : (xs.length + m) * bytes ≤ 140737488355328) (y : List α) (hy : xs ++ ys = y)
    (h : ∀ A c w1, SL (row (Kd.scalar enc h1) e (.slice A y.length c) y :: L) w1 S → Keep S w w1 → Kc (a.put o.dst (.slice A y.length c)) w1) :
    Oper.wp P o a w Kc Q := by
  subst hy
  refine op_append0 (S := S) z0 s x t e z bytes ho ht hinfo hz hb0 v hs hx hf HO HR hl fun v1 w1 h2 h3 => ?_
  obtain ⟨A', c', hv, _, _⟩ := SL.row_reads h2
  subst hv
  exact h _ _ _ h2 h3
theorem op_make {enc : α → Value} {h1 : ∀ x, (enc x).oneCell' = true} (z0 : α) {w : World} (t e : TypeId) (bytes : Nat) (x y : Operand) (ho : o.op = .makeSlice t x y)
    (ht : P.underlying t = some (.slice e)) (hinfo : (P.info? e).map (fun i => (i.zero, i.size, i.bytes)) = some (some (enc z0), 1, bytes)) (hz : (enc z0).cells = #[enc z0]) (hb0 : 0 < bytes)
    (j : Int) (hx : a.eval x = .int .i64 j) (hy : a.eval y = .int .i64 j) (h0 : 0 ≤ j) (hn : j.toNat * bytes ≤ 281474976710656) (ys : List α) (hys : List.replicate j.toNat z0 = ys) {S : Nat → Prop} {L : List Asr} (hf : Fresh S w) (H : SL L w S)
    (h : ∀ A c w1, SL (row (Kd.scalar enc h1) e (.slice A ys.length c) ys :: L) w1 S → Keep S w w1 → Kc (a.put o.dst (.slice A ys.length c)) w1) :
    Oper.wp P o a w Kc Q := by
  subst hys
  have hj : ((j.toNat : Nat) : Int) = j := Int.toNat_of_nonneg h0
  have hm : j.toNat ≤ 281474976710656 := Nat.le_trans (Nat.le_mul_of_pos_right _ hb0) hn
  have hr := print_make_of (P := P) t e (enc z0) bytes ht hinfo hz hb0 j.toNat hn w
  rw [hj] at hr
  have hl : (List.replicate j.toNat z0).length = j.toNat := by simp
  have hown := own_made_of (enc := enc) (d := z0) w w.heap.size e j.toNat (Nat.le_refl _) (by omega)
  unfold Oper.wp execOp
  simp only [ho, hx, hy, hr, Sem.run_bind, Sem.run_pure, Result.andThen_ok]
  have hrow : (row (Kd.scalar enc h1) e (.slice (some ⟨w.heap.size, 0, none⟩) (List.replicate j.toNat z0).length (List.replicate j.toNat z0).length) (List.replicate j.toNat z0)).H (w.alloc (.cells (madeCells #[enc z0] j.toNat) e)) (news w) := by
    refine row_of_R (Kd.R_of_own (ok := fun _ => True) (h1 := h1) ?_ (fun _ _ => trivial))
    rw [hl]
    exact hown
  have h2 := h _ _ _ (SL.new hf H (below_alloc (Below.refl _ _) _) hrow).1 (.below (below_alloc (Below.refl _ _) _))
  rw [hl] at h2
  exact h2
theorem op_set {enc : α → Value} {h1 : ∀ x, (enc x).oneCell' = true} {w : World} (t : TypeId) (x y : Operand) (ho : o.op = .store t x y) (ad : Addr) (i : Int) (u : α) {e : TypeId} {n c : Nat} {xs : List α} {S : Nat → Prop} {L : List Asr}
    (H : SL (row (Kd.scalar enc h1) e (.slice (some ad) n c) xs :: L) w S) (hx : a.eval x = .pointer (some (ad.add i.toNat))) (hy : a.eval y = enc u) (ht : (P.info? t).map (·.size) = some 1) (h0 : 0 ≤ i) (hi : i < n) (ys : List α) (hys : xs.set i.toNat u = ys)
    (h : ∀ w1, SL (row (Kd.scalar enc h1) e (.slice (some ad) n c) ys :: L) w1 S → Keep S w w1 → Kc (a.put o.dst undef) w1) : Oper.wp P o a w Kc Q := by
  subst hys
  obtain ⟨T, U, g1, g2, g3, g4q, g5⟩ := H
  have hn := (Qs_c g4q).1
  obtain ⟨hnc, c', hcc, g4⟩ := Qs_open g4q
  obtain ⟨g, of, cap, hv, _, hlt, cur, hcur⟩ := Kd.Q_form g4 (by omega)
  injection hv with hv1 _ _
  injection hv1 with hv1
  subst hv1
  have g4' : (Kd.scalar enc h1).Q e w 0 T (.slice (some ⟨g, of, none⟩) n c') xs := g4
  obtain ⟨p1, p2⟩ := Kd.Q_putg (h1 := h1) g4' i h0 hi u
  have hc := (Kd.Q_cell (h1 := h1) u g4' i h0 hi).1
  have hT : T g := g4.1 g (by simp [Value.ownBlock])
  have ha : (⟨g, of, none⟩ : Addr).add i.toNat = ⟨g, of + i.toNat, none⟩ := add_at _ _ _
  have hk : Keep T w (w.setCell ⟨g, of + i.toNat, none⟩ (enc u)) := Keep.set (S := T) (p := ⟨g, of + i.toNat, none⟩) hT _
  have h2 := h (w.setCell ⟨g, of + i.toNat, none⟩ (enc u)) ⟨T, U, g1, g2, g3, ⟨_, _, c, c', rfl, hnc, hcc, p1⟩, SL.far g5 hk (fun k q q' => g3 k q' q)⟩ (hk.sub g1)
  have hcu : (enc u).cells.toList = [enc u] := by rw [Go.Lib.cells_one (h1 u)]
  rw [cell_of_row w g _ cur e (0, 0) hcur] at hc
  have hfit : of + i.toNat + [enc u].length ≤ cur.size := by
    have := (Array.getElem?_eq_some_iff.1 hc).1
    simp; omega
  have hr := run_store_run (P := P) t (enc u) [enc u] hcur hcu (by simpa using ht) hfit (by intro q hq; rw [List.mem_singleton.1 hq]; exact h1 u)
  unfold Oper.wp execOp
  rw [ha] at hx
  simp only [ho, hx, hy, hr, Sem.run_bind, Sem.run_pure, Result.andThen_ok]
  exact h2
end
theorem SL.get10 {X0 X1 X2 X3 X4 X5 X6 X7 X8 X9 X10 : Asr} {L : List Asr} {w : World} {S : Nat → Prop} (h : SL (X0 :: X1 :: X2 :: X3 :: X4 :: X5 :: X6 :: X7 :: X8 :: X9 :: X10 :: L) w S) : SL (X10 :: X0 :: X1 :: X2 :: X3 :: X4 :: X5 :: X6 :: X7 :: X8 :: X9 :: L) w S := SL.swap (SL.cons (fun _ _ => SL.get9) h)
theorem SL.back10 {X0 X1 X2 X3 X4 X5 X6 X7 X8 X9 X10 : Asr} {L : List Asr} {w : World} {S : Nat → Prop} (h : SL (X10 :: X0 :: X1 :: X2 :: X3 :: X4 :: X5 :: X6 :: X7 :: X8 :: X9 :: L) w S) : SL (X0 :: X1 :: X2 :: X3 :: X4 :: X5 :: X6 :: X7 :: X8 :: X9 :: X10 :: L) w S := SL.cons (fun _ _ => SL.back9) (SL.swap h)
theorem SL.get11 {X0 X1 X2 X3 X4 X5 X6 X7 X8 X9 X10 X11 : Asr} {L : List Asr} {w : World} {S : Nat → Prop} (h : SL (X0 :: X1 :: X2 :: X3 :: X4 :: X5 :: X6 :: X7 :: X8 :: X9 :: X10 :: X11 :: L) w S) : SL (X11 :: X0 :: X1 :: X2 :: X3 :: X4 :: X5 :: X6 :: X7 :: X8 :: X9 :: X10 :: L) w S := SL.swap (SL.cons (fun _ _ => SL.get10) h)
theorem SL.back11 {X0 X1 X2 X3 X4 X5 X6 X7 X8 X9 X10 X11 : Asr} {L : List Asr} {w : World} {S : Nat → Prop} (h : SL (X11 :: X0 :: X1 :: X2 :: X3 :: X4 :: X5 :: X6 :: X7 :: X8 :: X9 :: X10 :: L) w S) : SL (X0 :: X1 :: X2 :: X3 :: X4 :: X5 :: X6 :: X7 :: X8 :: X9 :: X10 :: X11 :: L) w S := SL.cons (fun _ _ => SL.back10) (SL.swap h)
theorem SL.get12 {X0 X1 X2 X3 X4 X5 X6 X7 X8 X9 X10 X11 X12 : Asr} {L : List Asr} {w : World} {S : Nat → Prop} (h : SL (X0 :: X1 :: X2 :: X3 :: X4 :: X5 :: X6 :: X7 :: X8 :: X9 :: X10 :: X11 :: X12 :: L) w S) : SL (X12 :: X0 :: X1 :: X2 :: X3 :: X4 :: X5 :: X6 :: X7 :: X8 :: X9 :: X10 :: X11 :: L) w S := SL.swap (SL.cons (fun _ _ => SL.get11) h)
theorem SL.back12 {X0 X1 X2 X3 X4 X5 X6 X7 X8 X9 X10 X11 X12 : Asr} {L : List Asr} {w : World} {S : Nat → Prop} (h : SL (X12 :: X0 :: X1 :: X2 :: X3 :: X4 :: X5 :: X6 :: X7 :: X8 :: X9 :: X10 :: X11 :: L) w S) : SL (X0 :: X1 :: X2 :: X3 :: X4 :: X5 :: X6 :: X7 :: X8 :: X9 :: X10 :: X11 :: X12 :: L) w S := SL.cons (fun _ _ => SL.back11) (SL.swap h)
theorem SL.get13 {X0 X1 X2 X3 X4 X5 X6 X7 X8 X9 X10 X11 X12 X13 : Asr} {L : List Asr} {w : World} {S : Nat → Prop} (h : SL (X0 :: X1 :: X2 :: X3 :: X4 :: X5 :: X6 :: X7 :: X8 :: X9 :: X10 :: X11 :: X12 :: X13 :: L) w S) : SL (X13 :: X0 :: X1 :: X2 :: X3 :: X4 :: X5 :: X6 :: X7 :: X8 :: X9 :: X10 :: X11 :: X12 :: L) w S := SL.swap (SL.cons (fun _ _ => SL.get12) h)
theorem SL.back13 {X0 X1 X2 X3 X4 X5 X6 X7 X8 X9 X10 X11 X12 X13 : Asr} {L : List Asr} {w : World} {S : Nat → Prop} (h : SL (X13 :: X0 :: X1 :: X2 :: X3 :: X4 :: X5 :: X6 :: X7 :: X8 :: X9 :: X10 :: X11 :: X12 :: L) w S) : SL (X0 :: X1 :: X2 :: X3 :: X4 :: X5 :: X6 :: X7 :: X8 :: X9 :: X10 :: X11 :: X12 :: X13 :: L) w S := SL.cons (fun _ _ => SL.back12) (SL.swap h)
theorem SL.get14 {X0 X1 X2 X3 X4 X5 X6 X7 X8 X9 X10 X11 X12 X13 X14 : Asr} {L : List Asr} {w : World} {S : Nat → Prop} (h : SL (X0 :: X1 :: X2 :: X3 :: X4 :: X5 :: X6 :: X7 :: X8 :: X9 :: X10 :: X11 :: X12 :: X13 :: X14 :: L) w S) : SL (X14 :: X0 :: X1 :: X2 :: X3 :: X4 :: X5 :: X6 :: X7 :: X8 :: X9 :: X10 :: X11 :: X12 :: X13 :: L) w S := SL.swap (SL.cons (fun _ _ => SL.get13) h)
theorem SL.back14 {X0 X1 X2 X3 X4 X5 X6 X7 X8 X9 X10 X11 X12 X13 X14 : Asr} {L : List Asr} {w : World} {S : Nat → Prop} (h : SL (X14 :: X0 :: X1 :: X2 :: X3 :: X4 :: X5 :: X6 :: X7 :: X8 :: X9 :: X10 :: X11 :: X12 :: X13 :: L) w S) : SL (X0 :: X1 :: X2 :: X3 :: X4 :: X5 :: X6 :: X7 :: X8 :: X9 :: X10 :: X11 :: X12 :: X13 :: X14 :: L) w S := SL.cons (fun _ _ => SL.back13) (SL.swap h)
theorem SL.get15 {X0 X1 X2 X3 X4 X5 X6 X7 X8 X9 X10 X11 X12 X13 X14 X15 : Asr} {L : List Asr} {w : World} {S : Nat → Prop} (h : SL (X0 :: X1 :: X2 :: X3 :: X4 :: X5 :: X6 :: X7 :: X8 :: X9 :: X10 :: X11 :: X12 :: X13 :: X14 :: X15 :: L) w S) : SL (X15 :: X0 :: X1 :: X2 :: X3 :: X4 :: X5 :: X6 :: X7 :: X8 :: X9 :: X10 :: X11 :: X12 :: X13 :: X14 :: L) w S := SL.swap (SL.cons (fun _ _ => SL.get14) h)
theorem SL.back15 {X0 X1 X2 X3 X4 X5 X6 X7 X8 X9 X10 X11 X12 X13 X14 X15 : Asr} {L : List Asr} {w : World} {S : Nat → Prop} (h : SL (X15 :: X0 :: X1 :: X2 :: X3 :: X4 :: X5 :: X6 :: X7 :: X8 :: X9 :: X10 :: X11 :: X12 :: X13 :: X14 :: L) w S) : SL (X0 :: X1 :: X2 :: X3 :: X4 :: X5 :: X6 :: X7 :: X8 :: X9 :: X10 :: X11 :: X12 :: X13 :: X14 :: X15 :: L) w S := SL.cons (fun _ _ => SL.back14) (SL.swap h)
theorem SL.get16 {X0 X1 X2 X3 X4 X5 X6 X7 X8 X9 X10 X11 X12 X13 X14 X15 X16 : Asr} {L : List Asr} {w : World} {S : Nat → Prop} (h : SL (X0 :: X1 :: X2 :: X3 :: X4 :: X5 :: X6 :: X7 :: X8 :: X9 :: X10 :: X11 :: X12 :: X13 :: X14 :: X15 :: X16 :: L) w S) : SL (X16 :: X0 :: X1 :: X2 :: X3 :: X4 :: X5 :: X6 :: X7 :: X8 :: X9 :: X10 :: X11 :: X12 :: X13 :: X14 :: X15 :: L) w S := SL.swap (SL.cons (fun _ _ => SL.get15) h)
theorem SL.back16 {X0 X1 X2 X3 X4 X5 X6 X7 X8 X9 X10 X11 X12 X13 X14 X15 X16 : Asr} {L : List Asr} {w : World} {S : Nat → Prop} (h : SL (X16 :: X0 :: X1 :: X2 :: X3 :: X4 :: X5 :: X6 :: X7 :: X8 :: X9 :: X10 :: X11 :: X12 :: X13 :: X14 :: X15 :: L) w S) : SL (X0 :: X1 :: X2 :: X3 :: X4 :: X5 :: X6 :: X7 :: X8 :: X9 :: X10 :: X11 :: X12 :: X13 :: X14 :: X15 :: X16 :: L) w S := SL.cons (fun _ _ => SL.back15) (SL.swap h)
/-- What is read whatever happens in S lies outside of S. -/
theorem RO.elem {α : Type} {d : Kd α} {S : Nat → Prop} {w : World} {A : Option Addr} {n : Nat} {xs : List α} (h : RO S w (fun w_ => d.C w_ A n xs)) (z : α) (i : Int) (h0 : 0 ≤ i) (h1 : i < n) (hsz : 0 < d.sz) :
    ∃ ad cs, A = some ad ∧ cs.length = d.sz ∧ ∀ w', Keep S w w' → d.K w' (xs.getD i.toNat z) cs ∧ ∀ j u, cs[j]? = some u → w'.cell? (ad.add (i.toNat * d.sz + j)) = some u := by
  obtain ⟨ad, cs, hA, hl, hk, hc⟩ := Kd.C_get h.now z i h0 h1
  subst hA
  have far : ∀ j, j < d.sz → ¬ S (ad.add (i.toNat * d.sz + j)).block ∧ (ad.add (i.toNat * d.sz + j)).block < w.heap.size := by
    intro j hj
    have hcj := hc j _ (List.getElem?_eq_getElem (by omega))
    refine ⟨fun hs => ?_, World.block_lt_of_cell? w _ hcj⟩
    obtain ⟨ad2, cs2, hA2, hl2, hk2, hc2⟩ := Kd.C_get (h (w.setCell (ad.add (i.toNat * d.sz + j)) (.agg #[])) (Keep.set hs _)) z i h0 h1
    injection hA2 with hA2
    subst hA2
    have h3 := hc2 j _ (List.getElem?_eq_getElem (by omega))
    rw [World.cell?_setCell_same' _ _ _ (by rw [hcj]; rfl)] at h3
    injection h3 with h3
    have h4 := d.K_one hk2 _ (List.getElem_mem (by omega : j < cs2.length))
    rw [← h3] at h4
    cases h4
  refine ⟨ad, cs, rfl, hl, fun w' hw => ?_⟩
  obtain ⟨ad2, cs2, hA2, hl2, hk2, hc2⟩ := Kd.C_get (h w' hw) z i h0 h1
  injection hA2 with hA2
  subst hA2
  have he : cs2 = cs := by
    apply List.ext_getElem (by omega)
    intro j h5 h6
    have e1 := hc2 j _ (List.getElem?_eq_getElem h5)
    have e2 := hc j _ (List.getElem?_eq_getElem h6)
    obtain ⟨f1, f2⟩ := far j (by omega)
    rw [World.cell?_of_block (hw.block _ f2 f1), e2] at e1
    injection e1 with e1
    exact e1.symm
  subst he
  exact ⟨hk2, hc2⟩
theorem RO.cell {α : Type} {enc : α → Value} {h1 : ∀ x, (enc x).oneCell' = true} (z : α) {S : Nat → Prop} {w : World} {A : Option Addr} {n : Nat} {xs : List α} (h : RO S w (fun w_ => (Kd.scalar enc h1).C w_ A n xs)) (i : Int) (h0 : 0 ≤ i) (h2 : i < n) :
    ∃ ad, A = some ad ∧ ∀ w', Keep S w w' → w'.cell? (ad.add i.toNat) = some (enc (xs.getD i.toNat z)) := by
  obtain ⟨ad, cs, hA, hl, hk⟩ := RO.elem h z i h0 h2 (show 0 < 1 by omega)
  refine ⟨ad, hA, fun w' hw => ?_⟩
  obtain ⟨hc, hcell⟩ := hk w' hw
  have hc' : cs = [enc (xs.getD i.toNat z)] := hc
  subst hc'
  have := hcell 0 _ rfl
  rwa [Nat.add_zero, show (Kd.scalar enc h1).sz = 1 from rfl, Nat.mul_one] at this
/-- What a row of rows that came in leads to. -/
theorem SL.cell_int {k : IntKind} {e : Nat} {ad : Addr} {n c : Nat} {xs : List Int} {L : List Asr} {w : World} {S : Nat → Prop} (h : SL (row (Kd.int k) e (.slice (some ad) n c) xs :: L) w S) (i : Int) (h0 : 0 ≤ i) (h1 : i < n) : w.cell? (ad.add i.toNat) = some (.int k (rd xs i)) := by
  obtain ⟨ad2, e2, hx⟩ := Kd.at_int (SL.row_c h).2.2 i h0 h1
  injection e2 with e2
  subst e2
  exact hx
theorem RO.inner {α : Type} {d : Kd α} {e : Nat} {S : Nat → Prop} {w : World} {A : Option Addr} {n : Nat} {xs : List (List α)} (h : RO S w (fun w_ => (Kd.slice e d).C w_ A n xs)) (i : Int) (h0 : 0 ≤ i) (h1 : i < n) (y : List α) (hy : xs.getD i.toNat [] = y) :
    ∃ ad A' c', A = some ad ∧ (∀ w', Keep S w w' → w'.cell? (ad.add i.toNat) = some (.slice A' y.length c')) ∧ RO S w (fun w_ => d.C w_ A' y.length y) ∧ y.length ≤ c' := by
  subst hy
  obtain ⟨ad, cs, hA, hl, hk⟩ := RO.elem h [] i h0 h1 (show 0 < 1 by omega)
  obtain ⟨A', c', hcs, hle, hC⟩ := (hk w (.refl _ _)).1
  subst hcs
  refine ⟨ad, A', c', hA, fun w' hw => ?_, fun w' hw => ?_, hle⟩
  · have := (hk w' hw).2 0 _ rfl
    rwa [Nat.add_zero, show (Kd.slice e d).sz = 1 from rfl, Nat.mul_one] at this
  · obtain ⟨A2, c2, hcs2, _, hC2⟩ := (hk w' hw).1
    injection hcs2 with hcs2 _
    injection hcs2 with e1 _ _
    subst e1
    exact hC2
end Go.Proofs.YtbhgohomgfjjfaaS
