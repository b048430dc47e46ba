/- grid.Toward: what stands in memory about the range over way's tiles. -/
import Derived.Test.YtoalpmfkaijomaaTo1
set_option linter.unusedSimpArgs false
set_option linter.unusedVariables false
namespace Go.Proofs.YtoalpmfkaijomaaTo
open Go.RowKit Go.Shelf Go.Proofs.Ytoalpmfkaijomaa Go.Proofs.Ytoalpmfkaijomaa.XGR Go.Proofs.YtoalpmfkaijomaaW.PrintWords Go.Proofs.YtoalpmfkaijomaaW.PrintLast Go.Proofs.YtoalpmfkaijomaaW.PrintMore Go.Proofs.YtoalpmfkaijomaaV Go.Proofs.YtoalpmfkaijomaaS
attribute [local go_sem] Oper.semAt_some

/-- A block that is no cells. -/
def obj (k : Nat) (o : Obj) : Asr where
  H w S := S k ∧ w.heap[k]? = some o
  mono hs h := ⟨hs _ h.1, h.2⟩
  bound h := ⟨⟨h.1, (Array.getElem?_eq_some_iff.1 h.2).1⟩, h.2⟩
  move hm h := ⟨h.1, (hm _ h.1).trans h.2⟩
section
variable {S : Nat → Prop} {w : World} {L : List Asr}
theorem obj_at {k : Nat} {o : Obj} : SL (obj k o :: L) w S → w.heap[k]? = some o := fun ⟨_, _, _, _, _, h, _⟩ => h.2
theorem obj_in {k : Nat} {o : Obj} : SL (obj k o :: L) w S → S k := fun ⟨_, _, h1, _, _, h, _⟩ => h1 _ h.1
theorem obj_new (hf : Fresh S w) (h : SL L w S) (o : Obj) : SL (obj w.heap.size o :: L) (w.alloc o) S :=
  (SL.new (A := obj w.heap.size o) hf h (below_alloc (Below.refl _ _) _) ⟨Nat.le_refl _, World.alloc_heap_new w o⟩).1
theorem keep_putObj {k : Nat} (hk : S k) {w : World} (hlt : k < w.heap.size) (o : Obj) : Keep S w (w.putObj k o) :=
  .grown (grownBy_putObj' w k o) (fun j e => by injection e with e; rw [← e]; exact hk)
theorem obj_put {k : Nat} {o : Obj} (h : SL (obj k o :: L) w S) (o' : Obj) : SL (obj k o' :: L) (w.putObj k o') S := by
  obtain ⟨T, U, h1, h2, h3, h4, h5⟩ := h
  have hlt : k < w.heap.size := (Array.getElem?_eq_some_iff.1 h4.2).1
  exact ⟨T, U, h1, h2, h3, ⟨h4.1, World.putObj_heap_same hlt⟩, SL.far h5 (keep_putObj h4.1 hlt o') (fun k hk hk' => h3 k hk' hk)⟩
end
set_option maxHeartbeats 8000000 in
theorem way_in (S : Nat → Prop) (L : List Asr) (w : World) (hf : Fresh S w) (hs : SL L w S) (ax ay bx by_ : Int) :
    Calls Try.prog 27 #[.agg #[.int .i64 ax, .int .i64 ay], .agg #[.int .i64 bx, .int .i64 by_]] w fun e w' => ∃ b1 b2, e = .returned (.func (.func 41) #[] #[.pointer (some ⟨b1, 0, none⟩), .pointer (some ⟨b2, 0, none⟩)]) ∧
      SL (cells b1 23 [.int .i64 ax, .int .i64 ay].toArray :: cells b2 23 [.int .i64 bx, .int .i64 by_].toArray :: L) w' S ∧ Keep S w w' := by
  have hu23 := Try.underlying23
  go_enter Try.func27, Try.ntmps27
  go_wp2
  go_ret
  refine ⟨_, _, rfl, ?_, ?_⟩
  · have h1 := SL.alloc hf hs #[.int .i64 ax, .int .i64 ay] 23
    have hf1 : Fresh S (w.alloc (.cells #[.int .i64 ax, .int .i64 ay] 23 (0, 0))) := hf.keep (Keep.alloc (Keep.refl S w) _)
    have h2 := SL.alloc hf1 h1 #[.int .i64 bx, .int .i64 by_] 23
    have h3 := SL.swap h2
    simpa using h3
  · exact Keep.alloc (Keep.alloc (Keep.refl S w) _) _
/-- How the body of a round is left. -/
def postB (S : Nat → Prop) (w0 : World) (b1 b2 : Nat) (s2_0 s2_1 : Int) (C : Nat → Int → Int → Int → Prop) (LJ : Int → Int → Int → List Asr) (X : Int → Int → Prop) (LX : Int → Int → List Asr) (k : Nat) (sx sy : Int) (R : List Asr) : Exit → Act → World → Prop
  | .normal, _, W => ∃ k' n', k' < k ∧ C k' sx sy n' ∧ SL (cells b1 23 [.int .i64 sx, .int .i64 sy].toArray :: cells b2 23 [.int .i64 s2_0, .int .i64 s2_1].toArray :: (LJ sx sy n' ++ R)) W S ∧ Keep S w0 W
  | .exit id, _, W => id = 0 ∧ ∃ x y, X x y ∧ SL (LX x y ++ R) W S ∧ Keep S w0 W
  | _, _, _ => False
theorem SL.comm {L1 L2 : List Asr} {w : World} {S : Nat → Prop} (h : SL (L1 ++ L2) w S) : SL (L2 ++ L1) w S := SL.perm List.perm_append_comm h
set_option maxHeartbeats 4000000 in
theorem range_way {assign body : Code} {Q : Exit → Act → World → Prop} {a : Act} {w : World} (S : Nat → Prop) (w0 : World) (hf : Fresh S w0) (g : Operand) (t : Tmp) (b1 b2 : Nat) (s2_0 s2_1 : Int)
    (C : Nat → Int → Int → Int → Prop) (LJ : Int → Int → Int → List Asr) (X : Int → Int → Prop) (LX : Int → Int → List Asr)
    (hg : a.eval g = .func (.func 41) #[] #[.pointer (some ⟨b1, 0, none⟩), .pointer (some ⟨b2, 0, none⟩)])
    (k : Nat) (x y n : Int) (h0 : C k x y n) (hs : SL (cells b1 23 [.int .i64 x, .int .i64 y].toArray :: cells b2 23 [.int .i64 s2_0, .int .i64 s2_1].toArray :: LJ x y n) w S) (hk : Keep S w0 w)
    (hround : ∀ (l : Nat) (R : List Asr) (k : Nat) (x y n : Int) (W : World), C k x y n → ¬ (x = s2_0 ∧ y = s2_1) →
      SL (cells b1 23 [.int .i64 (step1 x s2_0), .int .i64 (step1 y s2_1)].toArray :: cells b2 23 [.int .i64 s2_0, .int .i64 s2_1].toArray :: (LJ x y n ++ R)) W S → Keep S w0 W →
      assign.wpIn (Fence.wide.inRound l) 5 Try.prog (Exit.then (fun a₁ w₁ => ∃ Lm : List Asr, SL (Lm ++ R) w₁ S ∧ Keep S w0 w₁ ∧ ∀ (R' : List Asr) (w₂ : World), SL (Lm ++ R') w₂ S → Keep S w0 w₂ →
        body.wpIn (Fence.wide.inRound l) 5 Try.prog (postB S w0 b1 b2 s2_0 s2_1 C LJ X LX k (step1 x s2_0) (step1 y s2_1) R') a₁ w₂) (fun _ _ _ => False))
        { tmps := a.tmps.setIfInBounds t (.agg #[.int .i64 (step1 x s2_0), .int .i64 (step1 y s2_1)]), defers := [] } W)
    (hdone : ∀ (D k : Nat) (n : Int) (W : World), C k s2_0 s2_1 n → SL (obj D (.deferred (some [])) :: LJ s2_0 s2_1 n) W S → Keep S w0 W → Q .normal { a with defers := { target := .collected D, args := #[] } :: a.defers } W)
    (hstop : ∀ (D : Nat) (x y : Int) (W : World), X x y → SL (obj D (.deferred (some [])) :: LX x y) W S → Keep S w0 W → (Code.exit 0).wpIn Fence.wide 7 Try.prog Q { a with defers := { target := .collected D, args := #[] } :: a.defers } W) :
    (Code.rangeFunc g #[t] assign body).wpIn Fence.wide 7 Try.prog Q a w := by
  refine wpIn_rangeFunc ?_
  intro fn hfn
  obtain ⟨rec, hrec⟩ : ∃ rec : LoopState → Option Code → Loop, rec = fun st pe => { state := st, pending := pe, fn, tmps := a.tmps, params := #[t], assign, body, defers := w.heap.size } := ⟨_, rfl⟩
  obtain ⟨W1, hW1⟩ : ∃ W1, (w.alloc (.deferred (some []))).alloc (.loop (rec .ready none)) = W1 := ⟨_, rfl⟩
  have hf0 : Fresh S w := hf.keep hk
  have s1 := obj_new hf0 hs (.deferred (some []))
  have hf1 : Fresh S (w.alloc (.deferred (some []))) := hf0.keep (Keep.alloc (Keep.refl S w) _)
  have s2 := obj_new hf1 s1 (.loop (rec .ready none))
  have hk1 : Keep S w0 W1 := by rw [← hW1]; exact Keep.alloc (Keep.alloc hk _) _
  rw [hW1, World.size_alloc] at s2
  refine ⟨w.heap.size + 1, [{ target := .collected w.heap.size, args := #[] }], W1, { target := .fn (.func 41) #[.pointer (some ⟨b1, 0, none⟩), .pointer (some ⟨b2, 0, none⟩)], args := #[.func (.yield (w.heap.size + 1)) #[] #[]] }, W1, 41,
    #[.func (.yield (w.heap.size + 1)) #[] #[]] ++ #[.pointer (some ⟨b1, 0, none⟩), .pointer (some ⟨b2, 0, none⟩)], W1, ?_, ?_, ?_, ?_, fun _ => by omega, ?_⟩
  · rw [← hW1, hrec]; exact run_enterLoop_outer _ _ _ _ _
  · simp only [resolve, hg]
    simp [go_sem]
  · intro f' hf'; trivial
  · have eg := fun args w => enters_of Try.func41 (by kernel_rfl) rfl args w
    simp [invoke, go_sem, eg]
  · obtain ⟨D, hD⟩ : ∃ D, w.heap.size = D := ⟨_, rfl⟩
    rw [hD] at s2 hrec ⊢
    have hw := way1_in S w0 hf (D + 1) b1 b2 s2_0 s2_1 C (fun x y n => LJ x y n ++ [obj (D + 1) (.loop (rec .ready none)), obj D (.deferred (some []))])
      (fun W => ∃ x y, X x y ∧ SL (LX x y ++ [obj (D + 1) (.loop (rec .done (some (.exit 0)))), obj D (.deferred (some []))]) W S ∧ Keep S w0 W) ?_ k x y n W1 h0 ?_ hk1
    · refine CallsIn.mono hw ?_
      rintro e W2 ⟨⟨v, rfl⟩, (⟨k', n', hc, hsl, hkk⟩ | ⟨x', y', hx, hsl, hkk⟩)⟩
      · have h3 : SL (obj (D + 1) (.loop (rec .ready none)) :: obj D (.deferred (some [])) :: LJ s2_0 s2_1 n') W2 S := SL.comm (L1 := LJ s2_0 s2_1 n') (SL.tail (SL.tail hsl))
        have hl := obj_at h3
        have hlt : D + 1 < W2.heap.size := (Array.getElem?_eq_some_iff.1 hl).1
        refine ⟨none, _, by have := run_endLoop (P := Try.prog) hl (by rw [hrec]; simp); rw [hrec] at this; exact this, ?_⟩
        exact hdone D k' n' _ hc (SL.tail (obj_put h3 _)) (hkk.trans (keep_putObj (obj_in h3) hlt _))
      · have h3 : SL (obj (D + 1) (.loop (rec .done (some (.exit 0)))) :: obj D (.deferred (some [])) :: LX x' y') W2 S := SL.comm (L1 := LX x' y') hsl
        have hl := obj_at h3
        have hlt : D + 1 < W2.heap.size := (Array.getElem?_eq_some_iff.1 hl).1
        refine ⟨some (.exit 0), _, by have := run_endLoop (P := Try.prog) hl (by rw [hrec]; simp); rw [hrec] at this; exact this, ?_⟩
        exact hstop D x' y' _ hx (SL.tail (obj_put h3 _)) (hkk.trans (keep_putObj (obj_in h3) hlt _))
    · -- ONE ROUND
      intro k x y n W hc hne hsl hkk
      have h3 : SL (obj (D + 1) (.loop (rec .ready none)) :: obj D (.deferred (some [])) :: (cells b1 23 [.int .i64 (step1 x s2_0), .int .i64 (step1 y s2_1)].toArray :: cells b2 23 [.int .i64 s2_0, .int .i64 s2_1].toArray :: LJ x y n)) W S :=
        SL.comm (L1 := cells b1 23 [.int .i64 (step1 x s2_0), .int .i64 (step1 y s2_1)].toArray :: cells b2 23 [.int .i64 s2_0, .int .i64 s2_1].toArray :: LJ x y n) hsl
      have hl := obj_at h3
      have hy := run_yield (P := Try.prog) (args := #[.agg #[.int .i64 (step1 x s2_0), .int .i64 (step1 y s2_1)]]) hl (by rw [hrec]; rfl)
      rw [hrec] at hy
      refine ⟨fn, a.tmps.setIfInBounds t (.agg #[.int .i64 (step1 x s2_0), .int .i64 (step1 y s2_1)]), assign, body, by simpa using hy, roundIn_of_wpIn trivial ?_⟩
      refine wpIn_mono (hround (D + 1) [obj (D + 1) (.loop (rec .ready none)), obj D (.deferred (some []))] k x y n W hc hne hsl hkk) ?_
      intro e a3 W3 hp
      cases e with
      | normal =>
        obtain ⟨Lm, g1, g2, g3⟩ := hp
        have h4 : SL (obj (D + 1) (.loop (rec .ready none)) :: obj D (.deferred (some [])) :: Lm) W3 S := SL.comm (L1 := Lm) g1
        have hl4 := obj_at h4
        have h5 := obj_put h4 (.loop { rec .ready none with state := .busy })
        refine ⟨_, run_beginRound hl4 (by rw [hrec]), ?_⟩
        have h6 := g3 [obj (D + 1) (.loop { rec .ready none with state := .busy }), obj D (.deferred (some []))] _ (SL.comm (L1 := [obj (D + 1) (.loop { rec .ready none with state := .busy }), obj D (.deferred (some []))]) h5) (g2.trans (keep_putObj (obj_in h4) (Array.getElem?_eq_some_iff.1 hl4).1 _))
        refine wpIn_mono h6 ?_
        intro e4 a4 W4 hp4
        cases e4 with
        | normal =>
          obtain ⟨k', n', q1, q2, q3, q4⟩ := hp4
          have h7 : SL (obj (D + 1) (.loop { rec .ready none with state := .busy }) :: obj D (.deferred (some [])) :: (cells b1 23 [.int .i64 (step1 x s2_0), .int .i64 (step1 y s2_1)].toArray :: cells b2 23 [.int .i64 s2_0, .int .i64 s2_1].toArray :: LJ (step1 x s2_0) (step1 y s2_1) n')) W4 S :=
            SL.comm (L1 := cells b1 23 [.int .i64 (step1 x s2_0), .int .i64 (step1 y s2_1)].toArray :: cells b2 23 [.int .i64 s2_0, .int .i64 s2_1].toArray :: LJ (step1 x s2_0) (step1 y s2_1) n') q3
          have hl7 := obj_at h7
          have h8 := obj_put h7 (.loop (rec .ready none))
          have hr := run_endRound (P := Try.prog) none hl7
          rw [hrec] at hr h8 hl7
          refine ⟨_, _, hr, .inl ⟨rfl, k', n', q1, q2, ?_, q4.trans (keep_putObj (obj_in h7) (Array.getElem?_eq_some_iff.1 hl7).1 _)⟩⟩
          rw [hrec]
          exact SL.comm (L1 := [obj (D + 1) _, obj D (.deferred (some []))]) h8
        | exit id =>
          obtain ⟨rfl, x', y', q1, q2, q3⟩ := hp4
          have h7 : SL (obj (D + 1) (.loop { rec .ready none with state := .busy }) :: obj D (.deferred (some [])) :: LX x' y') W4 S := SL.comm (L1 := LX x' y') q2
          have hl7 := obj_at h7
          have h8 := obj_put h7 (.loop (rec .done (some (.exit 0))))
          have hr := run_endRound (P := Try.prog) (some (.exit 0)) hl7
          rw [hrec] at hr h8 hl7
          refine ⟨_, _, hr, .inr ⟨rfl, x', y', q1, ?_, q3.trans (keep_putObj (obj_in h7) (Array.getElem?_eq_some_iff.1 hl7).1 _)⟩⟩
          rw [hrec]
          exact SL.comm (L1 := [obj (D + 1) _, obj D (.deferred (some []))]) h8
        | ret => exact hp4.elim
        | goto t => exact hp4.elim
        | panic c => exact hp4.elim
        | outgrown => exact hp4.elim
      | exit id => exact hp.elim
      | ret => exact hp.elim
      | goto t => exact hp.elim
      | panic c => exact hp.elim
      | outgrown => exact hp.elim
    · exact SL.comm (L1 := [obj (D + 1) (.loop (rec .ready none)), obj D (.deferred (some []))]) s2
end Go.Proofs.YtoalpmfkaijomaaTo
