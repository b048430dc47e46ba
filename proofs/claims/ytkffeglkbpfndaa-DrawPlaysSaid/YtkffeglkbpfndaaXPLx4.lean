-- Written by xprint.py (a program of this session) for this claim
import Derived.Test.YtkffeglkbpfndaaSL5
import Derived.Test.YtkffeglkbpfndaaXPLx0
import Derived.Test.YtkffeglkbpfndaaXPLx2
namespace Go.Proofs.Ytkffeglkbpfndaa.XPL
open Go.Proofs.YtkffeglkbpfndaaV Go.Proofs.YtkffeglkbpfndaaS
open Go.RowKit Go.Proofs.YtkffeglkbpfndaaW.PrintWords Go.Proofs.YtkffeglkbpfndaaW.PrintLast Go.Proofs.YtkffeglkbpfndaaW.PrintMore
attribute [local go_sem] max2_int min2_int max_two min_two max_three min_three max_four min_four   -- for this text's walks alone
set_option linter.unusedVariables false
set_option linter.unusedSimpArgs false

/-! ### a row that is read, and, perhaps, one that took its place -/
def orTwo (A B : Asr) (p : Prop) : Asr where
  H w S := ∃ T U : Nat → Prop, (∀ k, T k → S k) ∧ (∀ k, U k → S k) ∧ (∀ k, T k → U k → False) ∧ A.H w T ∧ (B.H w U ∨ p)
  mono hs := fun ⟨T, U, h1, h2, h3, h4, h5⟩ => ⟨T, U, fun k q => hs k (h1 k q), fun k q => hs k (h2 k q), h3, h4, h5⟩
  bound := fun ⟨T, U, h1, h2, h3, h4, h5⟩ => ⟨_, fun k => U k ∧ k < _, fun k q => ⟨h1 k q.1, q.2⟩, fun k q => ⟨h2 k q.1, q.2⟩, fun k q r => h3 k q.1 r.1, A.bound h4, h5.imp (fun h => B.bound h) id⟩
  move hm := fun ⟨T, U, h1, h2, h3, h4, h5⟩ => ⟨T, U, h1, h2, h3, A.move (fun k q => hm k (h1 k q)) h4, h5.imp (fun h => B.move (fun k q => hm k (h2 k q)) h) id⟩
theorem SL.po_of {A : Asr} {L : List Asr} {w : World} {S : Nat → Prop} : SL (A :: L) w S → SL (orTwo A A (A = A) :: L) w S := SL.imp (fun T h => ⟨T, fun _ => False, fun _ q => q, fun _ q => q.elim, fun _ _ q => q, h, .inr rfl⟩)
theorem SL.po_fst {A B : Asr} {p : Prop} {L : List Asr} {w : World} {S : Nat → Prop} : SL (orTwo A B p :: L) w S → SL (A :: L) w S := SL.imp (fun _ ⟨_, _, h1, _, _, h4, _⟩ => A.mono h1 h4)
theorem SL.po_snd {A B : Asr} {L : List Asr} {w : World} {S : Nat → Prop} : SL (orTwo A B (A = B) :: L) w S → SL (B :: L) w S := SL.imp (fun _ ⟨_, _, h1, h2, _, h4, h5⟩ => h5.elim (fun h => B.mono h2 h) (fun e => e ▸ A.mono h1 h4))
theorem SL.po_new {A B C : Asr} {p : Prop} {L : List Asr} {w : World} {S : Nat → Prop} : SL (orTwo A B p :: C :: L) w S → SL (orTwo A C (A = C) :: L) w S := by
  rintro ⟨T1, U1, a1, a2, a3, ⟨T, U, h1, h2, h3, h4, h5⟩, T2, U2, b1, b2, b3, b4, b5⟩
  exact ⟨fun k => T k ∨ T2 k, U2, fun k h => h.elim (fun h => a1 k (h1 k h)) (fun h => a2 k (b1 k h)), fun k h => a2 k (b2 k h), fun k h h' => h.elim (fun h => a3 k (h1 k h) (b2 k h')) (fun h => b3 k h h'), ⟨T, T2, fun k h => .inl h, fun k h => .inr h, fun k h h' => a3 k (h1 k h) (b1 k h'), h4, .inl b4⟩, b5⟩

def barrowref02_Stream_Below.Post2 (A_ : Asr) (b0 : Nat) (r1 : Int) (r2 : Bool) (r3 : List Int) (S : Nat → Prop) (L : List Asr) (w : World) (e : Ending) (w' : World) : Prop := ∃ (Ar3 : Option Addr) (cr3 : Nat), e = .returned (.tuple #[.int .i64 r1, .bool r2]) ∧ SL (cells b0 39 [.slice Ar3 r3.length cr3].toArray :: orTwo A_ (row (Kd.int .i64) 3 (.slice Ar3 r3.length cr3) r3) (A_ = row (Kd.int .i64) 3 (.slice Ar3 r3.length cr3) r3) :: L) w' S ∧ Keep S w w'
set_option maxHeartbeats 8000000 in
set_option maxRecDepth 100000 in
theorem barrowref02_Stream_Below.slcalls2 (A_ : Asr) (k : Nat) (a1 : Int) (b0 : Nat) (As0_0 : Option Addr) (cs0_0 : Nat) (s0_0 : List Int) (r1 : Int) (r2 : Bool) (r3 : List Int) (S : Nat → Prop) (L : List Asr) (w : World) (hf : Fresh S w) (hs : SL (cells b0 39 [.slice As0_0 s0_0.length cs0_0].toArray :: orTwo A_ (row (Kd.int .i64) 3 (.slice As0_0 s0_0.length cs0_0) s0_0) (A_ = row (Kd.int .i64) 3 (.slice As0_0 s0_0.length cs0_0) s0_0) :: L) w S) (h : barrowref02_Stream_Below.f k a1 s0_0 = some (r1, r2, r3)) :
    Calls Try.prog 16 #[.pointer (some ⟨b0, 0, none⟩), .int .i64 a1] w (barrowref02_Stream_Below.Post2 A_ b0 r1 r2 r3 S L w) := by
  have HF := Aside0.mk hf
  have HS := Aside0.mk hs
  have HK := Aside0.mk (Keep.refl S w)
  clear hf hs
  have H : ((barrowref02_Fair.f k s0_0 a1).bind fun bt172 => (if bt172.2.2 = true then ((some (([] : List Int) : List Int)).bind fun y175 => (if 0 ≤ bt172.2.1 then (if bt172.2.1 ≤ (s0_0.length : Int) then ((some (s0_0.drop (bt172.2.1).toNat : List Int)).bind fun y176 => (if y175.length + y176.length < 17592186044416 then ((some (y175 ++ y176 : List Int)).bind fun y180 => (some (bt172.1, true, y180))) else (none))) else (none)) else (none))) else (some (bt172.1, false, s0_0)))) = some (r1, r2, r3) := h
  clear h
  replace H := Option.bind_eq_some_iff.1 H
  obtain ⟨⟨t172, t173, t174⟩, Hc10, H⟩ := H
  try dsimp only at H
  have Hc1 := Aside0.mk Hc10
  clear Hc10
  by_cases c2 : t174 = true
  · subst c2
    rw [if_pos rfl] at H
    replace H := Option.bind_eq_some_iff.1 H
    obtain ⟨y175, hy1750, H⟩ := H
    try dsimp only at H
    have hy175 := Option.some.inj hy1750
    clear hy1750
    have Ny175 := Aside0.mk hy175
    clear hy175
    by_cases c3 : 0 ≤ t173
    · rw [if_pos c3] at H
      have c3b0 := eq_true c3
      have c3b1 : decide (0 ≤ t173) = true := decide_eq_true c3
      clear c3
      by_cases c4 : t173 ≤ (s0_0.length : Int)
      · rw [if_pos c4] at H
        have c4b0 := eq_true c4
        have c4b1 : decide (t173 ≤ (s0_0.length : Int)) = true := decide_eq_true c4
        clear c4
        replace H := Option.bind_eq_some_iff.1 H
        obtain ⟨y176, hy1760, H⟩ := H
        try dsimp only at H
        have hy176 := Option.some.inj hy1760
        clear hy1760
        have Ny176 := Aside0.mk hy176
        clear hy176
        by_cases c5 : y175.length + y176.length < 17592186044416
        · rw [if_pos c5] at H
          have LMc5 := Aside0.mk c5
          clear c5
          replace H := Option.bind_eq_some_iff.1 H
          obtain ⟨y180, hy1800, H⟩ := H
          try dsimp only at H
          have hy180 := Option.some.inj hy1800
          clear hy1800
          have Ny180 := Aside0.mk hy180
          clear hy180
          simp only [Option.some.injEq, Prod.mk.injEq] at H
          obtain ⟨rfl, rfl, rfl⟩ := H
          have hb_ := SL.at_ HS.out
          have hz0_0_0 := ((blk_cell hb_ 0).trans rfl : _ = some (.slice As0_0 s0_0.length cs0_0))
          clear hb_
          go_enter Try.func16, Try.ntmps16
          go_wp2_with (first | ((with_reducible refine gate_dst (N := 15) rfl ?_); refine goesL_ (some 15) rfl rfl Try.func10 (by kernel_rfl) rfl #[.slice As0_0 s0_0.length cs0_0, .int .i64 a1] rfl (by (try simp only [List.map_toArray, List.map_cons, List.map_nil]); first | done | rfl | (simp; done)) ?_; (with_reducible refine (barrowref02_Fair.calls k _ _ _ _ _ _ _ _ (SL.row_c (SL.po_snd (SL.get1 HS.out))).2.2 (SL.row_c (SL.po_snd (SL.get1 HS.out))).2.1 Hc1.out).mono ?_); rintro e_ w6 ⟨rfl, hb_⟩; refine ⟨_, rfl, ?_⟩; replace hb_ := Drawn0.below hb_; replace HS := Aside0.mk (HS.out.below hb_); replace HK := Aside0.mk (HK.out.trans (Keep.below hb_)); (try clear hz0_0_0)) | ((with_reducible refine gate_dst (N := 21) rfl ?_); refine wpList_plain rfl (fun K_ hK_ => ?_); refine op_row (S := S) (enc := Value.int .i64) (h1 := fun _ => rfl) 3 y175 #[] 0 (by rw [← Ny175.out]; rfl) (by rw [← Ny175.out]; rfl) (by decide) (HF.out.keep HK.out) HS.out (by first | (go_simp; done) | (go_simp; rfl)) ?_; intro Az3000008 cz3000008 w7 hs_ hk_; refine hK_ _ _ ?_; clear hK_ K_; replace HS := Aside0.mk ((show SL (row (Kd.int .i64) 3 (.slice Az3000008 0 cz3000008) y175 :: _) _ _ from hs_)); replace HK := Aside0.mk (HK.out.trans hk_); have hb_ := SL.at_ (SL.get1 HS.out); have hz0_0_2 := ((blk_cell hb_ 0).trans rfl : _ = some (.slice As0_0 s0_0.length cs0_0)); clear hb_; obtain ⟨A177, c178, hcvq179, hcs_, hcc_, hcl_⟩ := cut_of (P := Try.prog) (Kd.int .i64) 22 3 .i64 .i64 Try.underlying22 (by kernel_rfl) rfl As0_0 s0_0.length cs0_0 s0_0 rfl (SL.row_c (SL.po_snd (SL.get2 HS.out))).2.1 t173 (of_decide_eq_true (by first | (with_reducible assumption) | assumption) : (0 : Int) ≤ (t173 : Int)) (of_decide_eq_true (by first | (with_reducible assumption) | assumption) : (t173 : Int) ≤ ((s0_0.length : Int) : Int)) y176 Ny176.out; have HVq179 := Aside0.mk (And.intro True.intro hcc_); have HCq179 := Aside0.mk hcl_; clear hcs_ hcc_ hcl_) | ((with_reducible refine gate_dst (N := 28) rfl ?_); refine wpList_plain rfl (fun K_ hK_ => ?_); refine op_append (S := S) (enc := Value.int .i64) (h1 := fun _ => rfl) 0 (.tmp 21) (.tmp 27) 22 3 (.int .i64 0) 8 rfl Try.underlying22 info3 rfl (by decide) (.slice Az3000008 0 cz3000008) rfl rfl (HF.out.keep HK.out) HS.out (And.right HVq179.out _ (SL.row_c (SL.po_snd (SL.get2 HS.out))).2.2) (by have := LMc5.out; omega) y180 Ny180.out ?_; intro A181 c182 w8 hs_ hk_; refine hK_ _ _ ?_; clear hK_ K_; replace HS := Aside0.mk ((show SL (row (Kd.int .i64) 3 (.slice A181 y180.length c182) y180 :: _) _ _ from hs_)); replace HK := Aside0.mk (HK.out.trans hk_); (try clear hz0_0_2)) | ((with_reducible refine gate_store (t := 22) (p := 30) (v := (.tmp 28)) rfl ?_); refine wpList_plain rfl (fun K_ hK_ => ?_); refine op_store (S := S) 22 (.tmp 30) (.tmp 28) rfl b0 0 (.slice A181 y180.length c182) [.slice A181 y180.length c182] rfl rfl rfl (by kernel_rfl) (by simp [Value.oneCell']) (SL.get1 HS.out) (by simp) ?_; intro w9 hs_ hk_; refine hK_ _ _ ?_; clear hK_ K_; replace HS := Aside0.mk ((SL.back1 (show SL (cells b0 39 [.slice A181 y180.length c182].toArray :: _) _ _ from hs_))); replace HK := Aside0.mk (HK.out.trans hk_)))
          go_ret2
          replace HS := Aside0.mk (SL.get1 (SL.po_new (SL.get2 HS.out)))
          unfold barrowref02_Stream_Below.Post2
          exact ⟨A181, c182, by first | rfl | (simp; done) | (simp [*]; done) | (simp at c5b0 ⊢; first | exact c5b0 | (simp [c5b0]; done)), HS.out, HK.out⟩
        · rw [if_neg c5] at H
          exact absurd H (by simp)
      · rw [if_neg c4] at H
        exact absurd H (by simp)
    · rw [if_neg c3] at H
      exact absurd H (by simp)
  · replace c2 := Bool.eq_false_iff.mpr c2
    subst c2
    rw [if_neg (show ¬ (false = true) by decide)] at H
    simp only [Option.some.injEq, Prod.mk.injEq] at H
    obtain ⟨rfl, rfl, rfl⟩ := H
    have hb_ := SL.at_ HS.out
    have hz0_0_0 := ((blk_cell hb_ 0).trans rfl : _ = some (.slice As0_0 s0_0.length cs0_0))
    clear hb_
    go_enter Try.func16, Try.ntmps16
    go_wp2_with (first | ((with_reducible refine gate_dst (N := 15) rfl ?_); refine goesL_ (some 15) rfl rfl Try.func10 (by kernel_rfl) rfl #[.slice As0_0 s0_0.length cs0_0, .int .i64 a1] rfl (by (try simp only [List.map_toArray, List.map_cons, List.map_nil]); first | done | rfl | (simp; done)) ?_; (with_reducible refine (barrowref02_Fair.calls k _ _ _ _ _ _ _ _ (SL.row_c (SL.po_snd (SL.get1 HS.out))).2.2 (SL.row_c (SL.po_snd (SL.get1 HS.out))).2.1 Hc1.out).mono ?_); rintro e_ w10 ⟨rfl, hb_⟩; refine ⟨_, rfl, ?_⟩; replace hb_ := Drawn0.below hb_; replace HS := Aside0.mk (HS.out.below hb_); replace HK := Aside0.mk (HK.out.trans (Keep.below hb_)); (try clear hz0_0_0)))
    go_ret2
    unfold barrowref02_Stream_Below.Post2
    exact ⟨As0_0, cs0_0, by first | rfl | (simp; done) | (simp [*]; done), HS.out, HK.out⟩

/-! ### barrowref02_Stream_Deal: function 20 -/
mutual
def barrowref02_Stream_Deal.l0 : Nat → Int → (List Int) → (List Int) → Int → Option ((List Int) × Bool × (List Int))
  | 0, _, _, _, _ => none
  | k + 1, a1, s0_0, x7_0, x8_0 => if x8_0 < a1 then ((some (([x8_0] : List Int) : List Int)).bind fun y219 => (if x7_0.length + y219.length < 17592186044416 then ((some (x7_0 ++ y219 : List Int)).bind fun y220 => (barrowref02_Stream_Deal.l0 k a1 s0_0 y220 (wrap64 (x8_0 + 1)))) else (none))) else (barrowref02_Stream_Deal.l1 k s0_0 x7_0 (wrap64 (a1 - 1)) x7_0 s0_0)
def barrowref02_Stream_Deal.l1 : Nat → (List Int) → (List Int) → Int → (List Int) → (List Int) → Option ((List Int) × Bool × (List Int))
  | 0, _, _, _, _, _ => none
  | k + 1, s0_0, x7_0, x9_1, y500007_1, z3000014_1 => if x9_1 > 0 then ((barrowref02_Stream_Below.f k (wrap64 (x9_1 + 1)) z3000014_1).bind fun bt234 => (if bt234.2.1 = true then (if 0 ≤ bt234.1 then (if bt234.1 < (x7_0.length : Int) then (if 0 ≤ x9_1 then (if x9_1 < (x7_0.length : Int) then ((some (y500007_1.set (x9_1).toNat (rd y500007_1 bt234.1) : List Int)).bind fun y242 => ((some (y242.set (bt234.1).toNat (rd y500007_1 x9_1) : List Int)).bind fun y244 => (barrowref02_Stream_Deal.l1 k s0_0 x7_0 (wrap64 (x9_1 - 1)) y244 bt234.2.2))) else (none)) else (none)) else (none)) else (none)) else (some (([] : List Int), false, s0_0)))) else (some (y500007_1, true, z3000014_1))
end
def barrowref02_Stream_Deal.f (k : Nat) (a1 : Int) (s0_0 : List Int) : Option ((List Int) × Bool × (List Int)) := if a1 < 0 then (some (([] : List Int), false, s0_0)) else (if a1 > 256 then (some (([] : List Int), false, s0_0)) else (barrowref02_Stream_Deal.l0 k a1 s0_0 ([] : List Int) 0))
theorem barrowref02_Stream_Deal.mono_l : ∀ k, (∀ y0 y1 y2 y3, LeO (barrowref02_Stream_Deal.l0 k y0 y1 y2 y3) (barrowref02_Stream_Deal.l0 (k + 1) y0 y1 y2 y3)) ∧ (∀ y0 y1 y2 y3 y4, LeO (barrowref02_Stream_Deal.l1 k y0 y1 y2 y3 y4) (barrowref02_Stream_Deal.l1 (k + 1) y0 y1 y2 y3 y4))
  | 0 => ⟨fun _ _ _ _ r h => by simp [barrowref02_Stream_Deal.l0] at h, fun _ _ _ _ _ r h => by simp [barrowref02_Stream_Deal.l1] at h⟩
  | k + 1 => by
    obtain ⟨ih0, ih1⟩ := barrowref02_Stream_Deal.mono_l k
    refine ⟨?_, ?_⟩
    · intro y0 y1 y2 y3
      unfold barrowref02_Stream_Deal.l0
      repeat' first
      | (with_reducible exact ih0 _ _ _ _)
      | (with_reducible exact ih1 _ _ _ _ _)
      | (with_reducible exact barrowref02_Stream_Below.mono _ _ _)
      | (with_reducible exact LeO.refl _)
      | (with_reducible exact LeO.none _)
      | (with_reducible refine LeO.ite ?_ ?_)
      | (with_reducible refine everyOf_le (fun _ => ?_))
      | (with_reducible refine LeO.bind ?_ (fun _ => ?_))
      | exact ih0 _ _ _ _
      | exact ih1 _ _ _ _ _
      | exact barrowref02_Stream_Below.mono _ _ _
      | exact LeO.none _
      | refine LeO.ite ?_ ?_
      | refine LeO.bind ?_ (fun _ => ?_)
    · intro y0 y1 y2 y3 y4
      unfold barrowref02_Stream_Deal.l1
      repeat' first
      | (with_reducible exact ih0 _ _ _ _)
      | (with_reducible exact ih1 _ _ _ _ _)
      | (with_reducible exact barrowref02_Stream_Below.mono _ _ _)
      | (with_reducible exact LeO.refl _)
      | (with_reducible exact LeO.none _)
      | (with_reducible refine LeO.ite ?_ ?_)
      | (with_reducible refine everyOf_le (fun _ => ?_))
      | (with_reducible refine LeO.bind ?_ (fun _ => ?_))
      | exact ih0 _ _ _ _
      | exact ih1 _ _ _ _ _
      | exact barrowref02_Stream_Below.mono _ _ _
      | exact LeO.none _
      | refine LeO.ite ?_ ?_
      | refine LeO.bind ?_ (fun _ => ?_)
theorem barrowref02_Stream_Deal.mono : ∀ a0 a1 k, LeO (barrowref02_Stream_Deal.f k a0 a1) (barrowref02_Stream_Deal.f (k + 1) a0 a1) := by
  intro a0 a1 k
  obtain ⟨ih0, ih1⟩ := barrowref02_Stream_Deal.mono_l k
  unfold barrowref02_Stream_Deal.f
  repeat' first
      | (with_reducible exact ih0 _ _ _ _)
      | (with_reducible exact ih1 _ _ _ _ _)
      | (with_reducible exact barrowref02_Stream_Below.mono _ _ _)
      | (with_reducible exact LeO.refl _)
      | (with_reducible exact LeO.none _)
      | (with_reducible refine LeO.ite ?_ ?_)
      | (with_reducible refine everyOf_le (fun _ => ?_))
      | (with_reducible refine LeO.bind ?_ (fun _ => ?_))
      | exact ih0 _ _ _ _
      | exact ih1 _ _ _ _ _
      | exact barrowref02_Stream_Below.mono _ _ _
      | exact LeO.none _
      | refine LeO.ite ?_ ?_
      | refine LeO.bind ?_ (fun _ => ?_)
def barrowref02_Stream_Deal.T15 : Bool × List (List Nat × List Nat) := (true, [([], []), ([], []), ([], []), ([], []), ([], []), ([], []), ([4, 5], [4, 5]), ([6], [6]), ([], []), ([], []), ([8, 9], [8, 9]), ([10], [10]), ([0, 1, 0, 1, 4, 5, 6, 7, 11], [0, 1]), ([12, 7, 0, 1, 4, 5, 6, 7, 11], [7, 12]), ([2, 3, 0, 1, 2, 3, 4, 5, 6, 7, 8, 9, 10, 11, 12, 13], [2, 3]), ([14, 11, 13, 0, 1, 2, 3, 4, 5, 6, 7, 8, 9, 10, 11, 12, 13], [11, 14])])
def barrowref02_Stream_Deal.B15 : List Nat := [0, 0, 0, 0, 0, 0, 48, 112, 0, 0, 768, 1792, 4083, 8179, 16383, 32767]
theorem barrowref02_Stream_Deal.tab15 : rtab .any (opsOf Try.f20 15) = barrowref02_Stream_Deal.T15 := by kernel_rfl
theorem barrowref02_Stream_Deal.bits15 : waitsOk barrowref02_Stream_Deal.T15.2 barrowref02_Stream_Deal.B15 = true := by kernel_rfl
def barrowref02_Stream_Deal.Post (b0 : Nat) (r1 : List Int) (r2 : Bool) (r3 : List Int) (S : Nat → Prop) (L : List Asr) (w : World) (e : Ending) (w' : World) : Prop := ∃ (Ar3 : Option Addr) (cr3 : Nat) (Ar1 : Option Addr) (cr1 : Nat), e = .returned (.tuple #[.slice Ar1 r1.length cr1, .bool r2]) ∧ SL (cells b0 39 [.slice Ar3 r3.length cr3].toArray :: row (Kd.int .i64) 3 (.slice Ar3 r3.length cr3) r3 :: row (Kd.int .i64) 3 (.slice Ar1 r1.length cr1) r1 :: L) w' S ∧ Keep S w w'
set_option maxHeartbeats 8000000 in
set_option maxRecDepth 100000 in
theorem barrowref02_Stream_Deal.slcalls (k : Nat) (a1 : Int) (b0 : Nat) (As0_0 : Option Addr) (cs0_0 : Nat) (s0_0 : List Int) (r1 : List Int) (r2 : Bool) (r3 : List Int) (S : Nat → Prop) (L : List Asr) (w : World) (hf : Fresh S w) (hs : SL (cells b0 39 [.slice As0_0 s0_0.length cs0_0].toArray :: row (Kd.int .i64) 3 (.slice As0_0 s0_0.length cs0_0) s0_0 :: L) w S) (h : barrowref02_Stream_Deal.f k a1 s0_0 = some (r1, r2, r3)) :
    Calls Try.prog 20 #[.pointer (some ⟨b0, 0, none⟩), .int .i64 a1] w (barrowref02_Stream_Deal.Post b0 r1 r2 r3 S L w) := by
  have HF := Aside0.mk hf
  have HS := Aside0.mk hs
  have HK := Aside0.mk (Keep.refl S w)
  clear hf hs
  have hu39 := Try.underlying39
  have H : (if a1 < 0 then (some (([] : List Int), false, s0_0)) else (if a1 > 256 then (some (([] : List Int), false, s0_0)) else (barrowref02_Stream_Deal.l0 k a1 s0_0 ([] : List Int) 0))) = some (r1, r2, r3) := h
  clear h
  by_cases c1 : a1 < 0
  · rw [if_pos c1] at H
    have c1b0 : decide (a1 < 0) = true := decide_eq_true c1
    clear c1
    simp only [Option.some.injEq, Prod.mk.injEq] at H
    obtain ⟨rfl, rfl, rfl⟩ := H
    have n2_ := Aside0.mk (SL.nil_row (Kd.int .i64) 3 HS.out)
    clear HS
    have HS := n2_
    clear n2_
    go_enter Try.func20, Try.ntmps20
    go_wp2
    go_ret2
    replace HS := Aside0.mk (SL.get2 (SL.get2 HS.out))
    unfold barrowref02_Stream_Deal.Post
    exact ⟨As0_0, cs0_0, none, 0, by first | rfl | (simp; done) | (simp [*]; done) | (simp at c1b0 ⊢; first | exact c1b0 | (simp [c1b0]; done)), HS.out, HK.out⟩
  · rw [if_neg c1] at H
    have c1b0 : decide (a1 < 0) = false := decide_eq_false c1
    clear c1
    by_cases c2 : a1 > 256
    · rw [if_pos c2] at H
      have c2b0 : decide (256 < a1) = true := decide_eq_true c2
      clear c2
      simp only [Option.some.injEq, Prod.mk.injEq] at H
      obtain ⟨rfl, rfl, rfl⟩ := H
      have n2_ := Aside0.mk (SL.nil_row (Kd.int .i64) 3 HS.out)
      clear HS
      have HS := n2_
      clear n2_
      go_enter Try.func20, Try.ntmps20
      go_wp2
      go_ret2
      replace HS := Aside0.mk (SL.get2 (SL.get2 HS.out))
      unfold barrowref02_Stream_Deal.Post
      exact ⟨As0_0, cs0_0, none, 0, by first | rfl | (simp; done) | (simp [*]; done) | (simp at c2b0 ⊢; first | exact c2b0 | (simp [c2b0]; done)), HS.out, HK.out⟩
    · rw [if_neg c2] at H
      have c2b0 : decide (256 < a1) = false := decide_eq_false c2
      clear c2
      have H' := Aside0.mk H
      clear H
      have hb_ := SL.at_ HS.out
      have hz0_0_0 := ((blk_cell hb_ 0).trans rfl : _ = some (.slice As0_0 s0_0.length cs0_0))
      clear hb_
      go_enter Try.func20, Try.ntmps20
      go_wp2_with (first | ((with_reducible refine gate_dst (N := 23) rfl ?_); refine wpList_plain rfl (fun K_ hK_ => ?_); refine op_box (S := S) (cs := #[.slice As0_0 s0_0.length cs0_0]) (t := 39) (HF.out.keep HK.out) HS.out (by first | (go_simp; done) | (go_simp; rfl)) ?_; intro g3000011 w3 hs_ hk_; refine hK_ _ _ ?_; clear hK_ K_; replace HS := Aside0.mk (hs_); replace HK := Aside0.mk (HK.out.trans hk_); (try clear hz0_0_0); have n2_ := Aside0.mk (SL.nil_row (Kd.int .i64) 3 HS.out); clear HS; have HS := n2_; clear n2_))
      go_loopg [7, 8] k (fun kq v7 v8 w' => ∃ (x7_0 : List Int) (Ax7_0 : Option Addr) (cx7_0 : Nat) (x8_0 : Int), v7 = .slice Ax7_0 x7_0.length cx7_0 ∧ v8 = .int .i64 x8_0 ∧ Aside0 (barrowref02_Stream_Deal.l0 kq a1 s0_0 x7_0 x8_0 = some (r1, r2, r3)) ∧ Aside0 (kq ≤ k) ∧ Aside0 (SL (row (Kd.int .i64) 3 (.slice Ax7_0 x7_0.length cx7_0) x7_0 :: cells g3000011 39 [.slice As0_0 s0_0.length cs0_0].toArray :: cells b0 39 [.slice As0_0 s0_0.length cs0_0].toArray :: row (Kd.int .i64) 3 (.slice As0_0 s0_0.length cs0_0) s0_0 :: L) w' S) ∧ Aside0 (Keep S w w'))
      case atStart => exact ⟨(([] : List Int)), (none), (0), (0), (by first | rfl | (simp; done) | (simp [*]; done)), (by first | rfl | (simp; done) | (simp [*]; done)), H', ⟨Nat.le_refl _⟩, HS, HK⟩
      case round =>
        clear H' HS HK
        obtain ⟨x7_0, Ax7_0, cx7_0, x8_0, rfl, rfl, HA, HQ1, HS, HK⟩ := hrel
        cases gk with
        | zero => exact absurd HA.out (by simp [barrowref02_Stream_Deal.l0])
        | succ k1 =>
          have H := HA.out
          clear HA
          simp only [barrowref02_Stream_Deal.l0] at H
          by_cases c4 : x8_0 < a1
          · rw [if_pos c4] at H
            have c4b0 : decide (x8_0 < a1) = true := decide_eq_true c4
            clear c4
            replace H := Option.bind_eq_some_iff.1 H
            obtain ⟨y219, hy2190, H⟩ := H
            try dsimp only at H
            have hy219 := Option.some.inj hy2190
            clear hy2190
            have Ny219 := Aside0.mk hy219
            clear hy219
            by_cases c5 : x7_0.length + y219.length < 17592186044416
            · rw [if_pos c5] at H
              have LMc5 := Aside0.mk c5
              clear c5
              replace H := Option.bind_eq_some_iff.1 H
              obtain ⟨y220, hy2200, H⟩ := H
              try dsimp only at H
              have hy220 := Option.some.inj hy2200
              clear hy2200
              have Ny220 := Aside0.mk hy220
              clear hy220
              have H' := Aside0.mk H
              clear H
              go_wp2_with (first | ((with_reducible refine gate_dst (N := 31) rfl ?_); refine wpList_plain rfl (fun K_ hK_ => ?_); refine op_row (S := S) (enc := Value.int .i64) (h1 := fun _ => rfl) 3 y219 #[.int .i64 x8_0] 1 (by rw [← Ny219.out]; rfl) (by rw [← Ny219.out]; rfl) (by decide) (HF.out.keep HK.out) HS.out (by first | (go_simp; done) | (go_simp; rfl)) ?_; intro Az3000012 cz3000012 w6 hs_ hk_; refine hK_ _ _ ?_; clear hK_ K_; replace HS := Aside0.mk ((show SL (row (Kd.int .i64) 3 (.slice Az3000012 1 cz3000012) y219 :: _) _ _ from hs_)); replace HK := Aside0.mk (HK.out.trans hk_)) | ((with_reducible refine gate_dst (N := 32) rfl ?_); refine wpList_plain rfl (fun K_ hK_ => ?_); refine op_append (S := S) (enc := Value.int .i64) (h1 := fun _ => rfl) 0 (.tmp 29) (.tmp 31) 22 3 (.int .i64 0) 8 rfl Try.underlying22 info3 rfl (by decide) (.slice Ax7_0 x7_0.length cx7_0) rfl rfl (HF.out.keep HK.out) (SL.get1 HS.out) (SL.row_c HS.out).2.2 (by have := LMc5.out; have e_ := (SL.row_c HS.out).1; omega) y220 Ny220.out ?_; intro A221 c222 w7 hs_ hk_; refine hK_ _ _ ?_; clear hK_ K_; replace HS := Aside0.mk ((SL.back1 (show SL (row (Kd.int .i64) 3 (.slice A221 y220.length c222) y220 :: _) _ _ from hs_))); replace HK := Aside0.mk (HK.out.trans hk_)))
              replace HS := Aside0.mk (SL.tail HS.out)
              go_roundg k1
              case measure => have := HQ1.out; omega
              case rel => exact ⟨(y220), (A221), (c222), (wrap64 (x8_0 + 1)), (by first | rfl | (simp; done) | (simp [*]; done)), (by first | rfl | (simp; done) | (simp [*]; done)), H', ⟨by have := HQ1.out; omega⟩, HS, HK⟩
            · rw [if_neg c5] at H
              exact absurd H (by simp)
          · rw [if_neg c4] at H
            have c4b0 : decide (x8_0 < a1) = false := decide_eq_false c4
            clear c4
            have H' := Aside0.mk H
            clear H
            have n2_ := Aside0.mk (SL.nil_row (Kd.int .i64) 3 HS.out)
            clear HS
            have HS := n2_
            clear n2_
            go_wp2
            replace HS := Aside0.mk (SL.cons (fun _ _ => SL.cons (fun _ _ => SL.cons (fun _ _ => SL.cons (fun _ _ => SL.po_of)))) HS.out)
            go_loopg [4, 9] k1 (fun kq v4 v9 w' => ∃ (x4_1 : List Int) (Ax4_1 : Option Addr) (cx4_1 : Nat) (z3000014_1 : List Int) (Az3000014_1 : Option Addr) (cz3000014_1 : Nat) (y500007_1 : List Int) (x9_1 : Int), v4 = .slice Ax4_1 x4_1.length cx4_1 ∧ v9 = .int .i64 x9_1 ∧ Aside0 (barrowref02_Stream_Deal.l1 kq s0_0 x7_0 x9_1 y500007_1 z3000014_1 = some (r1, r2, r3)) ∧ Aside0 (kq ≤ k1) ∧ Aside0 (SL (row (Kd.int .i64) 3 (.slice Ax4_1 x4_1.length cx4_1) x4_1 :: row (Kd.int .i64) 3 (.slice Ax7_0 x7_0.length cx7_0) y500007_1 :: cells g3000011 39 [.slice Az3000014_1 z3000014_1.length cz3000014_1].toArray :: cells b0 39 [.slice As0_0 s0_0.length cs0_0].toArray :: orTwo (row (Kd.int .i64) 3 (.slice As0_0 s0_0.length cs0_0) s0_0) (row (Kd.int .i64) 3 (.slice Az3000014_1 z3000014_1.length cz3000014_1) z3000014_1) (row (Kd.int .i64) 3 (.slice As0_0 s0_0.length cs0_0) s0_0 = row (Kd.int .i64) 3 (.slice Az3000014_1 z3000014_1.length cz3000014_1) z3000014_1) :: L) w' S) ∧ Aside0 (Keep S w w'))
            case atStart => exact ⟨(([] : List Int)), (none), (0), (s0_0), (As0_0), (cs0_0), (x7_0), (wrap64 (a1 - 1)), (by first | rfl | (simp; done) | (simp [*]; done)), (by first | rfl | (simp; done) | (simp [*]; done)), H', ⟨Nat.le_refl _⟩, HS, HK⟩
            case round =>
              clear H' HS HK
              obtain ⟨x4_1, Ax4_1, cx4_1, z3000014_1, Az3000014_1, cz3000014_1, y500007_1, x9_1, rfl, rfl, HA, HQ2, HS, HK⟩ := hrel
              cases gk with
              | zero => exact absurd HA.out (by simp [barrowref02_Stream_Deal.l1])
              | succ k2 =>
                have H := HA.out
                clear HA
                simp only [barrowref02_Stream_Deal.l1] at H
                by_cases c8 : x9_1 > 0
                · rw [if_pos c8] at H
                  have c8b0 : decide (0 < x9_1) = true := decide_eq_true c8
                  clear c8
                  replace H := Option.bind_eq_some_iff.1 H
                  obtain ⟨⟨t234, t235, t236⟩, Hc90, H⟩ := H
                  try dsimp only at H
                  have Hc9 := Aside0.mk Hc90
                  clear Hc90
                  by_cases c10 : t235 = true
                  · subst c10
                    rw [if_pos rfl] at H
                    by_cases c11 : 0 ≤ t234
                    · rw [if_pos c11] at H
                      have c11b0 : decide (0 ≤ t234) = true := decide_eq_true c11
                      clear c11
                      by_cases c12 : t234 < (x7_0.length : Int)
                      · rw [if_pos c12] at H
                        have c12b0 : decide (t234 < (x7_0.length : Int)) = true := decide_eq_true c12
                        clear c12
                        by_cases c13 : 0 ≤ x9_1
                        · rw [if_pos c13] at H
                          have c13b0 : decide (0 ≤ x9_1) = true := decide_eq_true c13
                          clear c13
                          by_cases c14 : x9_1 < (x7_0.length : Int)
                          · rw [if_pos c14] at H
                            have c14b0 : decide (x9_1 < (x7_0.length : Int)) = true := decide_eq_true c14
                            clear c14
                            replace H := Option.bind_eq_some_iff.1 H
                            obtain ⟨y242, hy2420, H⟩ := H
                            try dsimp only at H
                            have hy242 := Option.some.inj hy2420
                            clear hy2420
                            have Ny242 := Aside0.mk hy242
                            clear hy242
                            replace H := Option.bind_eq_some_iff.1 H
                            obtain ⟨y244, hy2440, H⟩ := H
                            try dsimp only at H
                            have hy244 := Option.some.inj hy2440
                            clear hy2440
                            have Ny244 := Aside0.mk hy244
                            clear hy244
                            have H' := Aside0.mk H
                            clear H
                            try go_wp2_with (first | ((with_reducible refine gate_dst (N := 43) rfl ?_); refine goesL_ (some 43) rfl rfl Try.func16 (by kernel_rfl) rfl #[.pointer (some ⟨g3000011, 0, none⟩), .int .i64 (wrap64 (x9_1 + 1))] rfl (by (try simp only [List.map_toArray, List.map_cons, List.map_nil]); first | done | rfl | (simp; done)) ?_; have hs0_ := (SL.get3 (SL.get4 HS.out)); (with_reducible refine (barrowref02_Stream_Below.slcalls2 _ k2 _ _ _ _ _ _ _ _ _ _ _ (HF.out.keep HK.out) hs0_  Hc9.out).mono ?_); rintro e_ w15 ⟨A237, c238, rfl, hsr_, hkr_⟩; refine ⟨_, rfl, ?_⟩; replace HS := Aside0.mk (hsr_); replace HK := Aside0.mk (HK.out.trans hkr_)))
                            have pq239 : 0 ≤ (t234 : Int) := of_decide_eq_true (by first | (with_reducible assumption) | assumption)
                            have qq239 : t234 < ((x7_0.length : Int) : Int) := of_decide_eq_true (by first | (with_reducible assumption) | assumption)
                            obtain ⟨adq239, eq239, hxq239_0⟩ := Kd.at_int (SL.row_c (SL.get3 HS.out)).2.2 t234 pq239 qq239
                            cases eq239
                            replace pq239 := eq_true pq239
                            replace qq239 := eq_true qq239
                            have pq240 : 0 ≤ (x9_1 : Int) := of_decide_eq_true (by first | (with_reducible assumption) | assumption)
                            have qq240 : x9_1 < ((x7_0.length : Int) : Int) := of_decide_eq_true (by first | (with_reducible assumption) | assumption)
                            obtain ⟨adq240, eq240, hxq240_0⟩ := Kd.at_int (SL.row_c (SL.get3 HS.out)).2.2 x9_1 pq240 qq240
                            obtain rfl : adq239 = adq240 := (by injection eq240)
                            replace pq240 := eq_true pq240
                            replace qq240 := eq_true qq240
                            have pq241 : 0 ≤ (x9_1 : Int) := of_decide_eq_true (by first | (with_reducible assumption) | assumption)
                            have qq241 : x9_1 < ((x7_0.length : Int) : Int) := of_decide_eq_true (by first | (with_reducible assumption) | assumption)
                            obtain ⟨adq241, eq241, hxq241_0⟩ := Kd.at_int (SL.row_c (SL.get3 HS.out)).2.2 x9_1 pq241 qq241
                            obtain rfl : adq239 = adq241 := (by injection eq241)
                            replace pq241 := eq_true pq241
                            replace qq241 := eq_true qq241
                            have pq243 : 0 ≤ (t234 : Int) := of_decide_eq_true (by first | (with_reducible assumption) | assumption)
                            have qq243 : t234 < ((x7_0.length : Int) : Int) := of_decide_eq_true (by first | (with_reducible assumption) | assumption)
                            obtain ⟨adq243, eq243, hxq243_0⟩ := Kd.at_int (SL.row_c (SL.get3 HS.out)).2.2 t234 pq243 qq243
                            obtain rfl : adq239 = adq243 := (by injection eq243)
                            replace pq243 := eq_true pq243
                            replace qq243 := eq_true qq243
                            refine start_ (n := 16) (S := fun w' => w'.cell? (adq239.add t234.toNat) = some (.int .i64 (rd y500007_1 t234)) ∧ w'.cell? (adq239.add x9_1.toNat) = some (.int .i64 (rd y500007_1 x9_1)) ∧ w'.cell? (adq239.add x9_1.toNat) = some (.int .i64 (rd y500007_1 x9_1))) (ds := [13, 15]) #[false, false, false, false, false, false, false, false, false, false, false, false, false, false, false, false] (by kernel_rfl) rfl rfl ⟨(SL.cell_int (SL.get3 HS.out) t234 (of_eq_true pq239) (of_eq_true qq239)), (SL.cell_int (SL.get3 HS.out) x9_1 (of_eq_true pq240) (of_eq_true qq240)), (SL.cell_int (SL.get3 HS.out) x9_1 (of_eq_true pq241) (of_eq_true qq241))⟩ (fun hHeld => ?_); refine with_tabW barrowref02_Stream_Deal.tab15 barrowref02_Stream_Deal.bits15 (fun HT_ HW_ => ?_)
                            replace HK := Aside0.mk (Keep.drew HK.out)
                            replace HS := Aside0.mk (SL.drew HS.out)
                            refine pure_ (i := 0) (N := some 48) (v := ?_) (a' := ?_) #[true, false, false, false, false, false, false, false, false, false, false, false, false, false, false, false] rfl rfl (any_of HT_.out (by kernel_rfl)) (fun _ _ _ h => h) (Or.inl ⟨by rfl, ?_⟩) ?_ ?_; rotate_left; · (intro w'; go_simp; with_reducible rfl)
                            rotate_left; · (simp only [Act.put, sT, sZ, sS, i64_w, i32_w]; rfl)
                            refine pure_ (i := 1) (N := some 49) (v := ?_) (a' := ?_) #[true, true, false, false, false, false, false, false, false, false, false, false, false, false, false, false] rfl rfl (any_of HT_.out (by kernel_rfl)) (fun _ _ _ h => h) (Or.inl ⟨by rfl, ?_⟩) ?_ ?_; rotate_left; · (intro w'; go_simp; with_reducible rfl)
                            rotate_left; · (simp only [Act.put, sT, sZ, sS, i64_w, i32_w]; rfl)
                            refine pure_ (i := 2) (N := some 50) (v := ?_) (a' := ?_) #[true, true, true, false, false, false, false, false, false, false, false, false, false, false, false, false] rfl rfl (any_of HT_.out (by kernel_rfl)) (fun _ _ _ h => h) (Or.inl ⟨by rfl, ?_⟩) ?_ ?_; rotate_left; · (intro w'; go_simp; with_reducible rfl)
                            rotate_left; · (simp only [Act.put, sT, sZ, sS, i64_w, i32_w]; rfl)
                            refine pure_ (i := 3) (N := some 51) (v := ?_) (a' := ?_) #[true, true, true, true, false, false, false, false, false, false, false, false, false, false, false, false] rfl rfl (any_of HT_.out (by kernel_rfl)) (fun _ _ _ h => h) (Or.inl ⟨by rfl, ?_⟩) ?_ ?_; rotate_left; · (intro w'; go_simp; with_reducible rfl)
                            rotate_left; · (simp only [Act.put, sT, sZ, sS, i64_w, i32_w]; rfl)
                            refine pure_ (i := 4) (N := some 52) (v := ?_) (a' := ?_) #[true, true, true, true, true, false, false, false, false, false, false, false, false, false, false, false] rfl rfl (any_of HT_.out (by kernel_rfl)) (fun _ _ _ h => h) (Or.inl ⟨by rfl, ?_⟩) ?_ ?_; rotate_left; · (intro w'; go_simp; with_reducible rfl)
                            rotate_left; · (simp only [Act.put, sT, sZ, sS, i64_w, i32_w]; rfl)
                            refine pure_ (i := 5) (N := some 53) (v := ?_) (a' := ?_) #[true, true, true, true, true, true, false, false, false, false, false, false, false, false, false, false] rfl rfl (any_of HT_.out (by kernel_rfl)) (fun _ _ _ h => h) (Or.inl ⟨by rfl, ?_⟩) ?_ ?_; rotate_left; · (intro w'; go_simp; with_reducible rfl)
                            rotate_left; · (simp only [Act.put, sT, sZ, sS, i64_w, i32_w]; rfl)
                            refine pure_ (i := 6) (N := some 54) (v := ?_) (a' := ?_) #[true, true, true, true, true, true, true, false, false, false, false, false, false, false, false, false] rfl rfl (any_of HT_.out (by kernel_rfl)) (fun _ _ _ h => h) (Or.inl ⟨by rfl, ?_⟩) ?_ ?_; rotate_left; · (intro w'; go_simp; with_reducible rfl)
                            rotate_left; · (simp only [Act.put, sT, sZ, sS, i64_w, i32_w]; rfl)
                            refine pure_ (i := 8) (N := some 56) (v := ?_) (a' := ?_) #[true, true, true, true, true, true, true, false, true, false, false, false, false, false, false, false] rfl rfl (any_of HT_.out (by kernel_rfl)) (fun _ _ _ h => h) (Or.inl ⟨by rfl, ?_⟩) ?_ ?_; rotate_left; · (intro w'; go_simp; with_reducible rfl)
                            rotate_left; · (simp only [Act.put, sT, sZ, sS, i64_w, i32_w]; rfl)
                            refine pure_ (i := 9) (N := some 57) (v := ?_) (a' := ?_) #[true, true, true, true, true, true, true, false, true, true, false, false, false, false, false, false] rfl rfl (any_of HT_.out (by kernel_rfl)) (fun _ _ _ h => h) (Or.inl ⟨by rfl, ?_⟩) ?_ ?_; rotate_left; · (intro w'; go_simp; with_reducible rfl)
                            rotate_left; · (simp only [Act.put, sT, sZ, sS, i64_w, i32_w]; rfl)
                            refine pure_ (i := 10) (N := some 58) (v := ?_) (a' := ?_) #[true, true, true, true, true, true, true, false, true, true, true, false, false, false, false, false] rfl rfl (any_of HT_.out (by kernel_rfl)) (fun _ _ _ h => h) (Or.inl ⟨by rfl, ?_⟩) ?_ ?_; rotate_left; · (intro w'; go_simp; with_reducible rfl)
                            rotate_left; · (simp only [Act.put, sT, sZ, sS, i64_w, i32_w]; rfl)
                            refine take_ (i := 7) (N := some 55) (v := ?_) (a' := ?_) #[true, true, true, true, true, true, true, true, true, true, true, false, false, false, false, false] rfl rfl (take_ofW HT_.out HW_.out (by kernel_rfl)) (fun _ _ _ h => h) (Or.inl ⟨by rfl, ?_⟩) hHeld ?_ ?_; rotate_left
                            · rintro w' ⟨s0, s1, s2⟩
                              go_simp
                              with_reducible rfl
                            rotate_left; · (simp only [Act.put, sT, sZ, sS, i64_w, i32_w]; rfl)
                            refine take_ (i := 11) (N := some 59) (v := ?_) (a' := ?_) #[true, true, true, true, true, true, true, true, true, true, true, true, false, false, false, false] rfl rfl (take_ofW HT_.out HW_.out (by kernel_rfl)) (fun _ _ _ h => h) (Or.inl ⟨by rfl, ?_⟩) hHeld ?_ ?_; rotate_left
                            · rintro w' ⟨s0, s1, s2⟩
                              go_simp
                              with_reducible rfl
                            rotate_left; · (simp only [Act.put, sT, sZ, sS, i64_w, i32_w]; rfl)
                            refine pure_ (i := 12) (N := some 60) (v := ?_) (a' := ?_) #[true, true, true, true, true, true, true, true, true, true, true, true, true, false, false, false] rfl rfl (any_of HT_.out (by kernel_rfl)) (fun _ _ _ h => h) (Or.inl ⟨by rfl, ?_⟩) ?_ ?_; rotate_left; · (intro w'; go_simp; with_reducible rfl)
                            rotate_left; · (simp only [Act.put, sT, sZ, sS, i64_w, i32_w]; rfl)
                            refine last_ (i := 13) (N := none) #[true, true, true, true, true, true, true, true, true, true, true, true, true, true, false, false] rfl rfl (one_of HT_.out (by kernel_rfl)) (by decide) (fun K hK => ?_)
                            refine st_of (by rfl) ?_
                            refine op_set (S := S) (enc := Value.int .i64) (h1 := fun _ => rfl) 3 (.tmp 60) (.tmp 55) rfl adq239 (x9_1) (rd y500007_1 t234) (SL.get3 HS.out) (by rfl) rfl (by kernel_rfl) (of_decide_eq_true (by first | (with_reducible assumption) | assumption)) (of_decide_eq_true (by first | (with_reducible assumption) | assumption)) y242 Ny242.out ?_
                            intro w16 hs_ hk_
                            replace HS := Aside0.mk ((SL.back3 (show SL (row (Kd.int .i64) 3 (.slice (some adq239) x7_0.length cx7_0) y242 :: _) _ _ from hs_)))
                            replace HK := Aside0.mk (HK.out.trans hk_)
                            refine hK.out _ _ ?_
                            clear hK K
                            refine pure_ (i := 14) (N := some 61) (v := ?_) (a' := ?_) #[true, true, true, true, true, true, true, true, true, true, true, true, true, true, true, false] rfl rfl (any_of HT_.out (by kernel_rfl)) (fun _ _ _ h => h) (Or.inl ⟨by rfl, ?_⟩) ?_ ?_; rotate_left; · (intro w'; go_simp; with_reducible rfl)
                            rotate_left; · (simp only [Act.put, sT, sZ, sS, i64_w, i32_w]; rfl)
                            refine last_ (i := 15) (N := none) #[true, true, true, true, true, true, true, true, true, true, true, true, true, true, true, true] rfl rfl (one_of HT_.out (by kernel_rfl)) (by decide) (fun K hK => ?_)
                            refine st_of (by rfl) ?_
                            refine op_set (S := S) (enc := Value.int .i64) (h1 := fun _ => rfl) 3 (.tmp 61) (.tmp 59) rfl adq239 (t234) (rd y500007_1 x9_1) (SL.get3 HS.out) (by rfl) rfl (by kernel_rfl) (of_decide_eq_true (by first | (with_reducible assumption) | assumption)) (of_decide_eq_true (by first | (with_reducible assumption) | assumption)) y244 Ny244.out ?_
                            intro w17 hs_ hk_
                            replace HS := Aside0.mk ((SL.back3 (show SL (row (Kd.int .i64) 3 (.slice (some adq239) x7_0.length cx7_0) y244 :: _) _ _ from hs_)))
                            replace HK := Aside0.mk (HK.out.trans hk_)
                            refine hK.out _ _ ?_
                            clear hK K
                            refine done_ (done_of HT_.out (by kernel_rfl)) ?_
                            try go_wp2
                            replace HS := Aside0.mk (SL.get4 (SL.get4 (SL.get2 (SL.get4 (SL.get1 HS.out)))))
                            go_roundg k2
                            case measure => have := HQ1.out; have := HQ2.out; omega
                            case rel => exact ⟨(x4_1), (Ax4_1), (cx4_1), (t236), (A237), (c238), (y244), (wrap64 (x9_1 - 1)), (by first | rfl | (simp; done) | (simp [*]; done)), (by first | rfl | (simp; done) | (simp [*]; done)), H', ⟨by have := HQ1.out; have := HQ2.out; omega⟩, HS, HK⟩
                          · rw [if_neg c14] at H
                            exact absurd H (by simp)
                        · rw [if_neg c13] at H
                          exact absurd H (by simp)
                      · rw [if_neg c12] at H
                        exact absurd H (by simp)
                    · rw [if_neg c11] at H
                      exact absurd H (by simp)
                  · replace c10 := Bool.eq_false_iff.mpr c10
                    subst c10
                    rw [if_neg (show ¬ (false = true) by decide)] at H
                    simp only [Option.some.injEq, Prod.mk.injEq] at H
                    obtain ⟨rfl, rfl, rfl⟩ := H
                    go_wp2_with (first | ((with_reducible refine gate_dst (N := 43) rfl ?_); refine goesL_ (some 43) rfl rfl Try.func16 (by kernel_rfl) rfl #[.pointer (some ⟨g3000011, 0, none⟩), .int .i64 (wrap64 (x9_1 + 1))] rfl (by (try simp only [List.map_toArray, List.map_cons, List.map_nil]); first | done | rfl | (simp; done)) ?_; have hs0_ := (SL.get3 (SL.get4 HS.out)); (with_reducible refine (barrowref02_Stream_Below.slcalls2 _ k2 _ _ _ _ _ _ _ _ _ _ _ (HF.out.keep HK.out) hs0_  Hc9.out).mono ?_); rintro e_ w18 ⟨A237, c238, rfl, hsr_, hkr_⟩; refine ⟨_, rfl, ?_⟩; replace HS := Aside0.mk (hsr_); replace HK := Aside0.mk (HK.out.trans hkr_); have n2_ := Aside0.mk (SL.nil_row (Kd.int .i64) 3 HS.out); clear HS; have HS := n2_; clear n2_))
                    go_ret2
                    replace HS := Aside0.mk (SL.get2 (SL.po_fst (SL.get1 (SL.tail (SL.get2 (SL.tail (SL.get2 (SL.tail (SL.get1 HS.out)))))))))
                    unfold barrowref02_Stream_Deal.Post
                    exact ⟨As0_0, cs0_0, none, 0, by first | rfl | (simp; done) | (simp [*]; done) | (simp at c8b0 ⊢; first | exact c8b0 | (simp [c8b0]; done)), HS.out, HK.out⟩
                · rw [if_neg c8] at H
                  have c8b0 : decide (0 < x9_1) = false := decide_eq_false c8
                  clear c8
                  simp only [Option.some.injEq, Prod.mk.injEq] at H
                  obtain ⟨rfl, rfl, rfl⟩ := H
                  have hb_ := SL.at_ (SL.get2 HS.out)
                  have hz0_0_9 := ((blk_cell hb_ 0).trans rfl : _ = some (.slice Az3000014_1 z3000014_1.length cz3000014_1))
                  clear hb_
                  go_wp2_with (first | ((with_reducible refine gate_store (t := 22) (p := 68) (v := (.tmp 66)) rfl ?_); refine wpList_plain rfl (fun K_ hK_ => ?_); refine op_store (S := S) 22 (.tmp 68) (.tmp 66) rfl b0 0 (.slice Az3000014_1 z3000014_1.length cz3000014_1) [.slice Az3000014_1 z3000014_1.length cz3000014_1] rfl rfl rfl (by kernel_rfl) (by simp [Value.oneCell']) (SL.get3 HS.out) (by simp) ?_; intro w5 hs_ hk_; refine hK_ _ _ ?_; clear hK_ K_; replace HS := Aside0.mk ((SL.back3 (show SL (cells b0 39 [.slice Az3000014_1 z3000014_1.length cz3000014_1].toArray :: _) _ _ from hs_))); replace HK := Aside0.mk (HK.out.trans hk_); (try clear hz0_0_9)))
                  go_ret2
                  replace HS := Aside0.mk (SL.get2 (SL.po_snd (SL.get2 (SL.tail (SL.get1 (SL.tail HS.out))))))
                  unfold barrowref02_Stream_Deal.Post
                  have el19 := Aside0.mk (SL.row_c (SL.get2 HS.out)).1
                  replace HS := Aside0.mk (SL.back2 (SL.row_len (SL.get2 HS.out)))
                  exact ⟨Az3000014_1, cz3000014_1, Ax7_0, cx7_0, by first | rfl | (simp; done) | (rw [← el19.out]; rfl) | (rw [← el19.out]) | (simp [*]; done) | (simp at c8b0 ⊢; first | exact c8b0 | (simp [c8b0]; done)), HS.out, HK.out⟩

/-! ### barrowref02_Same: function 21 -/
def barrowref02_Same.l0 : Nat → List Int → List Int → Int → Option (Bool)
  | 0, _, _, _ => none
  | k + 1, x0, x1, x5 => if x5 < (x0.length : Int) then (if 0 ≤ x5 then (if x5 < (x1.length : Int) then (if (rd x0 x5) = (rd x1 x5) then (barrowref02_Same.l0 k x0 x1 (wrap64 (x5 + 1))) else (some false)) else (none)) else (none)) else (some true)
def barrowref02_Same.f (k : Nat) (l0 : List Int) (l1 : List Int) : Option (Bool) := if (l0.length : Int) = (l1.length : Int) then (barrowref02_Same.l0 k l0 l1 0) else (some false)
theorem barrowref02_Same.mono_l : ∀ k, (∀ y0 y1 y2, LeO (barrowref02_Same.l0 k y0 y1 y2) (barrowref02_Same.l0 (k + 1) y0 y1 y2))
  | 0 => fun _ _ _ r h => by simp [barrowref02_Same.l0] at h
  | k + 1 => by
    have ih0 := barrowref02_Same.mono_l k
    · intro y0 y1 y2
      unfold barrowref02_Same.l0
      repeat' first
      | (with_reducible exact ih0 _ _ _)
      | (with_reducible exact LeO.refl _)
      | (with_reducible exact LeO.none _)
      | (with_reducible refine LeO.ite ?_ ?_)
      | (with_reducible refine LeO.bind ?_ (fun _ => ?_))
      | exact ih0 _ _ _
      | exact LeO.none _
      | refine LeO.ite ?_ ?_
      | refine LeO.bind ?_ (fun _ => ?_)
theorem barrowref02_Same.mono : ∀ a0 a1 k, LeO (barrowref02_Same.f k a0 a1) (barrowref02_Same.f (k + 1) a0 a1) := by
  intro a0 a1 k
  have ih0 := barrowref02_Same.mono_l k
  unfold barrowref02_Same.f
  repeat' first
      | (with_reducible exact ih0 _ _ _)
      | (with_reducible exact LeO.refl _)
      | (with_reducible exact LeO.none _)
      | (with_reducible refine LeO.ite ?_ ?_)
      | (with_reducible refine LeO.bind ?_ (fun _ => ?_))
      | exact ih0 _ _ _
      | exact LeO.none _
      | refine LeO.ite ?_ ?_
      | refine LeO.bind ?_ (fun _ => ?_)
set_option maxHeartbeats 8000000 in
set_option maxRecDepth 100000 in
theorem barrowref02_Same.calls (k : Nat) (A0 : Option Addr) (c0 : Nat) (l0 : List Int) (A1 : Option Addr) (c1 : Nat) (l1 : List Int) (r : Bool) (w : World) (hr0 : Kd.C (Kd.int .i64) w A0 l0.length l0) (hc0 : l0.length ≤ c0) (hr1 : Kd.C (Kd.int .i64) w A1 l1.length l1) (hc1 : l1.length ≤ c1) (h : barrowref02_Same.f k l0 l1 = some r) :
    Calls Try.prog 21 #[.slice A0 l0.length c0, .slice A1 l1.length c1] w fun e w' => e = .returned (.bool r) ∧ Drawn0 w w' := by
  have HR0 := Aside0.mk hr0
  have HC0 := Aside0.mk hc0
  clear hr0 hc0
  have HR1 := Aside0.mk hr1
  have HC1 := Aside0.mk hc1
  clear hr1 hc1
  have H : (if (l0.length : Int) = (l1.length : Int) then (barrowref02_Same.l0 k l0 l1 0) else (some false)) = some r := h
  clear h
  by_cases c3 : (l0.length : Int) = (l1.length : Int)
  · rw [if_pos c3] at H
    have c3b0 : ((l0.length : Int) == (l1.length : Int)) = true := beq_iff_eq.mpr c3
    have c3b1 : ((l0.length : Int) != (l1.length : Int)) = false := bne_eq_false_iff_eq.mpr c3
    have c3b2 : (l0.length == l1.length) = true := by first | simpa using c3 | (simp at c3 ⊢; omega)
    clear c3
    have H' := Aside0.mk H
    clear H
    go_enter Try.func21, Try.ntmps21
    go_wp2
    repeat (go_quiet (fail); try go_wp2)
    go_loopg [5] k (fun kq v5 w' => ∃ (x5_1 : Int), v5 = .int .i64 x5_1 ∧ Aside0 (barrowref02_Same.l0 kq l0 l1 x5_1 = some r) ∧ Aside0 (kq ≤ k) ∧ Drawn0 w w')
    case atStart => exact ⟨(0), (by first | rfl | (simp; done) | (simp [*]; done)), H', ⟨Nat.le_refl _⟩, by repeat (first | exact Drawn0.refl _ | apply Drawn0.step)⟩
    case round =>
      clear H'
      try clear c1
      try clear c2
      try clear p2
      try clear c3
      try clear c3b0
      try clear c3b1
      try clear c3b2
      obtain ⟨x5_1, rfl, HA, HK1, ⟨m1, rfl⟩⟩ := hrel
      cases gk with
      | zero => exact absurd HA.out (by simp [barrowref02_Same.l0])
      | succ k1 =>
        have H := HA.out
        clear HA
        simp only [barrowref02_Same.l0] at H
        by_cases c4 : x5_1 < (l0.length : Int)
        · rw [if_pos c4] at H
          have c4b0 : decide (x5_1 < (l0.length : Int)) = true := decide_eq_true c4
          clear c4
          by_cases c5 : 0 ≤ x5_1
          · rw [if_pos c5] at H
            have c5b0 : decide (0 ≤ x5_1) = true := decide_eq_true c5
            clear c5
            by_cases c6 : x5_1 < (l1.length : Int)
            · rw [if_pos c6] at H
              have c6b0 : decide (x5_1 < (l1.length : Int)) = true := decide_eq_true c6
              clear c6
              by_cases c7 : (rd l0 x5_1) = (rd l1 x5_1)
              · rw [if_pos c7] at H
                have c7b0 : ((rd l0 x5_1) == (rd l1 x5_1)) = true := beq_iff_eq.mpr c7
                have c7b1 : ((rd l0 x5_1) != (rd l1 x5_1)) = false := bne_eq_false_iff_eq.mpr c7
                clear c7
                have H' := Aside0.mk H
                clear H
                have p245 : 0 ≤ (x5_1 : Int) := of_decide_eq_true (by first | (with_reducible assumption) | assumption)
                have q245 : x5_1 < (l0.length : Int) := of_decide_eq_true (by first | (with_reducible assumption) | assumption)
                obtain ⟨ad245, e245, hx245_0⟩ := Kd.at_int HR0.out x5_1 p245 q245
                cases e245
                replace p245 := eq_true p245
                replace q245 := eq_true q245
                have p246 : 0 ≤ (x5_1 : Int) := of_decide_eq_true (by first | (with_reducible assumption) | assumption)
                have q246 : x5_1 < (l1.length : Int) := of_decide_eq_true (by first | (with_reducible assumption) | assumption)
                obtain ⟨ad246, e246, hx246_0⟩ := Kd.at_int HR1.out x5_1 p246 q246
                cases e246
                replace p246 := eq_true p246
                replace q246 := eq_true q246
                go_wp2
                repeat (go_quiet (fail); try go_wp2)
                go_roundg k1
                case measure => have := HK1.out; omega
                case rel => exact ⟨(wrap64 (x5_1 + 1)), (by first | rfl | (simp; done) | (simp [*]; done)), H', ⟨by have := HK1.out; omega⟩, by repeat (first | exact Drawn0.refl _ | apply Drawn0.step)⟩
              · rw [if_neg c7] at H
                have c7b0 : ((rd l0 x5_1) == (rd l1 x5_1)) = false := beq_eq_false_iff_ne.mpr c7
                have c7b1 : ((rd l0 x5_1) != (rd l1 x5_1)) = true := bne_iff_ne.mpr c7
                obtain rfl := Option.some.inj H
                have p245 : 0 ≤ (x5_1 : Int) := of_decide_eq_true (by first | (with_reducible assumption) | assumption)
                have q245 : x5_1 < (l0.length : Int) := of_decide_eq_true (by first | (with_reducible assumption) | assumption)
                obtain ⟨ad245, e245, hx245_0⟩ := Kd.at_int HR0.out x5_1 p245 q245
                cases e245
                replace p245 := eq_true p245
                replace q245 := eq_true q245
                have p246 : 0 ≤ (x5_1 : Int) := of_decide_eq_true (by first | (with_reducible assumption) | assumption)
                have q246 : x5_1 < (l1.length : Int) := of_decide_eq_true (by first | (with_reducible assumption) | assumption)
                obtain ⟨ad246, e246, hx246_0⟩ := Kd.at_int HR1.out x5_1 p246 q246
                cases e246
                replace p246 := eq_true p246
                replace q246 := eq_true q246
                go_wp2
                repeat (go_quiet (fail); try go_wp2)
                go_ret
                exact ⟨by first | rfl | (simp; done) | (simp [*]; done), by repeat (first | exact Drawn0.refl _ | apply Drawn0.step)⟩
            · rw [if_neg c6] at H
              exact absurd H (by simp)
          · rw [if_neg c5] at H
            exact absurd H (by simp)
        · rw [if_neg c4] at H
          have c4b0 : decide (x5_1 < (l0.length : Int)) = false := decide_eq_false c4
          clear c4
          obtain rfl := Option.some.inj H
          go_wp2
          repeat (go_quiet (fail); try go_wp2)
          go_ret
          exact ⟨by first | rfl | (simp; done) | (simp [*]; done), by repeat (first | exact Drawn0.refl _ | apply Drawn0.step)⟩
  · rw [if_neg c3] at H
    have c3b0 : ((l0.length : Int) == (l1.length : Int)) = false := beq_eq_false_iff_ne.mpr c3
    have c3b1 : ((l0.length : Int) != (l1.length : Int)) = true := bne_iff_ne.mpr c3
    have c3b2 : (l0.length == l1.length) = false := by first | simpa using c3 | (simp at c3 ⊢; omega)
    obtain rfl := Option.some.inj H
    go_enter Try.func21, Try.ntmps21
    go_wp2
    repeat (go_quiet (fail); try go_wp2)
    go_ret
    exact ⟨by first | rfl | (simp; done) | (simp [*]; done), by repeat (first | exact Drawn0.refl _ | apply Drawn0.step)⟩

end Go.Proofs.Ytkffeglkbpfndaa.XPL
