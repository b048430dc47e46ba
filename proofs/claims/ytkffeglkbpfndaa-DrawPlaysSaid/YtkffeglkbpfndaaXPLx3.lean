-- Written by xprint.py (a program of this session) for this claim
import Derived.Test.YtkffeglkbpfndaaSL5
import Derived.Test.YtkffeglkbpfndaaXPLx0
import Derived.Test.YtkffeglkbpfndaaXPLx1
namespace Go.Proofs.Ytkffeglkbpfndaa.XPL
open Go.Proofs.YtkffeglkbpfndaaV Go.Proofs.YtkffeglkbpfndaaS
open Go.RowKit Go.Proofs.YtkffeglkbpfndaaW.PrintWords Go.Proofs.YtkffeglkbpfndaaW.PrintLast Go.Proofs.YtkffeglkbpfndaaW.PrintMore
attribute [local go_sem] max2_int min2_int max_two min_two max_three min_three max_four min_four   -- for this text's walks alone
set_option linter.unusedVariables false
set_option linter.unusedSimpArgs false

/-! ### one row under two headers -/
def both (A B : Asr) : Asr where
  H w S := A.H w S ∧ B.H w S
  mono hs h := ⟨A.mono hs h.1, B.mono hs h.2⟩
  bound h := ⟨A.bound h.1, B.bound h.2⟩
  move hm h := ⟨A.move hm h.1, B.move hm h.2⟩
theorem SL.both_of {A : Asr} {L : List Asr} {w : World} {S : Nat → Prop} : SL (A :: L) w S → SL (both A A :: L) w S := SL.imp (fun _ h => ⟨h, h⟩)
theorem SL.both_fst {A B : Asr} {L : List Asr} {w : World} {S : Nat → Prop} : SL (both A B :: L) w S → SL (A :: L) w S := SL.imp (fun _ h => h.1)
theorem SL.both_snd {A B : Asr} {L : List Asr} {w : World} {S : Nat → Prop} : SL (both A B :: L) w S → SL (B :: L) w S := SL.imp (fun _ h => h.2)
theorem SL.both_map {A B C : Asr} (h : ∀ S L w, SL (B :: L) w S → SL (C :: L) w S) {L : List Asr} {w : World} {S : Nat → Prop} : SL (both A B :: L) w S → SL (both A C :: L) w S := SL.imp (fun T k => by
  obtain ⟨T', _, h1, _, _, h2, _⟩ := h T [] w ⟨T, fun _ => False, fun _ q => q, fun _ q => q.elim, fun _ _ q => q, k.2, trivial⟩
  exact ⟨k.1, C.mono h1 h2⟩)

def draw_Stream_Below.Post2 (B : Asr) (b0 : Nat) (r1 : Int) (r2 : Bool) (r3 : List Int) (S : Nat → Prop) (L : List Asr) (w : World) (e : Ending) (w' : World) : Prop := ∃ (Ar3 : Option Addr) (cr3 : Nat), e = .returned (.tuple #[.int .i64 r1, .bool r2]) ∧ SL (cells b0 50 [.slice Ar3 r3.length cr3].toArray :: both B (row (Kd.int .i64) 3 (.slice Ar3 r3.length cr3) r3) :: L) w' S ∧ Keep S w w'
set_option maxHeartbeats 8000000 in
set_option maxRecDepth 100000 in
theorem draw_Stream_Below.slcalls2 (B : Asr) (k : Nat) (a1 : Int) (b0 : Nat) (As0_0 : Option Addr) (cs0_0 : Nat) (s0_0 : List Int) (r1 : Int) (r2 : Bool) (r3 : List Int) (S : Nat → Prop) (L : List Asr) (w : World) (hf : Fresh S w) (hs : SL (cells b0 50 [.slice As0_0 s0_0.length cs0_0].toArray :: both B (row (Kd.int .i64) 3 (.slice As0_0 s0_0.length cs0_0) s0_0) :: L) w S) (h : draw_Stream_Below.f k a1 s0_0 = some (r1, r2, r3)) :
    Calls Try.prog 14 #[.pointer (some ⟨b0, 0, none⟩), .int .i64 a1] w (draw_Stream_Below.Post2 B b0 r1 r2 r3 S L w) := by
  have HF := Aside0.mk hf
  have HS := Aside0.mk hs
  have HK := Aside0.mk (Keep.refl S w)
  clear hf hs
  have H : ((draw_Fair.f k s0_0 a1).bind fun bt108 => (if 0 ≤ bt108.2.1 then (if bt108.2.1 ≤ (s0_0.length : Int) then ((some (s0_0.drop (bt108.2.1).toNat : List Int)).bind fun y111 => (some (bt108.1, bt108.2.2, y111))) else (none)) else (none))) = some (r1, r2, r3) := h
  clear h
  replace H := Option.bind_eq_some_iff.1 H
  obtain ⟨⟨t108, t109, t110⟩, Hc10, H⟩ := H
  try dsimp only at H
  have Hc1 := Aside0.mk Hc10
  clear Hc10
  by_cases c2 : 0 ≤ t109
  · rw [if_pos c2] at H
    have c2b0 := eq_true c2
    have c2b1 : decide (0 ≤ t109) = true := decide_eq_true c2
    clear c2
    by_cases c3 : t109 ≤ (s0_0.length : Int)
    · rw [if_pos c3] at H
      have c3b0 := eq_true c3
      have c3b1 : decide (t109 ≤ (s0_0.length : Int)) = true := decide_eq_true c3
      clear c3
      replace H := Option.bind_eq_some_iff.1 H
      obtain ⟨y111, hy1110, H⟩ := H
      try dsimp only at H
      have hy111 := Option.some.inj hy1110
      clear hy1110
      have Ny111 := Aside0.mk hy111
      clear hy111
      simp only [Option.some.injEq, Prod.mk.injEq] at H
      obtain ⟨rfl, rfl, rfl⟩ := H
      have hb_ := SL.at_ HS.out
      have hz0_0_0 := ((blk_cell hb_ 0).trans rfl : _ = some (.slice As0_0 s0_0.length cs0_0))
      clear hb_
      go_enter Try.func14, Try.ntmps14
      go_wp2_with (first | ((with_reducible refine gate_dst (N := 15) rfl ?_); refine goesL_ (some 15) rfl rfl Try.func9 (by kernel_rfl) rfl #[.slice As0_0 s0_0.length cs0_0, .int .i64 a1] rfl (by (try simp only [List.map_toArray, List.map_cons, List.map_nil]); first | done | rfl | (simp; done)) ?_; (with_reducible refine (draw_Fair.calls k _ _ _ _ _ _ _ _ (SL.row_c (SL.both_snd (SL.get1 HS.out))).2.2 (SL.row_c (SL.both_snd (SL.get1 HS.out))).2.1 Hc1.out).mono ?_); rintro e_ w4 ⟨rfl, hb_⟩; refine ⟨_, rfl, ?_⟩; replace HS := Aside0.mk (HS.out.below hb_); replace HK := Aside0.mk (HK.out.trans (Keep.below hb_)); (try clear hz0_0_0); have hb_ := SL.at_ HS.out; have hz0_0_1 := ((blk_cell hb_ 0).trans rfl : _ = some (.slice As0_0 s0_0.length cs0_0)); clear hb_; obtain ⟨A112, c113, hcvq114, hcs_, hcc_, hcl_⟩ := cut_of (P := Try.prog) (Kd.int .i64) 22 3 .i64 .i64 Try.underlying22 (by kernel_rfl) rfl As0_0 s0_0.length cs0_0 s0_0 rfl (SL.row_c (SL.both_snd (SL.get1 HS.out))).2.1 t109 (of_decide_eq_true (by first | (with_reducible assumption) | assumption) : (0 : Int) ≤ (t109 : Int)) (of_decide_eq_true (by first | (with_reducible assumption) | assumption) : (t109 : Int) ≤ ((s0_0.length : Int) : Int)) y111 Ny111.out; have n2_ := Aside0.mk (SL.back1 (SL.both_map hcs_ (SL.get1 HS.out))); clear HS hcs_ hcc_ hcl_; have HS := n2_; clear n2_) | ((with_reducible refine gate_store (t := 22) (p := 27) (v := (.tmp 25)) rfl ?_); refine wpList_plain rfl (fun K_ hK_ => ?_); refine op_store (S := S) 22 (.tmp 27) (.tmp 25) rfl b0 0 (.slice A112 y111.length c113) [.slice A112 y111.length c113] rfl rfl rfl (by kernel_rfl) (by simp [Value.oneCell']) HS.out (by simp) ?_; intro w5 hs_ hk_; refine hK_ _ _ ?_; clear hK_ K_; replace HS := Aside0.mk ((show SL (cells b0 50 [.slice A112 y111.length c113].toArray :: _) _ _ from hs_)); replace HK := Aside0.mk (HK.out.trans hk_); (try clear hz0_0_1)))
      go_ret2
      unfold draw_Stream_Below.Post2
      exact ⟨A112, c113, by first | rfl | (simp; done) | (simp [*]; done) | (simp at c3b0 ⊢; first | exact c3b0 | (simp [c3b0]; done)), HS.out, HK.out⟩
    · rw [if_neg c3] at H
      exact absurd H (by simp)
  · rw [if_neg c2] at H
    exact absurd H (by simp)

/-! ### draw_Stream_Deal: function 19 -/
mutual
def draw_Stream_Deal.l0 : Nat → Int → (List Int) → (List Int) → Int → (List Int) → Option ((List Int) × Bool × (List Int))
  | 0, _, _, _, _, _ => none
  | k + 1, a1, s0_0, y192, x22_0, y3000009_0 => if x22_0 < (y192.length : Int) then (if 0 ≤ x22_0 then ((some (y3000009_0.set (x22_0).toNat x22_0 : List Int)).bind fun y218 => (draw_Stream_Deal.l0 k a1 s0_0 y192 (wrap64 (x22_0 + 1)) y218)) else (none)) else (draw_Stream_Deal.l1 k s0_0 y192 (wrap64 (a1 - 1)) y3000009_0 s0_0)
def draw_Stream_Deal.l1 : Nat → (List Int) → (List Int) → Int → (List Int) → (List Int) → Option ((List Int) × Bool × (List Int))
  | 0, _, _, _, _, _ => none
  | k + 1, o_, y192, x9_1, y3000009_1, y100000_1 => if x9_1 > 0 then ((draw_Stream_Below.f k (wrap64 (x9_1 + 1)) y100000_1).bind fun bt206 => (if bt206.2.1 = true then (if 0 ≤ bt206.1 then (if bt206.1 < (y192.length : Int) then (if 0 ≤ x9_1 then (if x9_1 < (y192.length : Int) then ((some (y3000009_1.set (x9_1).toNat (rd y3000009_1 bt206.1) : List Int)).bind fun y214 => ((some (y214.set (bt206.1).toNat (rd y3000009_1 x9_1) : List Int)).bind fun y216 => (draw_Stream_Deal.l1 k o_ y192 (wrap64 (x9_1 - 1)) y216 bt206.2.2))) else (none)) else (none)) else (none)) else (none)) else (some (([] : List Int), false, o_)))) else (some (y3000009_1, true, y100000_1))
end
def draw_Stream_Deal.f (k : Nat) (a1 : Int) (s0_0 : List Int) : Option ((List Int) × Bool × (List Int)) := if a1 < 0 then (some (([] : List Int), false, s0_0)) else (if a1 > 256 then (some (([] : List Int), false, s0_0)) else (if 0 ≤ a1 then (if a1 ≤ 35184372088832 then ((some (List.replicate (a1).toNat 0 : List Int)).bind fun y192 => (draw_Stream_Deal.l0 k a1 s0_0 y192 0 y192)) else (none)) else (none)))
theorem draw_Stream_Deal.mono_l : ∀ k, (∀ y0 y1 y2 y3 y4, LeO (draw_Stream_Deal.l0 k y0 y1 y2 y3 y4) (draw_Stream_Deal.l0 (k + 1) y0 y1 y2 y3 y4)) ∧ (∀ y0 y1 y2 y3 y4, LeO (draw_Stream_Deal.l1 k y0 y1 y2 y3 y4) (draw_Stream_Deal.l1 (k + 1) y0 y1 y2 y3 y4))
  | 0 => ⟨fun _ _ _ _ _ r h => by simp [draw_Stream_Deal.l0] at h, fun _ _ _ _ _ r h => by simp [draw_Stream_Deal.l1] at h⟩
  | k + 1 => by
    obtain ⟨ih0, ih1⟩ := draw_Stream_Deal.mono_l k
    refine ⟨?_, ?_⟩
    · intro y0 y1 y2 y3 y4
      unfold draw_Stream_Deal.l0
      repeat' first
      | (with_reducible exact ih0 _ _ _ _ _)
      | (with_reducible exact ih1 _ _ _ _ _)
      | (with_reducible exact draw_Stream_Below.mono _ _ _)
      | (with_reducible exact LeO.refl _)
      | (with_reducible exact LeO.none _)
      | (with_reducible refine LeO.ite ?_ ?_)
      | (with_reducible refine everyOf_le (fun _ => ?_))
      | (with_reducible refine LeO.bind ?_ (fun _ => ?_))
      | exact ih0 _ _ _ _ _
      | exact ih1 _ _ _ _ _
      | exact draw_Stream_Below.mono _ _ _
      | exact LeO.none _
      | refine LeO.ite ?_ ?_
      | refine LeO.bind ?_ (fun _ => ?_)
    · intro y0 y1 y2 y3 y4
      unfold draw_Stream_Deal.l1
      repeat' first
      | (with_reducible exact ih0 _ _ _ _ _)
      | (with_reducible exact ih1 _ _ _ _ _)
      | (with_reducible exact draw_Stream_Below.mono _ _ _)
      | (with_reducible exact LeO.refl _)
      | (with_reducible exact LeO.none _)
      | (with_reducible refine LeO.ite ?_ ?_)
      | (with_reducible refine everyOf_le (fun _ => ?_))
      | (with_reducible refine LeO.bind ?_ (fun _ => ?_))
      | exact ih0 _ _ _ _ _
      | exact ih1 _ _ _ _ _
      | exact draw_Stream_Below.mono _ _ _
      | exact LeO.none _
      | refine LeO.ite ?_ ?_
      | refine LeO.bind ?_ (fun _ => ?_)
theorem draw_Stream_Deal.mono : ∀ a0 a1 k, LeO (draw_Stream_Deal.f k a0 a1) (draw_Stream_Deal.f (k + 1) a0 a1) := by
  intro a0 a1 k
  obtain ⟨ih0, ih1⟩ := draw_Stream_Deal.mono_l k
  unfold draw_Stream_Deal.f
  repeat' first
      | (with_reducible exact ih0 _ _ _ _ _)
      | (with_reducible exact ih1 _ _ _ _ _)
      | (with_reducible exact draw_Stream_Below.mono _ _ _)
      | (with_reducible exact LeO.refl _)
      | (with_reducible exact LeO.none _)
      | (with_reducible refine LeO.ite ?_ ?_)
      | (with_reducible refine everyOf_le (fun _ => ?_))
      | (with_reducible refine LeO.bind ?_ (fun _ => ?_))
      | exact ih0 _ _ _ _ _
      | exact ih1 _ _ _ _ _
      | exact draw_Stream_Below.mono _ _ _
      | exact LeO.none _
      | refine LeO.ite ?_ ?_
      | refine LeO.bind ?_ (fun _ => ?_)
def draw_Stream_Deal.T17 : Bool × List (List Nat × List Nat) := (true, [([], []), ([], []), ([], []), ([], []), ([], []), ([], []), ([4, 5], [4, 5]), ([6], [6]), ([], []), ([], []), ([8, 9], [8, 9]), ([10], [10]), ([0, 1, 0, 1, 4, 5, 6, 7, 11], [0, 1]), ([12, 7, 0, 1, 4, 5, 6, 7, 11], [7, 12]), ([2, 3, 0, 1, 2, 3, 4, 5, 6, 7, 8, 9, 10, 11, 12, 13], [2, 3]), ([14, 11, 13, 0, 1, 2, 3, 4, 5, 6, 7, 8, 9, 10, 11, 12, 13], [11, 14])])
def draw_Stream_Deal.B17 : List Nat := [0, 0, 0, 0, 0, 0, 48, 112, 0, 0, 768, 1792, 4083, 8179, 16383, 32767]
theorem draw_Stream_Deal.tab17 : rtab .any (opsOf Try.f19 17) = draw_Stream_Deal.T17 := by kernel_rfl
theorem draw_Stream_Deal.bits17 : waitsOk draw_Stream_Deal.T17.2 draw_Stream_Deal.B17 = true := by kernel_rfl
def draw_Stream_Deal.Post (b0 : Nat) (r1 : List Int) (r2 : Bool) (r3 : List Int) (S : Nat → Prop) (L : List Asr) (w : World) (e : Ending) (w' : World) : Prop := ∃ (Ar3 : Option Addr) (cr3 : Nat) (Ar1 : Option Addr) (cr1 : Nat), e = .returned (.tuple #[.slice Ar1 r1.length cr1, .bool r2]) ∧ SL (cells b0 50 [.slice Ar3 r3.length cr3].toArray :: row (Kd.int .i64) 3 (.slice Ar3 r3.length cr3) r3 :: row (Kd.int .i64) 3 (.slice Ar1 r1.length cr1) r1 :: L) w' S ∧ Keep S w w'
set_option maxHeartbeats 8000000 in
set_option maxRecDepth 100000 in
theorem draw_Stream_Deal.slcalls (k : Nat) (a1 : Int) (b0 : Nat) (As0_0 : Option Addr) (cs0_0 : Nat) (s0_0 : List Int) (r1 : List Int) (r2 : Bool) (r3 : List Int) (S : Nat → Prop) (L : List Asr) (w : World) (hf : Fresh S w) (hs : SL (cells b0 50 [.slice As0_0 s0_0.length cs0_0].toArray :: row (Kd.int .i64) 3 (.slice As0_0 s0_0.length cs0_0) s0_0 :: L) w S) (h : draw_Stream_Deal.f k a1 s0_0 = some (r1, r2, r3)) :
    Calls Try.prog 19 #[.pointer (some ⟨b0, 0, none⟩), .int .i64 a1] w (draw_Stream_Deal.Post b0 r1 r2 r3 S L w) := by
  have HF := Aside0.mk hf
  have HS := Aside0.mk hs
  have HK := Aside0.mk (Keep.refl S w)
  clear hf hs
  have H : (if a1 < 0 then (some (([] : List Int), false, s0_0)) else (if a1 > 256 then (some (([] : List Int), false, s0_0)) else (if 0 ≤ a1 then (if a1 ≤ 35184372088832 then ((some (List.replicate (a1).toNat 0 : List Int)).bind fun y192 => (draw_Stream_Deal.l0 k a1 s0_0 y192 0 y192)) else (none)) else (none)))) = some (r1, r2, r3) := h
  clear h
  by_cases c1 : a1 < 0
  · rw [if_pos c1] at H
    have c1b0 : decide (a1 < 0) = true := decide_eq_true c1
    clear c1
    simp only [Option.some.injEq, Prod.mk.injEq] at H
    obtain ⟨rfl, rfl, rfl⟩ := H
    have n2_ := Aside0.mk (SL.nil_row (Kd.int .i64) 3 HS.out)
    clear HS
    have HS := n2_
    clear n2_
    go_enter Try.func19, Try.ntmps19
    go_wp2
    go_ret2
    replace HS := Aside0.mk (SL.get2 (SL.get2 HS.out))
    unfold draw_Stream_Deal.Post
    exact ⟨As0_0, cs0_0, none, 0, by first | rfl | (simp; done) | (simp [*]; done) | (simp at c1b0 ⊢; first | exact c1b0 | (simp [c1b0]; done)), HS.out, HK.out⟩
  · rw [if_neg c1] at H
    have c1b0 : decide (a1 < 0) = false := decide_eq_false c1
    clear c1
    by_cases c2 : a1 > 256
    · rw [if_pos c2] at H
      have c2b0 : decide (256 < a1) = true := decide_eq_true c2
      clear c2
      simp only [Option.some.injEq, Prod.mk.injEq] at H
      obtain ⟨rfl, rfl, rfl⟩ := H
      have n2_ := Aside0.mk (SL.nil_row (Kd.int .i64) 3 HS.out)
      clear HS
      have HS := n2_
      clear n2_
      go_enter Try.func19, Try.ntmps19
      go_wp2
      go_ret2
      replace HS := Aside0.mk (SL.get2 (SL.get2 HS.out))
      unfold draw_Stream_Deal.Post
      exact ⟨As0_0, cs0_0, none, 0, by first | rfl | (simp; done) | (simp [*]; done) | (simp at c2b0 ⊢; first | exact c2b0 | (simp [c2b0]; done)), HS.out, HK.out⟩
    · rw [if_neg c2] at H
      have c2b0 : decide (256 < a1) = false := decide_eq_false c2
      clear c2
      by_cases c3 : 0 ≤ a1
      · rw [if_pos c3] at H
        have c3b0 := eq_true c3
        have c3b1 : decide (0 ≤ a1) = true := decide_eq_true c3
        clear c3
        by_cases c4 : a1 ≤ 35184372088832
        · rw [if_pos c4] at H
          have LMc4 := Aside0.mk c4
          clear c4
          replace H := Option.bind_eq_some_iff.1 H
          obtain ⟨y192, hy1920, H⟩ := H
          try dsimp only at H
          have hy192 := Option.some.inj hy1920
          clear hy1920
          have Ny192 := Aside0.mk hy192
          clear hy192
          have H' := Aside0.mk H
          clear H
          go_enter Try.func19, Try.ntmps19
          go_wp2_with (first | ((with_reducible refine gate_dst (N := 19) rfl ?_); refine wpList_plain rfl (fun K_ hK_ => ?_); refine op_make (S := S) (enc := Value.int .i64) (h1 := fun _ => rfl) 0 22 3 8 (.tmp 18) (.tmp 18) rfl Try.underlying22 (by kernel_rfl) rfl (by decide) (a1) rfl rfl (of_decide_eq_true (by first | (with_reducible assumption) | assumption)) (by have := LMc4.out; omega) y192 Ny192.out (HF.out.keep HK.out) HS.out ?_; intro Az3000009 cz3000009 w5 hs_ hk_; refine hK_ _ _ ?_; clear hK_ K_; replace HS := Aside0.mk ((show SL (row (Kd.int .i64) 3 (.slice Az3000009 y192.length cz3000009) y192 :: _) _ _ from hs_)); replace HK := Aside0.mk (HK.out.trans hk_)))
          go_loopg [22] k (fun kq v22 w' => ∃ (y3000009_0 : List Int) (x22_0 : Int), v22 = .int .i64 x22_0 ∧ Aside0 (draw_Stream_Deal.l0 kq a1 s0_0 y192 x22_0 y3000009_0 = some (r1, r2, r3)) ∧ Aside0 (kq ≤ k) ∧ Aside0 (SL (row (Kd.int .i64) 3 (.slice Az3000009 y192.length cz3000009) y3000009_0 :: cells b0 50 [.slice As0_0 s0_0.length cs0_0].toArray :: row (Kd.int .i64) 3 (.slice As0_0 s0_0.length cs0_0) s0_0 :: L) w' S) ∧ Aside0 (Keep S w w'))
          case atStart => exact ⟨(y192), (0), (by first | rfl | (simp; done) | (simp [*]; done)), H', ⟨Nat.le_refl _⟩, HS, HK⟩
          case round =>
            clear H' HS HK
            obtain ⟨y3000009_0, x22_0, rfl, HA, HQ1, HS, HK⟩ := hrel
            cases gk with
            | zero => exact absurd HA.out (by simp [draw_Stream_Deal.l0])
            | succ k1 =>
              have H := HA.out
              clear HA
              simp only [draw_Stream_Deal.l0] at H
              by_cases c6 : x22_0 < (y192.length : Int)
              · rw [if_pos c6] at H
                have c6b0 : decide (x22_0 < (y192.length : Int)) = true := decide_eq_true c6
                clear c6
                by_cases c7 : 0 ≤ x22_0
                · rw [if_pos c7] at H
                  have c7b0 : decide (0 ≤ x22_0) = true := decide_eq_true c7
                  clear c7
                  replace H := Option.bind_eq_some_iff.1 H
                  obtain ⟨y218, hy2180, H⟩ := H
                  try dsimp only at H
                  have hy218 := Option.some.inj hy2180
                  clear hy2180
                  have Ny218 := Aside0.mk hy218
                  clear hy218
                  have H' := Aside0.mk H
                  clear H
                  have pq217 : 0 ≤ (x22_0 : Int) := of_decide_eq_true (by first | (with_reducible assumption) | assumption)
                  have qq217 : x22_0 < ((y192.length : Int) : Int) := of_decide_eq_true (by first | (with_reducible assumption) | assumption)
                  obtain ⟨adq217, eq217, hxq217_0⟩ := Kd.at_int (SL.row_c HS.out).2.2 x22_0 pq217 qq217
                  cases eq217
                  replace pq217 := eq_true pq217
                  replace qq217 := eq_true qq217
                  go_wp2_with (first | ((with_reducible refine gate_store (t := 3) (p := 28) (v := (.tmp 27)) rfl ?_); refine wpList_plain rfl (fun K_ hK_ => ?_); refine op_set (S := S) (enc := Value.int .i64) (h1 := fun _ => rfl) 3 (.tmp 28) (.tmp 27) rfl adq217 (x22_0) x22_0 HS.out (by rfl) rfl (by kernel_rfl) (of_decide_eq_true (by first | (with_reducible assumption) | assumption)) (of_decide_eq_true (by first | (with_reducible assumption) | assumption)) y218 Ny218.out ?_; intro w8 hs_ hk_; refine hK_ _ _ ?_; clear hK_ K_; replace HS := Aside0.mk ((show SL (row (Kd.int .i64) 3 (.slice (some adq217) y192.length cz3000009) y218 :: _) _ _ from hs_)); replace HK := Aside0.mk (HK.out.trans hk_)))
                  go_roundg k1
                  case measure => have := HQ1.out; omega
                  case rel => exact ⟨(y218), (wrap64 (x22_0 + 1)), (by first | rfl | (simp; done) | (simp [*]; done)), H', ⟨by have := HQ1.out; omega⟩, HS, HK⟩
                · rw [if_neg c7] at H
                  exact absurd H (by simp)
              · rw [if_neg c6] at H
                have c6b0 : decide (x22_0 < (y192.length : Int)) = false := decide_eq_false c6
                clear c6
                have H' := Aside0.mk H
                clear H
                have hb_ := SL.at_ (SL.get1 HS.out)
                have hz0_0_0 := ((blk_cell hb_ 0).trans rfl : _ = some (.slice As0_0 s0_0.length cs0_0))
                clear hb_
                have n2_ := Aside0.mk (SL.nil_row (Kd.int .i64) 3 HS.out)
                clear HS
                have HS := n2_
                clear n2_
                go_wp2
                replace HS := Aside0.mk (SL.cons (fun _ _ => SL.cons (fun _ _ => SL.cons (fun _ _ => SL.both_of))) HS.out)
                go_loopg [4, 9] k1 (fun kq v4 v9 w' => ∃ (x4_1 : List Int) (Ax4_1 : Option Addr) (cx4_1 : Nat) (y3000009_1 : List Int) (y100000_1 : List Int) (A100000_1 : Option Addr) (c100000_1 : Nat) (x9_1 : Int), v4 = .slice Ax4_1 x4_1.length cx4_1 ∧ v9 = .int .i64 x9_1 ∧ Aside0 (draw_Stream_Deal.l1 kq s0_0 y192 x9_1 y3000009_1 y100000_1 = some (r1, r2, r3)) ∧ Aside0 (kq ≤ k1) ∧ Aside0 (SL (row (Kd.int .i64) 3 (.slice Ax4_1 x4_1.length cx4_1) x4_1 :: row (Kd.int .i64) 3 (.slice Az3000009 y192.length cz3000009) y3000009_1 :: cells b0 50 [.slice A100000_1 y100000_1.length c100000_1].toArray :: both (row (Kd.int .i64) 3 (.slice As0_0 s0_0.length cs0_0) s0_0) (row (Kd.int .i64) 3 (.slice A100000_1 y100000_1.length c100000_1) y100000_1) :: L) w' S) ∧ Aside0 (Keep S w w'))
                case atStart => exact ⟨(([] : List Int)), (none), (0), (y3000009_0), (s0_0), (As0_0), (cs0_0), (wrap64 (a1 - 1)), (by first | rfl | (simp; done) | (simp [*]; done)), (by first | rfl | (simp; done) | (simp [*]; done)), H', ⟨Nat.le_refl _⟩, HS, HK⟩
                case round =>
                  clear H' HS HK
                  try clear hz0_0_0
                  obtain ⟨x4_1, Ax4_1, cx4_1, y3000009_1, y100000_1, A100000_1, c100000_1, x9_1, rfl, rfl, HA, HQ2, HS, HK⟩ := hrel
                  cases gk with
                  | zero => exact absurd HA.out (by simp [draw_Stream_Deal.l1])
                  | succ k2 =>
                    have H := HA.out
                    clear HA
                    simp only [draw_Stream_Deal.l1] at H
                    by_cases c9 : x9_1 > 0
                    · rw [if_pos c9] at H
                      have c9b0 : decide (0 < x9_1) = true := decide_eq_true c9
                      clear c9
                      replace H := Option.bind_eq_some_iff.1 H
                      obtain ⟨⟨t206, t207, t208⟩, Hc100, H⟩ := H
                      try dsimp only at H
                      have Hc10 := Aside0.mk Hc100
                      clear Hc100
                      by_cases c11 : t207 = true
                      · subst c11
                        rw [if_pos rfl] at H
                        by_cases c12 : 0 ≤ t206
                        · rw [if_pos c12] at H
                          have c12b0 : decide (0 ≤ t206) = true := decide_eq_true c12
                          clear c12
                          by_cases c13 : t206 < (y192.length : Int)
                          · rw [if_pos c13] at H
                            have c13b0 : decide (t206 < (y192.length : Int)) = true := decide_eq_true c13
                            clear c13
                            by_cases c14 : 0 ≤ x9_1
                            · rw [if_pos c14] at H
                              have c14b0 : decide (0 ≤ x9_1) = true := decide_eq_true c14
                              clear c14
                              by_cases c15 : x9_1 < (y192.length : Int)
                              · rw [if_pos c15] at H
                                have c15b0 : decide (x9_1 < (y192.length : Int)) = true := decide_eq_true c15
                                clear c15
                                replace H := Option.bind_eq_some_iff.1 H
                                obtain ⟨y214, hy2140, H⟩ := H
                                try dsimp only at H
                                have hy214 := Option.some.inj hy2140
                                clear hy2140
                                have Ny214 := Aside0.mk hy214
                                clear hy214
                                replace H := Option.bind_eq_some_iff.1 H
                                obtain ⟨y216, hy2160, H⟩ := H
                                try dsimp only at H
                                have hy216 := Option.some.inj hy2160
                                clear hy2160
                                have Ny216 := Aside0.mk hy216
                                clear hy216
                                have H' := Aside0.mk H
                                clear H
                                try go_wp2_with (first | ((with_reducible refine gate_dst (N := 44) rfl ?_); refine goesL_ (some 44) rfl rfl Try.func14 (by kernel_rfl) rfl #[.pointer (some ⟨b0, 0, none⟩), .int .i64 (wrap64 (x9_1 + 1))] rfl (by (try simp only [List.map_toArray, List.map_cons, List.map_nil]); first | done | rfl | (simp; done)) ?_; have hs0_ := (SL.get3 (SL.get3 HS.out)); (with_reducible refine (draw_Stream_Below.slcalls2 _ k2 _ _ _ _ _ _ _ _ _ _ _ (HF.out.keep HK.out) hs0_  Hc10.out).mono ?_); rintro e_ w16 ⟨A209, c210, rfl, hsr_, hkr_⟩; refine ⟨_, rfl, ?_⟩; replace HS := Aside0.mk (hsr_); replace HK := Aside0.mk (HK.out.trans hkr_)))
                                have pq211 : 0 ≤ (t206 : Int) := of_decide_eq_true (by first | (with_reducible assumption) | assumption)
                                have qq211 : t206 < ((y192.length : Int) : Int) := of_decide_eq_true (by first | (with_reducible assumption) | assumption)
                                obtain ⟨adq211, eq211, hxq211_0⟩ := Kd.at_int (SL.row_c (SL.get3 HS.out)).2.2 t206 pq211 qq211
                                cases eq211
                                replace pq211 := eq_true pq211
                                replace qq211 := eq_true qq211
                                have pq212 : 0 ≤ (x9_1 : Int) := of_decide_eq_true (by first | (with_reducible assumption) | assumption)
                                have qq212 : x9_1 < ((y192.length : Int) : Int) := of_decide_eq_true (by first | (with_reducible assumption) | assumption)
                                obtain ⟨adq212, eq212, hxq212_0⟩ := Kd.at_int (SL.row_c (SL.get3 HS.out)).2.2 x9_1 pq212 qq212
                                obtain rfl : adq211 = adq212 := (by injection eq212)
                                replace pq212 := eq_true pq212
                                replace qq212 := eq_true qq212
                                have pq213 : 0 ≤ (x9_1 : Int) := of_decide_eq_true (by first | (with_reducible assumption) | assumption)
                                have qq213 : x9_1 < ((y192.length : Int) : Int) := of_decide_eq_true (by first | (with_reducible assumption) | assumption)
                                obtain ⟨adq213, eq213, hxq213_0⟩ := Kd.at_int (SL.row_c (SL.get3 HS.out)).2.2 x9_1 pq213 qq213
                                obtain rfl : adq211 = adq213 := (by injection eq213)
                                replace pq213 := eq_true pq213
                                replace qq213 := eq_true qq213
                                have pq215 : 0 ≤ (t206 : Int) := of_decide_eq_true (by first | (with_reducible assumption) | assumption)
                                have qq215 : t206 < ((y192.length : Int) : Int) := of_decide_eq_true (by first | (with_reducible assumption) | assumption)
                                obtain ⟨adq215, eq215, hxq215_0⟩ := Kd.at_int (SL.row_c (SL.get3 HS.out)).2.2 t206 pq215 qq215
                                obtain rfl : adq211 = adq215 := (by injection eq215)
                                replace pq215 := eq_true pq215
                                replace qq215 := eq_true qq215
                                refine start_ (n := 16) (S := fun w' => w'.cell? (adq211.add t206.toNat) = some (.int .i64 (rd y3000009_1 t206)) ∧ w'.cell? (adq211.add x9_1.toNat) = some (.int .i64 (rd y3000009_1 x9_1)) ∧ w'.cell? (adq211.add x9_1.toNat) = some (.int .i64 (rd y3000009_1 x9_1))) (ds := [13, 15]) #[false, false, false, false, false, false, false, false, false, false, false, false, false, false, false, false] (by kernel_rfl) rfl rfl ⟨(SL.cell_int (SL.get3 HS.out) t206 (of_eq_true pq211) (of_eq_true qq211)), (SL.cell_int (SL.get3 HS.out) x9_1 (of_eq_true pq212) (of_eq_true qq212)), (SL.cell_int (SL.get3 HS.out) x9_1 (of_eq_true pq213) (of_eq_true qq213))⟩ (fun hHeld => ?_); refine with_tabW draw_Stream_Deal.tab17 draw_Stream_Deal.bits17 (fun HT_ HW_ => ?_)
                                replace HK := Aside0.mk (Keep.drew HK.out)
                                replace HS := Aside0.mk (SL.drew HS.out)
                                refine pure_ (i := 0) (N := some 53) (v := ?_) (a' := ?_) #[true, false, false, false, false, false, false, false, false, false, false, false, false, false, false, false] rfl rfl (any_of HT_.out (by kernel_rfl)) (fun _ _ _ h => h) (Or.inl ⟨by rfl, ?_⟩) ?_ ?_; rotate_left; · (intro w'; go_simp; with_reducible rfl)
                                rotate_left; · (simp only [Act.put, sT, sZ, sS, i64_w, i32_w]; rfl)
                                refine pure_ (i := 1) (N := some 54) (v := ?_) (a' := ?_) #[true, true, false, false, false, false, false, false, false, false, false, false, false, false, false, false] rfl rfl (any_of HT_.out (by kernel_rfl)) (fun _ _ _ h => h) (Or.inl ⟨by rfl, ?_⟩) ?_ ?_; rotate_left; · (intro w'; go_simp; with_reducible rfl)
                                rotate_left; · (simp only [Act.put, sT, sZ, sS, i64_w, i32_w]; rfl)
                                refine pure_ (i := 2) (N := some 55) (v := ?_) (a' := ?_) #[true, true, true, false, false, false, false, false, false, false, false, false, false, false, false, false] rfl rfl (any_of HT_.out (by kernel_rfl)) (fun _ _ _ h => h) (Or.inl ⟨by rfl, ?_⟩) ?_ ?_; rotate_left; · (intro w'; go_simp; with_reducible rfl)
                                rotate_left; · (simp only [Act.put, sT, sZ, sS, i64_w, i32_w]; rfl)
                                refine pure_ (i := 3) (N := some 56) (v := ?_) (a' := ?_) #[true, true, true, true, false, false, false, false, false, false, false, false, false, false, false, false] rfl rfl (any_of HT_.out (by kernel_rfl)) (fun _ _ _ h => h) (Or.inl ⟨by rfl, ?_⟩) ?_ ?_; rotate_left; · (intro w'; go_simp; with_reducible rfl)
                                rotate_left; · (simp only [Act.put, sT, sZ, sS, i64_w, i32_w]; rfl)
                                refine pure_ (i := 4) (N := some 57) (v := ?_) (a' := ?_) #[true, true, true, true, true, false, false, false, false, false, false, false, false, false, false, false] rfl rfl (any_of HT_.out (by kernel_rfl)) (fun _ _ _ h => h) (Or.inl ⟨by rfl, ?_⟩) ?_ ?_; rotate_left; · (intro w'; go_simp; with_reducible rfl)
                                rotate_left; · (simp only [Act.put, sT, sZ, sS, i64_w, i32_w]; rfl)
                                refine pure_ (i := 5) (N := some 58) (v := ?_) (a' := ?_) #[true, true, true, true, true, true, false, false, false, false, false, false, false, false, false, false] rfl rfl (any_of HT_.out (by kernel_rfl)) (fun _ _ _ h => h) (Or.inl ⟨by rfl, ?_⟩) ?_ ?_; rotate_left; · (intro w'; go_simp; with_reducible rfl)
                                rotate_left; · (simp only [Act.put, sT, sZ, sS, i64_w, i32_w]; rfl)
                                refine pure_ (i := 6) (N := some 59) (v := ?_) (a' := ?_) #[true, true, true, true, true, true, true, false, false, false, false, false, false, false, false, false] rfl rfl (any_of HT_.out (by kernel_rfl)) (fun _ _ _ h => h) (Or.inl ⟨by rfl, ?_⟩) ?_ ?_; rotate_left; · (intro w'; go_simp; with_reducible rfl)
                                rotate_left; · (simp only [Act.put, sT, sZ, sS, i64_w, i32_w]; rfl)
                                refine pure_ (i := 8) (N := some 61) (v := ?_) (a' := ?_) #[true, true, true, true, true, true, true, false, true, false, false, false, false, false, false, false] rfl rfl (any_of HT_.out (by kernel_rfl)) (fun _ _ _ h => h) (Or.inl ⟨by rfl, ?_⟩) ?_ ?_; rotate_left; · (intro w'; go_simp; with_reducible rfl)
                                rotate_left; · (simp only [Act.put, sT, sZ, sS, i64_w, i32_w]; rfl)
                                refine pure_ (i := 9) (N := some 62) (v := ?_) (a' := ?_) #[true, true, true, true, true, true, true, false, true, true, false, false, false, false, false, false] rfl rfl (any_of HT_.out (by kernel_rfl)) (fun _ _ _ h => h) (Or.inl ⟨by rfl, ?_⟩) ?_ ?_; rotate_left; · (intro w'; go_simp; with_reducible rfl)
                                rotate_left; · (simp only [Act.put, sT, sZ, sS, i64_w, i32_w]; rfl)
                                refine pure_ (i := 10) (N := some 63) (v := ?_) (a' := ?_) #[true, true, true, true, true, true, true, false, true, true, true, false, false, false, false, false] rfl rfl (any_of HT_.out (by kernel_rfl)) (fun _ _ _ h => h) (Or.inl ⟨by rfl, ?_⟩) ?_ ?_; rotate_left; · (intro w'; go_simp; with_reducible rfl)
                                rotate_left; · (simp only [Act.put, sT, sZ, sS, i64_w, i32_w]; rfl)
                                refine take_ (i := 7) (N := some 60) (v := ?_) (a' := ?_) #[true, true, true, true, true, true, true, true, true, true, true, false, false, false, false, false] rfl rfl (take_ofW HT_.out HW_.out (by kernel_rfl)) (fun _ _ _ h => h) (Or.inl ⟨by rfl, ?_⟩) hHeld ?_ ?_; rotate_left
                                · rintro w' ⟨s0, s1, s2⟩
                                  go_simp
                                  with_reducible rfl
                                rotate_left; · (simp only [Act.put, sT, sZ, sS, i64_w, i32_w]; rfl)
                                refine take_ (i := 11) (N := some 64) (v := ?_) (a' := ?_) #[true, true, true, true, true, true, true, true, true, true, true, true, false, false, false, false] rfl rfl (take_ofW HT_.out HW_.out (by kernel_rfl)) (fun _ _ _ h => h) (Or.inl ⟨by rfl, ?_⟩) hHeld ?_ ?_; rotate_left
                                · rintro w' ⟨s0, s1, s2⟩
                                  go_simp
                                  with_reducible rfl
                                rotate_left; · (simp only [Act.put, sT, sZ, sS, i64_w, i32_w]; rfl)
                                refine pure_ (i := 12) (N := some 65) (v := ?_) (a' := ?_) #[true, true, true, true, true, true, true, true, true, true, true, true, true, false, false, false] rfl rfl (any_of HT_.out (by kernel_rfl)) (fun _ _ _ h => h) (Or.inl ⟨by rfl, ?_⟩) ?_ ?_; rotate_left; · (intro w'; go_simp; with_reducible rfl)
                                rotate_left; · (simp only [Act.put, sT, sZ, sS, i64_w, i32_w]; rfl)
                                refine last_ (i := 13) (N := none) #[true, true, true, true, true, true, true, true, true, true, true, true, true, true, false, false] rfl rfl (one_of HT_.out (by kernel_rfl)) (by decide) (fun K hK => ?_)
                                refine st_of (by rfl) ?_
                                refine op_set (S := S) (enc := Value.int .i64) (h1 := fun _ => rfl) 3 (.tmp 65) (.tmp 60) rfl adq211 (x9_1) (rd y3000009_1 t206) (SL.get3 HS.out) (by rfl) rfl (by kernel_rfl) (of_decide_eq_true (by first | (with_reducible assumption) | assumption)) (of_decide_eq_true (by first | (with_reducible assumption) | assumption)) y214 Ny214.out ?_
                                intro w17 hs_ hk_
                                replace HS := Aside0.mk ((SL.back3 (show SL (row (Kd.int .i64) 3 (.slice (some adq211) y192.length cz3000009) y214 :: _) _ _ from hs_)))
                                replace HK := Aside0.mk (HK.out.trans hk_)
                                refine hK.out _ _ ?_
                                clear hK K
                                refine pure_ (i := 14) (N := some 66) (v := ?_) (a' := ?_) #[true, true, true, true, true, true, true, true, true, true, true, true, true, true, true, false] rfl rfl (any_of HT_.out (by kernel_rfl)) (fun _ _ _ h => h) (Or.inl ⟨by rfl, ?_⟩) ?_ ?_; rotate_left; · (intro w'; go_simp; with_reducible rfl)
                                rotate_left; · (simp only [Act.put, sT, sZ, sS, i64_w, i32_w]; rfl)
                                refine last_ (i := 15) (N := none) #[true, true, true, true, true, true, true, true, true, true, true, true, true, true, true, true] rfl rfl (one_of HT_.out (by kernel_rfl)) (by decide) (fun K hK => ?_)
                                refine st_of (by rfl) ?_
                                refine op_set (S := S) (enc := Value.int .i64) (h1 := fun _ => rfl) 3 (.tmp 66) (.tmp 64) rfl adq211 (t206) (rd y3000009_1 x9_1) (SL.get3 HS.out) (by rfl) rfl (by kernel_rfl) (of_decide_eq_true (by first | (with_reducible assumption) | assumption)) (of_decide_eq_true (by first | (with_reducible assumption) | assumption)) y216 Ny216.out ?_
                                intro w18 hs_ hk_
                                replace HS := Aside0.mk ((SL.back3 (show SL (row (Kd.int .i64) 3 (.slice (some adq211) y192.length cz3000009) y216 :: _) _ _ from hs_)))
                                replace HK := Aside0.mk (HK.out.trans hk_)
                                refine hK.out _ _ ?_
                                clear hK K
                                refine done_ (done_of HT_.out (by kernel_rfl)) ?_
                                try go_wp2
                                replace HS := Aside0.mk (SL.get3 (SL.get3 (SL.get1 (SL.get1 HS.out))))
                                go_roundg k2
                                case measure => have := HQ1.out; have := HQ2.out; omega
                                case rel => exact ⟨(x4_1), (Ax4_1), (cx4_1), (y216), (t208), (A209), (c210), (wrap64 (x9_1 - 1)), (by first | rfl | (simp; done) | (simp [*]; done)), (by first | rfl | (simp; done) | (simp [*]; done)), H', ⟨by have := HQ1.out; have := HQ2.out; omega⟩, HS, HK⟩
                              · rw [if_neg c15] at H
                                exact absurd H (by simp)
                            · rw [if_neg c14] at H
                              exact absurd H (by simp)
                          · rw [if_neg c13] at H
                            exact absurd H (by simp)
                        · rw [if_neg c12] at H
                          exact absurd H (by simp)
                      · replace c11 := Bool.eq_false_iff.mpr c11
                        subst c11
                        rw [if_neg (show ¬ (false = true) by decide)] at H
                        simp only [Option.some.injEq, Prod.mk.injEq] at H
                        obtain ⟨rfl, rfl, rfl⟩ := H
                        go_wp2_with (first | ((with_reducible refine gate_dst (N := 44) rfl ?_); refine goesL_ (some 44) rfl rfl Try.func14 (by kernel_rfl) rfl #[.pointer (some ⟨b0, 0, none⟩), .int .i64 (wrap64 (x9_1 + 1))] rfl (by (try simp only [List.map_toArray, List.map_cons, List.map_nil]); first | done | rfl | (simp; done)) ?_; have hs0_ := (SL.get3 (SL.get3 HS.out)); (with_reducible refine (draw_Stream_Below.slcalls2 _ k2 _ _ _ _ _ _ _ _ _ _ _ (HF.out.keep HK.out) hs0_  Hc10.out).mono ?_); rintro e_ w19 ⟨A209, c210, rfl, hsr_, hkr_⟩; refine ⟨_, rfl, ?_⟩; replace HS := Aside0.mk (hsr_); replace HK := Aside0.mk (HK.out.trans hkr_)) | ((with_reducible refine gate_store (t := 22) (p := 52) (v := (.tmp 50)) rfl ?_); refine wpList_plain rfl (fun K_ hK_ => ?_); refine op_store (S := S) 22 (.tmp 52) (.tmp 50) rfl b0 0 (.slice As0_0 s0_0.length cs0_0) [.slice As0_0 s0_0.length cs0_0] rfl rfl rfl (by kernel_rfl) (by simp [Value.oneCell']) HS.out (by simp) ?_; intro w5 hs_ hk_; refine hK_ _ _ ?_; clear hK_ K_; replace HS := Aside0.mk (SL.nil_row (Kd.int .i64) 3 (SL.cons (fun _ _ => SL.both_fst) (show SL (cells b0 50 [.slice As0_0 s0_0.length cs0_0].toArray :: _) _ _ from hs_))); replace HK := Aside0.mk (HK.out.trans hk_)))
                        go_ret2
                        replace HS := Aside0.mk (SL.get2 (SL.get2 (SL.tail (SL.get3 (SL.tail (SL.get3 HS.out))))))
                        unfold draw_Stream_Deal.Post
                        exact ⟨As0_0, cs0_0, none, 0, by first | rfl | (simp; done) | (simp [*]; done) | (simp at c9b0 ⊢; first | exact c9b0 | (simp [c9b0]; done)), HS.out, HK.out⟩
                    · rw [if_neg c9] at H
                      have c9b0 : decide (0 < x9_1) = false := decide_eq_false c9
                      clear c9
                      simp only [Option.some.injEq, Prod.mk.injEq] at H
                      obtain ⟨rfl, rfl, rfl⟩ := H
                      go_wp2
                      go_ret2
                      replace HS := Aside0.mk (SL.cons (fun _ _ => SL.both_snd) (SL.get2 (SL.get2 (SL.tail HS.out))))
                      unfold draw_Stream_Deal.Post
                      have el20 := Aside0.mk (SL.row_c (SL.get2 HS.out)).1
                      replace HS := Aside0.mk (SL.back2 (SL.row_len (SL.get2 HS.out)))
                      exact ⟨A100000_1, c100000_1, Az3000009, cz3000009, by first | rfl | (simp; done) | (rw [← el20.out]; rfl) | (rw [← el20.out]) | (simp [*]; done) | (simp at c9b0 ⊢; first | exact c9b0 | (simp [c9b0]; done)), HS.out, HK.out⟩
        · rw [if_neg c4] at H
          exact absurd H (by simp)
      · rw [if_neg c3] at H
        exact absurd H (by simp)

end Go.Proofs.Ytkffeglkbpfndaa.XPL
