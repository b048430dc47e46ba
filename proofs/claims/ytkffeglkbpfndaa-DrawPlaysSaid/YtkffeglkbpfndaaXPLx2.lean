-- Written by xprint.py (a program of this session) for this claim
import Derived.Test.YtkffeglkbpfndaaSL5
import Derived.Test.YtkffeglkbpfndaaXPLx0
namespace Go.Proofs.Ytkffeglkbpfndaa.XPL
open Go.Proofs.YtkffeglkbpfndaaV Go.Proofs.YtkffeglkbpfndaaS
open Go.RowKit Go.Proofs.YtkffeglkbpfndaaW.PrintWords Go.Proofs.YtkffeglkbpfndaaW.PrintLast Go.Proofs.YtkffeglkbpfndaaW.PrintMore
attribute [local go_sem] max2_int min2_int max_two min_two max_three min_three max_four min_four   -- for this text's walks alone
set_option linter.unusedVariables false
set_option linter.unusedSimpArgs false

/-! ### barrowref02_Stream_Feed: function 15 -/
def barrowref02_Stream_Feed.l0 : Nat → (List Int) → (List Int) → Int → Option (Int × (List Int))
  | 0, _, _, _ => none
  | k + 1, l1, s0_0, x5_0 => if x5_0 < (l1.length : Int) then (if 0 ≤ x5_0 then (if (rd l1 x5_0) < 0 then (some (1, s0_0)) else (if (rd l1 x5_0) ≥ 4294967296 then (some (1, s0_0)) else (barrowref02_Stream_Feed.l0 k l1 s0_0 (wrap64 (x5_0 + 1))))) else (none)) else (if (l1.length : Int) > (wrap64 (4096 - (s0_0.length : Int))) then (some (4, s0_0)) else (if s0_0.length + l1.length < 17592186044416 then ((some (s0_0 ++ l1 : List Int)).bind fun y161 => (some (0, y161))) else (none)))
def barrowref02_Stream_Feed.f (k : Nat) (l1 : List Int) (s0_0 : List Int) : Option (Int × (List Int)) := barrowref02_Stream_Feed.l0 k l1 s0_0 0
theorem barrowref02_Stream_Feed.mono_l : ∀ k, (∀ y0 y1 y2, LeO (barrowref02_Stream_Feed.l0 k y0 y1 y2) (barrowref02_Stream_Feed.l0 (k + 1) y0 y1 y2))
  | 0 => fun _ _ _ r h => by simp [barrowref02_Stream_Feed.l0] at h
  | k + 1 => by
    have ih0 := barrowref02_Stream_Feed.mono_l k
    · intro y0 y1 y2
      unfold barrowref02_Stream_Feed.l0
      repeat' first
      | (with_reducible exact ih0 _ _ _)
      | (with_reducible exact LeO.refl _)
      | (with_reducible exact LeO.none _)
      | (with_reducible refine LeO.ite ?_ ?_)
      | (with_reducible refine everyOf_le (fun _ => ?_))
      | (with_reducible refine LeO.bind ?_ (fun _ => ?_))
      | exact ih0 _ _ _
      | exact LeO.none _
      | refine LeO.ite ?_ ?_
      | refine LeO.bind ?_ (fun _ => ?_)
theorem barrowref02_Stream_Feed.mono : ∀ a0 a1 k, LeO (barrowref02_Stream_Feed.f k a0 a1) (barrowref02_Stream_Feed.f (k + 1) a0 a1) := by
  intro a0 a1 k
  have ih0 := barrowref02_Stream_Feed.mono_l k
  unfold barrowref02_Stream_Feed.f
  repeat' first
      | (with_reducible exact ih0 _ _ _)
      | (with_reducible exact LeO.refl _)
      | (with_reducible exact LeO.none _)
      | (with_reducible refine LeO.ite ?_ ?_)
      | (with_reducible refine everyOf_le (fun _ => ?_))
      | (with_reducible refine LeO.bind ?_ (fun _ => ?_))
      | exact ih0 _ _ _
      | exact LeO.none _
      | refine LeO.ite ?_ ?_
      | refine LeO.bind ?_ (fun _ => ?_)
def barrowref02_Stream_Feed.Post (b0 : Nat) (r1 : Int) (r2 : List Int) (S : Nat → Prop) (L : List Asr) (w : World) (e : Ending) (w' : World) : Prop := ∃ (Ar2 : Option Addr) (cr2 : Nat), e = .returned (.int .i64 r1) ∧ SL (cells b0 39 [.slice Ar2 r2.length cr2].toArray :: row (Kd.int .i64) 3 (.slice Ar2 r2.length cr2) r2 :: L) w' S ∧ Keep S w w'
set_option maxHeartbeats 8000000 in
set_option maxRecDepth 100000 in
theorem barrowref02_Stream_Feed.slcalls (k : Nat) (A1 : Option Addr) (c1 : Nat) (l1 : List Int) (b0 : Nat) (As0_0 : Option Addr) (cs0_0 : Nat) (s0_0 : List Int) (r1 : Int) (r2 : List Int) (S : Nat → Prop) (L : List Asr) (w : World) (hf : Fresh S w) (hs : SL (cells b0 39 [.slice As0_0 s0_0.length cs0_0].toArray :: row (Kd.int .i64) 3 (.slice As0_0 s0_0.length cs0_0) s0_0 :: L) w S) (hr1 : RO S w (fun w_ => Kd.C (Kd.int .i64) w_ A1 l1.length l1)) (hc1 : l1.length ≤ c1) (h : barrowref02_Stream_Feed.f k l1 s0_0 = some (r1, r2)) :
    Calls Try.prog 15 #[.pointer (some ⟨b0, 0, none⟩), .slice A1 l1.length c1] w (barrowref02_Stream_Feed.Post b0 r1 r2 S L w) := by
  have HR1 := Aside0.mk hr1
  have HC1 := Aside0.mk hc1
  clear hr1 hc1
  have HF := Aside0.mk hf
  have HS := Aside0.mk hs
  have HK := Aside0.mk (Keep.refl S w)
  clear hf hs
  have H : (barrowref02_Stream_Feed.l0 k l1 s0_0 0) = some (r1, r2) := h
  clear h
  have H' := Aside0.mk H
  clear H
  go_enter Try.func15, Try.ntmps15
  go_wp2
  go_loopg [5] k (fun kq v5 w' => ∃ (x5_0 : Int), v5 = .int .i64 x5_0 ∧ Aside0 (barrowref02_Stream_Feed.l0 kq l1 s0_0 x5_0 = some (r1, r2)) ∧ Aside0 (kq ≤ k) ∧ Aside0 (SL (cells b0 39 [.slice As0_0 s0_0.length cs0_0].toArray :: row (Kd.int .i64) 3 (.slice As0_0 s0_0.length cs0_0) s0_0 :: L) w' S) ∧ Aside0 (Keep S w w'))
  case atStart => exact ⟨(0), (by first | rfl | (simp; done) | (simp [*]; done)), H', ⟨Nat.le_refl _⟩, HS, HK⟩
  case round =>
    clear H' HS HK
    obtain ⟨x5_0, rfl, HA, HQ1, HS, HK⟩ := hrel
    cases gk with
    | zero => exact absurd HA.out (by simp [barrowref02_Stream_Feed.l0])
    | succ k1 =>
      have H := HA.out
      clear HA
      simp only [barrowref02_Stream_Feed.l0] at H
      by_cases c1 : x5_0 < (l1.length : Int)
      · rw [if_pos c1] at H
        have c1b0 : decide (x5_0 < (l1.length : Int)) = true := decide_eq_true c1
        clear c1
        by_cases c2 : 0 ≤ x5_0
        · rw [if_pos c2] at H
          have c2b0 : decide (0 ≤ x5_0) = true := decide_eq_true c2
          clear c2
          by_cases c3 : (rd l1 x5_0) < 0
          · rw [if_pos c3] at H
            have c3b0 : decide ((rd l1 x5_0) < 0) = true := decide_eq_true c3
            clear c3
            simp only [Option.some.injEq, Prod.mk.injEq] at H
            obtain ⟨rfl, rfl⟩ := H
            have pq159 : 0 ≤ (x5_0 : Int) := of_decide_eq_true (by first | (with_reducible assumption) | assumption)
            have qq159 : x5_0 < ((l1.length : Int) : Int) := of_decide_eq_true (by first | (with_reducible assumption) | assumption)
            obtain ⟨adq159, eq159, hxq159_0⟩ := Kd.at_int (RO.at_ HR1.out HK.out) x5_0 pq159 qq159
            cases eq159
            replace pq159 := eq_true pq159
            replace qq159 := eq_true qq159
            go_wp2
            go_ret
            unfold barrowref02_Stream_Feed.Post
            exact ⟨As0_0, cs0_0, by first | rfl | (simp; done) | (simp [*]; done) | (simp at c3b0 ⊢; first | exact c3b0 | (simp [c3b0]; done)), HS.out, HK.out⟩
          · rw [if_neg c3] at H
            have c3b0 : decide ((rd l1 x5_0) < 0) = false := decide_eq_false c3
            clear c3
            by_cases c4 : (rd l1 x5_0) ≥ 4294967296
            · rw [if_pos c4] at H
              have c4b0 : decide (4294967296 ≤ (rd l1 x5_0)) = true := decide_eq_true c4
              clear c4
              simp only [Option.some.injEq, Prod.mk.injEq] at H
              obtain ⟨rfl, rfl⟩ := H
              have pq159 : 0 ≤ (x5_0 : Int) := of_decide_eq_true (by first | (with_reducible assumption) | assumption)
              have qq159 : x5_0 < ((l1.length : Int) : Int) := of_decide_eq_true (by first | (with_reducible assumption) | assumption)
              obtain ⟨adq159, eq159, hxq159_0⟩ := Kd.at_int (RO.at_ HR1.out HK.out) x5_0 pq159 qq159
              cases eq159
              replace pq159 := eq_true pq159
              replace qq159 := eq_true qq159
              go_wp2
              go_ret
              unfold barrowref02_Stream_Feed.Post
              exact ⟨As0_0, cs0_0, by first | rfl | (simp; done) | (simp [*]; done) | (simp at c4b0 ⊢; first | exact c4b0 | (simp [c4b0]; done)), HS.out, HK.out⟩
            · rw [if_neg c4] at H
              have c4b0 : decide (4294967296 ≤ (rd l1 x5_0)) = false := decide_eq_false c4
              clear c4
              have H' := Aside0.mk H
              clear H
              have pq159 : 0 ≤ (x5_0 : Int) := of_decide_eq_true (by first | (with_reducible assumption) | assumption)
              have qq159 : x5_0 < ((l1.length : Int) : Int) := of_decide_eq_true (by first | (with_reducible assumption) | assumption)
              obtain ⟨adq159, eq159, hxq159_0⟩ := Kd.at_int (RO.at_ HR1.out HK.out) x5_0 pq159 qq159
              cases eq159
              replace pq159 := eq_true pq159
              replace qq159 := eq_true qq159
              go_wp2
              go_roundg k1
              case measure => have := HQ1.out; omega
              case rel => exact ⟨(wrap64 (x5_0 + 1)), (by first | rfl | (simp; done) | (simp [*]; done)), H', ⟨by have := HQ1.out; omega⟩, HS, HK⟩
        · rw [if_neg c2] at H
          exact absurd H (by simp)
      · rw [if_neg c1] at H
        have c1b0 : decide (x5_0 < (l1.length : Int)) = false := decide_eq_false c1
        clear c1
        by_cases c5 : (l1.length : Int) > (wrap64 (4096 - (s0_0.length : Int)))
        · rw [if_pos c5] at H
          have c5b0 : decide ((wrap64 (4096 - (s0_0.length : Int))) < (l1.length : Int)) = true := decide_eq_true c5
          clear c5
          simp only [Option.some.injEq, Prod.mk.injEq] at H
          obtain ⟨rfl, rfl⟩ := H
          have hb_ := SL.at_ HS.out
          have hz0_0_0 := ((blk_cell hb_ 0).trans rfl : _ = some (.slice As0_0 s0_0.length cs0_0))
          clear hb_
          go_wp2
          go_ret
          unfold barrowref02_Stream_Feed.Post
          exact ⟨As0_0, cs0_0, by first | rfl | (simp; done) | (simp [*]; done) | (simp at c5b0 ⊢; first | exact c5b0 | (simp [c5b0]; done)), HS.out, HK.out⟩
        · rw [if_neg c5] at H
          have c5b0 : decide ((wrap64 (4096 - (s0_0.length : Int))) < (l1.length : Int)) = false := decide_eq_false c5
          clear c5
          by_cases c6 : s0_0.length + l1.length < 17592186044416
          · rw [if_pos c6] at H
            have LMc6 := Aside0.mk c6
            clear c6
            replace H := Option.bind_eq_some_iff.1 H
            obtain ⟨y161, hy1610, H⟩ := H
            try dsimp only at H
            have hy161 := Option.some.inj hy1610
            clear hy1610
            have Ny161 := Aside0.mk hy161
            clear hy161
            simp only [Option.some.injEq, Prod.mk.injEq] at H
            obtain ⟨rfl, rfl⟩ := H
            have hb_ := SL.at_ HS.out
            have hz0_0_0 := ((blk_cell hb_ 0).trans rfl : _ = some (.slice As0_0 s0_0.length cs0_0))
            clear hb_
            go_wp2_with (first | ((with_reducible refine gate_dst (N := 39) rfl ?_); refine wpList_plain rfl (fun K_ hK_ => ?_); refine op_append (S := S) (enc := Value.int .i64) (h1 := fun _ => rfl) 0 (.tmp 37) (.tmp 38) 22 3 (.int .i64 0) 8 rfl Try.underlying22 info3 rfl (by decide) (.slice As0_0 s0_0.length cs0_0) rfl rfl (HF.out.keep HK.out) (SL.get1 HS.out) (RO.at_ HR1.out HK.out) (by have := LMc6.out; omega) y161 Ny161.out ?_; intro A162 c163 w7 hs_ hk_; refine hK_ _ _ ?_; clear hK_ K_; replace HS := Aside0.mk ((SL.back1 (show SL (row (Kd.int .i64) 3 (.slice A162 y161.length c163) y161 :: _) _ _ from hs_))); replace HK := Aside0.mk (HK.out.trans hk_); (try clear hz0_0_0)) | ((with_reducible refine gate_store (t := 22) (p := 41) (v := (.tmp 39)) rfl ?_); refine wpList_plain rfl (fun K_ hK_ => ?_); refine op_store (S := S) 22 (.tmp 41) (.tmp 39) rfl b0 0 (.slice A162 y161.length c163) [.slice A162 y161.length c163] rfl rfl rfl (by kernel_rfl) (by simp [Value.oneCell']) HS.out (by simp) ?_; intro w8 hs_ hk_; refine hK_ _ _ ?_; clear hK_ K_; replace HS := Aside0.mk ((show SL (cells b0 39 [.slice A162 y161.length c163].toArray :: _) _ _ from hs_)); replace HK := Aside0.mk (HK.out.trans hk_)))
            go_ret
            unfold barrowref02_Stream_Feed.Post
            exact ⟨A162, c163, by first | rfl | (simp; done) | (simp [*]; done) | (simp at c6b0 ⊢; first | exact c6b0 | (simp [c6b0]; done)), HS.out, HK.out⟩
          · rw [if_neg c6] at H
            exact absurd H (by simp)

/-! ### barrowref02_Fair: function 10 -/
mutual
def barrowref02_Fair.j0 : Nat → List Int → Int → Bool → Option (Int × Int × Bool)
  | 0, _, _, _ => none
  | k + 1, x0, x1, x13 => if x13 = true then (some (0, 0, false)) else (barrowref02_Fair.l0 k x0 x1 0)
def barrowref02_Fair.l0 : Nat → List Int → Int → Int → Option (Int × Int × Bool)
  | 0, _, _, _ => none
  | k + 1, x0, x1, x7 => if x7 < (x0.length : Int) then (if 0 ≤ x7 then (if (rd x0 x7) < 0 then (barrowref02_Fair.j2 k x0 x1 x7 true) else (barrowref02_Fair.j2 k x0 x1 x7 (decide ((rd x0 x7) ≥ 4294967296)))) else (none)) else (some (0, 0, false))
def barrowref02_Fair.j2 : Nat → List Int → Int → Int → Bool → Option (Int × Int × Bool)
  | 0, _, _, _, _ => none
  | k + 1, x0, x1, x7, x31 => if x31 = true then (some (0, 0, false)) else (if 0 ≤ x7 then (if x7 < (x0.length : Int) then (if x1 = 0 then (none) else (if (rd x0 x7) < (wrap64 (4294967296 - ((4294967296 : Int) % x1))) then (some (Int.tmod (rd x0 x7) x1, wrap64 (x7 + 1), true)) else (barrowref02_Fair.l0 k x0 x1 (wrap64 (x7 + 1))))) else (none)) else (none))
end
def barrowref02_Fair.f (k : Nat) (l0 : List Int) (a1 : Int) : Option (Int × Int × Bool) := if a1 < 1 then (barrowref02_Fair.j0 k l0 a1 true) else (barrowref02_Fair.j0 k l0 a1 (decide (a1 > 4294967296)))
theorem barrowref02_Fair.mono_l : ∀ k, (∀ y0 y1 y2, LeO (barrowref02_Fair.j0 k y0 y1 y2) (barrowref02_Fair.j0 (k + 1) y0 y1 y2)) ∧ (∀ y0 y1 y2, LeO (barrowref02_Fair.l0 k y0 y1 y2) (barrowref02_Fair.l0 (k + 1) y0 y1 y2)) ∧ (∀ y0 y1 y2 y3, LeO (barrowref02_Fair.j2 k y0 y1 y2 y3) (barrowref02_Fair.j2 (k + 1) y0 y1 y2 y3))
  | 0 => ⟨fun _ _ _ r h => by simp [barrowref02_Fair.j0] at h, fun _ _ _ r h => by simp [barrowref02_Fair.l0] at h, fun _ _ _ _ r h => by simp [barrowref02_Fair.j2] at h⟩
  | k + 1 => by
    obtain ⟨ih0, ih1, ih2⟩ := barrowref02_Fair.mono_l k
    refine ⟨?_, ?_, ?_⟩
    · intro y0 y1 y2
      unfold barrowref02_Fair.j0
      repeat' first
      | (with_reducible exact ih0 _ _ _)
      | (with_reducible exact ih1 _ _ _)
      | (with_reducible exact ih2 _ _ _ _)
      | (with_reducible exact LeO.refl _)
      | (with_reducible exact LeO.none _)
      | (with_reducible refine LeO.ite ?_ ?_)
      | (with_reducible refine LeO.bind ?_ (fun _ => ?_))
      | exact ih0 _ _ _
      | exact ih1 _ _ _
      | exact ih2 _ _ _ _
      | exact LeO.none _
      | refine LeO.ite ?_ ?_
      | refine LeO.bind ?_ (fun _ => ?_)
    · intro y0 y1 y2
      unfold barrowref02_Fair.l0
      repeat' first
      | (with_reducible exact ih0 _ _ _)
      | (with_reducible exact ih1 _ _ _)
      | (with_reducible exact ih2 _ _ _ _)
      | (with_reducible exact LeO.refl _)
      | (with_reducible exact LeO.none _)
      | (with_reducible refine LeO.ite ?_ ?_)
      | (with_reducible refine LeO.bind ?_ (fun _ => ?_))
      | exact ih0 _ _ _
      | exact ih1 _ _ _
      | exact ih2 _ _ _ _
      | exact LeO.none _
      | refine LeO.ite ?_ ?_
      | refine LeO.bind ?_ (fun _ => ?_)
    · intro y0 y1 y2 y3
      unfold barrowref02_Fair.j2
      repeat' first
      | (with_reducible exact ih0 _ _ _)
      | (with_reducible exact ih1 _ _ _)
      | (with_reducible exact ih2 _ _ _ _)
      | (with_reducible exact LeO.refl _)
      | (with_reducible exact LeO.none _)
      | (with_reducible refine LeO.ite ?_ ?_)
      | (with_reducible refine LeO.bind ?_ (fun _ => ?_))
      | exact ih0 _ _ _
      | exact ih1 _ _ _
      | exact ih2 _ _ _ _
      | exact LeO.none _
      | refine LeO.ite ?_ ?_
      | refine LeO.bind ?_ (fun _ => ?_)
theorem barrowref02_Fair.mono : ∀ a0 a1 k, LeO (barrowref02_Fair.f k a0 a1) (barrowref02_Fair.f (k + 1) a0 a1) := by
  intro a0 a1 k
  obtain ⟨ih0, ih1, ih2⟩ := barrowref02_Fair.mono_l k
  unfold barrowref02_Fair.f
  repeat' first
      | (with_reducible exact ih0 _ _ _)
      | (with_reducible exact ih1 _ _ _)
      | (with_reducible exact ih2 _ _ _ _)
      | (with_reducible exact LeO.refl _)
      | (with_reducible exact LeO.none _)
      | (with_reducible refine LeO.ite ?_ ?_)
      | (with_reducible refine LeO.bind ?_ (fun _ => ?_))
      | exact ih0 _ _ _
      | exact ih1 _ _ _
      | exact ih2 _ _ _ _
      | exact LeO.none _
      | refine LeO.ite ?_ ?_
      | refine LeO.bind ?_ (fun _ => ?_)
set_option maxHeartbeats 8000000 in
set_option maxRecDepth 100000 in
theorem barrowref02_Fair.calls (k : Nat) (A0 : Option Addr) (c0 : Nat) (l0 : List Int) (a1 : Int) (r1 : Int) (r2 : Int) (r3 : Bool) (w : World) (hr0 : Kd.C (Kd.int .i64) w A0 l0.length l0) (hc0 : l0.length ≤ c0) (h : barrowref02_Fair.f k l0 a1 = some (r1, r2, r3)) :
    Calls Try.prog 10 #[.slice A0 l0.length c0, .int .i64 a1] w fun e w' => e = .returned (.tuple #[.int .i64 r1, .int .i64 r2, .bool r3]) ∧ Drawn0 w w' := by
  have HR0 := Aside0.mk hr0
  have HC0 := Aside0.mk hc0
  clear hr0 hc0
  have H : (if a1 < 1 then (barrowref02_Fair.j0 k l0 a1 true) else (barrowref02_Fair.j0 k l0 a1 (decide (a1 > 4294967296)))) = some (r1, r2, r3) := h
  clear h
  have HC3 := Aside0.mk H
  clear H
  go_enter Try.func10, Try.ntmps10
  go_upto_region 1 with (fail)
  repeat (go_quiet (fail); go_upto_region 1 with (fail))
  go_cut [13] (fun v13 wc => ∃ (kq : Nat) (x13_2 : Bool), v13 = .bool x13_2 ∧ Aside0 (barrowref02_Fair.j0 kq l0 a1 x13_2 = some (r1, r2, r3)) ∧ Aside0 (kq ≤ k) ∧ Drawn0 w wc)
  case first =>
    have H := HC3.out
    clear HC3
    by_cases c4 : a1 < 1
    · rw [if_pos c4] at H
      have c4b0 : decide (a1 < 1) = true := decide_eq_true c4
      clear c4
      (first | rw [c4b0] | (simp only [i64_w, i32_w]; rw [c4b0]) | skip)
      have H' := Aside0.mk H
      clear H
      go_wp2
      repeat (go_quiet (fail); try go_wp2)
      go_meet
      case rel => exact ⟨_, (true), (by first | rfl | (simp; done) | (simp [*]; done)), H', ⟨by first | omega | exact Nat.le_refl _⟩, by repeat (first | exact Drawn0.refl _ | apply Drawn0.step)⟩
    · rw [if_neg c4] at H
      have c4b0 : decide (a1 < 1) = false := decide_eq_false c4
      clear c4
      (first | rw [c4b0] | (simp only [i64_w, i32_w]; rw [c4b0]) | skip)
      have H' := Aside0.mk H
      clear H
      go_wp2
      repeat (go_quiet (fail); try go_wp2)
      go_meet
      case rel => exact ⟨_, (decide (a1 > 4294967296)), (by first | rfl | (simp; done) | (simp [*]; done)), H', ⟨by first | omega | exact Nat.le_refl _⟩, by repeat (first | exact Drawn0.refl _ | apply Drawn0.step)⟩
  case rest =>
    clear HC3
    try clear c1
    try clear p2
    try clear c4
    try clear c4b0
    obtain ⟨kq, x13_2, rfl, HA, HJ2, ⟨mc2, rfl⟩⟩ := hcut
    cases kq with
    | zero => exact absurd HA.out (by simp [barrowref02_Fair.j0])
    | succ kj2 =>
      have H := HA.out
      clear HA
      simp only [barrowref02_Fair.j0] at H
      by_cases c5 : x13_2 = true
      · subst c5
        have H1 : (some (0, 0, false)) = some (r1, r2, r3) := by rw [if_pos rfl] at H; exact H
        clear H
        have H := H1
        clear H1
        simp only [Option.some.injEq, Prod.mk.injEq] at H
        obtain ⟨rfl, rfl, rfl⟩ := H
        go_wp2
        repeat (go_quiet (fail); try go_wp2)
        go_ret3
        exact ⟨by first | rfl | (simp; done) | (simp [*]; done), by repeat (first | exact Drawn0.refl _ | apply Drawn0.step)⟩
      · replace c5 := Bool.eq_false_iff.mpr c5
        subst c5
        have H1 : (barrowref02_Fair.l0 kj2 l0 a1 0) = some (r1, r2, r3) := by rw [if_neg (show ¬ (false = true) by decide)] at H; exact H
        clear H
        have H := H1
        clear H1
        have H' := Aside0.mk H
        clear H
        go_wp2
        repeat (go_quiet (fail); try go_wp2)
        go_loopg [7] kj2 (fun kq v7 w' => ∃ (x7_2 : Int), v7 = .int .i64 x7_2 ∧ Aside0 (barrowref02_Fair.l0 kq l0 a1 x7_2 = some (r1, r2, r3)) ∧ Aside0 (kq ≤ kj2) ∧ Drawn0 w w')
        case atStart => exact ⟨(0), (by first | rfl | (simp; done) | (simp [*]; done)), H', ⟨Nat.le_refl _⟩, by repeat (first | exact Drawn0.refl _ | apply Drawn0.step)⟩
        case round =>
          clear H'
          try clear c1
          try clear c2
          try clear p2
          try clear c4
          try clear c4b0
          try clear c5
          try clear p2
          obtain ⟨x7_2, rfl, HA, HK2, ⟨m2, rfl⟩⟩ := hrel
          cases gk with
          | zero => exact absurd HA.out (by simp [barrowref02_Fair.l0])
          | succ k2 =>
            have H := HA.out
            clear HA
            simp only [barrowref02_Fair.l0] at H
            by_cases c6 : x7_2 < (l0.length : Int)
            · rw [if_pos c6] at H
              have c6b0 : decide (x7_2 < (l0.length : Int)) = true := decide_eq_true c6
              clear c6
              have HC7 := Aside0.mk H
              clear H
              go_upto_region 6 with (fail)
              repeat (go_quiet (fail); go_upto_region 6 with (fail))
              go_cut [31] (fun v31 wc => ∃ (kq : Nat) (x31_6 : Bool), v31 = .bool x31_6 ∧ Aside0 (barrowref02_Fair.j2 kq l0 a1 x7_2 x31_6 = some (r1, r2, r3)) ∧ Aside0 (kq ≤ k2) ∧ Drawn0 w wc)
              case first =>
                have H := HC7.out
                clear HC7
                by_cases c8 : 0 ≤ x7_2
                · rw [if_pos c8] at H
                  have c8b0 : decide (0 ≤ x7_2) = true := decide_eq_true c8
                  clear c8
                  (first | rw [c8b0] | (simp only [i64_w, i32_w]; rw [c8b0]) | skip)
                  by_cases c9 : (rd l0 x7_2) < 0
                  · rw [if_pos c9] at H
                    have c9b0 : decide ((rd l0 x7_2) < 0) = true := decide_eq_true c9
                    clear c9
                    have H' := Aside0.mk H
                    clear H
                    have p164 : 0 ≤ (x7_2 : Int) := of_decide_eq_true (by first | (with_reducible assumption) | assumption)
                    have q164 : x7_2 < (l0.length : Int) := of_decide_eq_true (by first | (with_reducible assumption) | assumption)
                    obtain ⟨ad164, e164, hx164_0⟩ := Kd.at_int HR0.out x7_2 p164 q164
                    cases e164
                    replace p164 := eq_true p164
                    replace q164 := eq_true q164
                    go_wp2
                    repeat (go_quiet (fail); try go_wp2)
                    go_meet
                    case rel => exact ⟨_, (true), (by first | rfl | (simp; done) | (simp [*]; done)), H', ⟨by have := HJ2.out; have := HK2.out; first | omega | exact Nat.le_refl _⟩, by repeat (first | exact Drawn0.refl _ | apply Drawn0.step)⟩
                  · rw [if_neg c9] at H
                    have c9b0 : decide ((rd l0 x7_2) < 0) = false := decide_eq_false c9
                    clear c9
                    have H' := Aside0.mk H
                    clear H
                    have p164 : 0 ≤ (x7_2 : Int) := of_decide_eq_true (by first | (with_reducible assumption) | assumption)
                    have q164 : x7_2 < (l0.length : Int) := of_decide_eq_true (by first | (with_reducible assumption) | assumption)
                    obtain ⟨ad164, e164, hx164_0⟩ := Kd.at_int HR0.out x7_2 p164 q164
                    cases e164
                    replace p164 := eq_true p164
                    replace q164 := eq_true q164
                    have p165 : 0 ≤ (x7_2 : Int) := of_decide_eq_true (by first | (with_reducible assumption) | assumption)
                    have q165 : x7_2 < (l0.length : Int) := of_decide_eq_true (by first | (with_reducible assumption) | assumption)
                    obtain ⟨ad165, e165, hx165_0⟩ := Kd.at_int HR0.out x7_2 p165 q165
                    obtain rfl : ad164 = ad165 := (by injection e165)
                    replace p165 := eq_true p165
                    replace q165 := eq_true q165
                    go_wp2
                    repeat (go_quiet (fail); try go_wp2)
                    go_meet
                    case rel => exact ⟨_, (decide ((rd l0 x7_2) ≥ 4294967296)), (by first | rfl | (simp; done) | (simp [*]; done)), H', ⟨by have := HJ2.out; have := HK2.out; first | omega | exact Nat.le_refl _⟩, by repeat (first | exact Drawn0.refl _ | apply Drawn0.step)⟩
                · rw [if_neg c8] at H
                  exact absurd H (by simp)
              case rest =>
                clear HC7
                try clear c1
                try clear p1
                try clear q1
                try clear hx1
                try clear c2
                try clear p2
                try clear c4
                try clear c4b0
                try clear c5
                try clear c6
                try clear c6b0
                try clear c8
                try clear c8b0
                try clear c9
                try clear c9b0
                try clear hx164_0
                try clear hx165_0
                try clear p164
                try clear p165
                try clear p2
                try clear q164
                try clear q165
                obtain ⟨kq, x31_6, rfl, HA, HJ6, ⟨mc6, rfl⟩⟩ := hcut
                cases kq with
                | zero => exact absurd HA.out (by simp [barrowref02_Fair.j2])
                | succ kj6 =>
                  have H := HA.out
                  clear HA
                  simp only [barrowref02_Fair.j2] at H
                  by_cases c10 : x31_6 = true
                  · subst c10
                    have H1 : (some (0, 0, false)) = some (r1, r2, r3) := by rw [if_pos rfl] at H; exact H
                    clear H
                    have H := H1
                    clear H1
                    simp only [Option.some.injEq, Prod.mk.injEq] at H
                    obtain ⟨rfl, rfl, rfl⟩ := H
                    go_wp2
                    repeat (go_quiet (fail); try go_wp2)
                    go_ret3
                    exact ⟨by first | rfl | (simp; done) | (simp [*]; done), by repeat (first | exact Drawn0.refl _ | apply Drawn0.step)⟩
                  · replace c10 := Bool.eq_false_iff.mpr c10
                    subst c10
                    have H1 : (if 0 ≤ x7_2 then (if x7_2 < (l0.length : Int) then (if a1 = 0 then (none) else (if (rd l0 x7_2) < (wrap64 (4294967296 - ((4294967296 : Int) % a1))) then (some (Int.tmod (rd l0 x7_2) a1, wrap64 (x7_2 + 1), true)) else (barrowref02_Fair.l0 kj6 l0 a1 (wrap64 (x7_2 + 1))))) else (none)) else (none)) = some (r1, r2, r3) := by rw [if_neg (show ¬ (false = true) by decide)] at H; exact H
                    clear H
                    have H := H1
                    clear H1
                    by_cases c11 : 0 ≤ x7_2
                    · rw [if_pos c11] at H
                      have c11b0 : decide (0 ≤ x7_2) = true := decide_eq_true c11
                      clear c11
                      by_cases c12 : x7_2 < (l0.length : Int)
                      · rw [if_pos c12] at H
                        have c12b0 : decide (x7_2 < (l0.length : Int)) = true := decide_eq_true c12
                        clear c12
                        by_cases c13 : a1 = 0
                        · rw [if_pos c13] at H
                          exact absurd H (by simp)
                        · rw [if_neg c13] at H
                          have c13b0 : (a1 == 0) = false := beq_eq_false_iff_ne.mpr c13
                          have c13b1 : (a1 != 0) = true := bne_iff_ne.mpr c13
                          by_cases c14 : (rd l0 x7_2) < (wrap64 (4294967296 - ((4294967296 : Int) % a1)))
                          · rw [if_pos c14] at H
                            have c14b0 : decide ((rd l0 x7_2) < (wrap64 (4294967296 - ((4294967296 : Int) % a1)))) = true := decide_eq_true c14
                            clear c14
                            simp only [Option.some.injEq, Prod.mk.injEq] at H
                            obtain ⟨rfl, rfl, rfl⟩ := H
                            have p166 : 0 ≤ (x7_2 : Int) := of_decide_eq_true (by first | (with_reducible assumption) | assumption)
                            have q166 : x7_2 < (l0.length : Int) := of_decide_eq_true (by first | (with_reducible assumption) | assumption)
                            obtain ⟨ad166, e166, hx166_0⟩ := Kd.at_int HR0.out x7_2 p166 q166
                            cases e166
                            replace p166 := eq_true p166
                            replace q166 := eq_true q166
                            have p167 : 0 ≤ (x7_2 : Int) := of_decide_eq_true (by first | (with_reducible assumption) | assumption)
                            have q167 : x7_2 < (l0.length : Int) := of_decide_eq_true (by first | (with_reducible assumption) | assumption)
                            obtain ⟨ad167, e167, hx167_0⟩ := Kd.at_int HR0.out x7_2 p167 q167
                            obtain rfl : ad166 = ad167 := (by injection e167)
                            replace p167 := eq_true p167
                            replace q167 := eq_true q167
                            go_wp2
                            repeat (go_quiet (fail); try go_wp2)
                            go_ret3
                            exact ⟨by first | rfl | (simp; done) | (simp [*]; done), by repeat (first | exact Drawn0.refl _ | apply Drawn0.step)⟩
                          · rw [if_neg c14] at H
                            have c14b0 : decide ((rd l0 x7_2) < (wrap64 (4294967296 - ((4294967296 : Int) % a1)))) = false := decide_eq_false c14
                            clear c14
                            have H' := Aside0.mk H
                            clear H
                            have p166 : 0 ≤ (x7_2 : Int) := of_decide_eq_true (by first | (with_reducible assumption) | assumption)
                            have q166 : x7_2 < (l0.length : Int) := of_decide_eq_true (by first | (with_reducible assumption) | assumption)
                            obtain ⟨ad166, e166, hx166_0⟩ := Kd.at_int HR0.out x7_2 p166 q166
                            cases e166
                            replace p166 := eq_true p166
                            replace q166 := eq_true q166
                            go_wp2
                            repeat (go_quiet (fail); try go_wp2)
                            go_roundg kj6
                            case measure => have := HJ2.out; have := HK2.out; have := HJ6.out; omega
                            case rel => exact ⟨(wrap64 (x7_2 + 1)), (by first | rfl | (simp; done) | (simp [*]; done)), H', ⟨by have := HJ2.out; have := HK2.out; have := HJ6.out; omega⟩, by repeat (first | exact Drawn0.refl _ | apply Drawn0.step)⟩
                      · rw [if_neg c12] at H
                        exact absurd H (by simp)
                    · rw [if_neg c11] at H
                      exact absurd H (by simp)
            · rw [if_neg c6] at H
              have c6b0 : decide (x7_2 < (l0.length : Int)) = false := decide_eq_false c6
              clear c6
              simp only [Option.some.injEq, Prod.mk.injEq] at H
              obtain ⟨rfl, rfl, rfl⟩ := H
              go_wp2
              repeat (go_quiet (fail); try go_wp2)
              go_ret3
              exact ⟨by first | rfl | (simp; done) | (simp [*]; done), by repeat (first | exact Drawn0.refl _ | apply Drawn0.step)⟩

/-! ### barrowref02_Stream_Below: function 16 -/
def barrowref02_Stream_Below.f (k : Nat) (a1 : Int) (s0_0 : List Int) : Option (Int × Bool × (List Int)) := (barrowref02_Fair.f k s0_0 a1).bind fun bt172 => (if bt172.2.2 = true then ((some (([] : List Int) : List Int)).bind fun y175 => (if 0 ≤ bt172.2.1 then (if bt172.2.1 ≤ (s0_0.length : Int) then ((some (s0_0.drop (bt172.2.1).toNat : List Int)).bind fun y176 => (if y175.length + y176.length < 17592186044416 then ((some (y175 ++ y176 : List Int)).bind fun y180 => (some (bt172.1, true, y180))) else (none))) else (none)) else (none))) else (some (bt172.1, false, s0_0)))
theorem barrowref02_Stream_Below.mono : ∀ a0 a1 k, LeO (barrowref02_Stream_Below.f k a0 a1) (barrowref02_Stream_Below.f (k + 1) a0 a1) := by
  intro a0 a1 k
  unfold barrowref02_Stream_Below.f
  repeat' first
      | (with_reducible exact barrowref02_Fair.mono _ _ _)
      | (with_reducible exact LeO.refl _)
      | (with_reducible exact LeO.none _)
      | (with_reducible refine LeO.ite ?_ ?_)
      | (with_reducible refine everyOf_le (fun _ => ?_))
      | (with_reducible refine LeO.bind ?_ (fun _ => ?_))
      | exact barrowref02_Fair.mono _ _ _
      | exact LeO.none _
      | refine LeO.ite ?_ ?_
      | refine LeO.bind ?_ (fun _ => ?_)
def barrowref02_Stream_Below.Post (b0 : Nat) (r1 : Int) (r2 : Bool) (r3 : List Int) (S : Nat → Prop) (L : List Asr) (w : World) (e : Ending) (w' : World) : Prop := ∃ (Ar3 : Option Addr) (cr3 : Nat), e = .returned (.tuple #[.int .i64 r1, .bool r2]) ∧ SL (cells b0 39 [.slice Ar3 r3.length cr3].toArray :: row (Kd.int .i64) 3 (.slice Ar3 r3.length cr3) r3 :: L) w' S ∧ Keep S w w'
set_option maxHeartbeats 8000000 in
set_option maxRecDepth 100000 in
theorem barrowref02_Stream_Below.slcalls (k : Nat) (a1 : Int) (b0 : Nat) (As0_0 : Option Addr) (cs0_0 : Nat) (s0_0 : List Int) (r1 : Int) (r2 : Bool) (r3 : List Int) (S : Nat → Prop) (L : List Asr) (w : World) (hf : Fresh S w) (hs : SL (cells b0 39 [.slice As0_0 s0_0.length cs0_0].toArray :: row (Kd.int .i64) 3 (.slice As0_0 s0_0.length cs0_0) s0_0 :: L) w S) (h : barrowref02_Stream_Below.f k a1 s0_0 = some (r1, r2, r3)) :
    Calls Try.prog 16 #[.pointer (some ⟨b0, 0, none⟩), .int .i64 a1] w (barrowref02_Stream_Below.Post b0 r1 r2 r3 S L w) := by
  have HF := Aside0.mk hf
  have HS := Aside0.mk hs
  have HK := Aside0.mk (Keep.refl S w)
  clear hf hs
  have H : ((barrowref02_Fair.f k s0_0 a1).bind fun bt172 => (if bt172.2.2 = true then ((some (([] : List Int) : List Int)).bind fun y175 => (if 0 ≤ bt172.2.1 then (if bt172.2.1 ≤ (s0_0.length : Int) then ((some (s0_0.drop (bt172.2.1).toNat : List Int)).bind fun y176 => (if y175.length + y176.length < 17592186044416 then ((some (y175 ++ y176 : List Int)).bind fun y180 => (some (bt172.1, true, y180))) else (none))) else (none)) else (none))) else (some (bt172.1, false, s0_0)))) = some (r1, r2, r3) := h
  clear h
  replace H := Option.bind_eq_some_iff.1 H
  obtain ⟨⟨t172, t173, t174⟩, Hc10, H⟩ := H
  try dsimp only at H
  have Hc1 := Aside0.mk Hc10
  clear Hc10
  by_cases c2 : t174 = true
  · subst c2
    rw [if_pos rfl] at H
    replace H := Option.bind_eq_some_iff.1 H
    obtain ⟨y175, hy1750, H⟩ := H
    try dsimp only at H
    have hy175 := Option.some.inj hy1750
    clear hy1750
    have Ny175 := Aside0.mk hy175
    clear hy175
    by_cases c3 : 0 ≤ t173
    · rw [if_pos c3] at H
      have c3b0 := eq_true c3
      have c3b1 : decide (0 ≤ t173) = true := decide_eq_true c3
      clear c3
      by_cases c4 : t173 ≤ (s0_0.length : Int)
      · rw [if_pos c4] at H
        have c4b0 := eq_true c4
        have c4b1 : decide (t173 ≤ (s0_0.length : Int)) = true := decide_eq_true c4
        clear c4
        replace H := Option.bind_eq_some_iff.1 H
        obtain ⟨y176, hy1760, H⟩ := H
        try dsimp only at H
        have hy176 := Option.some.inj hy1760
        clear hy1760
        have Ny176 := Aside0.mk hy176
        clear hy176
        by_cases c5 : y175.length + y176.length < 17592186044416
        · rw [if_pos c5] at H
          have LMc5 := Aside0.mk c5
          clear c5
          replace H := Option.bind_eq_some_iff.1 H
          obtain ⟨y180, hy1800, H⟩ := H
          try dsimp only at H
          have hy180 := Option.some.inj hy1800
          clear hy1800
          have Ny180 := Aside0.mk hy180
          clear hy180
          simp only [Option.some.injEq, Prod.mk.injEq] at H
          obtain ⟨rfl, rfl, rfl⟩ := H
          have hb_ := SL.at_ HS.out
          have hz0_0_0 := ((blk_cell hb_ 0).trans rfl : _ = some (.slice As0_0 s0_0.length cs0_0))
          clear hb_
          go_enter Try.func16, Try.ntmps16
          go_wp2_with (first | ((with_reducible refine gate_dst (N := 15) rfl ?_); refine goesL_ (some 15) rfl rfl Try.func10 (by kernel_rfl) rfl #[.slice As0_0 s0_0.length cs0_0, .int .i64 a1] rfl (by (try simp only [List.map_toArray, List.map_cons, List.map_nil]); first | done | rfl | (simp; done)) ?_; (with_reducible refine (barrowref02_Fair.calls k _ _ _ _ _ _ _ _ (SL.row_c (SL.get1 HS.out)).2.2 (SL.row_c (SL.get1 HS.out)).2.1 Hc1.out).mono ?_); rintro e_ w6 ⟨rfl, hb_⟩; refine ⟨_, rfl, ?_⟩; replace hb_ := Drawn0.below hb_; replace HS := Aside0.mk (HS.out.below hb_); replace HK := Aside0.mk (HK.out.trans (Keep.below hb_)); (try clear hz0_0_0)) | ((with_reducible refine gate_dst (N := 21) rfl ?_); refine wpList_plain rfl (fun K_ hK_ => ?_); refine op_row (S := S) (enc := Value.int .i64) (h1 := fun _ => rfl) 3 y175 #[] 0 (by rw [← Ny175.out]; rfl) (by rw [← Ny175.out]; rfl) (by decide) (HF.out.keep HK.out) HS.out (by first | (go_simp; done) | (go_simp; rfl)) ?_; intro Az3000008 cz3000008 w7 hs_ hk_; refine hK_ _ _ ?_; clear hK_ K_; replace HS := Aside0.mk ((show SL (row (Kd.int .i64) 3 (.slice Az3000008 0 cz3000008) y175 :: _) _ _ from hs_)); replace HK := Aside0.mk (HK.out.trans hk_); have hb_ := SL.at_ (SL.get1 HS.out); have hz0_0_2 := ((blk_cell hb_ 0).trans rfl : _ = some (.slice As0_0 s0_0.length cs0_0)); clear hb_; obtain ⟨A177, c178, hcvq179, hcs_, hcc_, hcl_⟩ := cut_of (P := Try.prog) (Kd.int .i64) 22 3 .i64 .i64 Try.underlying22 (by kernel_rfl) rfl As0_0 s0_0.length cs0_0 s0_0 rfl (SL.row_c (SL.get2 HS.out)).2.1 t173 (of_decide_eq_true (by first | (with_reducible assumption) | assumption) : (0 : Int) ≤ (t173 : Int)) (of_decide_eq_true (by first | (with_reducible assumption) | assumption) : (t173 : Int) ≤ ((s0_0.length : Int) : Int)) y176 Ny176.out; have HVq179 := Aside0.mk (And.intro True.intro hcc_); have HCq179 := Aside0.mk hcl_; clear hcs_ hcc_ hcl_) | ((with_reducible refine gate_dst (N := 28) rfl ?_); refine wpList_plain rfl (fun K_ hK_ => ?_); refine op_append (S := S) (enc := Value.int .i64) (h1 := fun _ => rfl) 0 (.tmp 21) (.tmp 27) 22 3 (.int .i64 0) 8 rfl Try.underlying22 info3 rfl (by decide) (.slice Az3000008 0 cz3000008) rfl rfl (HF.out.keep HK.out) HS.out (And.right HVq179.out _ (SL.row_c (SL.get2 HS.out)).2.2) (by have := LMc5.out; omega) y180 Ny180.out ?_; intro A181 c182 w8 hs_ hk_; refine hK_ _ _ ?_; clear hK_ K_; replace HS := Aside0.mk ((show SL (row (Kd.int .i64) 3 (.slice A181 y180.length c182) y180 :: _) _ _ from hs_)); replace HK := Aside0.mk (HK.out.trans hk_); (try clear hz0_0_2)) | ((with_reducible refine gate_store (t := 22) (p := 30) (v := (.tmp 28)) rfl ?_); refine wpList_plain rfl (fun K_ hK_ => ?_); refine op_store (S := S) 22 (.tmp 30) (.tmp 28) rfl b0 0 (.slice A181 y180.length c182) [.slice A181 y180.length c182] rfl rfl rfl (by kernel_rfl) (by simp [Value.oneCell']) (SL.get1 HS.out) (by simp) ?_; intro w9 hs_ hk_; refine hK_ _ _ ?_; clear hK_ K_; replace HS := Aside0.mk ((SL.back1 (show SL (cells b0 39 [.slice A181 y180.length c182].toArray :: _) _ _ from hs_))); replace HK := Aside0.mk (HK.out.trans hk_)))
          go_ret2
          replace HS := Aside0.mk (SL.get1 (SL.tail (SL.get2 HS.out)))
          unfold barrowref02_Stream_Below.Post
          exact ⟨A181, c182, by first | rfl | (simp; done) | (simp [*]; done) | (simp at c5b0 ⊢; first | exact c5b0 | (simp [c5b0]; done)), HS.out, HK.out⟩
        · rw [if_neg c5] at H
          exact absurd H (by simp)
      · rw [if_neg c4] at H
        exact absurd H (by simp)
    · rw [if_neg c3] at H
      exact absurd H (by simp)
  · replace c2 := Bool.eq_false_iff.mpr c2
    subst c2
    rw [if_neg (show ¬ (false = true) by decide)] at H
    simp only [Option.some.injEq, Prod.mk.injEq] at H
    obtain ⟨rfl, rfl, rfl⟩ := H
    have hb_ := SL.at_ HS.out
    have hz0_0_0 := ((blk_cell hb_ 0).trans rfl : _ = some (.slice As0_0 s0_0.length cs0_0))
    clear hb_
    go_enter Try.func16, Try.ntmps16
    go_wp2_with (first | ((with_reducible refine gate_dst (N := 15) rfl ?_); refine goesL_ (some 15) rfl rfl Try.func10 (by kernel_rfl) rfl #[.slice As0_0 s0_0.length cs0_0, .int .i64 a1] rfl (by (try simp only [List.map_toArray, List.map_cons, List.map_nil]); first | done | rfl | (simp; done)) ?_; (with_reducible refine (barrowref02_Fair.calls k _ _ _ _ _ _ _ _ (SL.row_c (SL.get1 HS.out)).2.2 (SL.row_c (SL.get1 HS.out)).2.1 Hc1.out).mono ?_); rintro e_ w10 ⟨rfl, hb_⟩; refine ⟨_, rfl, ?_⟩; replace hb_ := Drawn0.below hb_; replace HS := Aside0.mk (HS.out.below hb_); replace HK := Aside0.mk (HK.out.trans (Keep.below hb_)); (try clear hz0_0_0)))
    go_ret2
    unfold barrowref02_Stream_Below.Post
    exact ⟨As0_0, cs0_0, by first | rfl | (simp; done) | (simp [*]; done), HS.out, HK.out⟩

/-! ### barrowref02_Stream_Pick: function 18 -/
mutual
def barrowref02_Stream_Pick.l0 : Nat → (List Int) → (List Int) → Int → Int → Option (Int × Bool × (List Int))
  | 0, _, _, _, _ => none
  | k + 1, l1, s0_0, x6_0, x7_0 => if x7_0 < (l1.length : Int) then (if 0 ≤ x7_0 then (if (rd l1 x7_0) < 0 then (some (0, false, s0_0)) else (if (rd l1 x7_0) > (wrap64 (4294967296 - x6_0)) then (some (0, false, s0_0)) else (barrowref02_Stream_Pick.l0 k l1 s0_0 (wrap64 (x6_0 + (rd l1 x7_0))) (wrap64 (x7_0 + 1))))) else (none)) else ((barrowref02_Stream_Below.f k x6_0 s0_0).bind fun bt186 => (barrowref02_Stream_Pick.l1 k l1 bt186.1 bt186.2.1 bt186.2.2 0 0))
def barrowref02_Stream_Pick.l1 : Nat → (List Int) → Int → Bool → (List Int) → Int → Int → Option (Int × Bool × (List Int))
  | 0, _, _, _, _, _, _ => none
  | k + 1, l1, t186, t187, t188, x10_1, x11_1 => if x11_1 < (l1.length : Int) then (if t187 = true then (if 0 ≤ x11_1 then (if (wrap64 (x10_1 + (rd l1 x11_1))) > t186 then (some (x11_1, true, t188)) else (barrowref02_Stream_Pick.l1 k l1 t186 t187 t188 (wrap64 (x10_1 + (rd l1 x11_1))) (wrap64 (x11_1 + 1)))) else (none)) else (some (0, false, t188))) else (some (0, false, t188))
end
def barrowref02_Stream_Pick.f (k : Nat) (l1 : List Int) (s0_0 : List Int) : Option (Int × Bool × (List Int)) := barrowref02_Stream_Pick.l0 k l1 s0_0 0 0
theorem barrowref02_Stream_Pick.mono_l : ∀ k, (∀ y0 y1 y2 y3, LeO (barrowref02_Stream_Pick.l0 k y0 y1 y2 y3) (barrowref02_Stream_Pick.l0 (k + 1) y0 y1 y2 y3)) ∧ (∀ y0 y1 y2 y3 y4 y5, LeO (barrowref02_Stream_Pick.l1 k y0 y1 y2 y3 y4 y5) (barrowref02_Stream_Pick.l1 (k + 1) y0 y1 y2 y3 y4 y5))
  | 0 => ⟨fun _ _ _ _ r h => by simp [barrowref02_Stream_Pick.l0] at h, fun _ _ _ _ _ _ r h => by simp [barrowref02_Stream_Pick.l1] at h⟩
  | k + 1 => by
    obtain ⟨ih0, ih1⟩ := barrowref02_Stream_Pick.mono_l k
    refine ⟨?_, ?_⟩
    · intro y0 y1 y2 y3
      unfold barrowref02_Stream_Pick.l0
      repeat' first
      | (with_reducible exact ih0 _ _ _ _)
      | (with_reducible exact ih1 _ _ _ _ _ _)
      | (with_reducible exact barrowref02_Stream_Below.mono _ _ _)
      | (with_reducible exact LeO.refl _)
      | (with_reducible exact LeO.none _)
      | (with_reducible refine LeO.ite ?_ ?_)
      | (with_reducible refine everyOf_le (fun _ => ?_))
      | (with_reducible refine LeO.bind ?_ (fun _ => ?_))
      | exact ih0 _ _ _ _
      | exact ih1 _ _ _ _ _ _
      | exact barrowref02_Stream_Below.mono _ _ _
      | exact LeO.none _
      | refine LeO.ite ?_ ?_
      | refine LeO.bind ?_ (fun _ => ?_)
    · intro y0 y1 y2 y3 y4 y5
      unfold barrowref02_Stream_Pick.l1
      repeat' first
      | (with_reducible exact ih0 _ _ _ _)
      | (with_reducible exact ih1 _ _ _ _ _ _)
      | (with_reducible exact barrowref02_Stream_Below.mono _ _ _)
      | (with_reducible exact LeO.refl _)
      | (with_reducible exact LeO.none _)
      | (with_reducible refine LeO.ite ?_ ?_)
      | (with_reducible refine everyOf_le (fun _ => ?_))
      | (with_reducible refine LeO.bind ?_ (fun _ => ?_))
      | exact ih0 _ _ _ _
      | exact ih1 _ _ _ _ _ _
      | exact barrowref02_Stream_Below.mono _ _ _
      | exact LeO.none _
      | refine LeO.ite ?_ ?_
      | refine LeO.bind ?_ (fun _ => ?_)
theorem barrowref02_Stream_Pick.mono : ∀ a0 a1 k, LeO (barrowref02_Stream_Pick.f k a0 a1) (barrowref02_Stream_Pick.f (k + 1) a0 a1) := by
  intro a0 a1 k
  obtain ⟨ih0, ih1⟩ := barrowref02_Stream_Pick.mono_l k
  unfold barrowref02_Stream_Pick.f
  repeat' first
      | (with_reducible exact ih0 _ _ _ _)
      | (with_reducible exact ih1 _ _ _ _ _ _)
      | (with_reducible exact barrowref02_Stream_Below.mono _ _ _)
      | (with_reducible exact LeO.refl _)
      | (with_reducible exact LeO.none _)
      | (with_reducible refine LeO.ite ?_ ?_)
      | (with_reducible refine everyOf_le (fun _ => ?_))
      | (with_reducible refine LeO.bind ?_ (fun _ => ?_))
      | exact ih0 _ _ _ _
      | exact ih1 _ _ _ _ _ _
      | exact barrowref02_Stream_Below.mono _ _ _
      | exact LeO.none _
      | refine LeO.ite ?_ ?_
      | refine LeO.bind ?_ (fun _ => ?_)
def barrowref02_Stream_Pick.Post (b0 : Nat) (r1 : Int) (r2 : Bool) (r3 : List Int) (S : Nat → Prop) (L : List Asr) (w : World) (e : Ending) (w' : World) : Prop := ∃ (Ar3 : Option Addr) (cr3 : Nat), e = .returned (.tuple #[.int .i64 r1, .bool r2]) ∧ SL (cells b0 39 [.slice Ar3 r3.length cr3].toArray :: row (Kd.int .i64) 3 (.slice Ar3 r3.length cr3) r3 :: L) w' S ∧ Keep S w w'
set_option maxHeartbeats 8000000 in
set_option maxRecDepth 100000 in
theorem barrowref02_Stream_Pick.slcalls (k : Nat) (A1 : Option Addr) (c1 : Nat) (l1 : List Int) (b0 : Nat) (As0_0 : Option Addr) (cs0_0 : Nat) (s0_0 : List Int) (r1 : Int) (r2 : Bool) (r3 : List Int) (S : Nat → Prop) (L : List Asr) (w : World) (hf : Fresh S w) (hs : SL (cells b0 39 [.slice As0_0 s0_0.length cs0_0].toArray :: row (Kd.int .i64) 3 (.slice As0_0 s0_0.length cs0_0) s0_0 :: L) w S) (hr1 : RO S w (fun w_ => Kd.C (Kd.int .i64) w_ A1 l1.length l1)) (hc1 : l1.length ≤ c1) (h : barrowref02_Stream_Pick.f k l1 s0_0 = some (r1, r2, r3)) :
    Calls Try.prog 18 #[.pointer (some ⟨b0, 0, none⟩), .slice A1 l1.length c1] w (barrowref02_Stream_Pick.Post b0 r1 r2 r3 S L w) := by
  have HR1 := Aside0.mk hr1
  have HC1 := Aside0.mk hc1
  clear hr1 hc1
  have HF := Aside0.mk hf
  have HS := Aside0.mk hs
  have HK := Aside0.mk (Keep.refl S w)
  clear hf hs
  have H : (barrowref02_Stream_Pick.l0 k l1 s0_0 0 0) = some (r1, r2, r3) := h
  clear h
  have H' := Aside0.mk H
  clear H
  go_enter Try.func18, Try.ntmps18
  go_wp2
  go_loopg [6, 7] k (fun kq v6 v7 w' => ∃ (x6_0 : Int) (x7_0 : Int), v6 = .int .i64 x6_0 ∧ v7 = .int .i64 x7_0 ∧ Aside0 (barrowref02_Stream_Pick.l0 kq l1 s0_0 x6_0 x7_0 = some (r1, r2, r3)) ∧ Aside0 (kq ≤ k) ∧ Aside0 (SL (cells b0 39 [.slice As0_0 s0_0.length cs0_0].toArray :: row (Kd.int .i64) 3 (.slice As0_0 s0_0.length cs0_0) s0_0 :: L) w' S) ∧ Aside0 (Keep S w w'))
  case atStart => exact ⟨(0), (0), (by first | rfl | (simp; done) | (simp [*]; done)), (by first | rfl | (simp; done) | (simp [*]; done)), H', ⟨Nat.le_refl _⟩, HS, HK⟩
  case round =>
    clear H' HS HK
    obtain ⟨x6_0, x7_0, rfl, rfl, HA, HQ1, HS, HK⟩ := hrel
    cases gk with
    | zero => exact absurd HA.out (by simp [barrowref02_Stream_Pick.l0])
    | succ k1 =>
      have H := HA.out
      clear HA
      simp only [barrowref02_Stream_Pick.l0] at H
      by_cases c1 : x7_0 < (l1.length : Int)
      · rw [if_pos c1] at H
        have c1b0 : decide (x7_0 < (l1.length : Int)) = true := decide_eq_true c1
        clear c1
        by_cases c2 : 0 ≤ x7_0
        · rw [if_pos c2] at H
          have c2b0 : decide (0 ≤ x7_0) = true := decide_eq_true c2
          clear c2
          by_cases c3 : (rd l1 x7_0) < 0
          · rw [if_pos c3] at H
            have c3b0 : decide ((rd l1 x7_0) < 0) = true := decide_eq_true c3
            clear c3
            simp only [Option.some.injEq, Prod.mk.injEq] at H
            obtain ⟨rfl, rfl, rfl⟩ := H
            have pq183 : 0 ≤ (x7_0 : Int) := of_decide_eq_true (by first | (with_reducible assumption) | assumption)
            have qq183 : x7_0 < ((l1.length : Int) : Int) := of_decide_eq_true (by first | (with_reducible assumption) | assumption)
            obtain ⟨adq183, eq183, hxq183_0⟩ := Kd.at_int (RO.at_ HR1.out HK.out) x7_0 pq183 qq183
            cases eq183
            replace pq183 := eq_true pq183
            replace qq183 := eq_true qq183
            go_wp2
            go_ret2
            unfold barrowref02_Stream_Pick.Post
            exact ⟨As0_0, cs0_0, by first | rfl | (simp; done) | (simp [*]; done) | (simp at c3b0 ⊢; first | exact c3b0 | (simp [c3b0]; done)), HS.out, HK.out⟩
          · rw [if_neg c3] at H
            have c3b0 : decide ((rd l1 x7_0) < 0) = false := decide_eq_false c3
            clear c3
            by_cases c4 : (rd l1 x7_0) > (wrap64 (4294967296 - x6_0))
            · rw [if_pos c4] at H
              have c4b0 : decide ((wrap64 (4294967296 - x6_0)) < (rd l1 x7_0)) = true := decide_eq_true c4
              clear c4
              simp only [Option.some.injEq, Prod.mk.injEq] at H
              obtain ⟨rfl, rfl, rfl⟩ := H
              have pq183 : 0 ≤ (x7_0 : Int) := of_decide_eq_true (by first | (with_reducible assumption) | assumption)
              have qq183 : x7_0 < ((l1.length : Int) : Int) := of_decide_eq_true (by first | (with_reducible assumption) | assumption)
              obtain ⟨adq183, eq183, hxq183_0⟩ := Kd.at_int (RO.at_ HR1.out HK.out) x7_0 pq183 qq183
              cases eq183
              replace pq183 := eq_true pq183
              replace qq183 := eq_true qq183
              go_wp2
              go_ret2
              unfold barrowref02_Stream_Pick.Post
              exact ⟨As0_0, cs0_0, by first | rfl | (simp; done) | (simp [*]; done) | (simp at c4b0 ⊢; first | exact c4b0 | (simp [c4b0]; done)), HS.out, HK.out⟩
            · rw [if_neg c4] at H
              have c4b0 : decide ((wrap64 (4294967296 - x6_0)) < (rd l1 x7_0)) = false := decide_eq_false c4
              clear c4
              have H' := Aside0.mk H
              clear H
              have pq183 : 0 ≤ (x7_0 : Int) := of_decide_eq_true (by first | (with_reducible assumption) | assumption)
              have qq183 : x7_0 < ((l1.length : Int) : Int) := of_decide_eq_true (by first | (with_reducible assumption) | assumption)
              obtain ⟨adq183, eq183, hxq183_0⟩ := Kd.at_int (RO.at_ HR1.out HK.out) x7_0 pq183 qq183
              cases eq183
              replace pq183 := eq_true pq183
              replace qq183 := eq_true qq183
              go_wp2
              go_roundg k1
              case measure => have := HQ1.out; omega
              case rel => exact ⟨(wrap64 (x6_0 + (rd l1 x7_0))), (wrap64 (x7_0 + 1)), (by first | rfl | (simp; done) | (simp [*]; done)), (by first | rfl | (simp; done) | (simp [*]; done)), H', ⟨by have := HQ1.out; omega⟩, HS, HK⟩
        · rw [if_neg c2] at H
          exact absurd H (by simp)
      · rw [if_neg c1] at H
        have c1b0 : decide (x7_0 < (l1.length : Int)) = false := decide_eq_false c1
        clear c1
        replace H := Option.bind_eq_some_iff.1 H
        obtain ⟨⟨t186, t187, t188⟩, Hc50, H⟩ := H
        try dsimp only at H
        have Hc5 := Aside0.mk Hc50
        clear Hc50
        have H' := Aside0.mk H
        clear H
        go_wp2_with (first | ((with_reducible refine gate_dst (N := 41) rfl ?_); refine goesL_ (some 41) rfl rfl Try.func16 (by kernel_rfl) rfl #[.pointer (some ⟨b0, 0, none⟩), .int .i64 x6_0] rfl (by (try simp only [List.map_toArray, List.map_cons, List.map_nil]); first | done | rfl | (simp; done)) ?_; have hs0_ := (SL.get1 (SL.get1 HS.out)); (with_reducible refine (barrowref02_Stream_Below.slcalls k1 _ _ _ _ _ _ _ _ _ _ _ (HF.out.keep HK.out) hs0_  Hc5.out).mono ?_); rintro e_ w6 ⟨A189, c190, rfl, hsr_, hkr_⟩; refine ⟨_, rfl, ?_⟩; replace HS := Aside0.mk (hsr_); replace HK := Aside0.mk (HK.out.trans hkr_)))
        try go_simp
        go_loopg [10, 11] k1 (fun kq v10 v11 w' => ∃ (x10_1 : Int) (x11_1 : Int), v10 = .int .i64 x10_1 ∧ v11 = .int .i64 x11_1 ∧ Aside0 (barrowref02_Stream_Pick.l1 kq l1 t186 t187 t188 x10_1 x11_1 = some (r1, r2, r3)) ∧ Aside0 (kq ≤ k1) ∧ Aside0 (SL (cells b0 39 [.slice A189 t188.length c190].toArray :: row (Kd.int .i64) 3 (.slice A189 t188.length c190) t188 :: L) w' S) ∧ Aside0 (Keep S w w'))
        case atStart => exact ⟨(0), (0), (by first | rfl | (simp; done) | (simp [*]; done)), (by first | rfl | (simp; done) | (simp [*]; done)), H', ⟨Nat.le_refl _⟩, HS, HK⟩
        case round =>
          clear H' HS HK
          obtain ⟨x10_1, x11_1, rfl, rfl, HA, HQ2, HS, HK⟩ := hrel
          cases gk with
          | zero => exact absurd HA.out (by simp [barrowref02_Stream_Pick.l1])
          | succ k2 =>
            have H := HA.out
            clear HA
            simp only [barrowref02_Stream_Pick.l1] at H
            by_cases c7 : x11_1 < (l1.length : Int)
            · rw [if_pos c7] at H
              have c7b0 : decide (x11_1 < (l1.length : Int)) = true := decide_eq_true c7
              clear c7
              by_cases c8 : t187 = true
              · subst c8
                rw [if_pos rfl] at H
                by_cases c9 : 0 ≤ x11_1
                · rw [if_pos c9] at H
                  have c9b0 : decide (0 ≤ x11_1) = true := decide_eq_true c9
                  clear c9
                  by_cases c10 : (wrap64 (x10_1 + (rd l1 x11_1))) > t186
                  · rw [if_pos c10] at H
                    have c10b0 : decide (t186 < (wrap64 (x10_1 + (rd l1 x11_1)))) = true := decide_eq_true c10
                    clear c10
                    simp only [Option.some.injEq, Prod.mk.injEq] at H
                    obtain ⟨rfl, rfl, rfl⟩ := H
                    have pq191 : 0 ≤ (x11_1 : Int) := of_decide_eq_true (by first | (with_reducible assumption) | assumption)
                    have qq191 : x11_1 < ((l1.length : Int) : Int) := of_decide_eq_true (by first | (with_reducible assumption) | assumption)
                    obtain ⟨adq191, eq191, hxq191_0⟩ := Kd.at_int (RO.at_ HR1.out HK.out) x11_1 pq191 qq191
                    cases eq191
                    replace pq191 := eq_true pq191
                    replace qq191 := eq_true qq191
                    go_wp2
                    go_ret2
                    unfold barrowref02_Stream_Pick.Post
                    exact ⟨A189, c190, by first | rfl | (simp; done) | (simp [*]; done) | (simp at c10b0 ⊢; first | exact c10b0 | (simp [c10b0]; done)), HS.out, HK.out⟩
                  · rw [if_neg c10] at H
                    have c10b0 : decide (t186 < (wrap64 (x10_1 + (rd l1 x11_1)))) = false := decide_eq_false c10
                    clear c10
                    have H' := Aside0.mk H
                    clear H
                    have pq191 : 0 ≤ (x11_1 : Int) := of_decide_eq_true (by first | (with_reducible assumption) | assumption)
                    have qq191 : x11_1 < ((l1.length : Int) : Int) := of_decide_eq_true (by first | (with_reducible assumption) | assumption)
                    obtain ⟨adq191, eq191, hxq191_0⟩ := Kd.at_int (RO.at_ HR1.out HK.out) x11_1 pq191 qq191
                    cases eq191
                    replace pq191 := eq_true pq191
                    replace qq191 := eq_true qq191
                    go_wp2
                    go_roundg k2
                    case measure => have := HQ1.out; have := HQ2.out; omega
                    case rel => exact ⟨(wrap64 (x10_1 + (rd l1 x11_1))), (wrap64 (x11_1 + 1)), (by first | rfl | (simp; done) | (simp [*]; done)), (by first | rfl | (simp; done) | (simp [*]; done)), H', ⟨by have := HQ1.out; have := HQ2.out; omega⟩, HS, HK⟩
                · rw [if_neg c9] at H
                  exact absurd H (by simp)
              · replace c8 := Bool.eq_false_iff.mpr c8
                subst c8
                rw [if_neg (show ¬ (false = true) by decide)] at H
                simp only [Option.some.injEq, Prod.mk.injEq] at H
                obtain ⟨rfl, rfl, rfl⟩ := H
                go_wp2
                go_ret2
                unfold barrowref02_Stream_Pick.Post
                exact ⟨A189, c190, by first | rfl | (simp; done) | (simp [*]; done) | (simp at c7b0 ⊢; first | exact c7b0 | (simp [c7b0]; done)), HS.out, HK.out⟩
            · rw [if_neg c7] at H
              have c7b0 : decide (x11_1 < (l1.length : Int)) = false := decide_eq_false c7
              clear c7
              simp only [Option.some.injEq, Prod.mk.injEq] at H
              obtain ⟨rfl, rfl, rfl⟩ := H
              go_wp2
              go_ret2
              unfold barrowref02_Stream_Pick.Post
              exact ⟨A189, c190, by first | rfl | (simp; done) | (simp [*]; done) | (simp at c7b0 ⊢; first | exact c7b0 | (simp [c7b0]; done)), HS.out, HK.out⟩

end Go.Proofs.Ytkffeglkbpfndaa.XPL
