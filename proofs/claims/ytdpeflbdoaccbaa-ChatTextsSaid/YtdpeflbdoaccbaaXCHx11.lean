-- Written by xprint.py (a program of this session) for this claim
import Derived.Test.YtdpeflbdoaccbaaSL5
import Derived.Test.YtdpeflbdoaccbaaXCHx0
import Derived.Test.YtdpeflbdoaccbaaXCHx8
import Derived.Test.YtdpeflbdoaccbaaXCHx9
import Derived.Test.YtdpeflbdoaccbaaXCHx10
namespace Go.Proofs.Ytdpeflbdoaccbaa.XCH
open Go.Proofs.YtdpeflbdoaccbaaV Go.Proofs.YtdpeflbdoaccbaaS
open Go.RowKit Go.Proofs.YtdpeflbdoaccbaaW.PrintWords Go.Proofs.YtdpeflbdoaccbaaW.PrintLast Go.Proofs.YtdpeflbdoaccbaaW.PrintMore
attribute [local go_sem] max2_int min2_int max_two min_two max_three min_three max_four min_four   -- for this text's walks alone
set_option linter.unusedVariables false
set_option linter.unusedSimpArgs false

/-! ### barrowref38_Hear: function 10 -/
mutual
def barrowref38_Hear.l0 : Nat → (List (S44)) → (List (S71)) → (List (S46)) → Int → Int → Int → Int → Bool → (List Int) → Int → Option ((List Int))
  | 0, _, _, _, _, _, _, _, _, _, _ => none
  | k + 1, l0, l1, l2, a3, a4, a5, a6, t436, x17_0, x18_0 => if x18_0 < (l0.length : Int) then (if t436 = true then (if 0 ≤ x18_0 then ((barrowref38_hears.f k l0 l1 a3 a4 a5 a6 ((rd_T44 l0 x18_0).f0)).bind fun t438 => (if t438 = true then (if ((rd_T44 l0 x18_0).f0) = a4 then (barrowref38_Hear.l1 k l0 l1 l2 a3 a4 a5 a6 t436 x17_0 x18_0 0) else ((barrowref38_Mutes.f k l2 ((rd_T44 l0 x18_0).f0) a4).bind fun t498 => (if t498 = true then (barrowref38_Hear.l0 k l0 l1 l2 a3 a4 a5 a6 t436 x17_0 (wrap64 (x18_0 + 1))) else (barrowref38_Hear.l1 k l0 l1 l2 a3 a4 a5 a6 t436 x17_0 x18_0 0)))) else (barrowref38_Hear.l0 k l0 l1 l2 a3 a4 a5 a6 t436 x17_0 (wrap64 (x18_0 + 1))))) else (none)) else (some x17_0)) else (some x17_0)
def barrowref38_Hear.l1 : Nat → (List (S44)) → (List (S71)) → (List (S46)) → Int → Int → Int → Int → Bool → (List Int) → Int → Int → Option ((List Int))
  | 0, _, _, _, _, _, _, _, _, _, _, _ => none
  | k + 1, l0, l1, l2, a3, a4, a5, a6, t436, x17_0, x18_0, x21_1 => if x21_1 < (x17_0.length : Int) then (if 0 ≤ x21_1 then (if (rd x17_0 x21_1) < ((rd_T44 l0 x18_0).f0) then (barrowref38_Hear.l1 k l0 l1 l2 a3 a4 a5 a6 t436 x17_0 x18_0 (wrap64 (x21_1 + 1))) else (if x21_1 = (x17_0.length : Int) then ((some (([] : List Int) : List Int)).bind fun y440 => (if x21_1 ≤ (x17_0.length : Int) then ((some (x17_0.take (x21_1).toNat : List Int)).bind fun y441 => (if y440.length + y441.length < 17592186044416 then ((some (y440 ++ y441 : List Int)).bind fun y445 => ((some (([(rd_T44 l0 x18_0).f0] : List Int) : List Int)).bind fun y448 => (if y445.length + y448.length < 17592186044416 then ((some (y445 ++ y448 : List Int)).bind fun y449 => ((some (x17_0.drop (x21_1).toNat : List Int)).bind fun y452 => (if y449.length + y452.length < 17592186044416 then ((some (y449 ++ y452 : List Int)).bind fun y456 => (barrowref38_Hear.l0 k l0 l1 l2 a3 a4 a5 a6 t436 y456 (wrap64 (x18_0 + 1)))) else (none)))) else (none)))) else (none))) else (none))) else (if (rd x17_0 x21_1) = ((rd_T44 l0 x18_0).f0) then (barrowref38_Hear.l0 k l0 l1 l2 a3 a4 a5 a6 t436 x17_0 (wrap64 (x18_0 + 1))) else ((some (([] : List Int) : List Int)).bind fun y460 => (if x21_1 ≤ (x17_0.length : Int) then ((some (x17_0.take (x21_1).toNat : List Int)).bind fun y461 => (if y460.length + y461.length < 17592186044416 then ((some (y460 ++ y461 : List Int)).bind fun y465 => ((some (([(rd_T44 l0 x18_0).f0] : List Int) : List Int)).bind fun y468 => (if y465.length + y468.length < 17592186044416 then ((some (y465 ++ y468 : List Int)).bind fun y469 => ((some (x17_0.drop (x21_1).toNat : List Int)).bind fun y472 => (if y469.length + y472.length < 17592186044416 then ((some (y469 ++ y472 : List Int)).bind fun y476 => (barrowref38_Hear.l0 k l0 l1 l2 a3 a4 a5 a6 t436 y476 (wrap64 (x18_0 + 1)))) else (none)))) else (none)))) else (none))) else (none)))))) else (none)) else (if x21_1 = (x17_0.length : Int) then ((some (([] : List Int) : List Int)).bind fun y479 => (if 0 ≤ x21_1 then (if x21_1 ≤ (x17_0.length : Int) then ((some (x17_0.take (x21_1).toNat : List Int)).bind fun y480 => (if y479.length + y480.length < 17592186044416 then ((some (y479 ++ y480 : List Int)).bind fun y484 => ((some (([(rd_T44 l0 x18_0).f0] : List Int) : List Int)).bind fun y487 => (if y484.length + y487.length < 17592186044416 then ((some (y484 ++ y487 : List Int)).bind fun y488 => ((some (x17_0.drop (x21_1).toNat : List Int)).bind fun y491 => (if y488.length + y491.length < 17592186044416 then ((some (y488 ++ y491 : List Int)).bind fun y495 => (barrowref38_Hear.l0 k l0 l1 l2 a3 a4 a5 a6 t436 y495 (wrap64 (x18_0 + 1)))) else (none)))) else (none)))) else (none))) else (none)) else (none))) else (if 0 ≤ x21_1 then (none) else (none)))
end
def barrowref38_Hear.f (k : Nat) (l0 : List (S44)) (l1 : List (S71)) (l2 : List (S46)) (a3 : Int) (a4 : Int) (a5 : Int) (a6 : Int) : Option ((List Int)) := (barrowref38_place.f k l0 a4).bind fun bt434 => (barrowref38_Hear.l0 k l0 l1 l2 a3 a4 a5 a6 bt434.2.2 ([] : List Int) 0)
theorem barrowref38_Hear.mono_l : ∀ k, (∀ y0 y1 y2 y3 y4 y5 y6 y7 y8 y9, LeO (barrowref38_Hear.l0 k y0 y1 y2 y3 y4 y5 y6 y7 y8 y9) (barrowref38_Hear.l0 (k + 1) y0 y1 y2 y3 y4 y5 y6 y7 y8 y9)) ∧ (∀ y0 y1 y2 y3 y4 y5 y6 y7 y8 y9 y10, LeO (barrowref38_Hear.l1 k y0 y1 y2 y3 y4 y5 y6 y7 y8 y9 y10) (barrowref38_Hear.l1 (k + 1) y0 y1 y2 y3 y4 y5 y6 y7 y8 y9 y10))
  | 0 => ⟨fun _ _ _ _ _ _ _ _ _ _ r h => by simp [barrowref38_Hear.l0] at h, fun _ _ _ _ _ _ _ _ _ _ _ r h => by simp [barrowref38_Hear.l1] at h⟩
  | k + 1 => by
    obtain ⟨ih0, ih1⟩ := barrowref38_Hear.mono_l k
    refine ⟨?_, ?_⟩
    · intro y0 y1 y2 y3 y4 y5 y6 y7 y8 y9
      unfold barrowref38_Hear.l0
      repeat' first
      | (with_reducible exact ih0 _ _ _ _ _ _ _ _ _ _)
      | (with_reducible exact ih1 _ _ _ _ _ _ _ _ _ _ _)
      | (with_reducible exact barrowref38_Mutes.mono _ _ _ _)
      | (with_reducible exact barrowref38_hears.mono _ _ _ _ _ _ _ _)
      | (with_reducible exact barrowref38_place.mono _ _ _)
      | (with_reducible exact LeO.refl _)
      | (with_reducible exact LeO.none _)
      | (with_reducible refine LeO.ite ?_ ?_)
      | (with_reducible refine everyOf_le (fun _ => ?_))
      | (with_reducible refine LeO.bind ?_ (fun _ => ?_))
      | exact ih0 _ _ _ _ _ _ _ _ _ _
      | exact ih1 _ _ _ _ _ _ _ _ _ _ _
      | exact barrowref38_Mutes.mono _ _ _ _
      | exact barrowref38_hears.mono _ _ _ _ _ _ _ _
      | exact barrowref38_place.mono _ _ _
      | exact LeO.none _
      | refine LeO.ite ?_ ?_
      | refine LeO.bind ?_ (fun _ => ?_)
    · intro y0 y1 y2 y3 y4 y5 y6 y7 y8 y9 y10
      unfold barrowref38_Hear.l1
      repeat' first
      | (with_reducible exact ih0 _ _ _ _ _ _ _ _ _ _)
      | (with_reducible exact ih1 _ _ _ _ _ _ _ _ _ _ _)
      | (with_reducible exact barrowref38_Mutes.mono _ _ _ _)
      | (with_reducible exact barrowref38_hears.mono _ _ _ _ _ _ _ _)
      | (with_reducible exact barrowref38_place.mono _ _ _)
      | (with_reducible exact LeO.refl _)
      | (with_reducible exact LeO.none _)
      | (with_reducible refine LeO.ite ?_ ?_)
      | (with_reducible refine everyOf_le (fun _ => ?_))
      | (with_reducible refine LeO.bind ?_ (fun _ => ?_))
      | exact ih0 _ _ _ _ _ _ _ _ _ _
      | exact ih1 _ _ _ _ _ _ _ _ _ _ _
      | exact barrowref38_Mutes.mono _ _ _ _
      | exact barrowref38_hears.mono _ _ _ _ _ _ _ _
      | exact barrowref38_place.mono _ _ _
      | exact LeO.none _
      | refine LeO.ite ?_ ?_
      | refine LeO.bind ?_ (fun _ => ?_)
theorem barrowref38_Hear.mono : ∀ a0 a1 a2 a3 a4 a5 a6 k, LeO (barrowref38_Hear.f k a0 a1 a2 a3 a4 a5 a6) (barrowref38_Hear.f (k + 1) a0 a1 a2 a3 a4 a5 a6) := by
  intro a0 a1 a2 a3 a4 a5 a6 k
  obtain ⟨ih0, ih1⟩ := barrowref38_Hear.mono_l k
  unfold barrowref38_Hear.f
  repeat' first
      | (with_reducible exact ih0 _ _ _ _ _ _ _ _ _ _)
      | (with_reducible exact ih1 _ _ _ _ _ _ _ _ _ _ _)
      | (with_reducible exact barrowref38_Mutes.mono _ _ _ _)
      | (with_reducible exact barrowref38_hears.mono _ _ _ _ _ _ _ _)
      | (with_reducible exact barrowref38_place.mono _ _ _)
      | (with_reducible exact LeO.refl _)
      | (with_reducible exact LeO.none _)
      | (with_reducible refine LeO.ite ?_ ?_)
      | (with_reducible refine everyOf_le (fun _ => ?_))
      | (with_reducible refine LeO.bind ?_ (fun _ => ?_))
      | exact ih0 _ _ _ _ _ _ _ _ _ _
      | exact ih1 _ _ _ _ _ _ _ _ _ _ _
      | exact barrowref38_Mutes.mono _ _ _ _
      | exact barrowref38_hears.mono _ _ _ _ _ _ _ _
      | exact barrowref38_place.mono _ _ _
      | exact LeO.none _
      | refine LeO.ite ?_ ?_
      | refine LeO.bind ?_ (fun _ => ?_)
def barrowref38_Hear.T13 : Bool × List (List Nat × List Nat) := (true, [([], []), ([], []), ([], []), ([1, 2], [1, 2]), ([0, 3], [0, 3]), ([], []), ([5], [5]), ([4, 6, 4], [4, 6]), ([], []), ([], []), ([8, 9], [8, 9]), ([7, 10, 7], [7, 10]), ([11, 11, 0, 1, 2, 3, 4, 5, 6, 7, 8, 9, 10, 11], [1, 8, 11])])
def barrowref38_Hear.B13 : List Nat := [0, 0, 0, 6, 15, 0, 32, 127, 0, 0, 768, 2047, 4095]
theorem barrowref38_Hear.tab13 : rtab .any (opsOf Try.f10 13) = barrowref38_Hear.T13 := by kernel_rfl
theorem barrowref38_Hear.bits13 : waitsOk barrowref38_Hear.T13.2 barrowref38_Hear.B13 = true := by kernel_rfl
def barrowref38_Hear.Post (r : List Int) (S : Nat → Prop) (L : List Asr) (w : World) (e : Ending) (w' : World) : Prop := ∃ (Ar1 : Option Addr) (cr1 : Nat), e = .returned (.slice Ar1 r.length cr1) ∧ SL (row (Kd.int .i64) 3 (.slice Ar1 r.length cr1) r :: L) w' S ∧ Keep S w w'
set_option maxHeartbeats 8000000 in
set_option maxRecDepth 100000 in
theorem barrowref38_Hear.slcalls (k : Nat) (A0 : Option Addr) (c0 : Nat) (l0 : List (S44)) (A1 : Option Addr) (c1 : Nat) (l1 : List (S71)) (A2 : Option Addr) (c2 : Nat) (l2 : List (S46)) (a3 : Int) (a4 : Int) (a5 : Int) (a6 : Int) (r : List Int) (S : Nat → Prop) (L : List Asr) (w : World) (hf : Fresh S w) (hs : SL (L) w S) (hr0 : RO S w (fun w_ => Kd.C k44 w_ A0 l0.length l0)) (hc0 : l0.length ≤ c0) (hr1 : RO S w (fun w_ => Kd.C k71 w_ A1 l1.length l1)) (hc1 : l1.length ≤ c1) (hr2 : RO S w (fun w_ => Kd.C k46 w_ A2 l2.length l2)) (hc2 : l2.length ≤ c2) (h : barrowref38_Hear.f k l0 l1 l2 a3 a4 a5 a6 = some r) :
    Calls Try.prog 10 #[.slice A0 l0.length c0, .slice A1 l1.length c1, .slice A2 l2.length c2, .int .i64 a3, .int .i64 a4, .int .i64 a5, .int .i64 a6] w (barrowref38_Hear.Post r S L w) := by
  have HR0 := Aside0.mk hr0
  have HC0 := Aside0.mk hc0
  clear hr0 hc0
  have HR1 := Aside0.mk hr1
  have HC1 := Aside0.mk hc1
  clear hr1 hc1
  have HR2 := Aside0.mk hr2
  have HC2 := Aside0.mk hc2
  clear hr2 hc2
  have HF := Aside0.mk hf
  have HS := Aside0.mk hs
  have HK := Aside0.mk (Keep.refl S w)
  clear hf hs
  have hu42 := Try.underlying42
  have H : ((barrowref38_place.f k l0 a4).bind fun bt434 => (barrowref38_Hear.l0 k l0 l1 l2 a3 a4 a5 a6 bt434.2.2 ([] : List Int) 0)) = some r := h
  clear h
  replace H := Option.bind_eq_some_iff.1 H
  obtain ⟨⟨t434, t435, t436⟩, Hc10, H⟩ := H
  try dsimp only at H
  have Hc1 := Aside0.mk Hc10
  clear Hc10
  have H' := Aside0.mk H
  clear H
  go_enter Try.func10, Try.ntmps10
  go_wp2_with (first | ((with_reducible refine gate_dst (N := 25) rfl ?_); refine goesL_ (some 25) rfl rfl Try.func26 (by kernel_rfl) rfl #[.slice A0 l0.length c0, .int .i64 a4] rfl (by (try simp only [List.map_toArray, List.map_cons, List.map_nil]); first | done | rfl | (simp; done)) ?_; (with_reducible refine (barrowref38_place.calls k _ _ _ _ _ _ _ _ (RO.at_ HR0.out HK.out) HC0.out Hc1.out).mono ?_); rintro e_ w2 ⟨rfl, hb_⟩; refine ⟨_, rfl, ?_⟩; replace HS := Aside0.mk (HS.out.below hb_); replace HK := Aside0.mk (HK.out.trans (Keep.below hb_))) | ((with_reducible refine gate_dst (N := 15) rfl ?_); refine wpList_plain rfl (fun K_ hK_ => ?_); refine op_box (S := S) (cs := #[.int .i64 0, .int .i64 0]) (t := 42) (HF.out.keep HK.out) HS.out (by first | (go_simp; done) | (go_simp; rfl)) ?_; intro g3000043 w3 hs_ hk_; refine hK_ _ _ ?_; clear hK_ K_; replace HS := Aside0.mk (hs_); replace HK := Aside0.mk (HK.out.trans hk_)) | ((with_reducible refine gate_store (t := 42) (p := 15) (v := (.tmp 26)) rfl ?_); refine wpList_plain rfl (fun K_ hK_ => ?_); refine op_store (S := S) 42 (.tmp 15) (.tmp 26) rfl g3000043 0 (.agg #[.int .i64 t434, .int .i64 t435]) [.int .i64 t434, .int .i64 t435] rfl rfl rfl (by kernel_rfl) (by simp [Value.oneCell']) HS.out (by simp) ?_; intro w4 hs_ hk_; refine hK_ _ _ ?_; clear hK_ K_; replace HS := Aside0.mk ((show SL (cells g3000043 42 [.int .i64 t434, .int .i64 t435].toArray :: _) _ _ from hs_)); replace HK := Aside0.mk (HK.out.trans hk_); have n2_ := Aside0.mk (SL.nil_row (Kd.int .i64) 3 HS.out); clear HS; have HS := n2_; clear n2_))
  go_loopg [17, 18] k (fun kq v17 v18 w' => ∃ (x17_0 : List Int) (Ax17_0 : Option Addr) (cx17_0 : Nat) (x18_0 : Int), v17 = .slice Ax17_0 x17_0.length cx17_0 ∧ v18 = .int .i64 x18_0 ∧ Aside0 (barrowref38_Hear.l0 kq l0 l1 l2 a3 a4 a5 a6 t436 x17_0 x18_0 = some r) ∧ Aside0 (kq ≤ k) ∧ Aside0 (SL (row (Kd.int .i64) 3 (.slice Ax17_0 x17_0.length cx17_0) x17_0 :: cells g3000043 42 [.int .i64 t434, .int .i64 t435].toArray :: L) w' S) ∧ Aside0 (Keep S w w'))
  case atStart => exact ⟨(([] : List Int)), (none), (0), (0), (by first | rfl | (simp; done) | (simp [*]; done)), (by first | rfl | (simp; done) | (simp [*]; done)), H', ⟨Nat.le_refl _⟩, HS, HK⟩
  case round =>
    clear H' HS HK
    obtain ⟨x17_0, Ax17_0, cx17_0, x18_0, rfl, rfl, HA, HQ1, HS, HK⟩ := hrel
    cases gk with
    | zero => exact absurd HA.out (by simp [barrowref38_Hear.l0])
    | succ k1 =>
      have H := HA.out
      clear HA
      simp only [barrowref38_Hear.l0] at H
      by_cases c5 : x18_0 < (l0.length : Int)
      · rw [if_pos c5] at H
        have c5b0 : decide (x18_0 < (l0.length : Int)) = true := decide_eq_true c5
        clear c5
        by_cases c6 : t436 = true
        · subst c6
          rw [if_pos rfl] at H
          by_cases c7 : 0 ≤ x18_0
          · rw [if_pos c7] at H
            have c7b0 : decide (0 ≤ x18_0) = true := decide_eq_true c7
            clear c7
            replace H := Option.bind_eq_some_iff.1 H
            obtain ⟨t438, Hc80, H⟩ := H
            try dsimp only at H
            have Hc8 := Aside0.mk Hc80
            clear Hc80
            by_cases c9 : t438 = true
            · subst c9
              rw [if_pos rfl] at H
              by_cases c10 : ((rd_T44 l0 x18_0).f0) = a4
              · rw [if_pos c10] at H
                have c10b0 : (((rd_T44 l0 x18_0).f0) == a4) = true := beq_iff_eq.mpr c10
                have c10b1 : (((rd_T44 l0 x18_0).f0) != a4) = false := bne_eq_false_iff_eq.mpr c10
                clear c10
                have H' := Aside0.mk H
                clear H
                have pq437 : 0 ≤ (x18_0 : Int) := of_decide_eq_true (by first | (with_reducible assumption) | assumption)
                have qq437 : x18_0 < ((l0.length : Int) : Int) := of_decide_eq_true (by first | (with_reducible assumption) | assumption)
                obtain ⟨adq437, eq437, hxq437_0, hxq437_1, hxq437_2⟩ := at_T44 (RO.at_ HR0.out HK.out) x18_0 pq437 qq437
                cases eq437
                replace pq437 := eq_true pq437
                replace qq437 := eq_true qq437
                go_wp2_with (first | ((with_reducible refine gate_dst (N := 49) rfl ?_); refine goesL_ (some 49) rfl rfl Try.func27 (by kernel_rfl) rfl #[.slice (some adq437) l0.length c0, .slice A1 l1.length c1, .int .i64 a3, .int .i64 a4, .int .i64 a5, .int .i64 a6, .int .i64 ((rd_T44 l0 x18_0).f0)] rfl (by (try simp only [List.map_toArray, List.map_cons, List.map_nil]); first | done | rfl | (simp; done)) ?_; (with_reducible refine (barrowref38_hears.calls k1 _ _ _ _ _ _ _ _ _ _ _ _ _ (RO.at_ HR0.out HK.out) HC0.out (RO.at_ HR1.out HK.out) HC1.out Hc8.out).mono ?_); rintro e_ w11 ⟨rfl, hb_⟩; refine ⟨_, rfl, ?_⟩; replace HS := Aside0.mk (HS.out.below hb_); replace HK := Aside0.mk (HK.out.trans (Keep.below hb_))))
                try go_simp
                go_loopg [21] k1 (fun kq v21 w' => ∃ (x21_1 : Int), v21 = .int .i64 x21_1 ∧ Aside0 (barrowref38_Hear.l1 kq l0 l1 l2 a3 a4 a5 a6 true x17_0 x18_0 x21_1 = some r) ∧ Aside0 (kq ≤ k1) ∧ Aside0 (SL (row (Kd.int .i64) 3 (.slice Ax17_0 x17_0.length cx17_0) x17_0 :: cells g3000043 42 [.int .i64 t434, .int .i64 t435].toArray :: L) w' S) ∧ Aside0 (Keep S w w'))
                case atStart => exact ⟨(0), (by first | rfl | (simp; done) | (simp [*]; done)), H', ⟨Nat.le_refl _⟩, HS, HK⟩
                case round =>
                  clear H' HS HK
                  obtain ⟨x21_1, rfl, HA, HQ2, HS, HK⟩ := hrel
                  cases gk with
                  | zero => exact absurd HA.out (by simp [barrowref38_Hear.l1])
                  | succ k2 =>
                    have H := HA.out
                    clear HA
                    simp only [barrowref38_Hear.l1] at H
                    by_cases c12 : x21_1 < (x17_0.length : Int)
                    · rw [if_pos c12] at H
                      have c12b0 : decide (x21_1 < (x17_0.length : Int)) = true := decide_eq_true c12
                      clear c12
                      by_cases c13 : 0 ≤ x21_1
                      · rw [if_pos c13] at H
                        have c13b0 : decide (0 ≤ x21_1) = true := decide_eq_true c13
                        clear c13
                        by_cases c14 : (rd x17_0 x21_1) < ((rd_T44 l0 x18_0).f0)
                        · rw [if_pos c14] at H
                          have c14b0 : decide ((rd x17_0 x21_1) < ((rd_T44 l0 x18_0).f0)) = true := decide_eq_true c14
                          clear c14
                          have H' := Aside0.mk H
                          clear H
                          have pq439 : 0 ≤ (x21_1 : Int) := of_decide_eq_true (by first | (with_reducible assumption) | assumption)
                          have qq439 : x21_1 < ((x17_0.length : Int) : Int) := of_decide_eq_true (by first | (with_reducible assumption) | assumption)
                          obtain ⟨adq439, eq439, hxq439_0⟩ := Kd.at_int (SL.row_c HS.out).2.2 x21_1 pq439 qq439
                          cases eq439
                          replace pq439 := eq_true pq439
                          replace qq439 := eq_true qq439
                          go_wp2
                          go_roundg k2
                          case measure => have := HQ1.out; have := HQ2.out; omega
                          case rel => exact ⟨(wrap64 (x21_1 + 1)), (by first | rfl | (simp; done) | (simp [*]; done)), H', ⟨by have := HQ1.out; have := HQ2.out; omega⟩, HS, HK⟩
                        · rw [if_neg c14] at H
                          have c14b0 : decide ((rd x17_0 x21_1) < ((rd_T44 l0 x18_0).f0)) = false := decide_eq_false c14
                          clear c14
                          by_cases c15 : x21_1 = (x17_0.length : Int)
                          · rw [if_pos c15] at H
                            have c15b0 : (x21_1 == (x17_0.length : Int)) = true := beq_iff_eq.mpr c15
                            have c15b1 : (x21_1 != (x17_0.length : Int)) = false := bne_eq_false_iff_eq.mpr c15
                            clear c15
                            replace H := Option.bind_eq_some_iff.1 H
                            obtain ⟨y440, hy4400, H⟩ := H
                            try dsimp only at H
                            have hy440 := Option.some.inj hy4400
                            clear hy4400
                            have Ny440 := Aside0.mk hy440
                            clear hy440
                            by_cases c16 : x21_1 ≤ (x17_0.length : Int)
                            · rw [if_pos c16] at H
                              have c16b0 := eq_true c16
                              have c16b1 : decide (x21_1 ≤ (x17_0.length : Int)) = true := decide_eq_true c16
                              clear c16
                              replace H := Option.bind_eq_some_iff.1 H
                              obtain ⟨y441, hy4410, H⟩ := H
                              try dsimp only at H
                              have hy441 := Option.some.inj hy4410
                              clear hy4410
                              have Ny441 := Aside0.mk hy441
                              clear hy441
                              by_cases c17 : y440.length + y441.length < 17592186044416
                              · rw [if_pos c17] at H
                                have LMc17 := Aside0.mk c17
                                clear c17
                                replace H := Option.bind_eq_some_iff.1 H
                                obtain ⟨y445, hy4450, H⟩ := H
                                try dsimp only at H
                                have hy445 := Option.some.inj hy4450
                                clear hy4450
                                have Ny445 := Aside0.mk hy445
                                clear hy445
                                replace H := Option.bind_eq_some_iff.1 H
                                obtain ⟨y448, hy4480, H⟩ := H
                                try dsimp only at H
                                have hy448 := Option.some.inj hy4480
                                clear hy4480
                                have Ny448 := Aside0.mk hy448
                                clear hy448
                                by_cases c18 : y445.length + y448.length < 17592186044416
                                · rw [if_pos c18] at H
                                  have LMc18 := Aside0.mk c18
                                  clear c18
                                  replace H := Option.bind_eq_some_iff.1 H
                                  obtain ⟨y449, hy4490, H⟩ := H
                                  try dsimp only at H
                                  have hy449 := Option.some.inj hy4490
                                  clear hy4490
                                  have Ny449 := Aside0.mk hy449
                                  clear hy449
                                  replace H := Option.bind_eq_some_iff.1 H
                                  obtain ⟨y452, hy4520, H⟩ := H
                                  try dsimp only at H
                                  have hy452 := Option.some.inj hy4520
                                  clear hy4520
                                  have Ny452 := Aside0.mk hy452
                                  clear hy452
                                  by_cases c19 : y449.length + y452.length < 17592186044416
                                  · rw [if_pos c19] at H
                                    have LMc19 := Aside0.mk c19
                                    clear c19
                                    replace H := Option.bind_eq_some_iff.1 H
                                    obtain ⟨y456, hy4560, H⟩ := H
                                    try dsimp only at H
                                    have hy456 := Option.some.inj hy4560
                                    clear hy4560
                                    have Ny456 := Aside0.mk hy456
                                    clear hy456
                                    have H' := Aside0.mk H
                                    clear H
                                    have pq439 : 0 ≤ (x21_1 : Int) := of_decide_eq_true (by first | (with_reducible assumption) | assumption)
                                    have qq439 : x21_1 < ((x17_0.length : Int) : Int) := of_decide_eq_true (by first | (with_reducible assumption) | assumption)
                                    obtain ⟨adq439, eq439, hxq439_0⟩ := Kd.at_int (SL.row_c HS.out).2.2 x21_1 pq439 qq439
                                    cases eq439
                                    replace pq439 := eq_true pq439
                                    replace qq439 := eq_true qq439
                                    try go_wp2
                                    have hv_ := cut_upto (P := Try.prog) (Kd.int .i64) 26 3 .i64 .i64 Try.underlying26 (by kernel_rfl) rfl (some adq439) x17_0.length cx17_0 x17_0 rfl (SL.row_c HS.out).2.1 x21_1 (of_decide_eq_true (by first | (with_reducible assumption) | assumption) : (0 : Int) ≤ (x21_1 : Int)) (of_decide_eq_true (by first | (with_reducible assumption) | assumption) : (x21_1 : Int) ≤ ((x17_0.length : Int) : Int)) y441 Ny441.out
                                    obtain ⟨hcvq444, hcs_, hcc_, hcl_⟩ := hv_
                                    have HVq444 := Aside0.mk (And.intro True.intro hcc_)
                                    have HCq444 := Aside0.mk hcl_
                                    clear hcs_ hcc_ hcl_
                                    obtain ⟨A453, c454, hcvq455, hcs_, hcc_, hcl_⟩ := cut_of (P := Try.prog) (Kd.int .i64) 26 3 .i64 .i64 Try.underlying26 (by kernel_rfl) rfl (some adq439) x17_0.length cx17_0 x17_0 rfl (SL.row_c HS.out).2.1 x21_1 (of_decide_eq_true (by first | (with_reducible assumption) | assumption) : (0 : Int) ≤ (x21_1 : Int)) (of_decide_eq_true (by first | (with_reducible assumption) | assumption) : (x21_1 : Int) ≤ ((x17_0.length : Int) : Int)) y452 Ny452.out
                                    have HVq455 := Aside0.mk (And.intro True.intro hcc_)
                                    have HCq455 := Aside0.mk hcl_
                                    clear hcs_ hcc_ hcl_
                                    refine start_ (n := 13) (S := fun w' => True) (ds := []) #[false, false, false, false, false, false, false, false, false, false, false, false, false] (by kernel_rfl) rfl rfl trivial (fun hHeld => ?_); refine with_tabW barrowref38_Hear.tab13 barrowref38_Hear.bits13 (fun HT_ HW_ => ?_)
                                    replace HK := Aside0.mk (Keep.drew HK.out)
                                    replace HS := Aside0.mk (SL.drew HS.out)
                                    refine pure_ (i := 1) (N := some 90) (v := ?_) (a' := ?_) #[false, true, false, false, false, false, false, false, false, false, false, false, false] rfl rfl (any_of HT_.out (by kernel_rfl)) (fun _ _ _ h => h) (Or.inl ⟨by rfl, ?_⟩) ?_ ?_; rotate_left; · (intro w'; go_simp; with_reducible rfl)
                                    rotate_left; · (simp only [Act.put, sT, sZ, sS, i64_w, i32_w]; rfl)
                                    refine pure_ (i := 2) (N := some 91) (v := ?_) (a' := ?_) #[false, true, true, false, false, false, false, false, false, false, false, false, false] rfl rfl (any_of HT_.out (by kernel_rfl)) (fun _ _ _ h => h) (Or.inl ⟨by rfl, ?_⟩) ?_ ?_; rotate_left; · (intro w'; go_simp; with_reducible rfl)
                                    rotate_left; · (simp only [Act.put, sT, sZ, sS, i64_w, i32_w]; rfl)
                                    refine pure_ (i := 3) (N := some 92) (v := ?_) (a' := ?_) #[false, true, true, true, false, false, false, false, false, false, false, false, false] rfl rfl (any_of HT_.out (by kernel_rfl)) (fun _ _ _ h => h) (Or.inl ⟨by rfl, ?_⟩) ?_ ?_; rotate_left; · (intro w'; go_simp; with_reducible rfl)
                                    rotate_left; · (simp only [Act.put, sT, sZ, sS, i64_w, i32_w]; rfl)
                                    refine pure_ (i := 5) (N := some 94) (v := ?_) (a' := ?_) #[false, true, true, true, false, true, false, false, false, false, false, false, false] rfl rfl (any_of HT_.out (by kernel_rfl)) (fun _ _ _ h => h) (Or.inl ⟨by rfl, ?_⟩) ?_ ?_; rotate_left; · (intro w'; go_simp; with_reducible rfl)
                                    rotate_left; · (simp only [Act.put, sT, sZ, sS, i64_w, i32_w]; rfl)
                                    refine pure_ (i := 8) (N := some 97) (v := ?_) (a' := ?_) #[false, true, true, true, false, true, false, false, true, false, false, false, false] rfl rfl (any_of HT_.out (by kernel_rfl)) (fun _ _ _ h => h) (Or.inl ⟨by rfl, ?_⟩) ?_ ?_; rotate_left; · (intro w'; go_simp; with_reducible rfl)
                                    rotate_left; · (simp only [Act.put, sT, sZ, sS, i64_w, i32_w]; rfl)
                                    refine pure_ (i := 9) (N := some 98) (v := ?_) (a' := ?_) #[false, true, true, true, false, true, false, false, true, true, false, false, false] rfl rfl (any_of HT_.out (by kernel_rfl)) (fun _ _ _ h => h) (Or.inl ⟨by rfl, ?_⟩) ?_ ?_; rotate_left; · (intro w'; go_simp; with_reducible rfl)
                                    rotate_left; · (simp only [Act.put, sT, sZ, sS, i64_w, i32_w]; rfl)
                                    refine pure_ (i := 10) (N := some 99) (v := ?_) (a' := ?_) #[false, true, true, true, false, true, false, false, true, true, true, false, false] rfl rfl (any_of HT_.out (by kernel_rfl)) (fun _ _ _ h => h) (Or.inl ⟨by rfl, ?_⟩) ?_ ?_; rotate_left; · (intro w'; go_simp; with_reducible rfl)
                                    rotate_left; · (simp only [Act.put, sT, sZ, sS, i64_w, i32_w]; rfl)
                                    refine join_ (σ := Option Addr × Nat × Option Addr × Nat × Option Addr × Nat) 3 #[true, true, true, true, true, true, true, false, true, true, true, false, false] (fun s_ => [(89, .slice s_.2.2.1 0 s_.2.2.2.1), (93, .slice s_.1 y445.length s_.2.1), (95, .slice s_.2.2.2.2.1 1 s_.2.2.2.2.2)]) (fun s_ w_ => Keep S w w_ ∧ SL (row (Kd.int .i64) 3 (.slice s_.1 y445.length s_.2.1) y445 :: row (Kd.int .i64) 3 (.slice s_.2.2.2.2.1 1 s_.2.2.2.2.2) y448 :: row (Kd.int .i64) 3 (.slice (some adq439) x17_0.length cx17_0) x17_0 :: cells g3000043 42 [.int .i64 t434, .int .i64 t435].toArray :: L) w_ S) ?_ ?_; rotate_left
                                    · intro hCont
                                      refine two_ (i := 0) (j := 6) (Ni := some 89) (Nj := some 95) #[true, true, true, true, false, true, false, false, true, true, true, false, false] #[false, true, true, true, false, true, true, false, true, true, true, false, false] rfl rfl rfl rfl (two_of HT_.out (by kernel_rfl)) (by decide) (by decide) (fun K hK => ?_) (fun K hK => ?_)
                                      · skip
                                        refine st_of (by rfl) ?_
                                        refine op_row (S := S) (enc := Value.int .i64) (h1 := fun _ => rfl) 3 y440 #[] 0 (by rw [← Ny440.out]; rfl) (by rw [← Ny440.out]; rfl) (by decide) (HF.out.keep HK.out) HS.out (by first | (go_simp; done) | (go_simp; rfl)) ?_
                                        intro Az3000044 cz3000044 w26 hs_ hk_
                                        replace HS := Aside0.mk ((show SL (row (Kd.int .i64) 3 (.slice Az3000044 0 cz3000044) y440 :: _) _ _ from hs_))
                                        replace HK := Aside0.mk (HK.out.trans hk_)
                                        refine hK.out _ _ trivial (fun hHeld => ?_)
                                        clear hK K
                                        refine norm_ (a' := ?_) ?_ ?_; rotate_left
                                        · show Act.put _ (some 89) _ = _
                                          simp only [Act.put, sT, sZ, sS, i64_w, i32_w]
                                          rfl
                                        refine two_ (i := 4) (j := 6) (Ni := some 93) (Nj := some 95) #[true, true, true, true, true, true, false, false, true, true, true, false, false] #[true, true, true, true, false, true, true, false, true, true, true, false, false] rfl rfl rfl rfl (two_of HT_.out (by kernel_rfl)) (by decide) (by decide) (fun K hK => ?_) (fun K hK => ?_)
                                        · skip
                                          replace HS := Aside0.mk (SL.get2 (SL.get2 HS.out))
                                          refine st_of (by rfl) ?_
                                          refine op_append (S := S) (enc := Value.int .i64) (h1 := fun _ => rfl) 0 (.tmp 89) (.tmp 92) 26 3 (.int .i64 0) 8 rfl Try.underlying26 info3 rfl (by decide) (.slice Az3000044 0 cz3000044) rfl rfl (HF.out.keep HK.out) (SL.get2 HS.out) (And.right HVq444.out _ (SL.row_c HS.out).2.2) (by have := LMc17.out; omega) y445 Ny445.out ?_
                                          intro A446 c447 w27 hs_ hk_
                                          replace HS := Aside0.mk ((SL.back2 (show SL (row (Kd.int .i64) 3 (.slice A446 y445.length c447) y445 :: _) _ _ from hs_)))
                                          replace HK := Aside0.mk (HK.out.trans hk_)
                                          refine hK.out _ _ trivial (fun hHeld => ?_)
                                          clear hK K
                                          refine norm_ (a' := ?_) ?_ ?_; rotate_left
                                          · show Act.put _ (some 93) _ = _
                                            simp only [Act.put, sT, sZ, sS, i64_w, i32_w]
                                            rfl
                                          refine one_ (i := 6) (N := some 95) #[true, true, true, true, true, true, true, false, true, true, true, false, false] rfl rfl (one_of HT_.out (by kernel_rfl)) (by decide) (fun K hK => ?_)
                                          refine st_of (by rfl) ?_
                                          refine op_row (S := S) (enc := Value.int .i64) (h1 := fun _ => rfl) 3 y448 #[.int .i64 ((rd_T44 l0 x18_0).f0)] 1 (by rw [← Ny448.out]; rfl) (by rw [← Ny448.out]; rfl) (by decide) (HF.out.keep HK.out) HS.out (by first | (go_simp; done) | (go_simp; rfl)) ?_
                                          intro Az3000045 cz3000045 w28 hs_ hk_
                                          replace HS := Aside0.mk ((show SL (row (Kd.int .i64) 3 (.slice Az3000045 1 cz3000045) y448 :: _) _ _ from hs_))
                                          replace HK := Aside0.mk (HK.out.trans hk_)
                                          refine hK.out _ _ trivial (fun hHeld => ?_)
                                          clear hK K
                                          refine norm_ (a' := ?_) ?_ ?_; rotate_left
                                          · show Act.put _ (some 95) _ = _
                                            simp only [Act.put, sT, sZ, sS, i64_w, i32_w]
                                            rfl
                                          exact norm_ (by simp only [putAll, Act.put, sT, sZ, sS]) (hCont (A446, c447, Az3000044, cz3000044, Az3000045, cz3000045) _ ⟨HK.out, (SL.get3 (SL.get2 (SL.get2 (SL.get2 HS.out))))⟩)
                                        · skip
                                          replace HS := Aside0.mk (SL.get2 (SL.get2 HS.out))
                                          refine st_of (by rfl) ?_
                                          refine op_row (S := S) (enc := Value.int .i64) (h1 := fun _ => rfl) 3 y448 #[.int .i64 ((rd_T44 l0 x18_0).f0)] 1 (by rw [← Ny448.out]; rfl) (by rw [← Ny448.out]; rfl) (by decide) (HF.out.keep HK.out) HS.out (by first | (go_simp; done) | (go_simp; rfl)) ?_
                                          intro Az3000045 cz3000045 w29 hs_ hk_
                                          replace HS := Aside0.mk ((show SL (row (Kd.int .i64) 3 (.slice Az3000045 1 cz3000045) y448 :: _) _ _ from hs_))
                                          replace HK := Aside0.mk (HK.out.trans hk_)
                                          refine hK.out _ _ trivial (fun hHeld => ?_)
                                          clear hK K
                                          refine norm_ (a' := ?_) ?_ ?_; rotate_left
                                          · show Act.put _ (some 95) _ = _
                                            simp only [Act.put, sT, sZ, sS, i64_w, i32_w]
                                            rfl
                                          refine one_ (i := 4) (N := some 93) #[true, true, true, true, true, true, true, false, true, true, true, false, false] rfl rfl (one_of HT_.out (by kernel_rfl)) (by decide) (fun K hK => ?_)
                                          replace HS := Aside0.mk (SL.get3 (SL.get3 (SL.get3 HS.out)))
                                          refine st_of (by rfl) ?_
                                          refine op_append (S := S) (enc := Value.int .i64) (h1 := fun _ => rfl) 0 (.tmp 89) (.tmp 92) 26 3 (.int .i64 0) 8 rfl Try.underlying26 info3 rfl (by decide) (.slice Az3000044 0 cz3000044) rfl rfl (HF.out.keep HK.out) (SL.get2 HS.out) (And.right HVq444.out _ (SL.row_c HS.out).2.2) (by have := LMc17.out; omega) y445 Ny445.out ?_
                                          intro A446 c447 w30 hs_ hk_
                                          replace HS := Aside0.mk ((SL.back2 (show SL (row (Kd.int .i64) 3 (.slice A446 y445.length c447) y445 :: _) _ _ from hs_)))
                                          replace HK := Aside0.mk (HK.out.trans hk_)
                                          refine hK.out _ _ trivial (fun hHeld => ?_)
                                          clear hK K
                                          refine norm_ (a' := ?_) ?_ ?_; rotate_left
                                          · show Act.put _ (some 93) _ = _
                                            simp only [Act.put, sT, sZ, sS, i64_w, i32_w]
                                            rfl
                                          exact norm_ (by simp only [putAll, Act.put, sT, sZ, sS]) (hCont (A446, c447, Az3000044, cz3000044, Az3000045, cz3000045) _ ⟨HK.out, (SL.get3 (SL.get3 (SL.get1 (SL.get1 HS.out))))⟩)
                                      · skip
                                        refine st_of (by rfl) ?_
                                        refine op_row (S := S) (enc := Value.int .i64) (h1 := fun _ => rfl) 3 y448 #[.int .i64 ((rd_T44 l0 x18_0).f0)] 1 (by rw [← Ny448.out]; rfl) (by rw [← Ny448.out]; rfl) (by decide) (HF.out.keep HK.out) HS.out (by first | (go_simp; done) | (go_simp; rfl)) ?_
                                        intro Az3000045 cz3000045 w31 hs_ hk_
                                        replace HS := Aside0.mk ((show SL (row (Kd.int .i64) 3 (.slice Az3000045 1 cz3000045) y448 :: _) _ _ from hs_))
                                        replace HK := Aside0.mk (HK.out.trans hk_)
                                        refine hK.out _ _ trivial (fun hHeld => ?_)
                                        clear hK K
                                        refine norm_ (a' := ?_) ?_ ?_; rotate_left
                                        · show Act.put _ (some 95) _ = _
                                          simp only [Act.put, sT, sZ, sS, i64_w, i32_w]
                                          rfl
                                        refine one_ (i := 0) (N := some 89) #[true, true, true, true, false, true, true, false, true, true, true, false, false] rfl rfl (one_of HT_.out (by kernel_rfl)) (by decide) (fun K hK => ?_)
                                        replace HS := Aside0.mk (SL.get2 (SL.get2 HS.out))
                                        refine st_of (by rfl) ?_
                                        refine op_row (S := S) (enc := Value.int .i64) (h1 := fun _ => rfl) 3 y440 #[] 0 (by rw [← Ny440.out]; rfl) (by rw [← Ny440.out]; rfl) (by decide) (HF.out.keep HK.out) HS.out (by first | (go_simp; done) | (go_simp; rfl)) ?_
                                        intro Az3000044 cz3000044 w32 hs_ hk_
                                        replace HS := Aside0.mk ((show SL (row (Kd.int .i64) 3 (.slice Az3000044 0 cz3000044) y440 :: _) _ _ from hs_))
                                        replace HK := Aside0.mk (HK.out.trans hk_)
                                        refine hK.out _ _ trivial (fun hHeld => ?_)
                                        clear hK K
                                        refine norm_ (a' := ?_) ?_ ?_; rotate_left
                                        · show Act.put _ (some 89) _ = _
                                          simp only [Act.put, sT, sZ, sS, i64_w, i32_w]
                                          rfl
                                        refine one_ (i := 4) (N := some 93) #[true, true, true, true, true, true, true, false, true, true, true, false, false] rfl rfl (one_of HT_.out (by kernel_rfl)) (by decide) (fun K hK => ?_)
                                        replace HS := Aside0.mk (SL.get3 (SL.get3 (SL.get3 HS.out)))
                                        refine st_of (by rfl) ?_
                                        refine op_append (S := S) (enc := Value.int .i64) (h1 := fun _ => rfl) 0 (.tmp 89) (.tmp 92) 26 3 (.int .i64 0) 8 rfl Try.underlying26 info3 rfl (by decide) (.slice Az3000044 0 cz3000044) rfl rfl (HF.out.keep HK.out) (SL.get3 HS.out) (And.right HVq444.out _ (SL.row_c HS.out).2.2) (by have := LMc17.out; omega) y445 Ny445.out ?_
                                        intro A446 c447 w33 hs_ hk_
                                        replace HS := Aside0.mk ((SL.back3 (show SL (row (Kd.int .i64) 3 (.slice A446 y445.length c447) y445 :: _) _ _ from hs_)))
                                        replace HK := Aside0.mk (HK.out.trans hk_)
                                        refine hK.out _ _ trivial (fun hHeld => ?_)
                                        clear hK K
                                        refine norm_ (a' := ?_) ?_ ?_; rotate_left
                                        · show Act.put _ (some 93) _ = _
                                          simp only [Act.put, sT, sZ, sS, i64_w, i32_w]
                                          rfl
                                        exact norm_ (by simp only [putAll, Act.put, sT, sZ, sS]) (hCont (A446, c447, Az3000044, cz3000044, Az3000045, cz3000045) _ ⟨HK.out, (SL.get3 (SL.get2 (SL.get1 (SL.get1 HS.out))))⟩)
                                    rintro ⟨A446, c447, Az3000044, cz3000044, Az3000045, cz3000045⟩ w25 ⟨hk_, hs_⟩
                                    clear HK HS
                                    have HK := Aside0.mk hk_
                                    have HS := Aside0.mk hs_
                                    clear hk_ hs_
                                    have hHeld : True := trivial
                                    replace HS := Aside0.mk (SL.get3 (SL.get2 (SL.get3 (SL.get3 HS.out))))
                                    refine norm_ (a' := ?_) ?_ ?_; rotate_left; · (simp only [putAll, Act.put, sT, sZ, sS]; rfl)
                                    refine one_ (i := 7) (N := some 96) #[true, true, true, true, true, true, true, true, true, true, true, false, false] rfl rfl (one_of HT_.out (by kernel_rfl)) (by decide) (fun K hK => ?_)
                                    refine st_of (by rfl) ?_
                                    refine op_append (S := S) (enc := Value.int .i64) (h1 := fun _ => rfl) 0 (.tmp 93) (.tmp 95) 26 3 (.int .i64 0) 8 rfl Try.underlying26 info3 rfl (by decide) (.slice A446 y445.length c447) rfl rfl (HF.out.keep HK.out) (SL.get1 HS.out) (SL.row_c HS.out).2.2 (by have := LMc18.out; have e_ := (SL.row_c HS.out).1; omega) y449 Ny449.out ?_
                                    intro A450 c451 w23 hs_ hk_
                                    replace HS := Aside0.mk ((SL.back1 (show SL (row (Kd.int .i64) 3 (.slice A450 y449.length c451) y449 :: _) _ _ from hs_)))
                                    replace HK := Aside0.mk (HK.out.trans hk_)
                                    refine hK.out _ _ trivial (fun hHeld => ?_)
                                    clear hK K
                                    refine norm_ (a' := ?_) ?_ ?_; rotate_left
                                    · show Act.put _ (some 96) _ = _
                                      simp only [Act.put, sT, sZ, sS, i64_w, i32_w]
                                      rfl
                                    refine one_ (i := 11) (N := some 100) #[true, true, true, true, true, true, true, true, true, true, true, true, false] rfl rfl (one_of HT_.out (by kernel_rfl)) (by decide) (fun K hK => ?_)
                                    refine st_of (by rfl) ?_
                                    refine op_append (S := S) (enc := Value.int .i64) (h1 := fun _ => rfl) 0 (.tmp 96) (.tmp 99) 26 3 (.int .i64 0) 8 rfl Try.underlying26 info3 rfl (by decide) (.slice A450 y449.length c451) rfl rfl (HF.out.keep HK.out) (SL.get1 HS.out) (And.right HVq455.out _ (SL.row_c (SL.get2 HS.out)).2.2) (by have := LMc19.out; omega) y456 Ny456.out ?_
                                    intro A457 c458 w24 hs_ hk_
                                    replace HS := Aside0.mk ((SL.back1 (show SL (row (Kd.int .i64) 3 (.slice A457 y456.length c458) y456 :: _) _ _ from hs_)))
                                    replace HK := Aside0.mk (HK.out.trans hk_)
                                    refine hK.out _ _ trivial (fun hHeld => ?_)
                                    clear hK K
                                    refine norm_ (a' := ?_) ?_ ?_; rotate_left
                                    · show Act.put _ (some 100) _ = _
                                      simp only [Act.put, sT, sZ, sS, i64_w, i32_w]
                                      rfl
                                    refine pure_ (i := 12) (N := some 17) (v := ?_) (a' := ?_) #[true, true, true, true, true, true, true, true, true, true, true, true, true] rfl rfl (any_of HT_.out (by kernel_rfl)) (fun _ _ _ h => h) (Or.inl ⟨by rfl, ?_⟩) ?_ ?_; rotate_left; · (intro w'; go_simp; with_reducible rfl)
                                    rotate_left; · (simp only [Act.put, sT, sZ, sS, i64_w, i32_w]; rfl)
                                    refine done_ (done_of HT_.out (by kernel_rfl)) ?_
                                    try go_wp2
                                    replace HS := Aside0.mk (SL.tail (SL.get1 (SL.tail HS.out)))
                                    go_roundg k2
                                    case measure => have := HQ1.out; have := HQ2.out; omega
                                    case rel => exact ⟨(y456), (A457), (c458), (wrap64 (x18_0 + 1)), (by first | rfl | (simp; done) | (simp [*]; done)), (by first | rfl | (simp; done) | (simp [*]; done)), H', ⟨by have := HQ1.out; have := HQ2.out; omega⟩, HS, HK⟩
                                  · rw [if_neg c19] at H
                                    exact absurd H (by simp)
                                · rw [if_neg c18] at H
                                  exact absurd H (by simp)
                              · rw [if_neg c17] at H
                                exact absurd H (by simp)
                            · rw [if_neg c16] at H
                              exact absurd H (by simp)
                          · rw [if_neg c15] at H
                            have c15b0 : (x21_1 == (x17_0.length : Int)) = false := beq_eq_false_iff_ne.mpr c15
                            have c15b1 : (x21_1 != (x17_0.length : Int)) = true := bne_iff_ne.mpr c15
                            by_cases c34 : (rd x17_0 x21_1) = ((rd_T44 l0 x18_0).f0)
                            · rw [if_pos c34] at H
                              have c34b0 : ((rd x17_0 x21_1) == ((rd_T44 l0 x18_0).f0)) = true := beq_iff_eq.mpr c34
                              have c34b1 : ((rd x17_0 x21_1) != ((rd_T44 l0 x18_0).f0)) = false := bne_eq_false_iff_eq.mpr c34
                              clear c34
                              have H' := Aside0.mk H
                              clear H
                              have pq439 : 0 ≤ (x21_1 : Int) := of_decide_eq_true (by first | (with_reducible assumption) | assumption)
                              have qq439 : x21_1 < ((x17_0.length : Int) : Int) := of_decide_eq_true (by first | (with_reducible assumption) | assumption)
                              obtain ⟨adq439, eq439, hxq439_0⟩ := Kd.at_int (SL.row_c HS.out).2.2 x21_1 pq439 qq439
                              cases eq439
                              replace pq439 := eq_true pq439
                              replace qq439 := eq_true qq439
                              go_wp2
                              go_roundg k2
                              case measure => have := HQ1.out; have := HQ2.out; omega
                              case rel => exact ⟨(x17_0), ((some adq439)), (cx17_0), (wrap64 (x18_0 + 1)), (by first | rfl | (simp; done) | (simp [*]; done)), (by first | rfl | (simp; done) | (simp [*]; done)), H', ⟨by have := HQ1.out; have := HQ2.out; omega⟩, HS, HK⟩
                            · rw [if_neg c34] at H
                              have c34b0 : ((rd x17_0 x21_1) == ((rd_T44 l0 x18_0).f0)) = false := beq_eq_false_iff_ne.mpr c34
                              have c34b1 : ((rd x17_0 x21_1) != ((rd_T44 l0 x18_0).f0)) = true := bne_iff_ne.mpr c34
                              replace H := Option.bind_eq_some_iff.1 H
                              obtain ⟨y460, hy4600, H⟩ := H
                              try dsimp only at H
                              have hy460 := Option.some.inj hy4600
                              clear hy4600
                              have Ny460 := Aside0.mk hy460
                              clear hy460
                              by_cases c35 : x21_1 ≤ (x17_0.length : Int)
                              · rw [if_pos c35] at H
                                have c35b0 := eq_true c35
                                have c35b1 : decide (x21_1 ≤ (x17_0.length : Int)) = true := decide_eq_true c35
                                clear c35
                                replace H := Option.bind_eq_some_iff.1 H
                                obtain ⟨y461, hy4610, H⟩ := H
                                try dsimp only at H
                                have hy461 := Option.some.inj hy4610
                                clear hy4610
                                have Ny461 := Aside0.mk hy461
                                clear hy461
                                by_cases c36 : y460.length + y461.length < 17592186044416
                                · rw [if_pos c36] at H
                                  have LMc36 := Aside0.mk c36
                                  clear c36
                                  replace H := Option.bind_eq_some_iff.1 H
                                  obtain ⟨y465, hy4650, H⟩ := H
                                  try dsimp only at H
                                  have hy465 := Option.some.inj hy4650
                                  clear hy4650
                                  have Ny465 := Aside0.mk hy465
                                  clear hy465
                                  replace H := Option.bind_eq_some_iff.1 H
                                  obtain ⟨y468, hy4680, H⟩ := H
                                  try dsimp only at H
                                  have hy468 := Option.some.inj hy4680
                                  clear hy4680
                                  have Ny468 := Aside0.mk hy468
                                  clear hy468
                                  by_cases c37 : y465.length + y468.length < 17592186044416
                                  · rw [if_pos c37] at H
                                    have LMc37 := Aside0.mk c37
                                    clear c37
                                    replace H := Option.bind_eq_some_iff.1 H
                                    obtain ⟨y469, hy4690, H⟩ := H
                                    try dsimp only at H
                                    have hy469 := Option.some.inj hy4690
                                    clear hy4690
                                    have Ny469 := Aside0.mk hy469
                                    clear hy469
                                    replace H := Option.bind_eq_some_iff.1 H
                                    obtain ⟨y472, hy4720, H⟩ := H
                                    try dsimp only at H
                                    have hy472 := Option.some.inj hy4720
                                    clear hy4720
                                    have Ny472 := Aside0.mk hy472
                                    clear hy472
                                    by_cases c38 : y469.length + y472.length < 17592186044416
                                    · rw [if_pos c38] at H
                                      have LMc38 := Aside0.mk c38
                                      clear c38
                                      replace H := Option.bind_eq_some_iff.1 H
                                      obtain ⟨y476, hy4760, H⟩ := H
                                      try dsimp only at H
                                      have hy476 := Option.some.inj hy4760
                                      clear hy4760
                                      have Ny476 := Aside0.mk hy476
                                      clear hy476
                                      have H' := Aside0.mk H
                                      clear H
                                      have pq439 : 0 ≤ (x21_1 : Int) := of_decide_eq_true (by first | (with_reducible assumption) | assumption)
                                      have qq439 : x21_1 < ((x17_0.length : Int) : Int) := of_decide_eq_true (by first | (with_reducible assumption) | assumption)
                                      obtain ⟨adq439, eq439, hxq439_0⟩ := Kd.at_int (SL.row_c HS.out).2.2 x21_1 pq439 qq439
                                      cases eq439
                                      replace pq439 := eq_true pq439
                                      replace qq439 := eq_true qq439
                                      try go_wp2
                                      have hv_ := cut_upto (P := Try.prog) (Kd.int .i64) 26 3 .i64 .i64 Try.underlying26 (by kernel_rfl) rfl (some adq439) x17_0.length cx17_0 x17_0 rfl (SL.row_c HS.out).2.1 x21_1 (of_decide_eq_true (by first | (with_reducible assumption) | assumption) : (0 : Int) ≤ (x21_1 : Int)) (of_decide_eq_true (by first | (with_reducible assumption) | assumption) : (x21_1 : Int) ≤ ((x17_0.length : Int) : Int)) y461 Ny461.out
                                      obtain ⟨hcvq464, hcs_, hcc_, hcl_⟩ := hv_
                                      have HVq464 := Aside0.mk (And.intro True.intro hcc_)
                                      have HCq464 := Aside0.mk hcl_
                                      clear hcs_ hcc_ hcl_
                                      obtain ⟨A473, c474, hcvq475, hcs_, hcc_, hcl_⟩ := cut_of (P := Try.prog) (Kd.int .i64) 26 3 .i64 .i64 Try.underlying26 (by kernel_rfl) rfl (some adq439) x17_0.length cx17_0 x17_0 rfl (SL.row_c HS.out).2.1 x21_1 (of_decide_eq_true (by first | (with_reducible assumption) | assumption) : (0 : Int) ≤ (x21_1 : Int)) (of_decide_eq_true (by first | (with_reducible assumption) | assumption) : (x21_1 : Int) ≤ ((x17_0.length : Int) : Int)) y472 Ny472.out
                                      have HVq475 := Aside0.mk (And.intro True.intro hcc_)
                                      have HCq475 := Aside0.mk hcl_
                                      clear hcs_ hcc_ hcl_
                                      refine start_ (n := 13) (S := fun w' => True) (ds := []) #[false, false, false, false, false, false, false, false, false, false, false, false, false] (by kernel_rfl) rfl rfl trivial (fun hHeld => ?_); refine with_tabW barrowref38_Hear.tab13 barrowref38_Hear.bits13 (fun HT_ HW_ => ?_)
                                      replace HK := Aside0.mk (Keep.drew HK.out)
                                      replace HS := Aside0.mk (SL.drew HS.out)
                                      refine pure_ (i := 1) (N := some 90) (v := ?_) (a' := ?_) #[false, true, false, false, false, false, false, false, false, false, false, false, false] rfl rfl (any_of HT_.out (by kernel_rfl)) (fun _ _ _ h => h) (Or.inl ⟨by rfl, ?_⟩) ?_ ?_; rotate_left; · (intro w'; go_simp; with_reducible rfl)
                                      rotate_left; · (simp only [Act.put, sT, sZ, sS, i64_w, i32_w]; rfl)
                                      refine pure_ (i := 2) (N := some 91) (v := ?_) (a' := ?_) #[false, true, true, false, false, false, false, false, false, false, false, false, false] rfl rfl (any_of HT_.out (by kernel_rfl)) (fun _ _ _ h => h) (Or.inl ⟨by rfl, ?_⟩) ?_ ?_; rotate_left; · (intro w'; go_simp; with_reducible rfl)
                                      rotate_left; · (simp only [Act.put, sT, sZ, sS, i64_w, i32_w]; rfl)
                                      refine pure_ (i := 3) (N := some 92) (v := ?_) (a' := ?_) #[false, true, true, true, false, false, false, false, false, false, false, false, false] rfl rfl (any_of HT_.out (by kernel_rfl)) (fun _ _ _ h => h) (Or.inl ⟨by rfl, ?_⟩) ?_ ?_; rotate_left; · (intro w'; go_simp; with_reducible rfl)
                                      rotate_left; · (simp only [Act.put, sT, sZ, sS, i64_w, i32_w]; rfl)
                                      refine pure_ (i := 5) (N := some 94) (v := ?_) (a' := ?_) #[false, true, true, true, false, true, false, false, false, false, false, false, false] rfl rfl (any_of HT_.out (by kernel_rfl)) (fun _ _ _ h => h) (Or.inl ⟨by rfl, ?_⟩) ?_ ?_; rotate_left; · (intro w'; go_simp; with_reducible rfl)
                                      rotate_left; · (simp only [Act.put, sT, sZ, sS, i64_w, i32_w]; rfl)
                                      refine pure_ (i := 8) (N := some 97) (v := ?_) (a' := ?_) #[false, true, true, true, false, true, false, false, true, false, false, false, false] rfl rfl (any_of HT_.out (by kernel_rfl)) (fun _ _ _ h => h) (Or.inl ⟨by rfl, ?_⟩) ?_ ?_; rotate_left; · (intro w'; go_simp; with_reducible rfl)
                                      rotate_left; · (simp only [Act.put, sT, sZ, sS, i64_w, i32_w]; rfl)
                                      refine pure_ (i := 9) (N := some 98) (v := ?_) (a' := ?_) #[false, true, true, true, false, true, false, false, true, true, false, false, false] rfl rfl (any_of HT_.out (by kernel_rfl)) (fun _ _ _ h => h) (Or.inl ⟨by rfl, ?_⟩) ?_ ?_; rotate_left; · (intro w'; go_simp; with_reducible rfl)
                                      rotate_left; · (simp only [Act.put, sT, sZ, sS, i64_w, i32_w]; rfl)
                                      refine pure_ (i := 10) (N := some 99) (v := ?_) (a' := ?_) #[false, true, true, true, false, true, false, false, true, true, true, false, false] rfl rfl (any_of HT_.out (by kernel_rfl)) (fun _ _ _ h => h) (Or.inl ⟨by rfl, ?_⟩) ?_ ?_; rotate_left; · (intro w'; go_simp; with_reducible rfl)
                                      rotate_left; · (simp only [Act.put, sT, sZ, sS, i64_w, i32_w]; rfl)
                                      refine join_ (σ := Option Addr × Nat × Option Addr × Nat × Option Addr × Nat) 3 #[true, true, true, true, true, true, true, false, true, true, true, false, false] (fun s_ => [(89, .slice s_.2.2.1 0 s_.2.2.2.1), (93, .slice s_.1 y465.length s_.2.1), (95, .slice s_.2.2.2.2.1 1 s_.2.2.2.2.2)]) (fun s_ w_ => Keep S w w_ ∧ SL (row (Kd.int .i64) 3 (.slice s_.1 y465.length s_.2.1) y465 :: row (Kd.int .i64) 3 (.slice s_.2.2.2.2.1 1 s_.2.2.2.2.2) y468 :: row (Kd.int .i64) 3 (.slice (some adq439) x17_0.length cx17_0) x17_0 :: cells g3000043 42 [.int .i64 t434, .int .i64 t435].toArray :: L) w_ S) ?_ ?_; rotate_left
                                      · intro hCont
                                        refine two_ (i := 0) (j := 6) (Ni := some 89) (Nj := some 95) #[true, true, true, true, false, true, false, false, true, true, true, false, false] #[false, true, true, true, false, true, true, false, true, true, true, false, false] rfl rfl rfl rfl (two_of HT_.out (by kernel_rfl)) (by decide) (by decide) (fun K hK => ?_) (fun K hK => ?_)
                                        · skip
                                          refine st_of (by rfl) ?_
                                          refine op_row (S := S) (enc := Value.int .i64) (h1 := fun _ => rfl) 3 y460 #[] 0 (by rw [← Ny460.out]; rfl) (by rw [← Ny460.out]; rfl) (by decide) (HF.out.keep HK.out) HS.out (by first | (go_simp; done) | (go_simp; rfl)) ?_
                                          intro Az3000044 cz3000044 w45 hs_ hk_
                                          replace HS := Aside0.mk ((show SL (row (Kd.int .i64) 3 (.slice Az3000044 0 cz3000044) y460 :: _) _ _ from hs_))
                                          replace HK := Aside0.mk (HK.out.trans hk_)
                                          refine hK.out _ _ trivial (fun hHeld => ?_)
                                          clear hK K
                                          refine norm_ (a' := ?_) ?_ ?_; rotate_left
                                          · show Act.put _ (some 89) _ = _
                                            simp only [Act.put, sT, sZ, sS, i64_w, i32_w]
                                            rfl
                                          refine two_ (i := 4) (j := 6) (Ni := some 93) (Nj := some 95) #[true, true, true, true, true, true, false, false, true, true, true, false, false] #[true, true, true, true, false, true, true, false, true, true, true, false, false] rfl rfl rfl rfl (two_of HT_.out (by kernel_rfl)) (by decide) (by decide) (fun K hK => ?_) (fun K hK => ?_)
                                          · skip
                                            replace HS := Aside0.mk (SL.get2 (SL.get2 HS.out))
                                            refine st_of (by rfl) ?_
                                            refine op_append (S := S) (enc := Value.int .i64) (h1 := fun _ => rfl) 0 (.tmp 89) (.tmp 92) 26 3 (.int .i64 0) 8 rfl Try.underlying26 info3 rfl (by decide) (.slice Az3000044 0 cz3000044) rfl rfl (HF.out.keep HK.out) (SL.get2 HS.out) (And.right HVq464.out _ (SL.row_c HS.out).2.2) (by have := LMc36.out; omega) y465 Ny465.out ?_
                                            intro A466 c467 w46 hs_ hk_
                                            replace HS := Aside0.mk ((SL.back2 (show SL (row (Kd.int .i64) 3 (.slice A466 y465.length c467) y465 :: _) _ _ from hs_)))
                                            replace HK := Aside0.mk (HK.out.trans hk_)
                                            refine hK.out _ _ trivial (fun hHeld => ?_)
                                            clear hK K
                                            refine norm_ (a' := ?_) ?_ ?_; rotate_left
                                            · show Act.put _ (some 93) _ = _
                                              simp only [Act.put, sT, sZ, sS, i64_w, i32_w]
                                              rfl
                                            refine one_ (i := 6) (N := some 95) #[true, true, true, true, true, true, true, false, true, true, true, false, false] rfl rfl (one_of HT_.out (by kernel_rfl)) (by decide) (fun K hK => ?_)
                                            refine st_of (by rfl) ?_
                                            refine op_row (S := S) (enc := Value.int .i64) (h1 := fun _ => rfl) 3 y468 #[.int .i64 ((rd_T44 l0 x18_0).f0)] 1 (by rw [← Ny468.out]; rfl) (by rw [← Ny468.out]; rfl) (by decide) (HF.out.keep HK.out) HS.out (by first | (go_simp; done) | (go_simp; rfl)) ?_
                                            intro Az3000045 cz3000045 w47 hs_ hk_
                                            replace HS := Aside0.mk ((show SL (row (Kd.int .i64) 3 (.slice Az3000045 1 cz3000045) y468 :: _) _ _ from hs_))
                                            replace HK := Aside0.mk (HK.out.trans hk_)
                                            refine hK.out _ _ trivial (fun hHeld => ?_)
                                            clear hK K
                                            refine norm_ (a' := ?_) ?_ ?_; rotate_left
                                            · show Act.put _ (some 95) _ = _
                                              simp only [Act.put, sT, sZ, sS, i64_w, i32_w]
                                              rfl
                                            exact norm_ (by simp only [putAll, Act.put, sT, sZ, sS]) (hCont (A466, c467, Az3000044, cz3000044, Az3000045, cz3000045) _ ⟨HK.out, (SL.get3 (SL.get2 (SL.get2 (SL.get2 HS.out))))⟩)
                                          · skip
                                            replace HS := Aside0.mk (SL.get2 (SL.get2 HS.out))
                                            refine st_of (by rfl) ?_
                                            refine op_row (S := S) (enc := Value.int .i64) (h1 := fun _ => rfl) 3 y468 #[.int .i64 ((rd_T44 l0 x18_0).f0)] 1 (by rw [← Ny468.out]; rfl) (by rw [← Ny468.out]; rfl) (by decide) (HF.out.keep HK.out) HS.out (by first | (go_simp; done) | (go_simp; rfl)) ?_
                                            intro Az3000045 cz3000045 w48 hs_ hk_
                                            replace HS := Aside0.mk ((show SL (row (Kd.int .i64) 3 (.slice Az3000045 1 cz3000045) y468 :: _) _ _ from hs_))
                                            replace HK := Aside0.mk (HK.out.trans hk_)
                                            refine hK.out _ _ trivial (fun hHeld => ?_)
                                            clear hK K
                                            refine norm_ (a' := ?_) ?_ ?_; rotate_left
                                            · show Act.put _ (some 95) _ = _
                                              simp only [Act.put, sT, sZ, sS, i64_w, i32_w]
                                              rfl
                                            refine one_ (i := 4) (N := some 93) #[true, true, true, true, true, true, true, false, true, true, true, false, false] rfl rfl (one_of HT_.out (by kernel_rfl)) (by decide) (fun K hK => ?_)
                                            replace HS := Aside0.mk (SL.get3 (SL.get3 (SL.get3 HS.out)))
                                            refine st_of (by rfl) ?_
                                            refine op_append (S := S) (enc := Value.int .i64) (h1 := fun _ => rfl) 0 (.tmp 89) (.tmp 92) 26 3 (.int .i64 0) 8 rfl Try.underlying26 info3 rfl (by decide) (.slice Az3000044 0 cz3000044) rfl rfl (HF.out.keep HK.out) (SL.get2 HS.out) (And.right HVq464.out _ (SL.row_c HS.out).2.2) (by have := LMc36.out; omega) y465 Ny465.out ?_
                                            intro A466 c467 w49 hs_ hk_
                                            replace HS := Aside0.mk ((SL.back2 (show SL (row (Kd.int .i64) 3 (.slice A466 y465.length c467) y465 :: _) _ _ from hs_)))
                                            replace HK := Aside0.mk (HK.out.trans hk_)
                                            refine hK.out _ _ trivial (fun hHeld => ?_)
                                            clear hK K
                                            refine norm_ (a' := ?_) ?_ ?_; rotate_left
                                            · show Act.put _ (some 93) _ = _
                                              simp only [Act.put, sT, sZ, sS, i64_w, i32_w]
                                              rfl
                                            exact norm_ (by simp only [putAll, Act.put, sT, sZ, sS]) (hCont (A466, c467, Az3000044, cz3000044, Az3000045, cz3000045) _ ⟨HK.out, (SL.get3 (SL.get3 (SL.get1 (SL.get1 HS.out))))⟩)
                                        · skip
                                          refine st_of (by rfl) ?_
                                          refine op_row (S := S) (enc := Value.int .i64) (h1 := fun _ => rfl) 3 y468 #[.int .i64 ((rd_T44 l0 x18_0).f0)] 1 (by rw [← Ny468.out]; rfl) (by rw [← Ny468.out]; rfl) (by decide) (HF.out.keep HK.out) HS.out (by first | (go_simp; done) | (go_simp; rfl)) ?_
                                          intro Az3000045 cz3000045 w50 hs_ hk_
                                          replace HS := Aside0.mk ((show SL (row (Kd.int .i64) 3 (.slice Az3000045 1 cz3000045) y468 :: _) _ _ from hs_))
                                          replace HK := Aside0.mk (HK.out.trans hk_)
                                          refine hK.out _ _ trivial (fun hHeld => ?_)
                                          clear hK K
                                          refine norm_ (a' := ?_) ?_ ?_; rotate_left
                                          · show Act.put _ (some 95) _ = _
                                            simp only [Act.put, sT, sZ, sS, i64_w, i32_w]
                                            rfl
                                          refine one_ (i := 0) (N := some 89) #[true, true, true, true, false, true, true, false, true, true, true, false, false] rfl rfl (one_of HT_.out (by kernel_rfl)) (by decide) (fun K hK => ?_)
                                          replace HS := Aside0.mk (SL.get2 (SL.get2 HS.out))
                                          refine st_of (by rfl) ?_
                                          refine op_row (S := S) (enc := Value.int .i64) (h1 := fun _ => rfl) 3 y460 #[] 0 (by rw [← Ny460.out]; rfl) (by rw [← Ny460.out]; rfl) (by decide) (HF.out.keep HK.out) HS.out (by first | (go_simp; done) | (go_simp; rfl)) ?_
                                          intro Az3000044 cz3000044 w51 hs_ hk_
                                          replace HS := Aside0.mk ((show SL (row (Kd.int .i64) 3 (.slice Az3000044 0 cz3000044) y460 :: _) _ _ from hs_))
                                          replace HK := Aside0.mk (HK.out.trans hk_)
                                          refine hK.out _ _ trivial (fun hHeld => ?_)
                                          clear hK K
                                          refine norm_ (a' := ?_) ?_ ?_; rotate_left
                                          · show Act.put _ (some 89) _ = _
                                            simp only [Act.put, sT, sZ, sS, i64_w, i32_w]
                                            rfl
                                          refine one_ (i := 4) (N := some 93) #[true, true, true, true, true, true, true, false, true, true, true, false, false] rfl rfl (one_of HT_.out (by kernel_rfl)) (by decide) (fun K hK => ?_)
                                          replace HS := Aside0.mk (SL.get3 (SL.get3 (SL.get3 HS.out)))
                                          refine st_of (by rfl) ?_
                                          refine op_append (S := S) (enc := Value.int .i64) (h1 := fun _ => rfl) 0 (.tmp 89) (.tmp 92) 26 3 (.int .i64 0) 8 rfl Try.underlying26 info3 rfl (by decide) (.slice Az3000044 0 cz3000044) rfl rfl (HF.out.keep HK.out) (SL.get3 HS.out) (And.right HVq464.out _ (SL.row_c HS.out).2.2) (by have := LMc36.out; omega) y465 Ny465.out ?_
                                          intro A466 c467 w52 hs_ hk_
                                          replace HS := Aside0.mk ((SL.back3 (show SL (row (Kd.int .i64) 3 (.slice A466 y465.length c467) y465 :: _) _ _ from hs_)))
                                          replace HK := Aside0.mk (HK.out.trans hk_)
                                          refine hK.out _ _ trivial (fun hHeld => ?_)
                                          clear hK K
                                          refine norm_ (a' := ?_) ?_ ?_; rotate_left
                                          · show Act.put _ (some 93) _ = _
                                            simp only [Act.put, sT, sZ, sS, i64_w, i32_w]
                                            rfl
                                          exact norm_ (by simp only [putAll, Act.put, sT, sZ, sS]) (hCont (A466, c467, Az3000044, cz3000044, Az3000045, cz3000045) _ ⟨HK.out, (SL.get3 (SL.get2 (SL.get1 (SL.get1 HS.out))))⟩)
                                      rintro ⟨A466, c467, Az3000044, cz3000044, Az3000045, cz3000045⟩ w44 ⟨hk_, hs_⟩
                                      clear HK HS
                                      have HK := Aside0.mk hk_
                                      have HS := Aside0.mk hs_
                                      clear hk_ hs_
                                      have hHeld : True := trivial
                                      replace HS := Aside0.mk (SL.get3 (SL.get2 (SL.get3 (SL.get3 HS.out))))
                                      refine norm_ (a' := ?_) ?_ ?_; rotate_left; · (simp only [putAll, Act.put, sT, sZ, sS]; rfl)
                                      refine one_ (i := 7) (N := some 96) #[true, true, true, true, true, true, true, true, true, true, true, false, false] rfl rfl (one_of HT_.out (by kernel_rfl)) (by decide) (fun K hK => ?_)
                                      refine st_of (by rfl) ?_
                                      refine op_append (S := S) (enc := Value.int .i64) (h1 := fun _ => rfl) 0 (.tmp 93) (.tmp 95) 26 3 (.int .i64 0) 8 rfl Try.underlying26 info3 rfl (by decide) (.slice A466 y465.length c467) rfl rfl (HF.out.keep HK.out) (SL.get1 HS.out) (SL.row_c HS.out).2.2 (by have := LMc37.out; have e_ := (SL.row_c HS.out).1; omega) y469 Ny469.out ?_
                                      intro A470 c471 w42 hs_ hk_
                                      replace HS := Aside0.mk ((SL.back1 (show SL (row (Kd.int .i64) 3 (.slice A470 y469.length c471) y469 :: _) _ _ from hs_)))
                                      replace HK := Aside0.mk (HK.out.trans hk_)
                                      refine hK.out _ _ trivial (fun hHeld => ?_)
                                      clear hK K
                                      refine norm_ (a' := ?_) ?_ ?_; rotate_left
                                      · show Act.put _ (some 96) _ = _
                                        simp only [Act.put, sT, sZ, sS, i64_w, i32_w]
                                        rfl
                                      refine one_ (i := 11) (N := some 100) #[true, true, true, true, true, true, true, true, true, true, true, true, false] rfl rfl (one_of HT_.out (by kernel_rfl)) (by decide) (fun K hK => ?_)
                                      refine st_of (by rfl) ?_
                                      refine op_append (S := S) (enc := Value.int .i64) (h1 := fun _ => rfl) 0 (.tmp 96) (.tmp 99) 26 3 (.int .i64 0) 8 rfl Try.underlying26 info3 rfl (by decide) (.slice A470 y469.length c471) rfl rfl (HF.out.keep HK.out) (SL.get1 HS.out) (And.right HVq475.out _ (SL.row_c (SL.get2 HS.out)).2.2) (by have := LMc38.out; omega) y476 Ny476.out ?_
                                      intro A477 c478 w43 hs_ hk_
                                      replace HS := Aside0.mk ((SL.back1 (show SL (row (Kd.int .i64) 3 (.slice A477 y476.length c478) y476 :: _) _ _ from hs_)))
                                      replace HK := Aside0.mk (HK.out.trans hk_)
                                      refine hK.out _ _ trivial (fun hHeld => ?_)
                                      clear hK K
                                      refine norm_ (a' := ?_) ?_ ?_; rotate_left
                                      · show Act.put _ (some 100) _ = _
                                        simp only [Act.put, sT, sZ, sS, i64_w, i32_w]
                                        rfl
                                      refine pure_ (i := 12) (N := some 17) (v := ?_) (a' := ?_) #[true, true, true, true, true, true, true, true, true, true, true, true, true] rfl rfl (any_of HT_.out (by kernel_rfl)) (fun _ _ _ h => h) (Or.inl ⟨by rfl, ?_⟩) ?_ ?_; rotate_left; · (intro w'; go_simp; with_reducible rfl)
                                      rotate_left; · (simp only [Act.put, sT, sZ, sS, i64_w, i32_w]; rfl)
                                      refine done_ (done_of HT_.out (by kernel_rfl)) ?_
                                      try go_wp2
                                      replace HS := Aside0.mk (SL.tail (SL.get1 (SL.tail HS.out)))
                                      go_roundg k2
                                      case measure => have := HQ1.out; have := HQ2.out; omega
                                      case rel => exact ⟨(y476), (A477), (c478), (wrap64 (x18_0 + 1)), (by first | rfl | (simp; done) | (simp [*]; done)), (by first | rfl | (simp; done) | (simp [*]; done)), H', ⟨by have := HQ1.out; have := HQ2.out; omega⟩, HS, HK⟩
                                    · rw [if_neg c38] at H
                                      exact absurd H (by simp)
                                  · rw [if_neg c37] at H
                                    exact absurd H (by simp)
                                · rw [if_neg c36] at H
                                  exact absurd H (by simp)
                              · rw [if_neg c35] at H
                                exact absurd H (by simp)
                      · rw [if_neg c13] at H
                        exact absurd H (by simp)
                    · rw [if_neg c12] at H
                      have c12b0 : decide (x21_1 < (x17_0.length : Int)) = false := decide_eq_false c12
                      clear c12
                      by_cases c53 : x21_1 = (x17_0.length : Int)
                      · rw [if_pos c53] at H
                        have c53b0 : (x21_1 == (x17_0.length : Int)) = true := beq_iff_eq.mpr c53
                        have c53b1 : (x21_1 != (x17_0.length : Int)) = false := bne_eq_false_iff_eq.mpr c53
                        clear c53
                        replace H := Option.bind_eq_some_iff.1 H
                        obtain ⟨y479, hy4790, H⟩ := H
                        try dsimp only at H
                        have hy479 := Option.some.inj hy4790
                        clear hy4790
                        have Ny479 := Aside0.mk hy479
                        clear hy479
                        by_cases c54 : 0 ≤ x21_1
                        · rw [if_pos c54] at H
                          have c54b0 := eq_true c54
                          have c54b1 : decide (0 ≤ x21_1) = true := decide_eq_true c54
                          clear c54
                          by_cases c55 : x21_1 ≤ (x17_0.length : Int)
                          · rw [if_pos c55] at H
                            have c55b0 := eq_true c55
                            have c55b1 : decide (x21_1 ≤ (x17_0.length : Int)) = true := decide_eq_true c55
                            clear c55
                            replace H := Option.bind_eq_some_iff.1 H
                            obtain ⟨y480, hy4800, H⟩ := H
                            try dsimp only at H
                            have hy480 := Option.some.inj hy4800
                            clear hy4800
                            have Ny480 := Aside0.mk hy480
                            clear hy480
                            by_cases c56 : y479.length + y480.length < 17592186044416
                            · rw [if_pos c56] at H
                              have LMc56 := Aside0.mk c56
                              clear c56
                              replace H := Option.bind_eq_some_iff.1 H
                              obtain ⟨y484, hy4840, H⟩ := H
                              try dsimp only at H
                              have hy484 := Option.some.inj hy4840
                              clear hy4840
                              have Ny484 := Aside0.mk hy484
                              clear hy484
                              replace H := Option.bind_eq_some_iff.1 H
                              obtain ⟨y487, hy4870, H⟩ := H
                              try dsimp only at H
                              have hy487 := Option.some.inj hy4870
                              clear hy4870
                              have Ny487 := Aside0.mk hy487
                              clear hy487
                              by_cases c57 : y484.length + y487.length < 17592186044416
                              · rw [if_pos c57] at H
                                have LMc57 := Aside0.mk c57
                                clear c57
                                replace H := Option.bind_eq_some_iff.1 H
                                obtain ⟨y488, hy4880, H⟩ := H
                                try dsimp only at H
                                have hy488 := Option.some.inj hy4880
                                clear hy4880
                                have Ny488 := Aside0.mk hy488
                                clear hy488
                                replace H := Option.bind_eq_some_iff.1 H
                                obtain ⟨y491, hy4910, H⟩ := H
                                try dsimp only at H
                                have hy491 := Option.some.inj hy4910
                                clear hy4910
                                have Ny491 := Aside0.mk hy491
                                clear hy491
                                by_cases c58 : y488.length + y491.length < 17592186044416
                                · rw [if_pos c58] at H
                                  have LMc58 := Aside0.mk c58
                                  clear c58
                                  replace H := Option.bind_eq_some_iff.1 H
                                  obtain ⟨y495, hy4950, H⟩ := H
                                  try dsimp only at H
                                  have hy495 := Option.some.inj hy4950
                                  clear hy4950
                                  have Ny495 := Aside0.mk hy495
                                  clear hy495
                                  have H' := Aside0.mk H
                                  clear H
                                  try go_wp2
                                  have hv_ := cut_upto (P := Try.prog) (Kd.int .i64) 26 3 .i64 .i64 Try.underlying26 (by kernel_rfl) rfl Ax17_0 x17_0.length cx17_0 x17_0 rfl (SL.row_c HS.out).2.1 x21_1 (of_decide_eq_true (by first | (with_reducible assumption) | assumption) : (0 : Int) ≤ (x21_1 : Int)) (of_decide_eq_true (by first | (with_reducible assumption) | assumption) : (x21_1 : Int) ≤ ((x17_0.length : Int) : Int)) y480 Ny480.out
                                  obtain ⟨hcvq483, hcs_, hcc_, hcl_⟩ := hv_
                                  have HVq483 := Aside0.mk (And.intro True.intro hcc_)
                                  have HCq483 := Aside0.mk hcl_
                                  clear hcs_ hcc_ hcl_
                                  obtain ⟨A492, c493, hcvq494, hcs_, hcc_, hcl_⟩ := cut_of (P := Try.prog) (Kd.int .i64) 26 3 .i64 .i64 Try.underlying26 (by kernel_rfl) rfl Ax17_0 x17_0.length cx17_0 x17_0 rfl (SL.row_c HS.out).2.1 x21_1 (of_decide_eq_true (by first | (with_reducible assumption) | assumption) : (0 : Int) ≤ (x21_1 : Int)) (of_decide_eq_true (by first | (with_reducible assumption) | assumption) : (x21_1 : Int) ≤ ((x17_0.length : Int) : Int)) y491 Ny491.out
                                  have HVq494 := Aside0.mk (And.intro True.intro hcc_)
                                  have HCq494 := Aside0.mk hcl_
                                  clear hcs_ hcc_ hcl_
                                  refine start_ (n := 13) (S := fun w' => True) (ds := []) #[false, false, false, false, false, false, false, false, false, false, false, false, false] (by kernel_rfl) rfl rfl trivial (fun hHeld => ?_); refine with_tabW barrowref38_Hear.tab13 barrowref38_Hear.bits13 (fun HT_ HW_ => ?_)
                                  replace HK := Aside0.mk (Keep.drew HK.out)
                                  replace HS := Aside0.mk (SL.drew HS.out)
                                  refine pure_ (i := 1) (N := some 90) (v := ?_) (a' := ?_) #[false, true, false, false, false, false, false, false, false, false, false, false, false] rfl rfl (any_of HT_.out (by kernel_rfl)) (fun _ _ _ h => h) (Or.inl ⟨by rfl, ?_⟩) ?_ ?_; rotate_left; · (intro w'; go_simp; with_reducible rfl)
                                  rotate_left; · (simp only [Act.put, sT, sZ, sS, i64_w, i32_w]; rfl)
                                  refine pure_ (i := 2) (N := some 91) (v := ?_) (a' := ?_) #[false, true, true, false, false, false, false, false, false, false, false, false, false] rfl rfl (any_of HT_.out (by kernel_rfl)) (fun _ _ _ h => h) (Or.inl ⟨by rfl, ?_⟩) ?_ ?_; rotate_left; · (intro w'; go_simp; with_reducible rfl)
                                  rotate_left; · (simp only [Act.put, sT, sZ, sS, i64_w, i32_w]; rfl)
                                  refine pure_ (i := 3) (N := some 92) (v := ?_) (a' := ?_) #[false, true, true, true, false, false, false, false, false, false, false, false, false] rfl rfl (any_of HT_.out (by kernel_rfl)) (fun _ _ _ h => h) (Or.inl ⟨by rfl, ?_⟩) ?_ ?_; rotate_left; · (intro w'; go_simp; with_reducible rfl)
                                  rotate_left; · (simp only [Act.put, sT, sZ, sS, i64_w, i32_w]; rfl)
                                  refine pure_ (i := 5) (N := some 94) (v := ?_) (a' := ?_) #[false, true, true, true, false, true, false, false, false, false, false, false, false] rfl rfl (any_of HT_.out (by kernel_rfl)) (fun _ _ _ h => h) (Or.inl ⟨by rfl, ?_⟩) ?_ ?_; rotate_left; · (intro w'; go_simp; with_reducible rfl)
                                  rotate_left; · (simp only [Act.put, sT, sZ, sS, i64_w, i32_w]; rfl)
                                  refine pure_ (i := 8) (N := some 97) (v := ?_) (a' := ?_) #[false, true, true, true, false, true, false, false, true, false, false, false, false] rfl rfl (any_of HT_.out (by kernel_rfl)) (fun _ _ _ h => h) (Or.inl ⟨by rfl, ?_⟩) ?_ ?_; rotate_left; · (intro w'; go_simp; with_reducible rfl)
                                  rotate_left; · (simp only [Act.put, sT, sZ, sS, i64_w, i32_w]; rfl)
                                  refine pure_ (i := 9) (N := some 98) (v := ?_) (a' := ?_) #[false, true, true, true, false, true, false, false, true, true, false, false, false] rfl rfl (any_of HT_.out (by kernel_rfl)) (fun _ _ _ h => h) (Or.inl ⟨by rfl, ?_⟩) ?_ ?_; rotate_left; · (intro w'; go_simp; with_reducible rfl)
                                  rotate_left; · (simp only [Act.put, sT, sZ, sS, i64_w, i32_w]; rfl)
                                  refine pure_ (i := 10) (N := some 99) (v := ?_) (a' := ?_) #[false, true, true, true, false, true, false, false, true, true, true, false, false] rfl rfl (any_of HT_.out (by kernel_rfl)) (fun _ _ _ h => h) (Or.inl ⟨by rfl, ?_⟩) ?_ ?_; rotate_left; · (intro w'; go_simp; with_reducible rfl)
                                  rotate_left; · (simp only [Act.put, sT, sZ, sS, i64_w, i32_w]; rfl)
                                  refine join_ (σ := Option Addr × Nat × Option Addr × Nat × Option Addr × Nat) 3 #[true, true, true, true, true, true, true, false, true, true, true, false, false] (fun s_ => [(89, .slice s_.2.2.1 0 s_.2.2.2.1), (93, .slice s_.1 y484.length s_.2.1), (95, .slice s_.2.2.2.2.1 1 s_.2.2.2.2.2)]) (fun s_ w_ => Keep S w w_ ∧ SL (row (Kd.int .i64) 3 (.slice s_.1 y484.length s_.2.1) y484 :: row (Kd.int .i64) 3 (.slice s_.2.2.2.2.1 1 s_.2.2.2.2.2) y487 :: row (Kd.int .i64) 3 (.slice Ax17_0 x17_0.length cx17_0) x17_0 :: cells g3000043 42 [.int .i64 t434, .int .i64 t435].toArray :: L) w_ S) ?_ ?_; rotate_left
                                  · intro hCont
                                    refine two_ (i := 0) (j := 6) (Ni := some 89) (Nj := some 95) #[true, true, true, true, false, true, false, false, true, true, true, false, false] #[false, true, true, true, false, true, true, false, true, true, true, false, false] rfl rfl rfl rfl (two_of HT_.out (by kernel_rfl)) (by decide) (by decide) (fun K hK => ?_) (fun K hK => ?_)
                                    · skip
                                      refine st_of (by rfl) ?_
                                      refine op_row (S := S) (enc := Value.int .i64) (h1 := fun _ => rfl) 3 y479 #[] 0 (by rw [← Ny479.out]; rfl) (by rw [← Ny479.out]; rfl) (by decide) (HF.out.keep HK.out) HS.out (by first | (go_simp; done) | (go_simp; rfl)) ?_
                                      intro Az3000044 cz3000044 w65 hs_ hk_
                                      replace HS := Aside0.mk ((show SL (row (Kd.int .i64) 3 (.slice Az3000044 0 cz3000044) y479 :: _) _ _ from hs_))
                                      replace HK := Aside0.mk (HK.out.trans hk_)
                                      refine hK.out _ _ trivial (fun hHeld => ?_)
                                      clear hK K
                                      refine norm_ (a' := ?_) ?_ ?_; rotate_left
                                      · show Act.put _ (some 89) _ = _
                                        simp only [Act.put, sT, sZ, sS, i64_w, i32_w]
                                        rfl
                                      refine two_ (i := 4) (j := 6) (Ni := some 93) (Nj := some 95) #[true, true, true, true, true, true, false, false, true, true, true, false, false] #[true, true, true, true, false, true, true, false, true, true, true, false, false] rfl rfl rfl rfl (two_of HT_.out (by kernel_rfl)) (by decide) (by decide) (fun K hK => ?_) (fun K hK => ?_)
                                      · skip
                                        replace HS := Aside0.mk (SL.get2 (SL.get2 HS.out))
                                        refine st_of (by rfl) ?_
                                        refine op_append (S := S) (enc := Value.int .i64) (h1 := fun _ => rfl) 0 (.tmp 89) (.tmp 92) 26 3 (.int .i64 0) 8 rfl Try.underlying26 info3 rfl (by decide) (.slice Az3000044 0 cz3000044) rfl rfl (HF.out.keep HK.out) (SL.get2 HS.out) (And.right HVq483.out _ (SL.row_c HS.out).2.2) (by have := LMc56.out; omega) y484 Ny484.out ?_
                                        intro A485 c486 w66 hs_ hk_
                                        replace HS := Aside0.mk ((SL.back2 (show SL (row (Kd.int .i64) 3 (.slice A485 y484.length c486) y484 :: _) _ _ from hs_)))
                                        replace HK := Aside0.mk (HK.out.trans hk_)
                                        refine hK.out _ _ trivial (fun hHeld => ?_)
                                        clear hK K
                                        refine norm_ (a' := ?_) ?_ ?_; rotate_left
                                        · show Act.put _ (some 93) _ = _
                                          simp only [Act.put, sT, sZ, sS, i64_w, i32_w]
                                          rfl
                                        refine one_ (i := 6) (N := some 95) #[true, true, true, true, true, true, true, false, true, true, true, false, false] rfl rfl (one_of HT_.out (by kernel_rfl)) (by decide) (fun K hK => ?_)
                                        refine st_of (by rfl) ?_
                                        refine op_row (S := S) (enc := Value.int .i64) (h1 := fun _ => rfl) 3 y487 #[.int .i64 ((rd_T44 l0 x18_0).f0)] 1 (by rw [← Ny487.out]; rfl) (by rw [← Ny487.out]; rfl) (by decide) (HF.out.keep HK.out) HS.out (by first | (go_simp; done) | (go_simp; rfl)) ?_
                                        intro Az3000045 cz3000045 w67 hs_ hk_
                                        replace HS := Aside0.mk ((show SL (row (Kd.int .i64) 3 (.slice Az3000045 1 cz3000045) y487 :: _) _ _ from hs_))
                                        replace HK := Aside0.mk (HK.out.trans hk_)
                                        refine hK.out _ _ trivial (fun hHeld => ?_)
                                        clear hK K
                                        refine norm_ (a' := ?_) ?_ ?_; rotate_left
                                        · show Act.put _ (some 95) _ = _
                                          simp only [Act.put, sT, sZ, sS, i64_w, i32_w]
                                          rfl
                                        exact norm_ (by simp only [putAll, Act.put, sT, sZ, sS]) (hCont (A485, c486, Az3000044, cz3000044, Az3000045, cz3000045) _ ⟨HK.out, (SL.get3 (SL.get2 (SL.get2 (SL.get2 HS.out))))⟩)
                                      · skip
                                        replace HS := Aside0.mk (SL.get2 (SL.get2 HS.out))
                                        refine st_of (by rfl) ?_
                                        refine op_row (S := S) (enc := Value.int .i64) (h1 := fun _ => rfl) 3 y487 #[.int .i64 ((rd_T44 l0 x18_0).f0)] 1 (by rw [← Ny487.out]; rfl) (by rw [← Ny487.out]; rfl) (by decide) (HF.out.keep HK.out) HS.out (by first | (go_simp; done) | (go_simp; rfl)) ?_
                                        intro Az3000045 cz3000045 w68 hs_ hk_
                                        replace HS := Aside0.mk ((show SL (row (Kd.int .i64) 3 (.slice Az3000045 1 cz3000045) y487 :: _) _ _ from hs_))
                                        replace HK := Aside0.mk (HK.out.trans hk_)
                                        refine hK.out _ _ trivial (fun hHeld => ?_)
                                        clear hK K
                                        refine norm_ (a' := ?_) ?_ ?_; rotate_left
                                        · show Act.put _ (some 95) _ = _
                                          simp only [Act.put, sT, sZ, sS, i64_w, i32_w]
                                          rfl
                                        refine one_ (i := 4) (N := some 93) #[true, true, true, true, true, true, true, false, true, true, true, false, false] rfl rfl (one_of HT_.out (by kernel_rfl)) (by decide) (fun K hK => ?_)
                                        replace HS := Aside0.mk (SL.get3 (SL.get3 (SL.get3 HS.out)))
                                        refine st_of (by rfl) ?_
                                        refine op_append (S := S) (enc := Value.int .i64) (h1 := fun _ => rfl) 0 (.tmp 89) (.tmp 92) 26 3 (.int .i64 0) 8 rfl Try.underlying26 info3 rfl (by decide) (.slice Az3000044 0 cz3000044) rfl rfl (HF.out.keep HK.out) (SL.get2 HS.out) (And.right HVq483.out _ (SL.row_c HS.out).2.2) (by have := LMc56.out; omega) y484 Ny484.out ?_
                                        intro A485 c486 w69 hs_ hk_
                                        replace HS := Aside0.mk ((SL.back2 (show SL (row (Kd.int .i64) 3 (.slice A485 y484.length c486) y484 :: _) _ _ from hs_)))
                                        replace HK := Aside0.mk (HK.out.trans hk_)
                                        refine hK.out _ _ trivial (fun hHeld => ?_)
                                        clear hK K
                                        refine norm_ (a' := ?_) ?_ ?_; rotate_left
                                        · show Act.put _ (some 93) _ = _
                                          simp only [Act.put, sT, sZ, sS, i64_w, i32_w]
                                          rfl
                                        exact norm_ (by simp only [putAll, Act.put, sT, sZ, sS]) (hCont (A485, c486, Az3000044, cz3000044, Az3000045, cz3000045) _ ⟨HK.out, (SL.get3 (SL.get3 (SL.get1 (SL.get1 HS.out))))⟩)
                                    · skip
                                      refine st_of (by rfl) ?_
                                      refine op_row (S := S) (enc := Value.int .i64) (h1 := fun _ => rfl) 3 y487 #[.int .i64 ((rd_T44 l0 x18_0).f0)] 1 (by rw [← Ny487.out]; rfl) (by rw [← Ny487.out]; rfl) (by decide) (HF.out.keep HK.out) HS.out (by first | (go_simp; done) | (go_simp; rfl)) ?_
                                      intro Az3000045 cz3000045 w70 hs_ hk_
                                      replace HS := Aside0.mk ((show SL (row (Kd.int .i64) 3 (.slice Az3000045 1 cz3000045) y487 :: _) _ _ from hs_))
                                      replace HK := Aside0.mk (HK.out.trans hk_)
                                      refine hK.out _ _ trivial (fun hHeld => ?_)
                                      clear hK K
                                      refine norm_ (a' := ?_) ?_ ?_; rotate_left
                                      · show Act.put _ (some 95) _ = _
                                        simp only [Act.put, sT, sZ, sS, i64_w, i32_w]
                                        rfl
                                      refine one_ (i := 0) (N := some 89) #[true, true, true, true, false, true, true, false, true, true, true, false, false] rfl rfl (one_of HT_.out (by kernel_rfl)) (by decide) (fun K hK => ?_)
                                      replace HS := Aside0.mk (SL.get2 (SL.get2 HS.out))
                                      refine st_of (by rfl) ?_
                                      refine op_row (S := S) (enc := Value.int .i64) (h1 := fun _ => rfl) 3 y479 #[] 0 (by rw [← Ny479.out]; rfl) (by rw [← Ny479.out]; rfl) (by decide) (HF.out.keep HK.out) HS.out (by first | (go_simp; done) | (go_simp; rfl)) ?_
                                      intro Az3000044 cz3000044 w71 hs_ hk_
                                      replace HS := Aside0.mk ((show SL (row (Kd.int .i64) 3 (.slice Az3000044 0 cz3000044) y479 :: _) _ _ from hs_))
                                      replace HK := Aside0.mk (HK.out.trans hk_)
                                      refine hK.out _ _ trivial (fun hHeld => ?_)
                                      clear hK K
                                      refine norm_ (a' := ?_) ?_ ?_; rotate_left
                                      · show Act.put _ (some 89) _ = _
                                        simp only [Act.put, sT, sZ, sS, i64_w, i32_w]
                                        rfl
                                      refine one_ (i := 4) (N := some 93) #[true, true, true, true, true, true, true, false, true, true, true, false, false] rfl rfl (one_of HT_.out (by kernel_rfl)) (by decide) (fun K hK => ?_)
                                      replace HS := Aside0.mk (SL.get3 (SL.get3 (SL.get3 HS.out)))
                                      refine st_of (by rfl) ?_
                                      refine op_append (S := S) (enc := Value.int .i64) (h1 := fun _ => rfl) 0 (.tmp 89) (.tmp 92) 26 3 (.int .i64 0) 8 rfl Try.underlying26 info3 rfl (by decide) (.slice Az3000044 0 cz3000044) rfl rfl (HF.out.keep HK.out) (SL.get3 HS.out) (And.right HVq483.out _ (SL.row_c HS.out).2.2) (by have := LMc56.out; omega) y484 Ny484.out ?_
                                      intro A485 c486 w72 hs_ hk_
                                      replace HS := Aside0.mk ((SL.back3 (show SL (row (Kd.int .i64) 3 (.slice A485 y484.length c486) y484 :: _) _ _ from hs_)))
                                      replace HK := Aside0.mk (HK.out.trans hk_)
                                      refine hK.out _ _ trivial (fun hHeld => ?_)
                                      clear hK K
                                      refine norm_ (a' := ?_) ?_ ?_; rotate_left
                                      · show Act.put _ (some 93) _ = _
                                        simp only [Act.put, sT, sZ, sS, i64_w, i32_w]
                                        rfl
                                      exact norm_ (by simp only [putAll, Act.put, sT, sZ, sS]) (hCont (A485, c486, Az3000044, cz3000044, Az3000045, cz3000045) _ ⟨HK.out, (SL.get3 (SL.get2 (SL.get1 (SL.get1 HS.out))))⟩)
                                  rintro ⟨A485, c486, Az3000044, cz3000044, Az3000045, cz3000045⟩ w64 ⟨hk_, hs_⟩
                                  clear HK HS
                                  have HK := Aside0.mk hk_
                                  have HS := Aside0.mk hs_
                                  clear hk_ hs_
                                  have hHeld : True := trivial
                                  replace HS := Aside0.mk (SL.get3 (SL.get2 (SL.get3 (SL.get3 HS.out))))
                                  refine norm_ (a' := ?_) ?_ ?_; rotate_left; · (simp only [putAll, Act.put, sT, sZ, sS]; rfl)
                                  refine one_ (i := 7) (N := some 96) #[true, true, true, true, true, true, true, true, true, true, true, false, false] rfl rfl (one_of HT_.out (by kernel_rfl)) (by decide) (fun K hK => ?_)
                                  refine st_of (by rfl) ?_
                                  refine op_append (S := S) (enc := Value.int .i64) (h1 := fun _ => rfl) 0 (.tmp 93) (.tmp 95) 26 3 (.int .i64 0) 8 rfl Try.underlying26 info3 rfl (by decide) (.slice A485 y484.length c486) rfl rfl (HF.out.keep HK.out) (SL.get1 HS.out) (SL.row_c HS.out).2.2 (by have := LMc57.out; have e_ := (SL.row_c HS.out).1; omega) y488 Ny488.out ?_
                                  intro A489 c490 w62 hs_ hk_
                                  replace HS := Aside0.mk ((SL.back1 (show SL (row (Kd.int .i64) 3 (.slice A489 y488.length c490) y488 :: _) _ _ from hs_)))
                                  replace HK := Aside0.mk (HK.out.trans hk_)
                                  refine hK.out _ _ trivial (fun hHeld => ?_)
                                  clear hK K
                                  refine norm_ (a' := ?_) ?_ ?_; rotate_left
                                  · show Act.put _ (some 96) _ = _
                                    simp only [Act.put, sT, sZ, sS, i64_w, i32_w]
                                    rfl
                                  refine one_ (i := 11) (N := some 100) #[true, true, true, true, true, true, true, true, true, true, true, true, false] rfl rfl (one_of HT_.out (by kernel_rfl)) (by decide) (fun K hK => ?_)
                                  refine st_of (by rfl) ?_
                                  refine op_append (S := S) (enc := Value.int .i64) (h1 := fun _ => rfl) 0 (.tmp 96) (.tmp 99) 26 3 (.int .i64 0) 8 rfl Try.underlying26 info3 rfl (by decide) (.slice A489 y488.length c490) rfl rfl (HF.out.keep HK.out) (SL.get1 HS.out) (And.right HVq494.out _ (SL.row_c (SL.get2 HS.out)).2.2) (by have := LMc58.out; omega) y495 Ny495.out ?_
                                  intro A496 c497 w63 hs_ hk_
                                  replace HS := Aside0.mk ((SL.back1 (show SL (row (Kd.int .i64) 3 (.slice A496 y495.length c497) y495 :: _) _ _ from hs_)))
                                  replace HK := Aside0.mk (HK.out.trans hk_)
                                  refine hK.out _ _ trivial (fun hHeld => ?_)
                                  clear hK K
                                  refine norm_ (a' := ?_) ?_ ?_; rotate_left
                                  · show Act.put _ (some 100) _ = _
                                    simp only [Act.put, sT, sZ, sS, i64_w, i32_w]
                                    rfl
                                  refine pure_ (i := 12) (N := some 17) (v := ?_) (a' := ?_) #[true, true, true, true, true, true, true, true, true, true, true, true, true] rfl rfl (any_of HT_.out (by kernel_rfl)) (fun _ _ _ h => h) (Or.inl ⟨by rfl, ?_⟩) ?_ ?_; rotate_left; · (intro w'; go_simp; with_reducible rfl)
                                  rotate_left; · (simp only [Act.put, sT, sZ, sS, i64_w, i32_w]; rfl)
                                  refine done_ (done_of HT_.out (by kernel_rfl)) ?_
                                  try go_wp2
                                  replace HS := Aside0.mk (SL.tail (SL.get1 (SL.tail HS.out)))
                                  go_roundg k2
                                  case measure => have := HQ1.out; have := HQ2.out; omega
                                  case rel => exact ⟨(y495), (A496), (c497), (wrap64 (x18_0 + 1)), (by first | rfl | (simp; done) | (simp [*]; done)), (by first | rfl | (simp; done) | (simp [*]; done)), H', ⟨by have := HQ1.out; have := HQ2.out; omega⟩, HS, HK⟩
                                · rw [if_neg c58] at H
                                  exact absurd H (by simp)
                              · rw [if_neg c57] at H
                                exact absurd H (by simp)
                            · rw [if_neg c56] at H
                              exact absurd H (by simp)
                          · rw [if_neg c55] at H
                            exact absurd H (by simp)
                        · rw [if_neg c54] at H
                          exact absurd H (by simp)
                      · rw [if_neg c53] at H
                        have c53b0 : (x21_1 == (x17_0.length : Int)) = false := beq_eq_false_iff_ne.mpr c53
                        have c53b1 : (x21_1 != (x17_0.length : Int)) = true := bne_iff_ne.mpr c53
                        by_cases c73 : 0 ≤ x21_1
                        · rw [if_pos c73] at H
                          exact absurd H (by simp)
                        · rw [if_neg c73] at H
                          exact absurd H (by simp)
              · rw [if_neg c10] at H
                have c10b0 : (((rd_T44 l0 x18_0).f0) == a4) = false := beq_eq_false_iff_ne.mpr c10
                have c10b1 : (((rd_T44 l0 x18_0).f0) != a4) = true := bne_iff_ne.mpr c10
                replace H := Option.bind_eq_some_iff.1 H
                obtain ⟨t498, Hc740, H⟩ := H
                try dsimp only at H
                have Hc74 := Aside0.mk Hc740
                clear Hc740
                by_cases c75 : t498 = true
                · subst c75
                  rw [if_pos rfl] at H
                  have H' := Aside0.mk H
                  clear H
                  have pq437 : 0 ≤ (x18_0 : Int) := of_decide_eq_true (by first | (with_reducible assumption) | assumption)
                  have qq437 : x18_0 < ((l0.length : Int) : Int) := of_decide_eq_true (by first | (with_reducible assumption) | assumption)
                  obtain ⟨adq437, eq437, hxq437_0, hxq437_1, hxq437_2⟩ := at_T44 (RO.at_ HR0.out HK.out) x18_0 pq437 qq437
                  cases eq437
                  replace pq437 := eq_true pq437
                  replace qq437 := eq_true qq437
                  go_wp2_with (first | ((with_reducible refine gate_dst (N := 49) rfl ?_); refine goesL_ (some 49) rfl rfl Try.func27 (by kernel_rfl) rfl #[.slice (some adq437) l0.length c0, .slice A1 l1.length c1, .int .i64 a3, .int .i64 a4, .int .i64 a5, .int .i64 a6, .int .i64 ((rd_T44 l0 x18_0).f0)] rfl (by (try simp only [List.map_toArray, List.map_cons, List.map_nil]); first | done | rfl | (simp; done)) ?_; (with_reducible refine (barrowref38_hears.calls k1 _ _ _ _ _ _ _ _ _ _ _ _ _ (RO.at_ HR0.out HK.out) HC0.out (RO.at_ HR1.out HK.out) HC1.out Hc8.out).mono ?_); rintro e_ w76 ⟨rfl, hb_⟩; refine ⟨_, rfl, ?_⟩; replace HS := Aside0.mk (HS.out.below hb_); replace HK := Aside0.mk (HK.out.trans (Keep.below hb_))) | ((with_reducible refine gate_dst (N := 60) rfl ?_); (try (refine gate_guard (by rfl) ?_; dsimp only)); refine goesL_ (some 60) rfl rfl Try.func12 (by kernel_rfl) rfl #[.slice A2 l2.length c2, .int .i64 ((rd_T44 l0 x18_0).f0), .int .i64 a4] rfl (by (try simp only [List.map_toArray, List.map_cons, List.map_nil]); first | done | rfl | (simp; done)) ?_; (with_reducible refine (barrowref38_Mutes.calls k1 _ _ _ _ _ _ _ (RO.at_ HR2.out HK.out) HC2.out Hc74.out).mono ?_); rintro e_ w77 ⟨rfl, hb_⟩; refine ⟨_, rfl, ?_⟩; replace hb_ := Drawn0.below hb_; replace HS := Aside0.mk (HS.out.below hb_); replace HK := Aside0.mk (HK.out.trans (Keep.below hb_))))
                  go_roundg k1
                  case measure => have := HQ1.out; omega
                  case rel => exact ⟨(x17_0), (Ax17_0), (cx17_0), (wrap64 (x18_0 + 1)), (by first | rfl | (simp; done) | (simp [*]; done)), (by first | rfl | (simp; done) | (simp [*]; done)), H', ⟨by have := HQ1.out; omega⟩, HS, HK⟩
                · replace c75 := Bool.eq_false_iff.mpr c75
                  subst c75
                  rw [if_neg (show ¬ (false = true) by decide)] at H
                  have H' := Aside0.mk H
                  clear H
                  have pq437 : 0 ≤ (x18_0 : Int) := of_decide_eq_true (by first | (with_reducible assumption) | assumption)
                  have qq437 : x18_0 < ((l0.length : Int) : Int) := of_decide_eq_true (by first | (with_reducible assumption) | assumption)
                  obtain ⟨adq437, eq437, hxq437_0, hxq437_1, hxq437_2⟩ := at_T44 (RO.at_ HR0.out HK.out) x18_0 pq437 qq437
                  cases eq437
                  replace pq437 := eq_true pq437
                  replace qq437 := eq_true qq437
                  go_wp2_with (first | ((with_reducible refine gate_dst (N := 49) rfl ?_); refine goesL_ (some 49) rfl rfl Try.func27 (by kernel_rfl) rfl #[.slice (some adq437) l0.length c0, .slice A1 l1.length c1, .int .i64 a3, .int .i64 a4, .int .i64 a5, .int .i64 a6, .int .i64 ((rd_T44 l0 x18_0).f0)] rfl (by (try simp only [List.map_toArray, List.map_cons, List.map_nil]); first | done | rfl | (simp; done)) ?_; (with_reducible refine (barrowref38_hears.calls k1 _ _ _ _ _ _ _ _ _ _ _ _ _ (RO.at_ HR0.out HK.out) HC0.out (RO.at_ HR1.out HK.out) HC1.out Hc8.out).mono ?_); rintro e_ w78 ⟨rfl, hb_⟩; refine ⟨_, rfl, ?_⟩; replace HS := Aside0.mk (HS.out.below hb_); replace HK := Aside0.mk (HK.out.trans (Keep.below hb_))) | ((with_reducible refine gate_dst (N := 60) rfl ?_); (try (refine gate_guard (by rfl) ?_; dsimp only)); refine goesL_ (some 60) rfl rfl Try.func12 (by kernel_rfl) rfl #[.slice A2 l2.length c2, .int .i64 ((rd_T44 l0 x18_0).f0), .int .i64 a4] rfl (by (try simp only [List.map_toArray, List.map_cons, List.map_nil]); first | done | rfl | (simp; done)) ?_; (with_reducible refine (barrowref38_Mutes.calls k1 _ _ _ _ _ _ _ (RO.at_ HR2.out HK.out) HC2.out Hc74.out).mono ?_); rintro e_ w79 ⟨rfl, hb_⟩; refine ⟨_, rfl, ?_⟩; replace hb_ := Drawn0.below hb_; replace HS := Aside0.mk (HS.out.below hb_); replace HK := Aside0.mk (HK.out.trans (Keep.below hb_))))
                  try go_simp
                  go_loopg [21] k1 (fun kq v21 w' => ∃ (x21_1 : Int), v21 = .int .i64 x21_1 ∧ Aside0 (barrowref38_Hear.l1 kq l0 l1 l2 a3 a4 a5 a6 true x17_0 x18_0 x21_1 = some r) ∧ Aside0 (kq ≤ k1) ∧ Aside0 (SL (row (Kd.int .i64) 3 (.slice Ax17_0 x17_0.length cx17_0) x17_0 :: cells g3000043 42 [.int .i64 t434, .int .i64 t435].toArray :: L) w' S) ∧ Aside0 (Keep S w w'))
                  case atStart => exact ⟨(0), (by first | rfl | (simp; done) | (simp [*]; done)), H', ⟨Nat.le_refl _⟩, HS, HK⟩
                  case round =>
                    clear H' HS HK
                    obtain ⟨x21_1, rfl, HA, HQ2, HS, HK⟩ := hrel
                    cases gk with
                    | zero => exact absurd HA.out (by simp [barrowref38_Hear.l1])
                    | succ k2 =>
                      have H := HA.out
                      clear HA
                      simp only [barrowref38_Hear.l1] at H
                      by_cases c80 : x21_1 < (x17_0.length : Int)
                      · rw [if_pos c80] at H
                        have c80b0 : decide (x21_1 < (x17_0.length : Int)) = true := decide_eq_true c80
                        clear c80
                        by_cases c81 : 0 ≤ x21_1
                        · rw [if_pos c81] at H
                          have c81b0 : decide (0 ≤ x21_1) = true := decide_eq_true c81
                          clear c81
                          by_cases c82 : (rd x17_0 x21_1) < ((rd_T44 l0 x18_0).f0)
                          · rw [if_pos c82] at H
                            have c82b0 : decide ((rd x17_0 x21_1) < ((rd_T44 l0 x18_0).f0)) = true := decide_eq_true c82
                            clear c82
                            have H' := Aside0.mk H
                            clear H
                            have pq439 : 0 ≤ (x21_1 : Int) := of_decide_eq_true (by first | (with_reducible assumption) | assumption)
                            have qq439 : x21_1 < ((x17_0.length : Int) : Int) := of_decide_eq_true (by first | (with_reducible assumption) | assumption)
                            obtain ⟨adq439, eq439, hxq439_0⟩ := Kd.at_int (SL.row_c HS.out).2.2 x21_1 pq439 qq439
                            cases eq439
                            replace pq439 := eq_true pq439
                            replace qq439 := eq_true qq439
                            go_wp2
                            go_roundg k2
                            case measure => have := HQ1.out; have := HQ2.out; omega
                            case rel => exact ⟨(wrap64 (x21_1 + 1)), (by first | rfl | (simp; done) | (simp [*]; done)), H', ⟨by have := HQ1.out; have := HQ2.out; omega⟩, HS, HK⟩
                          · rw [if_neg c82] at H
                            have c82b0 : decide ((rd x17_0 x21_1) < ((rd_T44 l0 x18_0).f0)) = false := decide_eq_false c82
                            clear c82
                            by_cases c83 : x21_1 = (x17_0.length : Int)
                            · rw [if_pos c83] at H
                              have c83b0 : (x21_1 == (x17_0.length : Int)) = true := beq_iff_eq.mpr c83
                              have c83b1 : (x21_1 != (x17_0.length : Int)) = false := bne_eq_false_iff_eq.mpr c83
                              clear c83
                              replace H := Option.bind_eq_some_iff.1 H
                              obtain ⟨y440, hy4400, H⟩ := H
                              try dsimp only at H
                              have hy440 := Option.some.inj hy4400
                              clear hy4400
                              have Ny440 := Aside0.mk hy440
                              clear hy440
                              by_cases c84 : x21_1 ≤ (x17_0.length : Int)
                              · rw [if_pos c84] at H
                                have c84b0 := eq_true c84
                                have c84b1 : decide (x21_1 ≤ (x17_0.length : Int)) = true := decide_eq_true c84
                                clear c84
                                replace H := Option.bind_eq_some_iff.1 H
                                obtain ⟨y441, hy4410, H⟩ := H
                                try dsimp only at H
                                have hy441 := Option.some.inj hy4410
                                clear hy4410
                                have Ny441 := Aside0.mk hy441
                                clear hy441
                                by_cases c85 : y440.length + y441.length < 17592186044416
                                · rw [if_pos c85] at H
                                  have LMc85 := Aside0.mk c85
                                  clear c85
                                  replace H := Option.bind_eq_some_iff.1 H
                                  obtain ⟨y445, hy4450, H⟩ := H
                                  try dsimp only at H
                                  have hy445 := Option.some.inj hy4450
                                  clear hy4450
                                  have Ny445 := Aside0.mk hy445
                                  clear hy445
                                  replace H := Option.bind_eq_some_iff.1 H
                                  obtain ⟨y448, hy4480, H⟩ := H
                                  try dsimp only at H
                                  have hy448 := Option.some.inj hy4480
                                  clear hy4480
                                  have Ny448 := Aside0.mk hy448
                                  clear hy448
                                  by_cases c86 : y445.length + y448.length < 17592186044416
                                  · rw [if_pos c86] at H
                                    have LMc86 := Aside0.mk c86
                                    clear c86
                                    replace H := Option.bind_eq_some_iff.1 H
                                    obtain ⟨y449, hy4490, H⟩ := H
                                    try dsimp only at H
                                    have hy449 := Option.some.inj hy4490
                                    clear hy4490
                                    have Ny449 := Aside0.mk hy449
                                    clear hy449
                                    replace H := Option.bind_eq_some_iff.1 H
                                    obtain ⟨y452, hy4520, H⟩ := H
                                    try dsimp only at H
                                    have hy452 := Option.some.inj hy4520
                                    clear hy4520
                                    have Ny452 := Aside0.mk hy452
                                    clear hy452
                                    by_cases c87 : y449.length + y452.length < 17592186044416
                                    · rw [if_pos c87] at H
                                      have LMc87 := Aside0.mk c87
                                      clear c87
                                      replace H := Option.bind_eq_some_iff.1 H
                                      obtain ⟨y456, hy4560, H⟩ := H
                                      try dsimp only at H
                                      have hy456 := Option.some.inj hy4560
                                      clear hy4560
                                      have Ny456 := Aside0.mk hy456
                                      clear hy456
                                      have H' := Aside0.mk H
                                      clear H
                                      have pq439 : 0 ≤ (x21_1 : Int) := of_decide_eq_true (by first | (with_reducible assumption) | assumption)
                                      have qq439 : x21_1 < ((x17_0.length : Int) : Int) := of_decide_eq_true (by first | (with_reducible assumption) | assumption)
                                      obtain ⟨adq439, eq439, hxq439_0⟩ := Kd.at_int (SL.row_c HS.out).2.2 x21_1 pq439 qq439
                                      cases eq439
                                      replace pq439 := eq_true pq439
                                      replace qq439 := eq_true qq439
                                      try go_wp2
                                      have hv_ := cut_upto (P := Try.prog) (Kd.int .i64) 26 3 .i64 .i64 Try.underlying26 (by kernel_rfl) rfl (some adq439) x17_0.length cx17_0 x17_0 rfl (SL.row_c HS.out).2.1 x21_1 (of_decide_eq_true (by first | (with_reducible assumption) | assumption) : (0 : Int) ≤ (x21_1 : Int)) (of_decide_eq_true (by first | (with_reducible assumption) | assumption) : (x21_1 : Int) ≤ ((x17_0.length : Int) : Int)) y441 Ny441.out
                                      obtain ⟨hcvq444, hcs_, hcc_, hcl_⟩ := hv_
                                      have HVq444 := Aside0.mk (And.intro True.intro hcc_)
                                      have HCq444 := Aside0.mk hcl_
                                      clear hcs_ hcc_ hcl_
                                      obtain ⟨A453, c454, hcvq455, hcs_, hcc_, hcl_⟩ := cut_of (P := Try.prog) (Kd.int .i64) 26 3 .i64 .i64 Try.underlying26 (by kernel_rfl) rfl (some adq439) x17_0.length cx17_0 x17_0 rfl (SL.row_c HS.out).2.1 x21_1 (of_decide_eq_true (by first | (with_reducible assumption) | assumption) : (0 : Int) ≤ (x21_1 : Int)) (of_decide_eq_true (by first | (with_reducible assumption) | assumption) : (x21_1 : Int) ≤ ((x17_0.length : Int) : Int)) y452 Ny452.out
                                      have HVq455 := Aside0.mk (And.intro True.intro hcc_)
                                      have HCq455 := Aside0.mk hcl_
                                      clear hcs_ hcc_ hcl_
                                      refine start_ (n := 13) (S := fun w' => True) (ds := []) #[false, false, false, false, false, false, false, false, false, false, false, false, false] (by kernel_rfl) rfl rfl trivial (fun hHeld => ?_); refine with_tabW barrowref38_Hear.tab13 barrowref38_Hear.bits13 (fun HT_ HW_ => ?_)
                                      replace HK := Aside0.mk (Keep.drew HK.out)
                                      replace HS := Aside0.mk (SL.drew HS.out)
                                      refine pure_ (i := 1) (N := some 90) (v := ?_) (a' := ?_) #[false, true, false, false, false, false, false, false, false, false, false, false, false] rfl rfl (any_of HT_.out (by kernel_rfl)) (fun _ _ _ h => h) (Or.inl ⟨by rfl, ?_⟩) ?_ ?_; rotate_left; · (intro w'; go_simp; with_reducible rfl)
                                      rotate_left; · (simp only [Act.put, sT, sZ, sS, i64_w, i32_w]; rfl)
                                      refine pure_ (i := 2) (N := some 91) (v := ?_) (a' := ?_) #[false, true, true, false, false, false, false, false, false, false, false, false, false] rfl rfl (any_of HT_.out (by kernel_rfl)) (fun _ _ _ h => h) (Or.inl ⟨by rfl, ?_⟩) ?_ ?_; rotate_left; · (intro w'; go_simp; with_reducible rfl)
                                      rotate_left; · (simp only [Act.put, sT, sZ, sS, i64_w, i32_w]; rfl)
                                      refine pure_ (i := 3) (N := some 92) (v := ?_) (a' := ?_) #[false, true, true, true, false, false, false, false, false, false, false, false, false] rfl rfl (any_of HT_.out (by kernel_rfl)) (fun _ _ _ h => h) (Or.inl ⟨by rfl, ?_⟩) ?_ ?_; rotate_left; · (intro w'; go_simp; with_reducible rfl)
                                      rotate_left; · (simp only [Act.put, sT, sZ, sS, i64_w, i32_w]; rfl)
                                      refine pure_ (i := 5) (N := some 94) (v := ?_) (a' := ?_) #[false, true, true, true, false, true, false, false, false, false, false, false, false] rfl rfl (any_of HT_.out (by kernel_rfl)) (fun _ _ _ h => h) (Or.inl ⟨by rfl, ?_⟩) ?_ ?_; rotate_left; · (intro w'; go_simp; with_reducible rfl)
                                      rotate_left; · (simp only [Act.put, sT, sZ, sS, i64_w, i32_w]; rfl)
                                      refine pure_ (i := 8) (N := some 97) (v := ?_) (a' := ?_) #[false, true, true, true, false, true, false, false, true, false, false, false, false] rfl rfl (any_of HT_.out (by kernel_rfl)) (fun _ _ _ h => h) (Or.inl ⟨by rfl, ?_⟩) ?_ ?_; rotate_left; · (intro w'; go_simp; with_reducible rfl)
                                      rotate_left; · (simp only [Act.put, sT, sZ, sS, i64_w, i32_w]; rfl)
                                      refine pure_ (i := 9) (N := some 98) (v := ?_) (a' := ?_) #[false, true, true, true, false, true, false, false, true, true, false, false, false] rfl rfl (any_of HT_.out (by kernel_rfl)) (fun _ _ _ h => h) (Or.inl ⟨by rfl, ?_⟩) ?_ ?_; rotate_left; · (intro w'; go_simp; with_reducible rfl)
                                      rotate_left; · (simp only [Act.put, sT, sZ, sS, i64_w, i32_w]; rfl)
                                      refine pure_ (i := 10) (N := some 99) (v := ?_) (a' := ?_) #[false, true, true, true, false, true, false, false, true, true, true, false, false] rfl rfl (any_of HT_.out (by kernel_rfl)) (fun _ _ _ h => h) (Or.inl ⟨by rfl, ?_⟩) ?_ ?_; rotate_left; · (intro w'; go_simp; with_reducible rfl)
                                      rotate_left; · (simp only [Act.put, sT, sZ, sS, i64_w, i32_w]; rfl)
                                      refine join_ (σ := Option Addr × Nat × Option Addr × Nat × Option Addr × Nat) 3 #[true, true, true, true, true, true, true, false, true, true, true, false, false] (fun s_ => [(89, .slice s_.2.2.1 0 s_.2.2.2.1), (93, .slice s_.1 y445.length s_.2.1), (95, .slice s_.2.2.2.2.1 1 s_.2.2.2.2.2)]) (fun s_ w_ => Keep S w w_ ∧ SL (row (Kd.int .i64) 3 (.slice s_.1 y445.length s_.2.1) y445 :: row (Kd.int .i64) 3 (.slice s_.2.2.2.2.1 1 s_.2.2.2.2.2) y448 :: row (Kd.int .i64) 3 (.slice (some adq439) x17_0.length cx17_0) x17_0 :: cells g3000043 42 [.int .i64 t434, .int .i64 t435].toArray :: L) w_ S) ?_ ?_; rotate_left
                                      · intro hCont
                                        refine two_ (i := 0) (j := 6) (Ni := some 89) (Nj := some 95) #[true, true, true, true, false, true, false, false, true, true, true, false, false] #[false, true, true, true, false, true, true, false, true, true, true, false, false] rfl rfl rfl rfl (two_of HT_.out (by kernel_rfl)) (by decide) (by decide) (fun K hK => ?_) (fun K hK => ?_)
                                        · skip
                                          refine st_of (by rfl) ?_
                                          refine op_row (S := S) (enc := Value.int .i64) (h1 := fun _ => rfl) 3 y440 #[] 0 (by rw [← Ny440.out]; rfl) (by rw [← Ny440.out]; rfl) (by decide) (HF.out.keep HK.out) HS.out (by first | (go_simp; done) | (go_simp; rfl)) ?_
                                          intro Az3000044 cz3000044 w94 hs_ hk_
                                          replace HS := Aside0.mk ((show SL (row (Kd.int .i64) 3 (.slice Az3000044 0 cz3000044) y440 :: _) _ _ from hs_))
                                          replace HK := Aside0.mk (HK.out.trans hk_)
                                          refine hK.out _ _ trivial (fun hHeld => ?_)
                                          clear hK K
                                          refine norm_ (a' := ?_) ?_ ?_; rotate_left
                                          · show Act.put _ (some 89) _ = _
                                            simp only [Act.put, sT, sZ, sS, i64_w, i32_w]
                                            rfl
                                          refine two_ (i := 4) (j := 6) (Ni := some 93) (Nj := some 95) #[true, true, true, true, true, true, false, false, true, true, true, false, false] #[true, true, true, true, false, true, true, false, true, true, true, false, false] rfl rfl rfl rfl (two_of HT_.out (by kernel_rfl)) (by decide) (by decide) (fun K hK => ?_) (fun K hK => ?_)
                                          · skip
                                            replace HS := Aside0.mk (SL.get2 (SL.get2 HS.out))
                                            refine st_of (by rfl) ?_
                                            refine op_append (S := S) (enc := Value.int .i64) (h1 := fun _ => rfl) 0 (.tmp 89) (.tmp 92) 26 3 (.int .i64 0) 8 rfl Try.underlying26 info3 rfl (by decide) (.slice Az3000044 0 cz3000044) rfl rfl (HF.out.keep HK.out) (SL.get2 HS.out) (And.right HVq444.out _ (SL.row_c HS.out).2.2) (by have := LMc85.out; omega) y445 Ny445.out ?_
                                            intro A446 c447 w95 hs_ hk_
                                            replace HS := Aside0.mk ((SL.back2 (show SL (row (Kd.int .i64) 3 (.slice A446 y445.length c447) y445 :: _) _ _ from hs_)))
                                            replace HK := Aside0.mk (HK.out.trans hk_)
                                            refine hK.out _ _ trivial (fun hHeld => ?_)
                                            clear hK K
                                            refine norm_ (a' := ?_) ?_ ?_; rotate_left
                                            · show Act.put _ (some 93) _ = _
                                              simp only [Act.put, sT, sZ, sS, i64_w, i32_w]
                                              rfl
                                            refine one_ (i := 6) (N := some 95) #[true, true, true, true, true, true, true, false, true, true, true, false, false] rfl rfl (one_of HT_.out (by kernel_rfl)) (by decide) (fun K hK => ?_)
                                            refine st_of (by rfl) ?_
                                            refine op_row (S := S) (enc := Value.int .i64) (h1 := fun _ => rfl) 3 y448 #[.int .i64 ((rd_T44 l0 x18_0).f0)] 1 (by rw [← Ny448.out]; rfl) (by rw [← Ny448.out]; rfl) (by decide) (HF.out.keep HK.out) HS.out (by first | (go_simp; done) | (go_simp; rfl)) ?_
                                            intro Az3000045 cz3000045 w96 hs_ hk_
                                            replace HS := Aside0.mk ((show SL (row (Kd.int .i64) 3 (.slice Az3000045 1 cz3000045) y448 :: _) _ _ from hs_))
                                            replace HK := Aside0.mk (HK.out.trans hk_)
                                            refine hK.out _ _ trivial (fun hHeld => ?_)
                                            clear hK K
                                            refine norm_ (a' := ?_) ?_ ?_; rotate_left
                                            · show Act.put _ (some 95) _ = _
                                              simp only [Act.put, sT, sZ, sS, i64_w, i32_w]
                                              rfl
                                            exact norm_ (by simp only [putAll, Act.put, sT, sZ, sS]) (hCont (A446, c447, Az3000044, cz3000044, Az3000045, cz3000045) _ ⟨HK.out, (SL.get3 (SL.get2 (SL.get2 (SL.get2 HS.out))))⟩)
                                          · skip
                                            replace HS := Aside0.mk (SL.get2 (SL.get2 HS.out))
                                            refine st_of (by rfl) ?_
                                            refine op_row (S := S) (enc := Value.int .i64) (h1 := fun _ => rfl) 3 y448 #[.int .i64 ((rd_T44 l0 x18_0).f0)] 1 (by rw [← Ny448.out]; rfl) (by rw [← Ny448.out]; rfl) (by decide) (HF.out.keep HK.out) HS.out (by first | (go_simp; done) | (go_simp; rfl)) ?_
                                            intro Az3000045 cz3000045 w97 hs_ hk_
                                            replace HS := Aside0.mk ((show SL (row (Kd.int .i64) 3 (.slice Az3000045 1 cz3000045) y448 :: _) _ _ from hs_))
                                            replace HK := Aside0.mk (HK.out.trans hk_)
                                            refine hK.out _ _ trivial (fun hHeld => ?_)
                                            clear hK K
                                            refine norm_ (a' := ?_) ?_ ?_; rotate_left
                                            · show Act.put _ (some 95) _ = _
                                              simp only [Act.put, sT, sZ, sS, i64_w, i32_w]
                                              rfl
                                            refine one_ (i := 4) (N := some 93) #[true, true, true, true, true, true, true, false, true, true, true, false, false] rfl rfl (one_of HT_.out (by kernel_rfl)) (by decide) (fun K hK => ?_)
                                            replace HS := Aside0.mk (SL.get3 (SL.get3 (SL.get3 HS.out)))
                                            refine st_of (by rfl) ?_
                                            refine op_append (S := S) (enc := Value.int .i64) (h1 := fun _ => rfl) 0 (.tmp 89) (.tmp 92) 26 3 (.int .i64 0) 8 rfl Try.underlying26 info3 rfl (by decide) (.slice Az3000044 0 cz3000044) rfl rfl (HF.out.keep HK.out) (SL.get2 HS.out) (And.right HVq444.out _ (SL.row_c HS.out).2.2) (by have := LMc85.out; omega) y445 Ny445.out ?_
                                            intro A446 c447 w98 hs_ hk_
                                            replace HS := Aside0.mk ((SL.back2 (show SL (row (Kd.int .i64) 3 (.slice A446 y445.length c447) y445 :: _) _ _ from hs_)))
                                            replace HK := Aside0.mk (HK.out.trans hk_)
                                            refine hK.out _ _ trivial (fun hHeld => ?_)
                                            clear hK K
                                            refine norm_ (a' := ?_) ?_ ?_; rotate_left
                                            · show Act.put _ (some 93) _ = _
                                              simp only [Act.put, sT, sZ, sS, i64_w, i32_w]
                                              rfl
                                            exact norm_ (by simp only [putAll, Act.put, sT, sZ, sS]) (hCont (A446, c447, Az3000044, cz3000044, Az3000045, cz3000045) _ ⟨HK.out, (SL.get3 (SL.get3 (SL.get1 (SL.get1 HS.out))))⟩)
                                        · skip
                                          refine st_of (by rfl) ?_
                                          refine op_row (S := S) (enc := Value.int .i64) (h1 := fun _ => rfl) 3 y448 #[.int .i64 ((rd_T44 l0 x18_0).f0)] 1 (by rw [← Ny448.out]; rfl) (by rw [← Ny448.out]; rfl) (by decide) (HF.out.keep HK.out) HS.out (by first | (go_simp; done) | (go_simp; rfl)) ?_
                                          intro Az3000045 cz3000045 w99 hs_ hk_
                                          replace HS := Aside0.mk ((show SL (row (Kd.int .i64) 3 (.slice Az3000045 1 cz3000045) y448 :: _) _ _ from hs_))
                                          replace HK := Aside0.mk (HK.out.trans hk_)
                                          refine hK.out _ _ trivial (fun hHeld => ?_)
                                          clear hK K
                                          refine norm_ (a' := ?_) ?_ ?_; rotate_left
                                          · show Act.put _ (some 95) _ = _
                                            simp only [Act.put, sT, sZ, sS, i64_w, i32_w]
                                            rfl
                                          refine one_ (i := 0) (N := some 89) #[true, true, true, true, false, true, true, false, true, true, true, false, false] rfl rfl (one_of HT_.out (by kernel_rfl)) (by decide) (fun K hK => ?_)
                                          replace HS := Aside0.mk (SL.get2 (SL.get2 HS.out))
                                          refine st_of (by rfl) ?_
                                          refine op_row (S := S) (enc := Value.int .i64) (h1 := fun _ => rfl) 3 y440 #[] 0 (by rw [← Ny440.out]; rfl) (by rw [← Ny440.out]; rfl) (by decide) (HF.out.keep HK.out) HS.out (by first | (go_simp; done) | (go_simp; rfl)) ?_
                                          intro Az3000044 cz3000044 w100 hs_ hk_
                                          replace HS := Aside0.mk ((show SL (row (Kd.int .i64) 3 (.slice Az3000044 0 cz3000044) y440 :: _) _ _ from hs_))
                                          replace HK := Aside0.mk (HK.out.trans hk_)
                                          refine hK.out _ _ trivial (fun hHeld => ?_)
                                          clear hK K
                                          refine norm_ (a' := ?_) ?_ ?_; rotate_left
                                          · show Act.put _ (some 89) _ = _
                                            simp only [Act.put, sT, sZ, sS, i64_w, i32_w]
                                            rfl
                                          refine one_ (i := 4) (N := some 93) #[true, true, true, true, true, true, true, false, true, true, true, false, false] rfl rfl (one_of HT_.out (by kernel_rfl)) (by decide) (fun K hK => ?_)
                                          replace HS := Aside0.mk (SL.get3 (SL.get3 (SL.get3 HS.out)))
                                          refine st_of (by rfl) ?_
                                          refine op_append (S := S) (enc := Value.int .i64) (h1 := fun _ => rfl) 0 (.tmp 89) (.tmp 92) 26 3 (.int .i64 0) 8 rfl Try.underlying26 info3 rfl (by decide) (.slice Az3000044 0 cz3000044) rfl rfl (HF.out.keep HK.out) (SL.get3 HS.out) (And.right HVq444.out _ (SL.row_c HS.out).2.2) (by have := LMc85.out; omega) y445 Ny445.out ?_
                                          intro A446 c447 w101 hs_ hk_
                                          replace HS := Aside0.mk ((SL.back3 (show SL (row (Kd.int .i64) 3 (.slice A446 y445.length c447) y445 :: _) _ _ from hs_)))
                                          replace HK := Aside0.mk (HK.out.trans hk_)
                                          refine hK.out _ _ trivial (fun hHeld => ?_)
                                          clear hK K
                                          refine norm_ (a' := ?_) ?_ ?_; rotate_left
                                          · show Act.put _ (some 93) _ = _
                                            simp only [Act.put, sT, sZ, sS, i64_w, i32_w]
                                            rfl
                                          exact norm_ (by simp only [putAll, Act.put, sT, sZ, sS]) (hCont (A446, c447, Az3000044, cz3000044, Az3000045, cz3000045) _ ⟨HK.out, (SL.get3 (SL.get2 (SL.get1 (SL.get1 HS.out))))⟩)
                                      rintro ⟨A446, c447, Az3000044, cz3000044, Az3000045, cz3000045⟩ w93 ⟨hk_, hs_⟩
                                      clear HK HS
                                      have HK := Aside0.mk hk_
                                      have HS := Aside0.mk hs_
                                      clear hk_ hs_
                                      have hHeld : True := trivial
                                      replace HS := Aside0.mk (SL.get3 (SL.get2 (SL.get3 (SL.get3 HS.out))))
                                      refine norm_ (a' := ?_) ?_ ?_; rotate_left; · (simp only [putAll, Act.put, sT, sZ, sS]; rfl)
                                      refine one_ (i := 7) (N := some 96) #[true, true, true, true, true, true, true, true, true, true, true, false, false] rfl rfl (one_of HT_.out (by kernel_rfl)) (by decide) (fun K hK => ?_)
                                      refine st_of (by rfl) ?_
                                      refine op_append (S := S) (enc := Value.int .i64) (h1 := fun _ => rfl) 0 (.tmp 93) (.tmp 95) 26 3 (.int .i64 0) 8 rfl Try.underlying26 info3 rfl (by decide) (.slice A446 y445.length c447) rfl rfl (HF.out.keep HK.out) (SL.get1 HS.out) (SL.row_c HS.out).2.2 (by have := LMc86.out; have e_ := (SL.row_c HS.out).1; omega) y449 Ny449.out ?_
                                      intro A450 c451 w91 hs_ hk_
                                      replace HS := Aside0.mk ((SL.back1 (show SL (row (Kd.int .i64) 3 (.slice A450 y449.length c451) y449 :: _) _ _ from hs_)))
                                      replace HK := Aside0.mk (HK.out.trans hk_)
                                      refine hK.out _ _ trivial (fun hHeld => ?_)
                                      clear hK K
                                      refine norm_ (a' := ?_) ?_ ?_; rotate_left
                                      · show Act.put _ (some 96) _ = _
                                        simp only [Act.put, sT, sZ, sS, i64_w, i32_w]
                                        rfl
                                      refine one_ (i := 11) (N := some 100) #[true, true, true, true, true, true, true, true, true, true, true, true, false] rfl rfl (one_of HT_.out (by kernel_rfl)) (by decide) (fun K hK => ?_)
                                      refine st_of (by rfl) ?_
                                      refine op_append (S := S) (enc := Value.int .i64) (h1 := fun _ => rfl) 0 (.tmp 96) (.tmp 99) 26 3 (.int .i64 0) 8 rfl Try.underlying26 info3 rfl (by decide) (.slice A450 y449.length c451) rfl rfl (HF.out.keep HK.out) (SL.get1 HS.out) (And.right HVq455.out _ (SL.row_c (SL.get2 HS.out)).2.2) (by have := LMc87.out; omega) y456 Ny456.out ?_
                                      intro A457 c458 w92 hs_ hk_
                                      replace HS := Aside0.mk ((SL.back1 (show SL (row (Kd.int .i64) 3 (.slice A457 y456.length c458) y456 :: _) _ _ from hs_)))
                                      replace HK := Aside0.mk (HK.out.trans hk_)
                                      refine hK.out _ _ trivial (fun hHeld => ?_)
                                      clear hK K
                                      refine norm_ (a' := ?_) ?_ ?_; rotate_left
                                      · show Act.put _ (some 100) _ = _
                                        simp only [Act.put, sT, sZ, sS, i64_w, i32_w]
                                        rfl
                                      refine pure_ (i := 12) (N := some 17) (v := ?_) (a' := ?_) #[true, true, true, true, true, true, true, true, true, true, true, true, true] rfl rfl (any_of HT_.out (by kernel_rfl)) (fun _ _ _ h => h) (Or.inl ⟨by rfl, ?_⟩) ?_ ?_; rotate_left; · (intro w'; go_simp; with_reducible rfl)
                                      rotate_left; · (simp only [Act.put, sT, sZ, sS, i64_w, i32_w]; rfl)
                                      refine done_ (done_of HT_.out (by kernel_rfl)) ?_
                                      try go_wp2
                                      replace HS := Aside0.mk (SL.tail (SL.get1 (SL.tail HS.out)))
                                      go_roundg k2
                                      case measure => have := HQ1.out; have := HQ2.out; omega
                                      case rel => exact ⟨(y456), (A457), (c458), (wrap64 (x18_0 + 1)), (by first | rfl | (simp; done) | (simp [*]; done)), (by first | rfl | (simp; done) | (simp [*]; done)), H', ⟨by have := HQ1.out; have := HQ2.out; omega⟩, HS, HK⟩
                                    · rw [if_neg c87] at H
                                      exact absurd H (by simp)
                                  · rw [if_neg c86] at H
                                    exact absurd H (by simp)
                                · rw [if_neg c85] at H
                                  exact absurd H (by simp)
                              · rw [if_neg c84] at H
                                exact absurd H (by simp)
                            · rw [if_neg c83] at H
                              have c83b0 : (x21_1 == (x17_0.length : Int)) = false := beq_eq_false_iff_ne.mpr c83
                              have c83b1 : (x21_1 != (x17_0.length : Int)) = true := bne_iff_ne.mpr c83
                              by_cases c102 : (rd x17_0 x21_1) = ((rd_T44 l0 x18_0).f0)
                              · rw [if_pos c102] at H
                                have c102b0 : ((rd x17_0 x21_1) == ((rd_T44 l0 x18_0).f0)) = true := beq_iff_eq.mpr c102
                                have c102b1 : ((rd x17_0 x21_1) != ((rd_T44 l0 x18_0).f0)) = false := bne_eq_false_iff_eq.mpr c102
                                clear c102
                                have H' := Aside0.mk H
                                clear H
                                have pq439 : 0 ≤ (x21_1 : Int) := of_decide_eq_true (by first | (with_reducible assumption) | assumption)
                                have qq439 : x21_1 < ((x17_0.length : Int) : Int) := of_decide_eq_true (by first | (with_reducible assumption) | assumption)
                                obtain ⟨adq439, eq439, hxq439_0⟩ := Kd.at_int (SL.row_c HS.out).2.2 x21_1 pq439 qq439
                                cases eq439
                                replace pq439 := eq_true pq439
                                replace qq439 := eq_true qq439
                                go_wp2
                                go_roundg k2
                                case measure => have := HQ1.out; have := HQ2.out; omega
                                case rel => exact ⟨(x17_0), ((some adq439)), (cx17_0), (wrap64 (x18_0 + 1)), (by first | rfl | (simp; done) | (simp [*]; done)), (by first | rfl | (simp; done) | (simp [*]; done)), H', ⟨by have := HQ1.out; have := HQ2.out; omega⟩, HS, HK⟩
                              · rw [if_neg c102] at H
                                have c102b0 : ((rd x17_0 x21_1) == ((rd_T44 l0 x18_0).f0)) = false := beq_eq_false_iff_ne.mpr c102
                                have c102b1 : ((rd x17_0 x21_1) != ((rd_T44 l0 x18_0).f0)) = true := bne_iff_ne.mpr c102
                                replace H := Option.bind_eq_some_iff.1 H
                                obtain ⟨y460, hy4600, H⟩ := H
                                try dsimp only at H
                                have hy460 := Option.some.inj hy4600
                                clear hy4600
                                have Ny460 := Aside0.mk hy460
                                clear hy460
                                by_cases c103 : x21_1 ≤ (x17_0.length : Int)
                                · rw [if_pos c103] at H
                                  have c103b0 := eq_true c103
                                  have c103b1 : decide (x21_1 ≤ (x17_0.length : Int)) = true := decide_eq_true c103
                                  clear c103
                                  replace H := Option.bind_eq_some_iff.1 H
                                  obtain ⟨y461, hy4610, H⟩ := H
                                  try dsimp only at H
                                  have hy461 := Option.some.inj hy4610
                                  clear hy4610
                                  have Ny461 := Aside0.mk hy461
                                  clear hy461
                                  by_cases c104 : y460.length + y461.length < 17592186044416
                                  · rw [if_pos c104] at H
                                    have LMc104 := Aside0.mk c104
                                    clear c104
                                    replace H := Option.bind_eq_some_iff.1 H
                                    obtain ⟨y465, hy4650, H⟩ := H
                                    try dsimp only at H
                                    have hy465 := Option.some.inj hy4650
                                    clear hy4650
                                    have Ny465 := Aside0.mk hy465
                                    clear hy465
                                    replace H := Option.bind_eq_some_iff.1 H
                                    obtain ⟨y468, hy4680, H⟩ := H
                                    try dsimp only at H
                                    have hy468 := Option.some.inj hy4680
                                    clear hy4680
                                    have Ny468 := Aside0.mk hy468
                                    clear hy468
                                    by_cases c105 : y465.length + y468.length < 17592186044416
                                    · rw [if_pos c105] at H
                                      have LMc105 := Aside0.mk c105
                                      clear c105
                                      replace H := Option.bind_eq_some_iff.1 H
                                      obtain ⟨y469, hy4690, H⟩ := H
                                      try dsimp only at H
                                      have hy469 := Option.some.inj hy4690
                                      clear hy4690
                                      have Ny469 := Aside0.mk hy469
                                      clear hy469
                                      replace H := Option.bind_eq_some_iff.1 H
                                      obtain ⟨y472, hy4720, H⟩ := H
                                      try dsimp only at H
                                      have hy472 := Option.some.inj hy4720
                                      clear hy4720
                                      have Ny472 := Aside0.mk hy472
                                      clear hy472
                                      by_cases c106 : y469.length + y472.length < 17592186044416
                                      · rw [if_pos c106] at H
                                        have LMc106 := Aside0.mk c106
                                        clear c106
                                        replace H := Option.bind_eq_some_iff.1 H
                                        obtain ⟨y476, hy4760, H⟩ := H
                                        try dsimp only at H
                                        have hy476 := Option.some.inj hy4760
                                        clear hy4760
                                        have Ny476 := Aside0.mk hy476
                                        clear hy476
                                        have H' := Aside0.mk H
                                        clear H
                                        have pq439 : 0 ≤ (x21_1 : Int) := of_decide_eq_true (by first | (with_reducible assumption) | assumption)
                                        have qq439 : x21_1 < ((x17_0.length : Int) : Int) := of_decide_eq_true (by first | (with_reducible assumption) | assumption)
                                        obtain ⟨adq439, eq439, hxq439_0⟩ := Kd.at_int (SL.row_c HS.out).2.2 x21_1 pq439 qq439
                                        cases eq439
                                        replace pq439 := eq_true pq439
                                        replace qq439 := eq_true qq439
                                        try go_wp2
                                        have hv_ := cut_upto (P := Try.prog) (Kd.int .i64) 26 3 .i64 .i64 Try.underlying26 (by kernel_rfl) rfl (some adq439) x17_0.length cx17_0 x17_0 rfl (SL.row_c HS.out).2.1 x21_1 (of_decide_eq_true (by first | (with_reducible assumption) | assumption) : (0 : Int) ≤ (x21_1 : Int)) (of_decide_eq_true (by first | (with_reducible assumption) | assumption) : (x21_1 : Int) ≤ ((x17_0.length : Int) : Int)) y461 Ny461.out
                                        obtain ⟨hcvq464, hcs_, hcc_, hcl_⟩ := hv_
                                        have HVq464 := Aside0.mk (And.intro True.intro hcc_)
                                        have HCq464 := Aside0.mk hcl_
                                        clear hcs_ hcc_ hcl_
                                        obtain ⟨A473, c474, hcvq475, hcs_, hcc_, hcl_⟩ := cut_of (P := Try.prog) (Kd.int .i64) 26 3 .i64 .i64 Try.underlying26 (by kernel_rfl) rfl (some adq439) x17_0.length cx17_0 x17_0 rfl (SL.row_c HS.out).2.1 x21_1 (of_decide_eq_true (by first | (with_reducible assumption) | assumption) : (0 : Int) ≤ (x21_1 : Int)) (of_decide_eq_true (by first | (with_reducible assumption) | assumption) : (x21_1 : Int) ≤ ((x17_0.length : Int) : Int)) y472 Ny472.out
                                        have HVq475 := Aside0.mk (And.intro True.intro hcc_)
                                        have HCq475 := Aside0.mk hcl_
                                        clear hcs_ hcc_ hcl_
                                        refine start_ (n := 13) (S := fun w' => True) (ds := []) #[false, false, false, false, false, false, false, false, false, false, false, false, false] (by kernel_rfl) rfl rfl trivial (fun hHeld => ?_); refine with_tabW barrowref38_Hear.tab13 barrowref38_Hear.bits13 (fun HT_ HW_ => ?_)
                                        replace HK := Aside0.mk (Keep.drew HK.out)
                                        replace HS := Aside0.mk (SL.drew HS.out)
                                        refine pure_ (i := 1) (N := some 90) (v := ?_) (a' := ?_) #[false, true, false, false, false, false, false, false, false, false, false, false, false] rfl rfl (any_of HT_.out (by kernel_rfl)) (fun _ _ _ h => h) (Or.inl ⟨by rfl, ?_⟩) ?_ ?_; rotate_left; · (intro w'; go_simp; with_reducible rfl)
                                        rotate_left; · (simp only [Act.put, sT, sZ, sS, i64_w, i32_w]; rfl)
                                        refine pure_ (i := 2) (N := some 91) (v := ?_) (a' := ?_) #[false, true, true, false, false, false, false, false, false, false, false, false, false] rfl rfl (any_of HT_.out (by kernel_rfl)) (fun _ _ _ h => h) (Or.inl ⟨by rfl, ?_⟩) ?_ ?_; rotate_left; · (intro w'; go_simp; with_reducible rfl)
                                        rotate_left; · (simp only [Act.put, sT, sZ, sS, i64_w, i32_w]; rfl)
                                        refine pure_ (i := 3) (N := some 92) (v := ?_) (a' := ?_) #[false, true, true, true, false, false, false, false, false, false, false, false, false] rfl rfl (any_of HT_.out (by kernel_rfl)) (fun _ _ _ h => h) (Or.inl ⟨by rfl, ?_⟩) ?_ ?_; rotate_left; · (intro w'; go_simp; with_reducible rfl)
                                        rotate_left; · (simp only [Act.put, sT, sZ, sS, i64_w, i32_w]; rfl)
                                        refine pure_ (i := 5) (N := some 94) (v := ?_) (a' := ?_) #[false, true, true, true, false, true, false, false, false, false, false, false, false] rfl rfl (any_of HT_.out (by kernel_rfl)) (fun _ _ _ h => h) (Or.inl ⟨by rfl, ?_⟩) ?_ ?_; rotate_left; · (intro w'; go_simp; with_reducible rfl)
                                        rotate_left; · (simp only [Act.put, sT, sZ, sS, i64_w, i32_w]; rfl)
                                        refine pure_ (i := 8) (N := some 97) (v := ?_) (a' := ?_) #[false, true, true, true, false, true, false, false, true, false, false, false, false] rfl rfl (any_of HT_.out (by kernel_rfl)) (fun _ _ _ h => h) (Or.inl ⟨by rfl, ?_⟩) ?_ ?_; rotate_left; · (intro w'; go_simp; with_reducible rfl)
                                        rotate_left; · (simp only [Act.put, sT, sZ, sS, i64_w, i32_w]; rfl)
                                        refine pure_ (i := 9) (N := some 98) (v := ?_) (a' := ?_) #[false, true, true, true, false, true, false, false, true, true, false, false, false] rfl rfl (any_of HT_.out (by kernel_rfl)) (fun _ _ _ h => h) (Or.inl ⟨by rfl, ?_⟩) ?_ ?_; rotate_left; · (intro w'; go_simp; with_reducible rfl)
                                        rotate_left; · (simp only [Act.put, sT, sZ, sS, i64_w, i32_w]; rfl)
                                        refine pure_ (i := 10) (N := some 99) (v := ?_) (a' := ?_) #[false, true, true, true, false, true, false, false, true, true, true, false, false] rfl rfl (any_of HT_.out (by kernel_rfl)) (fun _ _ _ h => h) (Or.inl ⟨by rfl, ?_⟩) ?_ ?_; rotate_left; · (intro w'; go_simp; with_reducible rfl)
                                        rotate_left; · (simp only [Act.put, sT, sZ, sS, i64_w, i32_w]; rfl)
                                        refine join_ (σ := Option Addr × Nat × Option Addr × Nat × Option Addr × Nat) 3 #[true, true, true, true, true, true, true, false, true, true, true, false, false] (fun s_ => [(89, .slice s_.2.2.1 0 s_.2.2.2.1), (93, .slice s_.1 y465.length s_.2.1), (95, .slice s_.2.2.2.2.1 1 s_.2.2.2.2.2)]) (fun s_ w_ => Keep S w w_ ∧ SL (row (Kd.int .i64) 3 (.slice s_.1 y465.length s_.2.1) y465 :: row (Kd.int .i64) 3 (.slice s_.2.2.2.2.1 1 s_.2.2.2.2.2) y468 :: row (Kd.int .i64) 3 (.slice (some adq439) x17_0.length cx17_0) x17_0 :: cells g3000043 42 [.int .i64 t434, .int .i64 t435].toArray :: L) w_ S) ?_ ?_; rotate_left
                                        · intro hCont
                                          refine two_ (i := 0) (j := 6) (Ni := some 89) (Nj := some 95) #[true, true, true, true, false, true, false, false, true, true, true, false, false] #[false, true, true, true, false, true, true, false, true, true, true, false, false] rfl rfl rfl rfl (two_of HT_.out (by kernel_rfl)) (by decide) (by decide) (fun K hK => ?_) (fun K hK => ?_)
                                          · skip
                                            refine st_of (by rfl) ?_
                                            refine op_row (S := S) (enc := Value.int .i64) (h1 := fun _ => rfl) 3 y460 #[] 0 (by rw [← Ny460.out]; rfl) (by rw [← Ny460.out]; rfl) (by decide) (HF.out.keep HK.out) HS.out (by first | (go_simp; done) | (go_simp; rfl)) ?_
                                            intro Az3000044 cz3000044 w113 hs_ hk_
                                            replace HS := Aside0.mk ((show SL (row (Kd.int .i64) 3 (.slice Az3000044 0 cz3000044) y460 :: _) _ _ from hs_))
                                            replace HK := Aside0.mk (HK.out.trans hk_)
                                            refine hK.out _ _ trivial (fun hHeld => ?_)
                                            clear hK K
                                            refine norm_ (a' := ?_) ?_ ?_; rotate_left
                                            · show Act.put _ (some 89) _ = _
                                              simp only [Act.put, sT, sZ, sS, i64_w, i32_w]
                                              rfl
                                            refine two_ (i := 4) (j := 6) (Ni := some 93) (Nj := some 95) #[true, true, true, true, true, true, false, false, true, true, true, false, false] #[true, true, true, true, false, true, true, false, true, true, true, false, false] rfl rfl rfl rfl (two_of HT_.out (by kernel_rfl)) (by decide) (by decide) (fun K hK => ?_) (fun K hK => ?_)
                                            · skip
                                              replace HS := Aside0.mk (SL.get2 (SL.get2 HS.out))
                                              refine st_of (by rfl) ?_
                                              refine op_append (S := S) (enc := Value.int .i64) (h1 := fun _ => rfl) 0 (.tmp 89) (.tmp 92) 26 3 (.int .i64 0) 8 rfl Try.underlying26 info3 rfl (by decide) (.slice Az3000044 0 cz3000044) rfl rfl (HF.out.keep HK.out) (SL.get2 HS.out) (And.right HVq464.out _ (SL.row_c HS.out).2.2) (by have := LMc104.out; omega) y465 Ny465.out ?_
                                              intro A466 c467 w114 hs_ hk_
                                              replace HS := Aside0.mk ((SL.back2 (show SL (row (Kd.int .i64) 3 (.slice A466 y465.length c467) y465 :: _) _ _ from hs_)))
                                              replace HK := Aside0.mk (HK.out.trans hk_)
                                              refine hK.out _ _ trivial (fun hHeld => ?_)
                                              clear hK K
                                              refine norm_ (a' := ?_) ?_ ?_; rotate_left
                                              · show Act.put _ (some 93) _ = _
                                                simp only [Act.put, sT, sZ, sS, i64_w, i32_w]
                                                rfl
                                              refine one_ (i := 6) (N := some 95) #[true, true, true, true, true, true, true, false, true, true, true, false, false] rfl rfl (one_of HT_.out (by kernel_rfl)) (by decide) (fun K hK => ?_)
                                              refine st_of (by rfl) ?_
                                              refine op_row (S := S) (enc := Value.int .i64) (h1 := fun _ => rfl) 3 y468 #[.int .i64 ((rd_T44 l0 x18_0).f0)] 1 (by rw [← Ny468.out]; rfl) (by rw [← Ny468.out]; rfl) (by decide) (HF.out.keep HK.out) HS.out (by first | (go_simp; done) | (go_simp; rfl)) ?_
                                              intro Az3000045 cz3000045 w115 hs_ hk_
                                              replace HS := Aside0.mk ((show SL (row (Kd.int .i64) 3 (.slice Az3000045 1 cz3000045) y468 :: _) _ _ from hs_))
                                              replace HK := Aside0.mk (HK.out.trans hk_)
                                              refine hK.out _ _ trivial (fun hHeld => ?_)
                                              clear hK K
                                              refine norm_ (a' := ?_) ?_ ?_; rotate_left
                                              · show Act.put _ (some 95) _ = _
                                                simp only [Act.put, sT, sZ, sS, i64_w, i32_w]
                                                rfl
                                              exact norm_ (by simp only [putAll, Act.put, sT, sZ, sS]) (hCont (A466, c467, Az3000044, cz3000044, Az3000045, cz3000045) _ ⟨HK.out, (SL.get3 (SL.get2 (SL.get2 (SL.get2 HS.out))))⟩)
                                            · skip
                                              replace HS := Aside0.mk (SL.get2 (SL.get2 HS.out))
                                              refine st_of (by rfl) ?_
                                              refine op_row (S := S) (enc := Value.int .i64) (h1 := fun _ => rfl) 3 y468 #[.int .i64 ((rd_T44 l0 x18_0).f0)] 1 (by rw [← Ny468.out]; rfl) (by rw [← Ny468.out]; rfl) (by decide) (HF.out.keep HK.out) HS.out (by first | (go_simp; done) | (go_simp; rfl)) ?_
                                              intro Az3000045 cz3000045 w116 hs_ hk_
                                              replace HS := Aside0.mk ((show SL (row (Kd.int .i64) 3 (.slice Az3000045 1 cz3000045) y468 :: _) _ _ from hs_))
                                              replace HK := Aside0.mk (HK.out.trans hk_)
                                              refine hK.out _ _ trivial (fun hHeld => ?_)
                                              clear hK K
                                              refine norm_ (a' := ?_) ?_ ?_; rotate_left
                                              · show Act.put _ (some 95) _ = _
                                                simp only [Act.put, sT, sZ, sS, i64_w, i32_w]
                                                rfl
                                              refine one_ (i := 4) (N := some 93) #[true, true, true, true, true, true, true, false, true, true, true, false, false] rfl rfl (one_of HT_.out (by kernel_rfl)) (by decide) (fun K hK => ?_)
                                              replace HS := Aside0.mk (SL.get3 (SL.get3 (SL.get3 HS.out)))
                                              refine st_of (by rfl) ?_
                                              refine op_append (S := S) (enc := Value.int .i64) (h1 := fun _ => rfl) 0 (.tmp 89) (.tmp 92) 26 3 (.int .i64 0) 8 rfl Try.underlying26 info3 rfl (by decide) (.slice Az3000044 0 cz3000044) rfl rfl (HF.out.keep HK.out) (SL.get2 HS.out) (And.right HVq464.out _ (SL.row_c HS.out).2.2) (by have := LMc104.out; omega) y465 Ny465.out ?_
                                              intro A466 c467 w117 hs_ hk_
                                              replace HS := Aside0.mk ((SL.back2 (show SL (row (Kd.int .i64) 3 (.slice A466 y465.length c467) y465 :: _) _ _ from hs_)))
                                              replace HK := Aside0.mk (HK.out.trans hk_)
                                              refine hK.out _ _ trivial (fun hHeld => ?_)
                                              clear hK K
                                              refine norm_ (a' := ?_) ?_ ?_; rotate_left
                                              · show Act.put _ (some 93) _ = _
                                                simp only [Act.put, sT, sZ, sS, i64_w, i32_w]
                                                rfl
                                              exact norm_ (by simp only [putAll, Act.put, sT, sZ, sS]) (hCont (A466, c467, Az3000044, cz3000044, Az3000045, cz3000045) _ ⟨HK.out, (SL.get3 (SL.get3 (SL.get1 (SL.get1 HS.out))))⟩)
                                          · skip
                                            refine st_of (by rfl) ?_
                                            refine op_row (S := S) (enc := Value.int .i64) (h1 := fun _ => rfl) 3 y468 #[.int .i64 ((rd_T44 l0 x18_0).f0)] 1 (by rw [← Ny468.out]; rfl) (by rw [← Ny468.out]; rfl) (by decide) (HF.out.keep HK.out) HS.out (by first | (go_simp; done) | (go_simp; rfl)) ?_
                                            intro Az3000045 cz3000045 w118 hs_ hk_
                                            replace HS := Aside0.mk ((show SL (row (Kd.int .i64) 3 (.slice Az3000045 1 cz3000045) y468 :: _) _ _ from hs_))
                                            replace HK := Aside0.mk (HK.out.trans hk_)
                                            refine hK.out _ _ trivial (fun hHeld => ?_)
                                            clear hK K
                                            refine norm_ (a' := ?_) ?_ ?_; rotate_left
                                            · show Act.put _ (some 95) _ = _
                                              simp only [Act.put, sT, sZ, sS, i64_w, i32_w]
                                              rfl
                                            refine one_ (i := 0) (N := some 89) #[true, true, true, true, false, true, true, false, true, true, true, false, false] rfl rfl (one_of HT_.out (by kernel_rfl)) (by decide) (fun K hK => ?_)
                                            replace HS := Aside0.mk (SL.get2 (SL.get2 HS.out))
                                            refine st_of (by rfl) ?_
                                            refine op_row (S := S) (enc := Value.int .i64) (h1 := fun _ => rfl) 3 y460 #[] 0 (by rw [← Ny460.out]; rfl) (by rw [← Ny460.out]; rfl) (by decide) (HF.out.keep HK.out) HS.out (by first | (go_simp; done) | (go_simp; rfl)) ?_
                                            intro Az3000044 cz3000044 w119 hs_ hk_
                                            replace HS := Aside0.mk ((show SL (row (Kd.int .i64) 3 (.slice Az3000044 0 cz3000044) y460 :: _) _ _ from hs_))
                                            replace HK := Aside0.mk (HK.out.trans hk_)
                                            refine hK.out _ _ trivial (fun hHeld => ?_)
                                            clear hK K
                                            refine norm_ (a' := ?_) ?_ ?_; rotate_left
                                            · show Act.put _ (some 89) _ = _
                                              simp only [Act.put, sT, sZ, sS, i64_w, i32_w]
                                              rfl
                                            refine one_ (i := 4) (N := some 93) #[true, true, true, true, true, true, true, false, true, true, true, false, false] rfl rfl (one_of HT_.out (by kernel_rfl)) (by decide) (fun K hK => ?_)
                                            replace HS := Aside0.mk (SL.get3 (SL.get3 (SL.get3 HS.out)))
                                            refine st_of (by rfl) ?_
                                            refine op_append (S := S) (enc := Value.int .i64) (h1 := fun _ => rfl) 0 (.tmp 89) (.tmp 92) 26 3 (.int .i64 0) 8 rfl Try.underlying26 info3 rfl (by decide) (.slice Az3000044 0 cz3000044) rfl rfl (HF.out.keep HK.out) (SL.get3 HS.out) (And.right HVq464.out _ (SL.row_c HS.out).2.2) (by have := LMc104.out; omega) y465 Ny465.out ?_
                                            intro A466 c467 w120 hs_ hk_
                                            replace HS := Aside0.mk ((SL.back3 (show SL (row (Kd.int .i64) 3 (.slice A466 y465.length c467) y465 :: _) _ _ from hs_)))
                                            replace HK := Aside0.mk (HK.out.trans hk_)
                                            refine hK.out _ _ trivial (fun hHeld => ?_)
                                            clear hK K
                                            refine norm_ (a' := ?_) ?_ ?_; rotate_left
                                            · show Act.put _ (some 93) _ = _
                                              simp only [Act.put, sT, sZ, sS, i64_w, i32_w]
                                              rfl
                                            exact norm_ (by simp only [putAll, Act.put, sT, sZ, sS]) (hCont (A466, c467, Az3000044, cz3000044, Az3000045, cz3000045) _ ⟨HK.out, (SL.get3 (SL.get2 (SL.get1 (SL.get1 HS.out))))⟩)
                                        rintro ⟨A466, c467, Az3000044, cz3000044, Az3000045, cz3000045⟩ w112 ⟨hk_, hs_⟩
                                        clear HK HS
                                        have HK := Aside0.mk hk_
                                        have HS := Aside0.mk hs_
                                        clear hk_ hs_
                                        have hHeld : True := trivial
                                        replace HS := Aside0.mk (SL.get3 (SL.get2 (SL.get3 (SL.get3 HS.out))))
                                        refine norm_ (a' := ?_) ?_ ?_; rotate_left; · (simp only [putAll, Act.put, sT, sZ, sS]; rfl)
                                        refine one_ (i := 7) (N := some 96) #[true, true, true, true, true, true, true, true, true, true, true, false, false] rfl rfl (one_of HT_.out (by kernel_rfl)) (by decide) (fun K hK => ?_)
                                        refine st_of (by rfl) ?_
                                        refine op_append (S := S) (enc := Value.int .i64) (h1 := fun _ => rfl) 0 (.tmp 93) (.tmp 95) 26 3 (.int .i64 0) 8 rfl Try.underlying26 info3 rfl (by decide) (.slice A466 y465.length c467) rfl rfl (HF.out.keep HK.out) (SL.get1 HS.out) (SL.row_c HS.out).2.2 (by have := LMc105.out; have e_ := (SL.row_c HS.out).1; omega) y469 Ny469.out ?_
                                        intro A470 c471 w110 hs_ hk_
                                        replace HS := Aside0.mk ((SL.back1 (show SL (row (Kd.int .i64) 3 (.slice A470 y469.length c471) y469 :: _) _ _ from hs_)))
                                        replace HK := Aside0.mk (HK.out.trans hk_)
                                        refine hK.out _ _ trivial (fun hHeld => ?_)
                                        clear hK K
                                        refine norm_ (a' := ?_) ?_ ?_; rotate_left
                                        · show Act.put _ (some 96) _ = _
                                          simp only [Act.put, sT, sZ, sS, i64_w, i32_w]
                                          rfl
                                        refine one_ (i := 11) (N := some 100) #[true, true, true, true, true, true, true, true, true, true, true, true, false] rfl rfl (one_of HT_.out (by kernel_rfl)) (by decide) (fun K hK => ?_)
                                        refine st_of (by rfl) ?_
                                        refine op_append (S := S) (enc := Value.int .i64) (h1 := fun _ => rfl) 0 (.tmp 96) (.tmp 99) 26 3 (.int .i64 0) 8 rfl Try.underlying26 info3 rfl (by decide) (.slice A470 y469.length c471) rfl rfl (HF.out.keep HK.out) (SL.get1 HS.out) (And.right HVq475.out _ (SL.row_c (SL.get2 HS.out)).2.2) (by have := LMc106.out; omega) y476 Ny476.out ?_
                                        intro A477 c478 w111 hs_ hk_
                                        replace HS := Aside0.mk ((SL.back1 (show SL (row (Kd.int .i64) 3 (.slice A477 y476.length c478) y476 :: _) _ _ from hs_)))
                                        replace HK := Aside0.mk (HK.out.trans hk_)
                                        refine hK.out _ _ trivial (fun hHeld => ?_)
                                        clear hK K
                                        refine norm_ (a' := ?_) ?_ ?_; rotate_left
                                        · show Act.put _ (some 100) _ = _
                                          simp only [Act.put, sT, sZ, sS, i64_w, i32_w]
                                          rfl
                                        refine pure_ (i := 12) (N := some 17) (v := ?_) (a' := ?_) #[true, true, true, true, true, true, true, true, true, true, true, true, true] rfl rfl (any_of HT_.out (by kernel_rfl)) (fun _ _ _ h => h) (Or.inl ⟨by rfl, ?_⟩) ?_ ?_; rotate_left; · (intro w'; go_simp; with_reducible rfl)
                                        rotate_left; · (simp only [Act.put, sT, sZ, sS, i64_w, i32_w]; rfl)
                                        refine done_ (done_of HT_.out (by kernel_rfl)) ?_
                                        try go_wp2
                                        replace HS := Aside0.mk (SL.tail (SL.get1 (SL.tail HS.out)))
                                        go_roundg k2
                                        case measure => have := HQ1.out; have := HQ2.out; omega
                                        case rel => exact ⟨(y476), (A477), (c478), (wrap64 (x18_0 + 1)), (by first | rfl | (simp; done) | (simp [*]; done)), (by first | rfl | (simp; done) | (simp [*]; done)), H', ⟨by have := HQ1.out; have := HQ2.out; omega⟩, HS, HK⟩
                                      · rw [if_neg c106] at H
                                        exact absurd H (by simp)
                                    · rw [if_neg c105] at H
                                      exact absurd H (by simp)
                                  · rw [if_neg c104] at H
                                    exact absurd H (by simp)
                                · rw [if_neg c103] at H
                                  exact absurd H (by simp)
                        · rw [if_neg c81] at H
                          exact absurd H (by simp)
                      · rw [if_neg c80] at H
                        have c80b0 : decide (x21_1 < (x17_0.length : Int)) = false := decide_eq_false c80
                        clear c80
                        by_cases c121 : x21_1 = (x17_0.length : Int)
                        · rw [if_pos c121] at H
                          have c121b0 : (x21_1 == (x17_0.length : Int)) = true := beq_iff_eq.mpr c121
                          have c121b1 : (x21_1 != (x17_0.length : Int)) = false := bne_eq_false_iff_eq.mpr c121
                          clear c121
                          replace H := Option.bind_eq_some_iff.1 H
                          obtain ⟨y479, hy4790, H⟩ := H
                          try dsimp only at H
                          have hy479 := Option.some.inj hy4790
                          clear hy4790
                          have Ny479 := Aside0.mk hy479
                          clear hy479
                          by_cases c122 : 0 ≤ x21_1
                          · rw [if_pos c122] at H
                            have c122b0 := eq_true c122
                            have c122b1 : decide (0 ≤ x21_1) = true := decide_eq_true c122
                            clear c122
                            by_cases c123 : x21_1 ≤ (x17_0.length : Int)
                            · rw [if_pos c123] at H
                              have c123b0 := eq_true c123
                              have c123b1 : decide (x21_1 ≤ (x17_0.length : Int)) = true := decide_eq_true c123
                              clear c123
                              replace H := Option.bind_eq_some_iff.1 H
                              obtain ⟨y480, hy4800, H⟩ := H
                              try dsimp only at H
                              have hy480 := Option.some.inj hy4800
                              clear hy4800
                              have Ny480 := Aside0.mk hy480
                              clear hy480
                              by_cases c124 : y479.length + y480.length < 17592186044416
                              · rw [if_pos c124] at H
                                have LMc124 := Aside0.mk c124
                                clear c124
                                replace H := Option.bind_eq_some_iff.1 H
                                obtain ⟨y484, hy4840, H⟩ := H
                                try dsimp only at H
                                have hy484 := Option.some.inj hy4840
                                clear hy4840
                                have Ny484 := Aside0.mk hy484
                                clear hy484
                                replace H := Option.bind_eq_some_iff.1 H
                                obtain ⟨y487, hy4870, H⟩ := H
                                try dsimp only at H
                                have hy487 := Option.some.inj hy4870
                                clear hy4870
                                have Ny487 := Aside0.mk hy487
                                clear hy487
                                by_cases c125 : y484.length + y487.length < 17592186044416
                                · rw [if_pos c125] at H
                                  have LMc125 := Aside0.mk c125
                                  clear c125
                                  replace H := Option.bind_eq_some_iff.1 H
                                  obtain ⟨y488, hy4880, H⟩ := H
                                  try dsimp only at H
                                  have hy488 := Option.some.inj hy4880
                                  clear hy4880
                                  have Ny488 := Aside0.mk hy488
                                  clear hy488
                                  replace H := Option.bind_eq_some_iff.1 H
                                  obtain ⟨y491, hy4910, H⟩ := H
                                  try dsimp only at H
                                  have hy491 := Option.some.inj hy4910
                                  clear hy4910
                                  have Ny491 := Aside0.mk hy491
                                  clear hy491
                                  by_cases c126 : y488.length + y491.length < 17592186044416
                                  · rw [if_pos c126] at H
                                    have LMc126 := Aside0.mk c126
                                    clear c126
                                    replace H := Option.bind_eq_some_iff.1 H
                                    obtain ⟨y495, hy4950, H⟩ := H
                                    try dsimp only at H
                                    have hy495 := Option.some.inj hy4950
                                    clear hy4950
                                    have Ny495 := Aside0.mk hy495
                                    clear hy495
                                    have H' := Aside0.mk H
                                    clear H
                                    try go_wp2
                                    have hv_ := cut_upto (P := Try.prog) (Kd.int .i64) 26 3 .i64 .i64 Try.underlying26 (by kernel_rfl) rfl Ax17_0 x17_0.length cx17_0 x17_0 rfl (SL.row_c HS.out).2.1 x21_1 (of_decide_eq_true (by first | (with_reducible assumption) | assumption) : (0 : Int) ≤ (x21_1 : Int)) (of_decide_eq_true (by first | (with_reducible assumption) | assumption) : (x21_1 : Int) ≤ ((x17_0.length : Int) : Int)) y480 Ny480.out
                                    obtain ⟨hcvq483, hcs_, hcc_, hcl_⟩ := hv_
                                    have HVq483 := Aside0.mk (And.intro True.intro hcc_)
                                    have HCq483 := Aside0.mk hcl_
                                    clear hcs_ hcc_ hcl_
                                    obtain ⟨A492, c493, hcvq494, hcs_, hcc_, hcl_⟩ := cut_of (P := Try.prog) (Kd.int .i64) 26 3 .i64 .i64 Try.underlying26 (by kernel_rfl) rfl Ax17_0 x17_0.length cx17_0 x17_0 rfl (SL.row_c HS.out).2.1 x21_1 (of_decide_eq_true (by first | (with_reducible assumption) | assumption) : (0 : Int) ≤ (x21_1 : Int)) (of_decide_eq_true (by first | (with_reducible assumption) | assumption) : (x21_1 : Int) ≤ ((x17_0.length : Int) : Int)) y491 Ny491.out
                                    have HVq494 := Aside0.mk (And.intro True.intro hcc_)
                                    have HCq494 := Aside0.mk hcl_
                                    clear hcs_ hcc_ hcl_
                                    refine start_ (n := 13) (S := fun w' => True) (ds := []) #[false, false, false, false, false, false, false, false, false, false, false, false, false] (by kernel_rfl) rfl rfl trivial (fun hHeld => ?_); refine with_tabW barrowref38_Hear.tab13 barrowref38_Hear.bits13 (fun HT_ HW_ => ?_)
                                    replace HK := Aside0.mk (Keep.drew HK.out)
                                    replace HS := Aside0.mk (SL.drew HS.out)
                                    refine pure_ (i := 1) (N := some 90) (v := ?_) (a' := ?_) #[false, true, false, false, false, false, false, false, false, false, false, false, false] rfl rfl (any_of HT_.out (by kernel_rfl)) (fun _ _ _ h => h) (Or.inl ⟨by rfl, ?_⟩) ?_ ?_; rotate_left; · (intro w'; go_simp; with_reducible rfl)
                                    rotate_left; · (simp only [Act.put, sT, sZ, sS, i64_w, i32_w]; rfl)
                                    refine pure_ (i := 2) (N := some 91) (v := ?_) (a' := ?_) #[false, true, true, false, false, false, false, false, false, false, false, false, false] rfl rfl (any_of HT_.out (by kernel_rfl)) (fun _ _ _ h => h) (Or.inl ⟨by rfl, ?_⟩) ?_ ?_; rotate_left; · (intro w'; go_simp; with_reducible rfl)
                                    rotate_left; · (simp only [Act.put, sT, sZ, sS, i64_w, i32_w]; rfl)
                                    refine pure_ (i := 3) (N := some 92) (v := ?_) (a' := ?_) #[false, true, true, true, false, false, false, false, false, false, false, false, false] rfl rfl (any_of HT_.out (by kernel_rfl)) (fun _ _ _ h => h) (Or.inl ⟨by rfl, ?_⟩) ?_ ?_; rotate_left; · (intro w'; go_simp; with_reducible rfl)
                                    rotate_left; · (simp only [Act.put, sT, sZ, sS, i64_w, i32_w]; rfl)
                                    refine pure_ (i := 5) (N := some 94) (v := ?_) (a' := ?_) #[false, true, true, true, false, true, false, false, false, false, false, false, false] rfl rfl (any_of HT_.out (by kernel_rfl)) (fun _ _ _ h => h) (Or.inl ⟨by rfl, ?_⟩) ?_ ?_; rotate_left; · (intro w'; go_simp; with_reducible rfl)
                                    rotate_left; · (simp only [Act.put, sT, sZ, sS, i64_w, i32_w]; rfl)
                                    refine pure_ (i := 8) (N := some 97) (v := ?_) (a' := ?_) #[false, true, true, true, false, true, false, false, true, false, false, false, false] rfl rfl (any_of HT_.out (by kernel_rfl)) (fun _ _ _ h => h) (Or.inl ⟨by rfl, ?_⟩) ?_ ?_; rotate_left; · (intro w'; go_simp; with_reducible rfl)
                                    rotate_left; · (simp only [Act.put, sT, sZ, sS, i64_w, i32_w]; rfl)
                                    refine pure_ (i := 9) (N := some 98) (v := ?_) (a' := ?_) #[false, true, true, true, false, true, false, false, true, true, false, false, false] rfl rfl (any_of HT_.out (by kernel_rfl)) (fun _ _ _ h => h) (Or.inl ⟨by rfl, ?_⟩) ?_ ?_; rotate_left; · (intro w'; go_simp; with_reducible rfl)
                                    rotate_left; · (simp only [Act.put, sT, sZ, sS, i64_w, i32_w]; rfl)
                                    refine pure_ (i := 10) (N := some 99) (v := ?_) (a' := ?_) #[false, true, true, true, false, true, false, false, true, true, true, false, false] rfl rfl (any_of HT_.out (by kernel_rfl)) (fun _ _ _ h => h) (Or.inl ⟨by rfl, ?_⟩) ?_ ?_; rotate_left; · (intro w'; go_simp; with_reducible rfl)
                                    rotate_left; · (simp only [Act.put, sT, sZ, sS, i64_w, i32_w]; rfl)
                                    refine join_ (σ := Option Addr × Nat × Option Addr × Nat × Option Addr × Nat) 3 #[true, true, true, true, true, true, true, false, true, true, true, false, false] (fun s_ => [(89, .slice s_.2.2.1 0 s_.2.2.2.1), (93, .slice s_.1 y484.length s_.2.1), (95, .slice s_.2.2.2.2.1 1 s_.2.2.2.2.2)]) (fun s_ w_ => Keep S w w_ ∧ SL (row (Kd.int .i64) 3 (.slice s_.1 y484.length s_.2.1) y484 :: row (Kd.int .i64) 3 (.slice s_.2.2.2.2.1 1 s_.2.2.2.2.2) y487 :: row (Kd.int .i64) 3 (.slice Ax17_0 x17_0.length cx17_0) x17_0 :: cells g3000043 42 [.int .i64 t434, .int .i64 t435].toArray :: L) w_ S) ?_ ?_; rotate_left
                                    · intro hCont
                                      refine two_ (i := 0) (j := 6) (Ni := some 89) (Nj := some 95) #[true, true, true, true, false, true, false, false, true, true, true, false, false] #[false, true, true, true, false, true, true, false, true, true, true, false, false] rfl rfl rfl rfl (two_of HT_.out (by kernel_rfl)) (by decide) (by decide) (fun K hK => ?_) (fun K hK => ?_)
                                      · skip
                                        refine st_of (by rfl) ?_
                                        refine op_row (S := S) (enc := Value.int .i64) (h1 := fun _ => rfl) 3 y479 #[] 0 (by rw [← Ny479.out]; rfl) (by rw [← Ny479.out]; rfl) (by decide) (HF.out.keep HK.out) HS.out (by first | (go_simp; done) | (go_simp; rfl)) ?_
                                        intro Az3000044 cz3000044 w133 hs_ hk_
                                        replace HS := Aside0.mk ((show SL (row (Kd.int .i64) 3 (.slice Az3000044 0 cz3000044) y479 :: _) _ _ from hs_))
                                        replace HK := Aside0.mk (HK.out.trans hk_)
                                        refine hK.out _ _ trivial (fun hHeld => ?_)
                                        clear hK K
                                        refine norm_ (a' := ?_) ?_ ?_; rotate_left
                                        · show Act.put _ (some 89) _ = _
                                          simp only [Act.put, sT, sZ, sS, i64_w, i32_w]
                                          rfl
                                        refine two_ (i := 4) (j := 6) (Ni := some 93) (Nj := some 95) #[true, true, true, true, true, true, false, false, true, true, true, false, false] #[true, true, true, true, false, true, true, false, true, true, true, false, false] rfl rfl rfl rfl (two_of HT_.out (by kernel_rfl)) (by decide) (by decide) (fun K hK => ?_) (fun K hK => ?_)
                                        · skip
                                          replace HS := Aside0.mk (SL.get2 (SL.get2 HS.out))
                                          refine st_of (by rfl) ?_
                                          refine op_append (S := S) (enc := Value.int .i64) (h1 := fun _ => rfl) 0 (.tmp 89) (.tmp 92) 26 3 (.int .i64 0) 8 rfl Try.underlying26 info3 rfl (by decide) (.slice Az3000044 0 cz3000044) rfl rfl (HF.out.keep HK.out) (SL.get2 HS.out) (And.right HVq483.out _ (SL.row_c HS.out).2.2) (by have := LMc124.out; omega) y484 Ny484.out ?_
                                          intro A485 c486 w134 hs_ hk_
                                          replace HS := Aside0.mk ((SL.back2 (show SL (row (Kd.int .i64) 3 (.slice A485 y484.length c486) y484 :: _) _ _ from hs_)))
                                          replace HK := Aside0.mk (HK.out.trans hk_)
                                          refine hK.out _ _ trivial (fun hHeld => ?_)
                                          clear hK K
                                          refine norm_ (a' := ?_) ?_ ?_; rotate_left
                                          · show Act.put _ (some 93) _ = _
                                            simp only [Act.put, sT, sZ, sS, i64_w, i32_w]
                                            rfl
                                          refine one_ (i := 6) (N := some 95) #[true, true, true, true, true, true, true, false, true, true, true, false, false] rfl rfl (one_of HT_.out (by kernel_rfl)) (by decide) (fun K hK => ?_)
                                          refine st_of (by rfl) ?_
                                          refine op_row (S := S) (enc := Value.int .i64) (h1 := fun _ => rfl) 3 y487 #[.int .i64 ((rd_T44 l0 x18_0).f0)] 1 (by rw [← Ny487.out]; rfl) (by rw [← Ny487.out]; rfl) (by decide) (HF.out.keep HK.out) HS.out (by first | (go_simp; done) | (go_simp; rfl)) ?_
                                          intro Az3000045 cz3000045 w135 hs_ hk_
                                          replace HS := Aside0.mk ((show SL (row (Kd.int .i64) 3 (.slice Az3000045 1 cz3000045) y487 :: _) _ _ from hs_))
                                          replace HK := Aside0.mk (HK.out.trans hk_)
                                          refine hK.out _ _ trivial (fun hHeld => ?_)
                                          clear hK K
                                          refine norm_ (a' := ?_) ?_ ?_; rotate_left
                                          · show Act.put _ (some 95) _ = _
                                            simp only [Act.put, sT, sZ, sS, i64_w, i32_w]
                                            rfl
                                          exact norm_ (by simp only [putAll, Act.put, sT, sZ, sS]) (hCont (A485, c486, Az3000044, cz3000044, Az3000045, cz3000045) _ ⟨HK.out, (SL.get3 (SL.get2 (SL.get2 (SL.get2 HS.out))))⟩)
                                        · skip
                                          replace HS := Aside0.mk (SL.get2 (SL.get2 HS.out))
                                          refine st_of (by rfl) ?_
                                          refine op_row (S := S) (enc := Value.int .i64) (h1 := fun _ => rfl) 3 y487 #[.int .i64 ((rd_T44 l0 x18_0).f0)] 1 (by rw [← Ny487.out]; rfl) (by rw [← Ny487.out]; rfl) (by decide) (HF.out.keep HK.out) HS.out (by first | (go_simp; done) | (go_simp; rfl)) ?_
                                          intro Az3000045 cz3000045 w136 hs_ hk_
                                          replace HS := Aside0.mk ((show SL (row (Kd.int .i64) 3 (.slice Az3000045 1 cz3000045) y487 :: _) _ _ from hs_))
                                          replace HK := Aside0.mk (HK.out.trans hk_)
                                          refine hK.out _ _ trivial (fun hHeld => ?_)
                                          clear hK K
                                          refine norm_ (a' := ?_) ?_ ?_; rotate_left
                                          · show Act.put _ (some 95) _ = _
                                            simp only [Act.put, sT, sZ, sS, i64_w, i32_w]
                                            rfl
                                          refine one_ (i := 4) (N := some 93) #[true, true, true, true, true, true, true, false, true, true, true, false, false] rfl rfl (one_of HT_.out (by kernel_rfl)) (by decide) (fun K hK => ?_)
                                          replace HS := Aside0.mk (SL.get3 (SL.get3 (SL.get3 HS.out)))
                                          refine st_of (by rfl) ?_
                                          refine op_append (S := S) (enc := Value.int .i64) (h1 := fun _ => rfl) 0 (.tmp 89) (.tmp 92) 26 3 (.int .i64 0) 8 rfl Try.underlying26 info3 rfl (by decide) (.slice Az3000044 0 cz3000044) rfl rfl (HF.out.keep HK.out) (SL.get2 HS.out) (And.right HVq483.out _ (SL.row_c HS.out).2.2) (by have := LMc124.out; omega) y484 Ny484.out ?_
                                          intro A485 c486 w137 hs_ hk_
                                          replace HS := Aside0.mk ((SL.back2 (show SL (row (Kd.int .i64) 3 (.slice A485 y484.length c486) y484 :: _) _ _ from hs_)))
                                          replace HK := Aside0.mk (HK.out.trans hk_)
                                          refine hK.out _ _ trivial (fun hHeld => ?_)
                                          clear hK K
                                          refine norm_ (a' := ?_) ?_ ?_; rotate_left
                                          · show Act.put _ (some 93) _ = _
                                            simp only [Act.put, sT, sZ, sS, i64_w, i32_w]
                                            rfl
                                          exact norm_ (by simp only [putAll, Act.put, sT, sZ, sS]) (hCont (A485, c486, Az3000044, cz3000044, Az3000045, cz3000045) _ ⟨HK.out, (SL.get3 (SL.get3 (SL.get1 (SL.get1 HS.out))))⟩)
                                      · skip
                                        refine st_of (by rfl) ?_
                                        refine op_row (S := S) (enc := Value.int .i64) (h1 := fun _ => rfl) 3 y487 #[.int .i64 ((rd_T44 l0 x18_0).f0)] 1 (by rw [← Ny487.out]; rfl) (by rw [← Ny487.out]; rfl) (by decide) (HF.out.keep HK.out) HS.out (by first | (go_simp; done) | (go_simp; rfl)) ?_
                                        intro Az3000045 cz3000045 w138 hs_ hk_
                                        replace HS := Aside0.mk ((show SL (row (Kd.int .i64) 3 (.slice Az3000045 1 cz3000045) y487 :: _) _ _ from hs_))
                                        replace HK := Aside0.mk (HK.out.trans hk_)
                                        refine hK.out _ _ trivial (fun hHeld => ?_)
                                        clear hK K
                                        refine norm_ (a' := ?_) ?_ ?_; rotate_left
                                        · show Act.put _ (some 95) _ = _
                                          simp only [Act.put, sT, sZ, sS, i64_w, i32_w]
                                          rfl
                                        refine one_ (i := 0) (N := some 89) #[true, true, true, true, false, true, true, false, true, true, true, false, false] rfl rfl (one_of HT_.out (by kernel_rfl)) (by decide) (fun K hK => ?_)
                                        replace HS := Aside0.mk (SL.get2 (SL.get2 HS.out))
                                        refine st_of (by rfl) ?_
                                        refine op_row (S := S) (enc := Value.int .i64) (h1 := fun _ => rfl) 3 y479 #[] 0 (by rw [← Ny479.out]; rfl) (by rw [← Ny479.out]; rfl) (by decide) (HF.out.keep HK.out) HS.out (by first | (go_simp; done) | (go_simp; rfl)) ?_
                                        intro Az3000044 cz3000044 w139 hs_ hk_
                                        replace HS := Aside0.mk ((show SL (row (Kd.int .i64) 3 (.slice Az3000044 0 cz3000044) y479 :: _) _ _ from hs_))
                                        replace HK := Aside0.mk (HK.out.trans hk_)
                                        refine hK.out _ _ trivial (fun hHeld => ?_)
                                        clear hK K
                                        refine norm_ (a' := ?_) ?_ ?_; rotate_left
                                        · show Act.put _ (some 89) _ = _
                                          simp only [Act.put, sT, sZ, sS, i64_w, i32_w]
                                          rfl
                                        refine one_ (i := 4) (N := some 93) #[true, true, true, true, true, true, true, false, true, true, true, false, false] rfl rfl (one_of HT_.out (by kernel_rfl)) (by decide) (fun K hK => ?_)
                                        replace HS := Aside0.mk (SL.get3 (SL.get3 (SL.get3 HS.out)))
                                        refine st_of (by rfl) ?_
                                        refine op_append (S := S) (enc := Value.int .i64) (h1 := fun _ => rfl) 0 (.tmp 89) (.tmp 92) 26 3 (.int .i64 0) 8 rfl Try.underlying26 info3 rfl (by decide) (.slice Az3000044 0 cz3000044) rfl rfl (HF.out.keep HK.out) (SL.get3 HS.out) (And.right HVq483.out _ (SL.row_c HS.out).2.2) (by have := LMc124.out; omega) y484 Ny484.out ?_
                                        intro A485 c486 w140 hs_ hk_
                                        replace HS := Aside0.mk ((SL.back3 (show SL (row (Kd.int .i64) 3 (.slice A485 y484.length c486) y484 :: _) _ _ from hs_)))
                                        replace HK := Aside0.mk (HK.out.trans hk_)
                                        refine hK.out _ _ trivial (fun hHeld => ?_)
                                        clear hK K
                                        refine norm_ (a' := ?_) ?_ ?_; rotate_left
                                        · show Act.put _ (some 93) _ = _
                                          simp only [Act.put, sT, sZ, sS, i64_w, i32_w]
                                          rfl
                                        exact norm_ (by simp only [putAll, Act.put, sT, sZ, sS]) (hCont (A485, c486, Az3000044, cz3000044, Az3000045, cz3000045) _ ⟨HK.out, (SL.get3 (SL.get2 (SL.get1 (SL.get1 HS.out))))⟩)
                                    rintro ⟨A485, c486, Az3000044, cz3000044, Az3000045, cz3000045⟩ w132 ⟨hk_, hs_⟩
                                    clear HK HS
                                    have HK := Aside0.mk hk_
                                    have HS := Aside0.mk hs_
                                    clear hk_ hs_
                                    have hHeld : True := trivial
                                    replace HS := Aside0.mk (SL.get3 (SL.get2 (SL.get3 (SL.get3 HS.out))))
                                    refine norm_ (a' := ?_) ?_ ?_; rotate_left; · (simp only [putAll, Act.put, sT, sZ, sS]; rfl)
                                    refine one_ (i := 7) (N := some 96) #[true, true, true, true, true, true, true, true, true, true, true, false, false] rfl rfl (one_of HT_.out (by kernel_rfl)) (by decide) (fun K hK => ?_)
                                    refine st_of (by rfl) ?_
                                    refine op_append (S := S) (enc := Value.int .i64) (h1 := fun _ => rfl) 0 (.tmp 93) (.tmp 95) 26 3 (.int .i64 0) 8 rfl Try.underlying26 info3 rfl (by decide) (.slice A485 y484.length c486) rfl rfl (HF.out.keep HK.out) (SL.get1 HS.out) (SL.row_c HS.out).2.2 (by have := LMc125.out; have e_ := (SL.row_c HS.out).1; omega) y488 Ny488.out ?_
                                    intro A489 c490 w130 hs_ hk_
                                    replace HS := Aside0.mk ((SL.back1 (show SL (row (Kd.int .i64) 3 (.slice A489 y488.length c490) y488 :: _) _ _ from hs_)))
                                    replace HK := Aside0.mk (HK.out.trans hk_)
                                    refine hK.out _ _ trivial (fun hHeld => ?_)
                                    clear hK K
                                    refine norm_ (a' := ?_) ?_ ?_; rotate_left
                                    · show Act.put _ (some 96) _ = _
                                      simp only [Act.put, sT, sZ, sS, i64_w, i32_w]
                                      rfl
                                    refine one_ (i := 11) (N := some 100) #[true, true, true, true, true, true, true, true, true, true, true, true, false] rfl rfl (one_of HT_.out (by kernel_rfl)) (by decide) (fun K hK => ?_)
                                    refine st_of (by rfl) ?_
                                    refine op_append (S := S) (enc := Value.int .i64) (h1 := fun _ => rfl) 0 (.tmp 96) (.tmp 99) 26 3 (.int .i64 0) 8 rfl Try.underlying26 info3 rfl (by decide) (.slice A489 y488.length c490) rfl rfl (HF.out.keep HK.out) (SL.get1 HS.out) (And.right HVq494.out _ (SL.row_c (SL.get2 HS.out)).2.2) (by have := LMc126.out; omega) y495 Ny495.out ?_
                                    intro A496 c497 w131 hs_ hk_
                                    replace HS := Aside0.mk ((SL.back1 (show SL (row (Kd.int .i64) 3 (.slice A496 y495.length c497) y495 :: _) _ _ from hs_)))
                                    replace HK := Aside0.mk (HK.out.trans hk_)
                                    refine hK.out _ _ trivial (fun hHeld => ?_)
                                    clear hK K
                                    refine norm_ (a' := ?_) ?_ ?_; rotate_left
                                    · show Act.put _ (some 100) _ = _
                                      simp only [Act.put, sT, sZ, sS, i64_w, i32_w]
                                      rfl
                                    refine pure_ (i := 12) (N := some 17) (v := ?_) (a' := ?_) #[true, true, true, true, true, true, true, true, true, true, true, true, true] rfl rfl (any_of HT_.out (by kernel_rfl)) (fun _ _ _ h => h) (Or.inl ⟨by rfl, ?_⟩) ?_ ?_; rotate_left; · (intro w'; go_simp; with_reducible rfl)
                                    rotate_left; · (simp only [Act.put, sT, sZ, sS, i64_w, i32_w]; rfl)
                                    refine done_ (done_of HT_.out (by kernel_rfl)) ?_
                                    try go_wp2
                                    replace HS := Aside0.mk (SL.tail (SL.get1 (SL.tail HS.out)))
                                    go_roundg k2
                                    case measure => have := HQ1.out; have := HQ2.out; omega
                                    case rel => exact ⟨(y495), (A496), (c497), (wrap64 (x18_0 + 1)), (by first | rfl | (simp; done) | (simp [*]; done)), (by first | rfl | (simp; done) | (simp [*]; done)), H', ⟨by have := HQ1.out; have := HQ2.out; omega⟩, HS, HK⟩
                                  · rw [if_neg c126] at H
                                    exact absurd H (by simp)
                                · rw [if_neg c125] at H
                                  exact absurd H (by simp)
                              · rw [if_neg c124] at H
                                exact absurd H (by simp)
                            · rw [if_neg c123] at H
                              exact absurd H (by simp)
                          · rw [if_neg c122] at H
                            exact absurd H (by simp)
                        · rw [if_neg c121] at H
                          have c121b0 : (x21_1 == (x17_0.length : Int)) = false := beq_eq_false_iff_ne.mpr c121
                          have c121b1 : (x21_1 != (x17_0.length : Int)) = true := bne_iff_ne.mpr c121
                          by_cases c141 : 0 ≤ x21_1
                          · rw [if_pos c141] at H
                            exact absurd H (by simp)
                          · rw [if_neg c141] at H
                            exact absurd H (by simp)
            · replace c9 := Bool.eq_false_iff.mpr c9
              subst c9
              rw [if_neg (show ¬ (false = true) by decide)] at H
              have H' := Aside0.mk H
              clear H
              have pq437 : 0 ≤ (x18_0 : Int) := of_decide_eq_true (by first | (with_reducible assumption) | assumption)
              have qq437 : x18_0 < ((l0.length : Int) : Int) := of_decide_eq_true (by first | (with_reducible assumption) | assumption)
              obtain ⟨adq437, eq437, hxq437_0, hxq437_1, hxq437_2⟩ := at_T44 (RO.at_ HR0.out HK.out) x18_0 pq437 qq437
              cases eq437
              replace pq437 := eq_true pq437
              replace qq437 := eq_true qq437
              go_wp2_with (first | ((with_reducible refine gate_dst (N := 49) rfl ?_); refine goesL_ (some 49) rfl rfl Try.func27 (by kernel_rfl) rfl #[.slice (some adq437) l0.length c0, .slice A1 l1.length c1, .int .i64 a3, .int .i64 a4, .int .i64 a5, .int .i64 a6, .int .i64 ((rd_T44 l0 x18_0).f0)] rfl (by (try simp only [List.map_toArray, List.map_cons, List.map_nil]); first | done | rfl | (simp; done)) ?_; (with_reducible refine (barrowref38_hears.calls k1 _ _ _ _ _ _ _ _ _ _ _ _ _ (RO.at_ HR0.out HK.out) HC0.out (RO.at_ HR1.out HK.out) HC1.out Hc8.out).mono ?_); rintro e_ w142 ⟨rfl, hb_⟩; refine ⟨_, rfl, ?_⟩; replace HS := Aside0.mk (HS.out.below hb_); replace HK := Aside0.mk (HK.out.trans (Keep.below hb_))))
              go_roundg k1
              case measure => have := HQ1.out; omega
              case rel => exact ⟨(x17_0), (Ax17_0), (cx17_0), (wrap64 (x18_0 + 1)), (by first | rfl | (simp; done) | (simp [*]; done)), (by first | rfl | (simp; done) | (simp [*]; done)), H', ⟨by have := HQ1.out; omega⟩, HS, HK⟩
          · rw [if_neg c7] at H
            exact absurd H (by simp)
        · replace c6 := Bool.eq_false_iff.mpr c6
          subst c6
          rw [if_neg (show ¬ (false = true) by decide)] at H
          obtain rfl := Option.some.inj H
          go_wp2
          go_ret
          replace HS := Aside0.mk (SL.tail (SL.get1 HS.out))
          unfold barrowref38_Hear.Post
          exact ⟨Ax17_0, cx17_0, by first | rfl | (simp; done) | (simp [*]; done) | (simp at c5b0 ⊢; first | exact c5b0 | (simp [c5b0]; done)), HS.out, HK.out⟩
      · rw [if_neg c5] at H
        have c5b0 : decide (x18_0 < (l0.length : Int)) = false := decide_eq_false c5
        clear c5
        obtain rfl := Option.some.inj H
        go_wp2
        go_ret
        replace HS := Aside0.mk (SL.tail (SL.get1 HS.out))
        unfold barrowref38_Hear.Post
        exact ⟨Ax17_0, cx17_0, by first | rfl | (simp; done) | (simp [*]; done) | (simp at c5b0 ⊢; first | exact c5b0 | (simp [c5b0]; done)), HS.out, HK.out⟩

end Go.Proofs.Ytdpeflbdoaccbaa.XCH
