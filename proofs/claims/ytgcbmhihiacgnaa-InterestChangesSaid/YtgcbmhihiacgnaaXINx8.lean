-- Written by xprint.py (a program of this session) for this claim
import Derived.Test.YtgcbmhihiacgnaaSL5
import Derived.Test.YtgcbmhihiacgnaaXINx0
import Derived.Test.YtgcbmhihiacgnaaXINx5
namespace Go.Proofs.Ytgcbmhihiacgnaa.XIN
open Go.Proofs.YtgcbmhihiacgnaaV Go.Proofs.YtgcbmhihiacgnaaS
open Go.RowKit Go.Proofs.YtgcbmhihiacgnaaW.PrintWords Go.Proofs.YtgcbmhihiacgnaaW.PrintLast Go.Proofs.YtgcbmhihiacgnaaW.PrintMore
attribute [local go_sem] max2_int min2_int max_two min_two max_three min_three max_four min_four   -- for this text's walks alone
set_option linter.unusedVariables false
set_option linter.unusedSimpArgs false

/-! ### barrowref24_put_i1: function 25 -/
def barrowref24_put_i1.l0 : Nat → (List Int) → Int → (List Int) → Int → Option ((List Int))
  | 0, _, _, _, _ => none
  | k + 1, l0, a1, x5_0, x6_0 => if x6_0 < (l0.length : Int) then (if 0 ≤ x6_0 then (if (rd l0 x6_0) < a1 then ((some (([rd l0 x6_0] : List Int) : List Int)).bind fun y352 => (if x5_0.length + y352.length < 17592186044416 then ((some (x5_0 ++ y352 : List Int)).bind fun y353 => (barrowref24_put_i1.l0 k l0 a1 y353 (wrap64 (x6_0 + 1)))) else (none))) else ((some (([a1] : List Int) : List Int)).bind fun y356 => (if x5_0.length + y356.length < 17592186044416 then ((some (x5_0 ++ y356 : List Int)).bind fun y357 => (if x6_0 ≤ (l0.length : Int) then ((some (l0.drop (x6_0).toNat : List Int)).bind fun y360 => (if y357.length + y360.length < 17592186044416 then ((some (y357 ++ y360 : List Int)).bind fun y364 => (some y364)) else (none))) else (none))) else (none)))) else (none)) else ((some (([a1] : List Int) : List Int)).bind fun y367 => (if x5_0.length + y367.length < 17592186044416 then ((some (x5_0 ++ y367 : List Int)).bind fun y368 => (if 0 ≤ x6_0 then (if x6_0 ≤ (l0.length : Int) then ((some (l0.drop (x6_0).toNat : List Int)).bind fun y371 => (if y368.length + y371.length < 17592186044416 then ((some (y368 ++ y371 : List Int)).bind fun y375 => (some y375)) else (none))) else (none)) else (none))) else (none)))
def barrowref24_put_i1.f (k : Nat) (l0 : List Int) (a1 : Int) : Option ((List Int)) := (barrowref24_has.f k l0 a1).bind fun t349 => (if t349 = true then (some l0) else (barrowref24_put_i1.l0 k l0 a1 ([] : List Int) 0))
theorem barrowref24_put_i1.mono_l : ∀ k, (∀ y0 y1 y2 y3, LeO (barrowref24_put_i1.l0 k y0 y1 y2 y3) (barrowref24_put_i1.l0 (k + 1) y0 y1 y2 y3))
  | 0 => fun _ _ _ _ r h => by simp [barrowref24_put_i1.l0] at h
  | k + 1 => by
    have ih0 := barrowref24_put_i1.mono_l k
    · intro y0 y1 y2 y3
      unfold barrowref24_put_i1.l0
      repeat' first
      | (with_reducible exact ih0 _ _ _ _)
      | (with_reducible exact barrowref24_has.mono _ _ _)
      | (with_reducible exact LeO.refl _)
      | (with_reducible exact LeO.none _)
      | (with_reducible refine LeO.ite ?_ ?_)
      | (with_reducible refine everyOf_le (fun _ => ?_))
      | (with_reducible refine LeO.bind ?_ (fun _ => ?_))
      | exact ih0 _ _ _ _
      | exact barrowref24_has.mono _ _ _
      | exact LeO.none _
      | refine LeO.ite ?_ ?_
      | refine LeO.bind ?_ (fun _ => ?_)
theorem barrowref24_put_i1.mono : ∀ a0 a1 k, LeO (barrowref24_put_i1.f k a0 a1) (barrowref24_put_i1.f (k + 1) a0 a1) := by
  intro a0 a1 k
  have ih0 := barrowref24_put_i1.mono_l k
  unfold barrowref24_put_i1.f
  repeat' first
      | (with_reducible exact ih0 _ _ _ _)
      | (with_reducible exact barrowref24_has.mono _ _ _)
      | (with_reducible exact LeO.refl _)
      | (with_reducible exact LeO.none _)
      | (with_reducible refine LeO.ite ?_ ?_)
      | (with_reducible refine everyOf_le (fun _ => ?_))
      | (with_reducible refine LeO.bind ?_ (fun _ => ?_))
      | exact ih0 _ _ _ _
      | exact barrowref24_has.mono _ _ _
      | exact LeO.none _
      | refine LeO.ite ?_ ?_
      | refine LeO.bind ?_ (fun _ => ?_)
def barrowref24_put_i1.T8 : Bool × List (List Nat × List Nat) := (true, [([], []), ([], []), ([1], [1]), ([0, 2], [0, 2]), ([], []), ([], []), ([4, 5], [4, 5]), ([3, 6, 3], [3, 6]), ([7, 7, 0, 1, 2, 3, 4, 5, 6, 7], [7])])
def barrowref24_put_i1.B8 : List Nat := [0, 0, 2, 7, 0, 0, 48, 127, 255]
theorem barrowref24_put_i1.tab8 : rtab .any (opsOf Try.f25 8) = barrowref24_put_i1.T8 := by kernel_rfl
theorem barrowref24_put_i1.bits8 : waitsOk barrowref24_put_i1.T8.2 barrowref24_put_i1.B8 = true := by kernel_rfl
def barrowref24_put_i1.Post (r : List Int) (S : Nat → Prop) (L : List Asr) (w : World) (e : Ending) (w' : World) : Prop := ∃ (Ar1 : Option Addr) (cr1 : Nat), e = .returned (.slice Ar1 r.length cr1) ∧ SL (row (Kd.int .i64) 3 (.slice Ar1 r.length cr1) r :: L) w' S ∧ Keep S w w'
set_option maxHeartbeats 8000000 in
set_option maxRecDepth 100000 in
theorem barrowref24_put_i1.slcalls (k : Nat) (A0 : Option Addr) (c0 : Nat) (l0 : List Int) (a1 : Int) (r : List Int) (S : Nat → Prop) (L : List Asr) (w : World) (hf : Fresh S w) (hs : SL (row (Kd.int .i64) 3 (.slice A0 l0.length c0) l0 :: L) w S) (h : barrowref24_put_i1.f k l0 a1 = some r) :
    Calls Try.prog 25 #[.slice A0 l0.length c0, .int .i64 a1] w (barrowref24_put_i1.Post r S L w) := by
  have HF := Aside0.mk hf
  have HS := Aside0.mk hs
  have HK := Aside0.mk (Keep.refl S w)
  clear hf hs
  have H : ((barrowref24_has.f k l0 a1).bind fun t349 => (if t349 = true then (some l0) else (barrowref24_put_i1.l0 k l0 a1 ([] : List Int) 0))) = some r := h
  clear h
  replace H := Option.bind_eq_some_iff.1 H
  obtain ⟨t349, Hc10, H⟩ := H
  try dsimp only at H
  have Hc1 := Aside0.mk Hc10
  clear Hc10
  by_cases c2 : t349 = true
  · subst c2
    rw [if_pos rfl] at H
    obtain rfl := Option.some.inj H
    go_enter Try.func25, Try.ntmps25
    go_wp2_with (first | ((with_reducible refine gate_dst (N := 9) rfl ?_); refine goesL_ (some 9) rfl rfl Try.func28 (by kernel_rfl) rfl #[.slice A0 l0.length c0, .int .i64 a1] rfl (by (try simp only [List.map_toArray, List.map_cons, List.map_nil]); first | done | rfl | (simp; done)) ?_; (with_reducible refine (barrowref24_has.calls k _ _ _ _ _ _ (SL.row_c HS.out).2.2 (SL.row_c HS.out).2.1 Hc1.out).mono ?_); rintro e_ w3 ⟨rfl, hb_⟩; refine ⟨_, rfl, ?_⟩; replace hb_ := Drawn0.below hb_; replace HS := Aside0.mk (HS.out.below hb_); replace HK := Aside0.mk (HK.out.trans (Keep.below hb_))))
    go_ret
    unfold barrowref24_put_i1.Post
    exact ⟨A0, c0, by first | rfl | (simp; done) | (simp [*]; done), HS.out, HK.out⟩
  · replace c2 := Bool.eq_false_iff.mpr c2
    subst c2
    rw [if_neg (show ¬ (false = true) by decide)] at H
    have H' := Aside0.mk H
    clear H
    go_enter Try.func25, Try.ntmps25
    go_wp2_with (first | ((with_reducible refine gate_dst (N := 9) rfl ?_); refine goesL_ (some 9) rfl rfl Try.func28 (by kernel_rfl) rfl #[.slice A0 l0.length c0, .int .i64 a1] rfl (by (try simp only [List.map_toArray, List.map_cons, List.map_nil]); first | done | rfl | (simp; done)) ?_; (with_reducible refine (barrowref24_has.calls k _ _ _ _ _ _ (SL.row_c HS.out).2.2 (SL.row_c HS.out).2.1 Hc1.out).mono ?_); rintro e_ w4 ⟨rfl, hb_⟩; refine ⟨_, rfl, ?_⟩; replace hb_ := Drawn0.below hb_; replace HS := Aside0.mk (HS.out.below hb_); replace HK := Aside0.mk (HK.out.trans (Keep.below hb_)); have n2_ := Aside0.mk (SL.nil_row (Kd.int .i64) 3 HS.out); clear HS; have HS := n2_; clear n2_))
    go_loopg [5, 6] k (fun kq v5 v6 w' => ∃ (x5_0 : List Int) (Ax5_0 : Option Addr) (cx5_0 : Nat) (x6_0 : Int), v5 = .slice Ax5_0 x5_0.length cx5_0 ∧ v6 = .int .i64 x6_0 ∧ Aside0 (barrowref24_put_i1.l0 kq l0 a1 x5_0 x6_0 = some r) ∧ Aside0 (kq ≤ k) ∧ Aside0 (SL (row (Kd.int .i64) 3 (.slice Ax5_0 x5_0.length cx5_0) x5_0 :: row (Kd.int .i64) 3 (.slice A0 l0.length c0) l0 :: L) w' S) ∧ Aside0 (Keep S w w'))
    case atStart => exact ⟨(([] : List Int)), (none), (0), (0), (by first | rfl | (simp; done) | (simp [*]; done)), (by first | rfl | (simp; done) | (simp [*]; done)), H', ⟨Nat.le_refl _⟩, HS, HK⟩
    case round =>
      clear H' HS HK
      obtain ⟨x5_0, Ax5_0, cx5_0, x6_0, rfl, rfl, HA, HQ1, HS, HK⟩ := hrel
      cases gk with
      | zero => exact absurd HA.out (by simp [barrowref24_put_i1.l0])
      | succ k1 =>
        have H := HA.out
        clear HA
        simp only [barrowref24_put_i1.l0] at H
        by_cases c5 : x6_0 < (l0.length : Int)
        · rw [if_pos c5] at H
          have c5b0 : decide (x6_0 < (l0.length : Int)) = true := decide_eq_true c5
          clear c5
          by_cases c6 : 0 ≤ x6_0
          · rw [if_pos c6] at H
            have c6b0 : decide (0 ≤ x6_0) = true := decide_eq_true c6
            clear c6
            by_cases c7 : (rd l0 x6_0) < a1
            · rw [if_pos c7] at H
              have c7b0 : decide ((rd l0 x6_0) < a1) = true := decide_eq_true c7
              clear c7
              replace H := Option.bind_eq_some_iff.1 H
              obtain ⟨y352, hy3520, H⟩ := H
              try dsimp only at H
              have hy352 := Option.some.inj hy3520
              clear hy3520
              have Ny352 := Aside0.mk hy352
              clear hy352
              by_cases c8 : x5_0.length + y352.length < 17592186044416
              · rw [if_pos c8] at H
                have LMc8 := Aside0.mk c8
                clear c8
                replace H := Option.bind_eq_some_iff.1 H
                obtain ⟨y353, hy3530, H⟩ := H
                try dsimp only at H
                have hy353 := Option.some.inj hy3530
                clear hy3530
                have Ny353 := Aside0.mk hy353
                clear hy353
                have H' := Aside0.mk H
                clear H
                have pq350 : 0 ≤ (x6_0 : Int) := of_decide_eq_true (by first | (with_reducible assumption) | assumption)
                have qq350 : x6_0 < ((l0.length : Int) : Int) := of_decide_eq_true (by first | (with_reducible assumption) | assumption)
                obtain ⟨adq350, eq350, hxq350_0⟩ := Kd.at_int (SL.row_c (SL.get1 HS.out)).2.2 x6_0 pq350 qq350
                cases eq350
                replace pq350 := eq_true pq350
                replace qq350 := eq_true qq350
                go_wp2_with (first | ((with_reducible refine gate_dst (N := 28) rfl ?_); refine wpList_plain rfl (fun K_ hK_ => ?_); refine op_row (S := S) (enc := Value.int .i64) (h1 := fun _ => rfl) 3 y352 #[.int .i64 (rd l0 x6_0)] 1 (by rw [← Ny352.out]; rfl) (by rw [← Ny352.out]; rfl) (by decide) (HF.out.keep HK.out) HS.out (by first | (go_simp; done) | (go_simp; rfl)) ?_; intro Az3000043 cz3000043 w9 hs_ hk_; refine hK_ _ _ ?_; clear hK_ K_; replace HS := Aside0.mk ((show SL (row (Kd.int .i64) 3 (.slice Az3000043 1 cz3000043) y352 :: _) _ _ from hs_)); replace HK := Aside0.mk (HK.out.trans hk_)) | ((with_reducible refine gate_dst (N := 29) rfl ?_); refine wpList_plain rfl (fun K_ hK_ => ?_); refine op_append (S := S) (enc := Value.int .i64) (h1 := fun _ => rfl) 0 (.tmp 23) (.tmp 28) 25 3 (.int .i64 0) 8 rfl Try.underlying25 info3 rfl (by decide) (.slice Ax5_0 x5_0.length cx5_0) rfl rfl (HF.out.keep HK.out) (SL.get1 HS.out) (SL.row_c HS.out).2.2 (by have := LMc8.out; have e_ := (SL.row_c HS.out).1; omega) y353 Ny353.out ?_; intro A354 c355 w10 hs_ hk_; refine hK_ _ _ ?_; clear hK_ K_; replace HS := Aside0.mk ((SL.back1 (show SL (row (Kd.int .i64) 3 (.slice A354 y353.length c355) y353 :: _) _ _ from hs_))); replace HK := Aside0.mk (HK.out.trans hk_)))
                replace HS := Aside0.mk (SL.tail HS.out)
                go_roundg k1
                case measure => have := HQ1.out; omega
                case rel => exact ⟨(y353), (A354), (c355), (wrap64 (x6_0 + 1)), (by first | rfl | (simp; done) | (simp [*]; done)), (by first | rfl | (simp; done) | (simp [*]; done)), H', ⟨by have := HQ1.out; omega⟩, HS, HK⟩
              · rw [if_neg c8] at H
                exact absurd H (by simp)
            · rw [if_neg c7] at H
              have c7b0 : decide ((rd l0 x6_0) < a1) = false := decide_eq_false c7
              clear c7
              replace H := Option.bind_eq_some_iff.1 H
              obtain ⟨y356, hy3560, H⟩ := H
              try dsimp only at H
              have hy356 := Option.some.inj hy3560
              clear hy3560
              have Ny356 := Aside0.mk hy356
              clear hy356
              by_cases c11 : x5_0.length + y356.length < 17592186044416
              · rw [if_pos c11] at H
                have LMc11 := Aside0.mk c11
                clear c11
                replace H := Option.bind_eq_some_iff.1 H
                obtain ⟨y357, hy3570, H⟩ := H
                try dsimp only at H
                have hy357 := Option.some.inj hy3570
                clear hy3570
                have Ny357 := Aside0.mk hy357
                clear hy357
                by_cases c12 : x6_0 ≤ (l0.length : Int)
                · rw [if_pos c12] at H
                  have c12b0 := eq_true c12
                  have c12b1 : decide (x6_0 ≤ (l0.length : Int)) = true := decide_eq_true c12
                  clear c12
                  replace H := Option.bind_eq_some_iff.1 H
                  obtain ⟨y360, hy3600, H⟩ := H
                  try dsimp only at H
                  have hy360 := Option.some.inj hy3600
                  clear hy3600
                  have Ny360 := Aside0.mk hy360
                  clear hy360
                  by_cases c13 : y357.length + y360.length < 17592186044416
                  · rw [if_pos c13] at H
                    have LMc13 := Aside0.mk c13
                    clear c13
                    replace H := Option.bind_eq_some_iff.1 H
                    obtain ⟨y364, hy3640, H⟩ := H
                    try dsimp only at H
                    have hy364 := Option.some.inj hy3640
                    clear hy3640
                    have Ny364 := Aside0.mk hy364
                    clear hy364
                    obtain rfl := Option.some.inj H
                    have pq350 : 0 ≤ (x6_0 : Int) := of_decide_eq_true (by first | (with_reducible assumption) | assumption)
                    have qq350 : x6_0 < ((l0.length : Int) : Int) := of_decide_eq_true (by first | (with_reducible assumption) | assumption)
                    obtain ⟨adq350, eq350, hxq350_0⟩ := Kd.at_int (SL.row_c (SL.get1 HS.out)).2.2 x6_0 pq350 qq350
                    cases eq350
                    replace pq350 := eq_true pq350
                    replace qq350 := eq_true qq350
                    try go_wp2
                    obtain ⟨A361, c362, hcvq363, hcs_, hcc_, hcl_⟩ := cut_of (P := Try.prog) (Kd.int .i64) 25 3 .i64 .i64 Try.underlying25 (by kernel_rfl) rfl (some adq350) l0.length c0 l0 rfl (SL.row_c (SL.get1 HS.out)).2.1 x6_0 (of_decide_eq_true (by first | (with_reducible assumption) | assumption) : (0 : Int) ≤ (x6_0 : Int)) (of_decide_eq_true (by first | (with_reducible assumption) | assumption) : (x6_0 : Int) ≤ ((l0.length : Int) : Int)) y360 Ny360.out
                    have HVq363 := Aside0.mk (And.intro True.intro hcc_)
                    have HCq363 := Aside0.mk hcl_
                    clear hcs_ hcc_ hcl_
                    refine start_ (n := 9) (S := fun w' => True) (ds := []) #[false, false, false, false, false, false, false, false, false] (by kernel_rfl) rfl rfl trivial (fun hHeld => ?_); refine with_tabW barrowref24_put_i1.tab8 barrowref24_put_i1.bits8 (fun HT_ HW_ => ?_)
                    replace HK := Aside0.mk (Keep.drew HK.out)
                    replace HS := Aside0.mk (SL.drew HS.out)
                    refine pure_ (i := 0) (N := some 32) (v := ?_) (a' := ?_) #[true, false, false, false, false, false, false, false, false] rfl rfl (any_of HT_.out (by kernel_rfl)) (fun _ _ _ h => h) (Or.inl ⟨by rfl, ?_⟩) ?_ ?_; rotate_left; · (intro w'; go_simp; with_reducible rfl)
                    rotate_left; · (simp only [Act.put, sT, sZ, sS, i64_w, i32_w]; rfl)
                    refine pure_ (i := 1) (N := some 33) (v := ?_) (a' := ?_) #[true, true, false, false, false, false, false, false, false] rfl rfl (any_of HT_.out (by kernel_rfl)) (fun _ _ _ h => h) (Or.inl ⟨by rfl, ?_⟩) ?_ ?_; rotate_left; · (intro w'; go_simp; with_reducible rfl)
                    rotate_left; · (simp only [Act.put, sT, sZ, sS, i64_w, i32_w]; rfl)
                    refine pure_ (i := 4) (N := some 36) (v := ?_) (a' := ?_) #[true, true, false, false, true, false, false, false, false] rfl rfl (any_of HT_.out (by kernel_rfl)) (fun _ _ _ h => h) (Or.inl ⟨by rfl, ?_⟩) ?_ ?_; rotate_left; · (intro w'; go_simp; with_reducible rfl)
                    rotate_left; · (simp only [Act.put, sT, sZ, sS, i64_w, i32_w]; rfl)
                    refine pure_ (i := 5) (N := some 37) (v := ?_) (a' := ?_) #[true, true, false, false, true, true, false, false, false] rfl rfl (any_of HT_.out (by kernel_rfl)) (fun _ _ _ h => h) (Or.inl ⟨by rfl, ?_⟩) ?_ ?_; rotate_left; · (intro w'; go_simp; with_reducible rfl)
                    rotate_left; · (simp only [Act.put, sT, sZ, sS, i64_w, i32_w]; rfl)
                    refine pure_ (i := 6) (N := some 38) (v := ?_) (a' := ?_) #[true, true, false, false, true, true, true, false, false] rfl rfl (any_of HT_.out (by kernel_rfl)) (fun _ _ _ h => h) (Or.inl ⟨by rfl, ?_⟩) ?_ ?_; rotate_left; · (intro w'; go_simp; with_reducible rfl)
                    rotate_left; · (simp only [Act.put, sT, sZ, sS, i64_w, i32_w]; rfl)
                    refine one_ (i := 2) (N := some 34) #[true, true, true, false, true, true, true, false, false] rfl rfl (one_of HT_.out (by kernel_rfl)) (by decide) (fun K hK => ?_)
                    refine st_of (by rfl) ?_
                    refine op_row (S := S) (enc := Value.int .i64) (h1 := fun _ => rfl) 3 y356 #[.int .i64 a1] 1 (by rw [← Ny356.out]; rfl) (by rw [← Ny356.out]; rfl) (by decide) (HF.out.keep HK.out) HS.out (by first | (go_simp; done) | (go_simp; rfl)) ?_
                    intro Az3000044 cz3000044 w14 hs_ hk_
                    replace HS := Aside0.mk ((show SL (row (Kd.int .i64) 3 (.slice Az3000044 1 cz3000044) y356 :: _) _ _ from hs_))
                    replace HK := Aside0.mk (HK.out.trans hk_)
                    refine hK.out _ _ trivial (fun hHeld => ?_)
                    clear hK K
                    refine norm_ (a' := ?_) ?_ ?_; rotate_left
                    · show Act.put _ (some 34) _ = _
                      simp only [Act.put, sT, sZ, sS, i64_w, i32_w]
                      rfl
                    refine one_ (i := 3) (N := some 35) #[true, true, true, true, true, true, true, false, false] rfl rfl (one_of HT_.out (by kernel_rfl)) (by decide) (fun K hK => ?_)
                    refine st_of (by rfl) ?_
                    refine op_append (S := S) (enc := Value.int .i64) (h1 := fun _ => rfl) 0 (.tmp 32) (.tmp 34) 25 3 (.int .i64 0) 8 rfl Try.underlying25 info3 rfl (by decide) (.slice Ax5_0 x5_0.length cx5_0) rfl rfl (HF.out.keep HK.out) (SL.get1 HS.out) (SL.row_c HS.out).2.2 (by have := LMc11.out; have e_ := (SL.row_c HS.out).1; omega) y357 Ny357.out ?_
                    intro A358 c359 w15 hs_ hk_
                    replace HS := Aside0.mk ((SL.back1 (show SL (row (Kd.int .i64) 3 (.slice A358 y357.length c359) y357 :: _) _ _ from hs_)))
                    replace HK := Aside0.mk (HK.out.trans hk_)
                    refine hK.out _ _ trivial (fun hHeld => ?_)
                    clear hK K
                    refine norm_ (a' := ?_) ?_ ?_; rotate_left
                    · show Act.put _ (some 35) _ = _
                      simp only [Act.put, sT, sZ, sS, i64_w, i32_w]
                      rfl
                    refine one_ (i := 7) (N := some 39) #[true, true, true, true, true, true, true, true, false] rfl rfl (one_of HT_.out (by kernel_rfl)) (by decide) (fun K hK => ?_)
                    refine st_of (by rfl) ?_
                    refine op_append (S := S) (enc := Value.int .i64) (h1 := fun _ => rfl) 0 (.tmp 35) (.tmp 38) 25 3 (.int .i64 0) 8 rfl Try.underlying25 info3 rfl (by decide) (.slice A358 y357.length c359) rfl rfl (HF.out.keep HK.out) (SL.get1 HS.out) (And.right HVq363.out _ (SL.row_c (SL.get2 HS.out)).2.2) (by have := LMc13.out; omega) y364 Ny364.out ?_
                    intro A365 c366 w16 hs_ hk_
                    replace HS := Aside0.mk ((SL.back1 (show SL (row (Kd.int .i64) 3 (.slice A365 y364.length c366) y364 :: _) _ _ from hs_)))
                    replace HK := Aside0.mk (HK.out.trans hk_)
                    refine hK.out _ _ trivial (fun hHeld => ?_)
                    clear hK K
                    refine norm_ (a' := ?_) ?_ ?_; rotate_left
                    · show Act.put _ (some 39) _ = _
                      simp only [Act.put, sT, sZ, sS, i64_w, i32_w]
                      rfl
                    refine pure_ (i := 8) (N := some 4) (v := ?_) (a' := ?_) #[true, true, true, true, true, true, true, true, true] rfl rfl (any_of HT_.out (by kernel_rfl)) (fun _ _ _ h => h) (Or.inl ⟨by rfl, ?_⟩) ?_ ?_; rotate_left; · (intro w'; go_simp; with_reducible rfl)
                    rotate_left; · (simp only [Act.put, sT, sZ, sS, i64_w, i32_w]; rfl)
                    refine done_ (done_of HT_.out (by kernel_rfl)) ?_
                    try go_wp2
                    go_ret
                    replace HS := Aside0.mk (SL.tail (SL.get1 (SL.tail HS.out)))
                    unfold barrowref24_put_i1.Post
                    exact ⟨A365, c366, by first | rfl | (simp; done) | (simp [*]; done) | (simp at c13b0 ⊢; first | exact c13b0 | (simp [c13b0]; done)), HS.out, HK.out⟩
                  · rw [if_neg c13] at H
                    exact absurd H (by simp)
                · rw [if_neg c12] at H
                  exact absurd H (by simp)
              · rw [if_neg c11] at H
                exact absurd H (by simp)
          · rw [if_neg c6] at H
            exact absurd H (by simp)
        · rw [if_neg c5] at H
          have c5b0 : decide (x6_0 < (l0.length : Int)) = false := decide_eq_false c5
          clear c5
          replace H := Option.bind_eq_some_iff.1 H
          obtain ⟨y367, hy3670, H⟩ := H
          try dsimp only at H
          have hy367 := Option.some.inj hy3670
          clear hy3670
          have Ny367 := Aside0.mk hy367
          clear hy367
          by_cases c17 : x5_0.length + y367.length < 17592186044416
          · rw [if_pos c17] at H
            have LMc17 := Aside0.mk c17
            clear c17
            replace H := Option.bind_eq_some_iff.1 H
            obtain ⟨y368, hy3680, H⟩ := H
            try dsimp only at H
            have hy368 := Option.some.inj hy3680
            clear hy3680
            have Ny368 := Aside0.mk hy368
            clear hy368
            by_cases c18 : 0 ≤ x6_0
            · rw [if_pos c18] at H
              have c18b0 := eq_true c18
              have c18b1 : decide (0 ≤ x6_0) = true := decide_eq_true c18
              clear c18
              by_cases c19 : x6_0 ≤ (l0.length : Int)
              · rw [if_pos c19] at H
                have c19b0 := eq_true c19
                have c19b1 : decide (x6_0 ≤ (l0.length : Int)) = true := decide_eq_true c19
                clear c19
                replace H := Option.bind_eq_some_iff.1 H
                obtain ⟨y371, hy3710, H⟩ := H
                try dsimp only at H
                have hy371 := Option.some.inj hy3710
                clear hy3710
                have Ny371 := Aside0.mk hy371
                clear hy371
                by_cases c20 : y368.length + y371.length < 17592186044416
                · rw [if_pos c20] at H
                  have LMc20 := Aside0.mk c20
                  clear c20
                  replace H := Option.bind_eq_some_iff.1 H
                  obtain ⟨y375, hy3750, H⟩ := H
                  try dsimp only at H
                  have hy375 := Option.some.inj hy3750
                  clear hy3750
                  have Ny375 := Aside0.mk hy375
                  clear hy375
                  obtain rfl := Option.some.inj H
                  try go_wp2
                  obtain ⟨A372, c373, hcvq374, hcs_, hcc_, hcl_⟩ := cut_of (P := Try.prog) (Kd.int .i64) 25 3 .i64 .i64 Try.underlying25 (by kernel_rfl) rfl A0 l0.length c0 l0 rfl (SL.row_c (SL.get1 HS.out)).2.1 x6_0 (of_decide_eq_true (by first | (with_reducible assumption) | assumption) : (0 : Int) ≤ (x6_0 : Int)) (of_decide_eq_true (by first | (with_reducible assumption) | assumption) : (x6_0 : Int) ≤ ((l0.length : Int) : Int)) y371 Ny371.out
                  have HVq374 := Aside0.mk (And.intro True.intro hcc_)
                  have HCq374 := Aside0.mk hcl_
                  clear hcs_ hcc_ hcl_
                  refine start_ (n := 9) (S := fun w' => True) (ds := []) #[false, false, false, false, false, false, false, false, false] (by kernel_rfl) rfl rfl trivial (fun hHeld => ?_); refine with_tabW barrowref24_put_i1.tab8 barrowref24_put_i1.bits8 (fun HT_ HW_ => ?_)
                  replace HK := Aside0.mk (Keep.drew HK.out)
                  replace HS := Aside0.mk (SL.drew HS.out)
                  refine pure_ (i := 0) (N := some 32) (v := ?_) (a' := ?_) #[true, false, false, false, false, false, false, false, false] rfl rfl (any_of HT_.out (by kernel_rfl)) (fun _ _ _ h => h) (Or.inl ⟨by rfl, ?_⟩) ?_ ?_; rotate_left; · (intro w'; go_simp; with_reducible rfl)
                  rotate_left; · (simp only [Act.put, sT, sZ, sS, i64_w, i32_w]; rfl)
                  refine pure_ (i := 1) (N := some 33) (v := ?_) (a' := ?_) #[true, true, false, false, false, false, false, false, false] rfl rfl (any_of HT_.out (by kernel_rfl)) (fun _ _ _ h => h) (Or.inl ⟨by rfl, ?_⟩) ?_ ?_; rotate_left; · (intro w'; go_simp; with_reducible rfl)
                  rotate_left; · (simp only [Act.put, sT, sZ, sS, i64_w, i32_w]; rfl)
                  refine pure_ (i := 4) (N := some 36) (v := ?_) (a' := ?_) #[true, true, false, false, true, false, false, false, false] rfl rfl (any_of HT_.out (by kernel_rfl)) (fun _ _ _ h => h) (Or.inl ⟨by rfl, ?_⟩) ?_ ?_; rotate_left; · (intro w'; go_simp; with_reducible rfl)
                  rotate_left; · (simp only [Act.put, sT, sZ, sS, i64_w, i32_w]; rfl)
                  refine pure_ (i := 5) (N := some 37) (v := ?_) (a' := ?_) #[true, true, false, false, true, true, false, false, false] rfl rfl (any_of HT_.out (by kernel_rfl)) (fun _ _ _ h => h) (Or.inl ⟨by rfl, ?_⟩) ?_ ?_; rotate_left; · (intro w'; go_simp; with_reducible rfl)
                  rotate_left; · (simp only [Act.put, sT, sZ, sS, i64_w, i32_w]; rfl)
                  refine pure_ (i := 6) (N := some 38) (v := ?_) (a' := ?_) #[true, true, false, false, true, true, true, false, false] rfl rfl (any_of HT_.out (by kernel_rfl)) (fun _ _ _ h => h) (Or.inl ⟨by rfl, ?_⟩) ?_ ?_; rotate_left; · (intro w'; go_simp; with_reducible rfl)
                  rotate_left; · (simp only [Act.put, sT, sZ, sS, i64_w, i32_w]; rfl)
                  refine one_ (i := 2) (N := some 34) #[true, true, true, false, true, true, true, false, false] rfl rfl (one_of HT_.out (by kernel_rfl)) (by decide) (fun K hK => ?_)
                  refine st_of (by rfl) ?_
                  refine op_row (S := S) (enc := Value.int .i64) (h1 := fun _ => rfl) 3 y367 #[.int .i64 a1] 1 (by rw [← Ny367.out]; rfl) (by rw [← Ny367.out]; rfl) (by decide) (HF.out.keep HK.out) HS.out (by first | (go_simp; done) | (go_simp; rfl)) ?_
                  intro Az3000044 cz3000044 w21 hs_ hk_
                  replace HS := Aside0.mk ((show SL (row (Kd.int .i64) 3 (.slice Az3000044 1 cz3000044) y367 :: _) _ _ from hs_))
                  replace HK := Aside0.mk (HK.out.trans hk_)
                  refine hK.out _ _ trivial (fun hHeld => ?_)
                  clear hK K
                  refine norm_ (a' := ?_) ?_ ?_; rotate_left
                  · show Act.put _ (some 34) _ = _
                    simp only [Act.put, sT, sZ, sS, i64_w, i32_w]
                    rfl
                  refine one_ (i := 3) (N := some 35) #[true, true, true, true, true, true, true, false, false] rfl rfl (one_of HT_.out (by kernel_rfl)) (by decide) (fun K hK => ?_)
                  refine st_of (by rfl) ?_
                  refine op_append (S := S) (enc := Value.int .i64) (h1 := fun _ => rfl) 0 (.tmp 32) (.tmp 34) 25 3 (.int .i64 0) 8 rfl Try.underlying25 info3 rfl (by decide) (.slice Ax5_0 x5_0.length cx5_0) rfl rfl (HF.out.keep HK.out) (SL.get1 HS.out) (SL.row_c HS.out).2.2 (by have := LMc17.out; have e_ := (SL.row_c HS.out).1; omega) y368 Ny368.out ?_
                  intro A369 c370 w22 hs_ hk_
                  replace HS := Aside0.mk ((SL.back1 (show SL (row (Kd.int .i64) 3 (.slice A369 y368.length c370) y368 :: _) _ _ from hs_)))
                  replace HK := Aside0.mk (HK.out.trans hk_)
                  refine hK.out _ _ trivial (fun hHeld => ?_)
                  clear hK K
                  refine norm_ (a' := ?_) ?_ ?_; rotate_left
                  · show Act.put _ (some 35) _ = _
                    simp only [Act.put, sT, sZ, sS, i64_w, i32_w]
                    rfl
                  refine one_ (i := 7) (N := some 39) #[true, true, true, true, true, true, true, true, false] rfl rfl (one_of HT_.out (by kernel_rfl)) (by decide) (fun K hK => ?_)
                  refine st_of (by rfl) ?_
                  refine op_append (S := S) (enc := Value.int .i64) (h1 := fun _ => rfl) 0 (.tmp 35) (.tmp 38) 25 3 (.int .i64 0) 8 rfl Try.underlying25 info3 rfl (by decide) (.slice A369 y368.length c370) rfl rfl (HF.out.keep HK.out) (SL.get1 HS.out) (And.right HVq374.out _ (SL.row_c (SL.get2 HS.out)).2.2) (by have := LMc20.out; omega) y375 Ny375.out ?_
                  intro A376 c377 w23 hs_ hk_
                  replace HS := Aside0.mk ((SL.back1 (show SL (row (Kd.int .i64) 3 (.slice A376 y375.length c377) y375 :: _) _ _ from hs_)))
                  replace HK := Aside0.mk (HK.out.trans hk_)
                  refine hK.out _ _ trivial (fun hHeld => ?_)
                  clear hK K
                  refine norm_ (a' := ?_) ?_ ?_; rotate_left
                  · show Act.put _ (some 39) _ = _
                    simp only [Act.put, sT, sZ, sS, i64_w, i32_w]
                    rfl
                  refine pure_ (i := 8) (N := some 4) (v := ?_) (a' := ?_) #[true, true, true, true, true, true, true, true, true] rfl rfl (any_of HT_.out (by kernel_rfl)) (fun _ _ _ h => h) (Or.inl ⟨by rfl, ?_⟩) ?_ ?_; rotate_left; · (intro w'; go_simp; with_reducible rfl)
                  rotate_left; · (simp only [Act.put, sT, sZ, sS, i64_w, i32_w]; rfl)
                  refine done_ (done_of HT_.out (by kernel_rfl)) ?_
                  try go_wp2
                  go_ret
                  replace HS := Aside0.mk (SL.tail (SL.get1 (SL.tail HS.out)))
                  unfold barrowref24_put_i1.Post
                  exact ⟨A376, c377, by first | rfl | (simp; done) | (simp [*]; done) | (simp at c20b0 ⊢; first | exact c20b0 | (simp [c20b0]; done)), HS.out, HK.out⟩
                · rw [if_neg c20] at H
                  exact absurd H (by simp)
              · rw [if_neg c19] at H
                exact absurd H (by simp)
            · rw [if_neg c18] at H
              exact absurd H (by simp)
          · rw [if_neg c17] at H
            exact absurd H (by simp)

end Go.Proofs.Ytgcbmhihiacgnaa.XIN
