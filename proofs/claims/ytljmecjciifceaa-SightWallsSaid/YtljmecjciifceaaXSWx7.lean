-- Written by xprint.py (a program of this session) for this claim
import Derived.Test.YtljmecjciifceaaSL5
import Derived.Test.YtljmecjciifceaaXSWx0
import Derived.Test.YtljmecjciifceaaXSWx1
import Derived.Test.YtljmecjciifceaaXSWx2
import Derived.Test.YtljmecjciifceaaXSWx3
import Derived.Test.YtljmecjciifceaaXSWx4
namespace Go.Proofs.Ytljmecjciifceaa.XSW
open Go.Proofs.YtljmecjciifceaaV Go.Proofs.YtljmecjciifceaaS
open Go.RowKit Go.Proofs.YtljmecjciifceaaW.PrintWords Go.Proofs.YtljmecjciifceaaW.PrintLast Go.Proofs.YtljmecjciifceaaW.PrintMore
attribute [local go_sem] max2_int min2_int max_two min_two max_three min_three max_four min_four   -- for this text's walks alone
set_option linter.unusedVariables false
set_option linter.unusedSimpArgs false

attribute [local go_sem high] eqA26
/-! ### barrowref06_Same: function 11 -/
def barrowref06_Same.l0 : Nat → List (S26) → List (S26) → Int → Option (Bool)
  | 0, _, _, _ => none
  | k + 1, x0, x1, x5 => if x5 < (x0.length : Int) then (if 0 ≤ x5 then (if x5 < (x1.length : Int) then (if (!(((rd_T26 x0 x5).f0) == ((rd_T26 x1 x5).f0)) || (!(((rd_T26 x0 x5).f1) == ((rd_T26 x1 x5).f1)))) = true then (some false) else (barrowref06_Same.l0 k x0 x1 (wrap64 (x5 + 1)))) else (none)) else (none)) else (some true)
def barrowref06_Same.f (k : Nat) (l0 : List (S26)) (l1 : List (S26)) : Option (Bool) := if (l0.length : Int) = (l1.length : Int) then (barrowref06_Same.l0 k l0 l1 0) else (some false)
theorem barrowref06_Same.mono_l : ∀ k, (∀ y0 y1 y2, LeO (barrowref06_Same.l0 k y0 y1 y2) (barrowref06_Same.l0 (k + 1) y0 y1 y2))
  | 0 => fun _ _ _ r h => by simp [barrowref06_Same.l0] at h
  | k + 1 => by
    have ih0 := barrowref06_Same.mono_l k
    · intro y0 y1 y2
      unfold barrowref06_Same.l0
      repeat' first
      | (with_reducible exact ih0 _ _ _)
      | (with_reducible exact LeO.refl _)
      | (with_reducible exact LeO.none _)
      | (with_reducible refine LeO.ite ?_ ?_)
      | (with_reducible refine LeO.bind ?_ (fun _ => ?_))
      | exact ih0 _ _ _
      | exact LeO.none _
      | refine LeO.ite ?_ ?_
      | refine LeO.bind ?_ (fun _ => ?_)
theorem barrowref06_Same.mono : ∀ a0 a1 k, LeO (barrowref06_Same.f k a0 a1) (barrowref06_Same.f (k + 1) a0 a1) := by
  intro a0 a1 k
  have ih0 := barrowref06_Same.mono_l k
  unfold barrowref06_Same.f
  repeat' first
      | (with_reducible exact ih0 _ _ _)
      | (with_reducible exact LeO.refl _)
      | (with_reducible exact LeO.none _)
      | (with_reducible refine LeO.ite ?_ ?_)
      | (with_reducible refine LeO.bind ?_ (fun _ => ?_))
      | exact ih0 _ _ _
      | exact LeO.none _
      | refine LeO.ite ?_ ?_
      | refine LeO.bind ?_ (fun _ => ?_)
set_option maxHeartbeats 8000000 in
set_option maxRecDepth 100000 in
theorem barrowref06_Same.calls (k : Nat) (A0 : Option Addr) (c0 : Nat) (l0 : List (S26)) (A1 : Option Addr) (c1 : Nat) (l1 : List (S26)) (r : Bool) (w : World) (hr0 : Kd.C k26 w A0 l0.length l0) (hc0 : l0.length ≤ c0) (hr1 : Kd.C k26 w A1 l1.length l1) (hc1 : l1.length ≤ c1) (h : barrowref06_Same.f k l0 l1 = some r) :
    Calls Try.prog 11 #[.slice A0 l0.length c0, .slice A1 l1.length c1] w fun e w' => e = .returned (.bool r) ∧ Drawn0 w w' := by
  have hu26 := Try.underlying26
  have HR0 := Aside0.mk hr0
  have HC0 := Aside0.mk hc0
  clear hr0 hc0
  have HR1 := Aside0.mk hr1
  have HC1 := Aside0.mk hc1
  clear hr1 hc1
  have H : (if (l0.length : Int) = (l1.length : Int) then (barrowref06_Same.l0 k l0 l1 0) else (some false)) = some r := h
  clear h
  by_cases c3 : (l0.length : Int) = (l1.length : Int)
  · rw [if_pos c3] at H
    have c3b0 : ((l0.length : Int) == (l1.length : Int)) = true := beq_iff_eq.mpr c3
    have c3b1 : ((l0.length : Int) != (l1.length : Int)) = false := bne_eq_false_iff_eq.mpr c3
    have c3b2 : (l0.length == l1.length) = true := by first | simpa using c3 | (simp at c3 ⊢; omega)
    clear c3
    have H' := Aside0.mk H
    clear H
    go_enter Try.func11, Try.ntmps11
    go_wp2
    repeat (go_quiet (fail); try go_wp2)
    go_loopg [5] k (fun kq v5 w' => ∃ (x5_1 : Int), v5 = .int .i64 x5_1 ∧ Aside0 (barrowref06_Same.l0 kq l0 l1 x5_1 = some r) ∧ Aside0 (kq ≤ k) ∧ Drawn0 w w')
    case atStart => exact ⟨(0), (by first | rfl | (simp; done) | (simp [*]; done)), H', ⟨Nat.le_refl _⟩, by repeat (first | exact Drawn0.refl _ | apply Drawn0.step)⟩
    case round =>
      clear H'
      try clear c1
      try clear p2
      try clear c3
      try clear c3b0
      try clear c3b1
      try clear c3b2
      obtain ⟨x5_1, rfl, HA, HK1, ⟨m1, rfl⟩⟩ := hrel
      cases gk with
      | zero => exact absurd HA.out (by simp [barrowref06_Same.l0])
      | succ k1 =>
        have H := HA.out
        clear HA
        simp only [barrowref06_Same.l0] at H
        by_cases c4 : x5_1 < (l0.length : Int)
        · rw [if_pos c4] at H
          have c4b0 : decide (x5_1 < (l0.length : Int)) = true := decide_eq_true c4
          clear c4
          by_cases c5 : 0 ≤ x5_1
          · rw [if_pos c5] at H
            have c5b0 : decide (0 ≤ x5_1) = true := decide_eq_true c5
            clear c5
            by_cases c6 : x5_1 < (l1.length : Int)
            · rw [if_pos c6] at H
              have c6b0 : decide (x5_1 < (l1.length : Int)) = true := decide_eq_true c6
              clear c6
              by_cases c7 : (!(((rd_T26 l0 x5_1).f0) == ((rd_T26 l1 x5_1).f0)) || (!(((rd_T26 l0 x5_1).f1) == ((rd_T26 l1 x5_1).f1)))) = true
              · rw [if_pos c7] at H
                have c7b0 : (!(((rd_T26 l0 x5_1).f0) == ((rd_T26 l1 x5_1).f0)) || (!(((rd_T26 l0 x5_1).f1) == ((rd_T26 l1 x5_1).f1)))) = true := c7
                clear c7
                obtain rfl := Option.some.inj H
                have p251 : 0 ≤ (x5_1 : Int) := of_decide_eq_true (by first | (with_reducible assumption) | assumption)
                have q251 : x5_1 < (l0.length : Int) := of_decide_eq_true (by first | (with_reducible assumption) | assumption)
                obtain ⟨ad251, e251, hx251_0, hx251_1⟩ := at_T26 HR0.out x5_1 p251 q251
                cases e251
                replace p251 := eq_true p251
                replace q251 := eq_true q251
                have p252 : 0 ≤ (x5_1 : Int) := of_decide_eq_true (by first | (with_reducible assumption) | assumption)
                have q252 : x5_1 < (l1.length : Int) := of_decide_eq_true (by first | (with_reducible assumption) | assumption)
                obtain ⟨ad252, e252, hx252_0, hx252_1⟩ := at_T26 HR1.out x5_1 p252 q252
                cases e252
                replace p252 := eq_true p252
                replace q252 := eq_true q252
                go_wp2
                repeat (go_quiet (fail); try go_wp2)
                go_ret
                exact ⟨by first | rfl | (simp; done) | (simp [*]; done), by repeat (first | exact Drawn0.refl _ | apply Drawn0.step)⟩
              · rw [if_neg c7] at H
                have c7b0 : (!(((rd_T26 l0 x5_1).f0) == ((rd_T26 l1 x5_1).f0)) || (!(((rd_T26 l0 x5_1).f1) == ((rd_T26 l1 x5_1).f1)))) = false := by simpa using c7
                clear c7
                have H' := Aside0.mk H
                clear H
                have p251 : 0 ≤ (x5_1 : Int) := of_decide_eq_true (by first | (with_reducible assumption) | assumption)
                have q251 : x5_1 < (l0.length : Int) := of_decide_eq_true (by first | (with_reducible assumption) | assumption)
                obtain ⟨ad251, e251, hx251_0, hx251_1⟩ := at_T26 HR0.out x5_1 p251 q251
                cases e251
                replace p251 := eq_true p251
                replace q251 := eq_true q251
                have p252 : 0 ≤ (x5_1 : Int) := of_decide_eq_true (by first | (with_reducible assumption) | assumption)
                have q252 : x5_1 < (l1.length : Int) := of_decide_eq_true (by first | (with_reducible assumption) | assumption)
                obtain ⟨ad252, e252, hx252_0, hx252_1⟩ := at_T26 HR1.out x5_1 p252 q252
                cases e252
                replace p252 := eq_true p252
                replace q252 := eq_true q252
                go_wp2
                repeat (go_quiet (fail); try go_wp2)
                go_roundg k1
                case measure => have := HK1.out; omega
                case rel => exact ⟨(wrap64 (x5_1 + 1)), (by first | rfl | (simp; done) | (simp [*]; done)), H', ⟨by have := HK1.out; omega⟩, by repeat (first | exact Drawn0.refl _ | apply Drawn0.step)⟩
            · rw [if_neg c6] at H
              exact absurd H (by simp)
          · rw [if_neg c5] at H
            exact absurd H (by simp)
        · rw [if_neg c4] at H
          have c4b0 : decide (x5_1 < (l0.length : Int)) = false := decide_eq_false c4
          clear c4
          obtain rfl := Option.some.inj H
          go_wp2
          repeat (go_quiet (fail); try go_wp2)
          go_ret
          exact ⟨by first | rfl | (simp; done) | (simp [*]; done), by repeat (first | exact Drawn0.refl _ | apply Drawn0.step)⟩
  · rw [if_neg c3] at H
    have c3b0 : ((l0.length : Int) == (l1.length : Int)) = false := beq_eq_false_iff_ne.mpr c3
    have c3b1 : ((l0.length : Int) != (l1.length : Int)) = true := bne_iff_ne.mpr c3
    have c3b2 : (l0.length == l1.length) = false := by first | simpa using c3 | (simp at c3 ⊢; omega)
    obtain rfl := Option.some.inj H
    go_enter Try.func11, Try.ntmps11
    go_wp2
    repeat (go_quiet (fail); try go_wp2)
    go_ret
    exact ⟨by first | rfl | (simp; done) | (simp [*]; done), by repeat (first | exact Drawn0.refl _ | apply Drawn0.step)⟩

-- NOT PRINTED: function 30 (sight_Line_1)

/-! ### sight_Line_1_i1: function 30 -/
def sight_Line_1_i1.f (a0_0 : Int) (a0_1 : Int) (s0_0 : List (S26)) : Option (Bool × (List (S26))) := (some (([(⟨a0_0, a0_1⟩ : S26)] : List (S26)) : List (S26))).bind fun y273 => (if s0_0.length + y273.length < 8796093022208 then ((some (s0_0 ++ y273 : List (S26))).bind fun y274 => (some (true, y274))) else (none))
def sight_Line_1_i1.Post (b0 : Nat) (r1 : Bool) (r2 : List (S26)) (S : Nat → Prop) (L : List Asr) (w : World) (e : Ending) (w' : World) : Prop := ∃ (Ar2 : Option Addr) (cr2 : Nat), e = .returned (.bool r1) ∧ SL (cells b0 32 [.slice Ar2 r2.length cr2].toArray :: row k26 26 (.slice Ar2 r2.length cr2) r2 :: L) w' S ∧ Keep S w w'
set_option maxHeartbeats 8000000 in
set_option maxRecDepth 100000 in
theorem sight_Line_1_i1.slcalls (a0_0 : Int) (a0_1 : Int) (b0 : Nat) (As0_0 : Option Addr) (cs0_0 : Nat) (s0_0 : List (S26)) (r1 : Bool) (r2 : List (S26)) (S : Nat → Prop) (L : List Asr) (w : World) (hf : Fresh S w) (hs : SL (cells b0 32 [.slice As0_0 s0_0.length cs0_0].toArray :: row k26 26 (.slice As0_0 s0_0.length cs0_0) s0_0 :: L) w S) (h : sight_Line_1_i1.f a0_0 a0_1 s0_0 = some (r1, r2)) :
    Calls Try.prog 30 #[.agg #[.int .i64 a0_0, .int .i64 a0_1], .pointer (some ⟨b0, 0, none⟩)] w (sight_Line_1_i1.Post b0 r1 r2 S L w) := by
  have HF := Aside0.mk hf
  have HS := Aside0.mk hs
  have HK := Aside0.mk (Keep.refl S w)
  clear hf hs
  have hu26 := Try.underlying26
  have H : ((some (([(⟨a0_0, a0_1⟩ : S26)] : List (S26)) : List (S26))).bind fun y273 => (if s0_0.length + y273.length < 8796093022208 then ((some (s0_0 ++ y273 : List (S26))).bind fun y274 => (some (true, y274))) else (none))) = some (r1, r2) := h
  clear h
  replace H := Option.bind_eq_some_iff.1 H
  obtain ⟨y273, hy2730, H⟩ := H
  try dsimp only at H
  have hy273 := Option.some.inj hy2730
  clear hy2730
  have Ny273 := Aside0.mk hy273
  clear hy273
  by_cases c1 : s0_0.length + y273.length < 8796093022208
  · rw [if_pos c1] at H
    have LMc1 := Aside0.mk c1
    clear c1
    replace H := Option.bind_eq_some_iff.1 H
    obtain ⟨y274, hy2740, H⟩ := H
    try dsimp only at H
    have hy274 := Option.some.inj hy2740
    clear hy2740
    have Ny274 := Aside0.mk hy274
    clear hy274
    simp only [Option.some.injEq, Prod.mk.injEq] at H
    obtain ⟨rfl, rfl⟩ := H
    go_enter Try.func30, Try.ntmps30
    go_wp2_with (first | ((with_reducible refine gate_dst (N := 2) rfl ?_); refine wpList_plain rfl (fun K_ hK_ => ?_); refine op_box (S := S) (cs := #[.int .i64 a0_0, .int .i64 a0_1]) (t := 26) (HF.out.keep HK.out) HS.out (by first | (go_simp; done) | (go_simp; rfl)) ?_; intro g3000032 w2 hs_ hk_; refine hK_ _ _ ?_; clear hK_ K_; replace HS := Aside0.mk (hs_); replace HK := Aside0.mk (HK.out.trans hk_); have hb_ := SL.at_ HS.out; have hz3000032_0_1 := ((blk_cell hb_ 0).trans rfl : _ = some (.int .i64 a0_0)); have hz3000032_1_1 := ((blk_cell hb_ 1).trans rfl : _ = some (.int .i64 a0_1)); clear hb_; have hb_ := SL.at_ (SL.get1 HS.out); have hz0_0_1 := ((blk_cell hb_ 0).trans rfl : _ = some (.slice As0_0 s0_0.length cs0_0)); clear hb_) | ((with_reducible refine gate_dst (N := 6) rfl ?_); refine wpList_plain rfl (fun K_ hK_ => ?_); refine op_rowF (S := S) (d := k26) ⟨fun h_ => h_⟩ 26 y273 #[.int .i64 a0_0, .int .i64 a0_1] 1 (by rw [← Ny273.out]; exact reps_cons (k26_mkM _ 0 _ (⟨a0_0, a0_1⟩ : S26)) rfl (Reps.none _ _)) (by rw [← Ny273.out]; rfl) (by decide) (HF.out.keep HK.out) HS.out (by first | (go_simp; done) | (go_simp; rfl)) ?_; intro Az3000033 cz3000033 w3 hs_ hk_; refine hK_ _ _ ?_; clear hK_ K_; replace HS := Aside0.mk ((show SL (row k26 26 (.slice Az3000033 1 cz3000033) y273 :: _) _ _ from hs_)); replace HK := Aside0.mk (HK.out.trans hk_); (try clear hz0_0_1); (try clear hz3000032_0_1 hz3000032_1_1)) | ((with_reducible refine gate_dst (N := 7) rfl ?_); refine wpList_plain rfl (fun K_ hK_ => ?_); refine op_appendF (S := S) (d := k26) ⟨fun h_ => h_⟩ (.tmp 4) (.tmp 6) 32 26 (.agg #[(.int .i64 0), (.int .i64 0)]) 16 rfl Try.underlying32 info26 rfl (by decide) (by decide) (.slice As0_0 s0_0.length cs0_0) rfl rfl (HF.out.keep HK.out) (SL.get3 HS.out) (SL.row_c HS.out).2.2 (by have := LMc1.out; have e_ := (SL.row_c HS.out).1; omega) y274 Ny274.out ?_; intro A275 c276 w4 hs_ hk_; refine hK_ _ _ ?_; clear hK_ K_; replace HS := Aside0.mk ((SL.back3 (show SL (row k26 26 (.slice A275 y274.length c276) y274 :: _) _ _ from hs_))); replace HK := Aside0.mk (HK.out.trans hk_)) | ((with_reducible refine gate_store (t := 32) (p := 1) (v := (.tmp 7)) rfl ?_); refine wpList_plain rfl (fun K_ hK_ => ?_); refine op_store (S := S) 32 (.tmp 1) (.tmp 7) rfl b0 0 (.slice A275 y274.length c276) [.slice A275 y274.length c276] rfl rfl rfl (by kernel_rfl) (by simp [Value.oneCell']) (SL.get2 HS.out) (by simp) ?_; intro w5 hs_ hk_; refine hK_ _ _ ?_; clear hK_ K_; replace HS := Aside0.mk ((SL.back2 (show SL (cells b0 32 [.slice A275 y274.length c276].toArray :: _) _ _ from hs_))); replace HK := Aside0.mk (HK.out.trans hk_)))
    go_ret
    replace HS := Aside0.mk (SL.tail (SL.tail HS.out))
    unfold sight_Line_1_i1.Post
    exact ⟨A275, c276, by first | rfl | (simp; done) | (simp [*]; done) | (simp at c1b0 ⊢; first | exact c1b0 | (simp [c1b0]; done)), HS.out, HK.out⟩
  · rw [if_neg c1] at H
    exact absurd H (by simp)

/-! ### sight_lane_all_i2: function 25 -/
mutual
def sight_lane_all_i2.l0 : Nat → Int → Int → Int → Int → Int → Int → (List (S26)) → Option ((List (S26)))
  | 0, _, _, _, _, _, _, _ => none
  | k + 1, a0_0, a0_1, a0_2, a0_3, t267, x5_0, y100000_0 => (some (mx a0_1 a0_3 : Int)).bind fun j287 => (if x5_0 ≤ j287 then ((some (mn a0_0 a0_2 : Int)).bind fun j288 => (sight_lane_all_i2.l1 k a0_0 a0_1 a0_2 a0_3 t267 x5_0 false j288 y100000_0)) else (some y100000_0))
def sight_lane_all_i2.l1 : Nat → Int → Int → Int → Int → Int → Int → Bool → Int → (List (S26)) → Option ((List (S26)))
  | 0, _, _, _, _, _, _, _, _, _ => none
  | k + 1, a0_0, a0_1, a0_2, a0_3, t267, x5_0, x6_1, x7_1, y100000_1 => (some (mx a0_0 a0_2 : Int)).bind fun j289 => (if x7_1 ≤ j289 then ((sight_lane_beside.f a0_0 a0_1 a0_2 a0_3 x7_1 x5_0).bind fun t290 => (if t290 ≤ t267 then ((sight_Line_1_i1.f x7_1 x5_0 y100000_1).bind fun bt291 => (if bt291.1 = true then (sight_lane_all_i2.l1 k a0_0 a0_1 a0_2 a0_3 t267 x5_0 true (wrap64 (x7_1 + 1)) bt291.2) else (some bt291.2))) else (if x6_1 = true then (sight_lane_all_i2.l0 k a0_0 a0_1 a0_2 a0_3 t267 (wrap64 (x5_0 + 1)) y100000_1) else (sight_lane_all_i2.l1 k a0_0 a0_1 a0_2 a0_3 t267 x5_0 false (wrap64 (x7_1 + 1)) y100000_1)))) else (sight_lane_all_i2.l0 k a0_0 a0_1 a0_2 a0_3 t267 (wrap64 (x5_0 + 1)) y100000_1))
end
def sight_lane_all_i2.f (k : Nat) (a0_0 : Int) (a0_1 : Int) (a0_2 : Int) (a0_3 : Int) (s0_0 : List (S26)) : Option ((List (S26))) := (sight_lane_reach.f a0_0 a0_1 a0_2 a0_3).bind fun t267 => ((some (mn a0_1 a0_3 : Int)).bind fun j268 => (sight_lane_all_i2.l0 k a0_0 a0_1 a0_2 a0_3 t267 j268 s0_0))
theorem sight_lane_all_i2.mono_l : ∀ k, (∀ y0 y1 y2 y3 y4 y5 y6, LeO (sight_lane_all_i2.l0 k y0 y1 y2 y3 y4 y5 y6) (sight_lane_all_i2.l0 (k + 1) y0 y1 y2 y3 y4 y5 y6)) ∧ (∀ y0 y1 y2 y3 y4 y5 y6 y7 y8, LeO (sight_lane_all_i2.l1 k y0 y1 y2 y3 y4 y5 y6 y7 y8) (sight_lane_all_i2.l1 (k + 1) y0 y1 y2 y3 y4 y5 y6 y7 y8))
  | 0 => ⟨fun _ _ _ _ _ _ _ r h => by simp [sight_lane_all_i2.l0] at h, fun _ _ _ _ _ _ _ _ _ r h => by simp [sight_lane_all_i2.l1] at h⟩
  | k + 1 => by
    obtain ⟨ih0, ih1⟩ := sight_lane_all_i2.mono_l k
    refine ⟨?_, ?_⟩
    · intro y0 y1 y2 y3 y4 y5 y6
      unfold sight_lane_all_i2.l0
      repeat' first
      | (with_reducible exact ih0 _ _ _ _ _ _ _)
      | (with_reducible exact ih1 _ _ _ _ _ _ _ _ _)
      | (with_reducible exact LeO.refl _)
      | (with_reducible exact LeO.none _)
      | (with_reducible refine LeO.ite ?_ ?_)
      | (with_reducible refine everyOf_le (fun _ => ?_))
      | (with_reducible refine LeO.bind ?_ (fun _ => ?_))
      | exact ih0 _ _ _ _ _ _ _
      | exact ih1 _ _ _ _ _ _ _ _ _
      | exact LeO.none _
      | refine LeO.ite ?_ ?_
      | refine LeO.bind ?_ (fun _ => ?_)
    · intro y0 y1 y2 y3 y4 y5 y6 y7 y8
      unfold sight_lane_all_i2.l1
      repeat' first
      | (with_reducible exact ih0 _ _ _ _ _ _ _)
      | (with_reducible exact ih1 _ _ _ _ _ _ _ _ _)
      | (with_reducible exact LeO.refl _)
      | (with_reducible exact LeO.none _)
      | (with_reducible refine LeO.ite ?_ ?_)
      | (with_reducible refine everyOf_le (fun _ => ?_))
      | (with_reducible refine LeO.bind ?_ (fun _ => ?_))
      | exact ih0 _ _ _ _ _ _ _
      | exact ih1 _ _ _ _ _ _ _ _ _
      | exact LeO.none _
      | refine LeO.ite ?_ ?_
      | refine LeO.bind ?_ (fun _ => ?_)
theorem sight_lane_all_i2.mono : ∀ a0 a1 a2 a3 a4 k, LeO (sight_lane_all_i2.f k a0 a1 a2 a3 a4) (sight_lane_all_i2.f (k + 1) a0 a1 a2 a3 a4) := by
  intro a0 a1 a2 a3 a4 k
  obtain ⟨ih0, ih1⟩ := sight_lane_all_i2.mono_l k
  unfold sight_lane_all_i2.f
  repeat' first
      | (with_reducible exact ih0 _ _ _ _ _ _ _)
      | (with_reducible exact ih1 _ _ _ _ _ _ _ _ _)
      | (with_reducible exact LeO.refl _)
      | (with_reducible exact LeO.none _)
      | (with_reducible refine LeO.ite ?_ ?_)
      | (with_reducible refine everyOf_le (fun _ => ?_))
      | (with_reducible refine LeO.bind ?_ (fun _ => ?_))
      | exact ih0 _ _ _ _ _ _ _
      | exact ih1 _ _ _ _ _ _ _ _ _
      | exact LeO.none _
      | refine LeO.ite ?_ ?_
      | refine LeO.bind ?_ (fun _ => ?_)
def sight_lane_all_i2.Post (b0 : Nat) (r : List (S26)) (S : Nat → Prop) (L : List Asr) (w : World) (e : Ending) (w' : World) : Prop := ∃ (Ar1 : Option Addr) (cr1 : Nat), e = .returned (.tuple #[]) ∧ SL (cells b0 32 [.slice Ar1 r.length cr1].toArray :: row k26 26 (.slice Ar1 r.length cr1) r :: L) w' S ∧ Keep S w w'
set_option maxHeartbeats 8000000 in
set_option maxRecDepth 100000 in
theorem sight_lane_all_i2.slcalls (k : Nat) (a0_0 : Int) (a0_1 : Int) (a0_2 : Int) (a0_3 : Int) (b0 : Nat) (As0_0 : Option Addr) (cs0_0 : Nat) (s0_0 : List (S26)) (r : List (S26)) (S : Nat → Prop) (L : List Asr) (w : World) (hf : Fresh S w) (hs : SL (cells b0 32 [.slice As0_0 s0_0.length cs0_0].toArray :: row k26 26 (.slice As0_0 s0_0.length cs0_0) s0_0 :: L) w S) (h : sight_lane_all_i2.f k a0_0 a0_1 a0_2 a0_3 s0_0 = some r) :
    Calls Try.prog 25 #[.agg #[.int .i64 a0_0, .int .i64 a0_1, .int .i64 a0_2, .int .i64 a0_3], .func (.func 30) #[] #[.pointer (some ⟨b0, 0, none⟩)]] w (sight_lane_all_i2.Post b0 r S L w) := by
  have HF := Aside0.mk hf
  have HS := Aside0.mk hs
  have HK := Aside0.mk (Keep.refl S w)
  clear hf hs
  have hu26 := Try.underlying26
  have hu43 := Try.underlying43
  have H : ((sight_lane_reach.f a0_0 a0_1 a0_2 a0_3).bind fun t267 => ((some (mn a0_1 a0_3 : Int)).bind fun j268 => (sight_lane_all_i2.l0 k a0_0 a0_1 a0_2 a0_3 t267 j268 s0_0))) = some r := h
  clear h
  replace H := Option.bind_eq_some_iff.1 H
  obtain ⟨t267, Hc10, H⟩ := H
  try dsimp only at H
  have Hc1 := Aside0.mk Hc10
  clear Hc10
  replace H := Option.bind_eq_some_iff.1 H
  obtain ⟨j268, hj2680, H⟩ := H
  try dsimp only at H
  have hj268 := Option.some.inj hj2680
  clear hj2680
  have hj268_ : (if a0_3 < a0_1 then a0_3 else a0_1) = j268 := hj268
  have H' := Aside0.mk H
  clear H
  go_enter Try.func25, Try.ntmps25
  try go_wp2_with (first | ((with_reducible refine gate_dst (N := 2) rfl ?_); refine wpList_plain rfl (fun K_ hK_ => ?_); refine op_box (S := S) (cs := #[.int .i64 a0_0, .int .i64 a0_1, .int .i64 a0_2, .int .i64 a0_3]) (t := 43) (HF.out.keep HK.out) HS.out (by first | (go_simp; done) | (go_simp; rfl)) ?_; intro g3000022 w2 hs_ hk_; refine hK_ _ _ ?_; clear hK_ K_; replace HS := Aside0.mk (hs_); replace HK := Aside0.mk (HK.out.trans hk_); have hb_ := SL.at_ HS.out; have hz3000022_0_1 := ((blk_cell hb_ 0).trans rfl : _ = some (.int .i64 a0_0)); have hz3000022_1_1 := ((blk_cell hb_ 1).trans rfl : _ = some (.int .i64 a0_1)); have hz3000022_2_1 := ((blk_cell hb_ 2).trans rfl : _ = some (.int .i64 a0_2)); have hz3000022_3_1 := ((blk_cell hb_ 3).trans rfl : _ = some (.int .i64 a0_3)); clear hb_) | ((with_reducible refine gate_dst (N := 10) rfl ?_); refine goesL_ (some 10) rfl rfl Try.func41 (by kernel_rfl) rfl #[.agg #[.int .i64 a0_0, .int .i64 a0_1, .int .i64 a0_2, .int .i64 a0_3]] rfl (by (try simp only [List.map_toArray, List.map_cons, List.map_nil]); first | done | rfl | (simp; done)) ?_; (with_reducible refine (sight_lane_reach.calls _ _ _ _ _ _  Hc1.out).mono ?_); rintro e_ w3 ⟨rfl, hb_⟩; refine ⟨_, rfl, ?_⟩; replace HS := Aside0.mk (HS.out.below hb_); replace HK := Aside0.mk (HK.out.trans (Keep.below hb_)); (try clear hz3000022_0_1 hz3000022_1_1 hz3000022_2_1 hz3000022_3_1); have hb_ := SL.at_ HS.out; have hz3000022_0_2 := ((blk_cell hb_ 0).trans rfl : _ = some (.int .i64 a0_0)); have hz3000022_1_2 := ((blk_cell hb_ 1).trans rfl : _ = some (.int .i64 a0_1)); have hz3000022_2_2 := ((blk_cell hb_ 2).trans rfl : _ = some (.int .i64 a0_2)); have hz3000022_3_2 := ((blk_cell hb_ 3).trans rfl : _ = some (.int .i64 a0_3)); clear hb_))
  go_step3
  try go_wp2_with (first | ((with_reducible refine gate_dst (N := 2) rfl ?_); refine wpList_plain rfl (fun K_ hK_ => ?_); refine op_box (S := S) (cs := #[.int .i64 a0_0, .int .i64 a0_1, .int .i64 a0_2, .int .i64 a0_3]) (t := 43) (HF.out.keep HK.out) HS.out (by first | (go_simp; done) | (go_simp; rfl)) ?_; intro g3000022 w2 hs_ hk_; refine hK_ _ _ ?_; clear hK_ K_; replace HS := Aside0.mk (hs_); replace HK := Aside0.mk (HK.out.trans hk_); have hb_ := SL.at_ HS.out; have hz3000022_0_1 := ((blk_cell hb_ 0).trans rfl : _ = some (.int .i64 a0_0)); have hz3000022_1_1 := ((blk_cell hb_ 1).trans rfl : _ = some (.int .i64 a0_1)); have hz3000022_2_1 := ((blk_cell hb_ 2).trans rfl : _ = some (.int .i64 a0_2)); have hz3000022_3_1 := ((blk_cell hb_ 3).trans rfl : _ = some (.int .i64 a0_3)); clear hb_) | ((with_reducible refine gate_dst (N := 10) rfl ?_); refine goesL_ (some 10) rfl rfl Try.func41 (by kernel_rfl) rfl #[.agg #[.int .i64 a0_0, .int .i64 a0_1, .int .i64 a0_2, .int .i64 a0_3]] rfl (by (try simp only [List.map_toArray, List.map_cons, List.map_nil]); first | done | rfl | (simp; done)) ?_; (with_reducible refine (sight_lane_reach.calls _ _ _ _ _ _  Hc1.out).mono ?_); rintro e_ w3 ⟨rfl, hb_⟩; refine ⟨_, rfl, ?_⟩; replace HS := Aside0.mk (HS.out.below hb_); replace HK := Aside0.mk (HK.out.trans (Keep.below hb_)); (try clear hz3000022_0_1 hz3000022_1_1 hz3000022_2_1 hz3000022_3_1); have hb_ := SL.at_ HS.out; have hz3000022_0_2 := ((blk_cell hb_ 0).trans rfl : _ = some (.int .i64 a0_0)); have hz3000022_1_2 := ((blk_cell hb_ 1).trans rfl : _ = some (.int .i64 a0_1)); have hz3000022_2_2 := ((blk_cell hb_ 2).trans rfl : _ = some (.int .i64 a0_2)); have hz3000022_3_2 := ((blk_cell hb_ 3).trans rfl : _ = some (.int .i64 a0_3)); clear hb_))
  go_step3
  try go_wp2_with (first | ((with_reducible refine gate_dst (N := 2) rfl ?_); refine wpList_plain rfl (fun K_ hK_ => ?_); refine op_box (S := S) (cs := #[.int .i64 a0_0, .int .i64 a0_1, .int .i64 a0_2, .int .i64 a0_3]) (t := 43) (HF.out.keep HK.out) HS.out (by first | (go_simp; done) | (go_simp; rfl)) ?_; intro g3000022 w2 hs_ hk_; refine hK_ _ _ ?_; clear hK_ K_; replace HS := Aside0.mk (hs_); replace HK := Aside0.mk (HK.out.trans hk_); have hb_ := SL.at_ HS.out; have hz3000022_0_1 := ((blk_cell hb_ 0).trans rfl : _ = some (.int .i64 a0_0)); have hz3000022_1_1 := ((blk_cell hb_ 1).trans rfl : _ = some (.int .i64 a0_1)); have hz3000022_2_1 := ((blk_cell hb_ 2).trans rfl : _ = some (.int .i64 a0_2)); have hz3000022_3_1 := ((blk_cell hb_ 3).trans rfl : _ = some (.int .i64 a0_3)); clear hb_) | ((with_reducible refine gate_dst (N := 10) rfl ?_); refine goesL_ (some 10) rfl rfl Try.func41 (by kernel_rfl) rfl #[.agg #[.int .i64 a0_0, .int .i64 a0_1, .int .i64 a0_2, .int .i64 a0_3]] rfl (by (try simp only [List.map_toArray, List.map_cons, List.map_nil]); first | done | rfl | (simp; done)) ?_; (with_reducible refine (sight_lane_reach.calls _ _ _ _ _ _  Hc1.out).mono ?_); rintro e_ w3 ⟨rfl, hb_⟩; refine ⟨_, rfl, ?_⟩; replace HS := Aside0.mk (HS.out.below hb_); replace HK := Aside0.mk (HK.out.trans (Keep.below hb_)); (try clear hz3000022_0_1 hz3000022_1_1 hz3000022_2_1 hz3000022_3_1); have hb_ := SL.at_ HS.out; have hz3000022_0_2 := ((blk_cell hb_ 0).trans rfl : _ = some (.int .i64 a0_0)); have hz3000022_1_2 := ((blk_cell hb_ 1).trans rfl : _ = some (.int .i64 a0_1)); have hz3000022_2_2 := ((blk_cell hb_ 2).trans rfl : _ = some (.int .i64 a0_2)); have hz3000022_3_2 := ((blk_cell hb_ 3).trans rfl : _ = some (.int .i64 a0_3)); clear hb_))
  try simp only [Exit.noGoto_ret, Exit.noGoto_normal, Exit.noGoto_exit]
  go_loopg [5] k (fun kq v5 w' => ∃ (y100000_0 : List (S26)) (A100000_0 : Option Addr) (c100000_0 : Nat) (x5_0 : Int), v5 = .int .i64 x5_0 ∧ Aside0 (sight_lane_all_i2.l0 kq a0_0 a0_1 a0_2 a0_3 t267 x5_0 y100000_0 = some r) ∧ Aside0 (kq ≤ k) ∧ Aside0 (SL (cells g3000022 43 [.int .i64 a0_0, .int .i64 a0_1, .int .i64 a0_2, .int .i64 a0_3].toArray :: cells b0 32 [.slice A100000_0 y100000_0.length c100000_0].toArray :: row k26 26 (.slice A100000_0 y100000_0.length c100000_0) y100000_0 :: L) w' S) ∧ Aside0 (Keep S w w'))
  case atStart => exact ⟨(s0_0), (As0_0), (cs0_0), (j268), (by first | rfl | (simp; done) | (simp [*]; done)), H', ⟨Nat.le_refl _⟩, HS, HK⟩
  case round =>
    clear H' HS HK
    try clear hz3000022_0_0 hz3000022_1_0 hz3000022_2_0 hz3000022_3_0
    try clear hz3000022_0_0 hz3000022_1_0 hz3000022_2_0 hz3000022_3_0
    try clear hz3000022_0_0 hz3000022_1_0 hz3000022_2_0 hz3000022_3_0
    obtain ⟨y100000_0, A100000_0, c100000_0, x5_0, rfl, HA, HQ1, HS, HK⟩ := hrel
    cases gk with
    | zero => exact absurd HA.out (by simp [sight_lane_all_i2.l0])
    | succ k1 =>
      have H := HA.out
      clear HA
      simp only [sight_lane_all_i2.l0] at H
      replace H := Option.bind_eq_some_iff.1 H
      obtain ⟨j287, hj2870, H⟩ := H
      try dsimp only at H
      have hj287 := Option.some.inj hj2870
      clear hj2870
      have hj287_ : (if a0_1 < a0_3 then a0_3 else a0_1) = j287 := hj287
      by_cases c4 : x5_0 ≤ j287
      · rw [if_pos c4] at H
        have c4b0 : decide (x5_0 ≤ j287) = true := decide_eq_true c4
        clear c4
        replace H := Option.bind_eq_some_iff.1 H
        obtain ⟨j288, hj2880, H⟩ := H
        try dsimp only at H
        have hj288 := Option.some.inj hj2880
        clear hj2880
        have hj288_ : (if a0_2 < a0_0 then a0_2 else a0_0) = j288 := hj288
        have H' := Aside0.mk H
        clear H
        have hb_ := SL.at_ HS.out
        have hz3000022_0_0 := ((blk_cell hb_ 0).trans rfl : _ = some (.int .i64 a0_0))
        have hz3000022_1_0 := ((blk_cell hb_ 1).trans rfl : _ = some (.int .i64 a0_1))
        have hz3000022_2_0 := ((blk_cell hb_ 2).trans rfl : _ = some (.int .i64 a0_2))
        have hz3000022_3_0 := ((blk_cell hb_ 3).trans rfl : _ = some (.int .i64 a0_3))
        clear hb_
        go_wp2
        try simp only [Exit.noGoto_ret, Exit.noGoto_normal, Exit.noGoto_exit]
        go_loopg [6, 7] k1 (fun kq v6 v7 w' => ∃ (y100000_1 : List (S26)) (A100000_1 : Option Addr) (c100000_1 : Nat) (x6_1 : Bool) (x7_1 : Int), v6 = .bool x6_1 ∧ v7 = .int .i64 x7_1 ∧ Aside0 (sight_lane_all_i2.l1 kq a0_0 a0_1 a0_2 a0_3 t267 x5_0 x6_1 x7_1 y100000_1 = some r) ∧ Aside0 (kq ≤ k1) ∧ Aside0 (SL (cells g3000022 43 [.int .i64 a0_0, .int .i64 a0_1, .int .i64 a0_2, .int .i64 a0_3].toArray :: cells b0 32 [.slice A100000_1 y100000_1.length c100000_1].toArray :: row k26 26 (.slice A100000_1 y100000_1.length c100000_1) y100000_1 :: L) w' S) ∧ Aside0 (Keep S w w'))
        case atStart => exact ⟨(y100000_0), (A100000_0), (c100000_0), (false), (j288), (by first | rfl | (simp; done) | (simp [*]; done)), (by first | rfl | (simp; done) | (simp [*]; done)), H', ⟨Nat.le_refl _⟩, HS, HK⟩
        case round =>
          clear H' HS HK
          try clear hz3000022_0_0 hz3000022_1_0 hz3000022_2_0 hz3000022_3_0
          try clear hz3000022_0_0 hz3000022_1_0 hz3000022_2_0 hz3000022_3_0
          try clear hz3000022_0_0 hz3000022_1_0 hz3000022_2_0 hz3000022_3_0
          try clear hz3000022_0_0 hz3000022_1_0 hz3000022_2_0 hz3000022_3_0
          obtain ⟨y100000_1, A100000_1, c100000_1, x6_1, x7_1, rfl, rfl, HA, HQ2, HS, HK⟩ := hrel
          cases gk with
          | zero => exact absurd HA.out (by simp [sight_lane_all_i2.l1])
          | succ k2 =>
            have H := HA.out
            clear HA
            simp only [sight_lane_all_i2.l1] at H
            replace H := Option.bind_eq_some_iff.1 H
            obtain ⟨j289, hj2890, H⟩ := H
            try dsimp only at H
            have hj289 := Option.some.inj hj2890
            clear hj2890
            have hj289_ : (if a0_0 < a0_2 then a0_2 else a0_0) = j289 := hj289
            by_cases c5 : x7_1 ≤ j289
            · rw [if_pos c5] at H
              have c5b0 : decide (x7_1 ≤ j289) = true := decide_eq_true c5
              clear c5
              replace H := Option.bind_eq_some_iff.1 H
              obtain ⟨t290, Hc60, H⟩ := H
              try dsimp only at H
              have Hc6 := Aside0.mk Hc60
              clear Hc60
              have H' := Aside0.mk H
              clear H
              have hb_ := SL.at_ HS.out
              have hz3000022_0_0 := ((blk_cell hb_ 0).trans rfl : _ = some (.int .i64 a0_0))
              have hz3000022_1_0 := ((blk_cell hb_ 1).trans rfl : _ = some (.int .i64 a0_1))
              have hz3000022_2_0 := ((blk_cell hb_ 2).trans rfl : _ = some (.int .i64 a0_2))
              have hz3000022_3_0 := ((blk_cell hb_ 3).trans rfl : _ = some (.int .i64 a0_3))
              clear hb_
              go_wp2_with (first | ((with_reducible refine gate_dst (N := 8) rfl ?_); refine wpList_plain rfl (fun K_ hK_ => ?_); refine op_box (S := S) (cs := #[.int .i64 0, .int .i64 0]) (t := 26) (HF.out.keep HK.out) HS.out (by first | (go_simp; done) | (go_simp; rfl)) ?_; intro g3000023 w7 hs_ hk_; refine hK_ _ _ ?_; clear hK_ K_; replace HS := Aside0.mk (hs_); replace HK := Aside0.mk (HK.out.trans hk_); (try clear hz3000022_0_0 hz3000022_1_0 hz3000022_2_0 hz3000022_3_0)) | ((with_reducible refine gate_store (t := 26) (p := 8) (v := (.tmp 49)) rfl ?_); refine wpList_plain rfl (fun K_ hK_ => ?_); refine op_store (S := S) 26 (.tmp 8) (.tmp 49) rfl g3000023 0 (.agg #[.int .i64 x7_1, .int .i64 x5_0]) [.int .i64 x7_1, .int .i64 x5_0] rfl rfl rfl (by kernel_rfl) (by simp [Value.oneCell']) HS.out (by simp) ?_; intro w8 hs_ hk_; refine hK_ _ _ ?_; clear hK_ K_; replace HS := Aside0.mk ((show SL (cells g3000023 26 [.int .i64 x7_1, .int .i64 x5_0].toArray :: _) _ _ from hs_)); replace HK := Aside0.mk (HK.out.trans hk_); have hb_ := SL.at_ HS.out; have hz3000023_0_2 := ((blk_cell hb_ 0).trans rfl : _ = some (.int .i64 x7_1)); have hz3000023_1_2 := ((blk_cell hb_ 1).trans rfl : _ = some (.int .i64 x5_0)); clear hb_; have hb_ := SL.at_ (SL.get1 HS.out); have hz3000022_0_2 := ((blk_cell hb_ 0).trans rfl : _ = some (.int .i64 a0_0)); have hz3000022_1_2 := ((blk_cell hb_ 1).trans rfl : _ = some (.int .i64 a0_1)); have hz3000022_2_2 := ((blk_cell hb_ 2).trans rfl : _ = some (.int .i64 a0_2)); have hz3000022_3_2 := ((blk_cell hb_ 3).trans rfl : _ = some (.int .i64 a0_3)); clear hb_) | ((with_reducible refine gate_dst (N := 53) rfl ?_); refine goesL_ (some 53) rfl rfl Try.func42 (by kernel_rfl) rfl #[.agg #[.int .i64 a0_0, .int .i64 a0_1, .int .i64 a0_2, .int .i64 a0_3], .agg #[.int .i64 x7_1, .int .i64 x5_0]] rfl (by (try simp only [List.map_toArray, List.map_cons, List.map_nil]); first | done | rfl | (simp; done)) ?_; (with_reducible refine (sight_lane_beside.calls _ _ _ _ _ _ _ _  Hc6.out).mono ?_); rintro e_ w9 ⟨rfl, hb_⟩; refine ⟨_, rfl, ?_⟩; replace HS := Aside0.mk (HS.out.below hb_); replace HK := Aside0.mk (HK.out.trans (Keep.below hb_)); (try clear hz3000022_0_2 hz3000022_1_2 hz3000022_2_2 hz3000022_3_2); (try clear hz3000023_0_2 hz3000023_1_2); refine stop_ ?_; intro G_ hG_))
              try simp only [Exit.noGoto_ret, Exit.noGoto_normal, Exit.noGoto_exit]
              have H := H'.out
              clear H'
              by_cases c10 : t290 ≤ t267
              · rw [if_pos c10] at H
                have c10b0 : decide (t290 ≤ t267) = true := decide_eq_true c10
                clear c10
                replace H := Option.bind_eq_some_iff.1 H
                obtain ⟨⟨t291, t292⟩, Hc110, H⟩ := H
                try dsimp only at H
                have Hc11 := Aside0.mk Hc110
                clear Hc110
                by_cases c12 : t291 = true
                · subst c12
                  rw [if_pos rfl] at H
                  have H' := Aside0.mk H
                  clear H
                  have hb_ := SL.at_ HS.out
                  have hz3000023_0_0 := ((blk_cell hb_ 0).trans rfl : _ = some (.int .i64 x7_1))
                  have hz3000023_1_0 := ((blk_cell hb_ 1).trans rfl : _ = some (.int .i64 x5_0))
                  clear hb_
                  refine hG_.out ?_
                  try simp only [c10b0]
                  go_wp2_with (first | ((with_reducible refine gate_dst (N := 58) rfl ?_); refine goesLc_ (some 58) rfl (by with_unfolding_all rfl) rfl Try.func30 (by kernel_rfl) rfl #[.agg #[.int .i64 x7_1, .int .i64 x5_0], .pointer (some ⟨b0, 0, none⟩)] rfl (by (try simp only [List.map_toArray, List.map_cons, List.map_nil]); first | done | rfl | (simp; done)) ?_; have hs0_ := (SL.get3 (SL.get3 HS.out)); (with_reducible refine (sight_Line_1_i1.slcalls _ _ _ _ _ _ _ _ _ _ _ (HF.out.keep HK.out) hs0_  Hc11.out).mono ?_); rintro e_ w13 ⟨A293, c294, rfl, hsr_, hkr_⟩; refine ⟨_, rfl, ?_⟩; replace HS := Aside0.mk (hsr_); replace HK := Aside0.mk (HK.out.trans hkr_); (try clear hz3000023_0_0 hz3000023_1_0)))
                  try simp only [Exit.noGoto_ret, Exit.noGoto_normal, Exit.noGoto_exit]
                  replace HS := Aside0.mk (SL.get2 (SL.get1 (SL.get1 (SL.tail (SL.get2 HS.out)))))
                  go_roundg k2
                  case measure => have := HQ1.out; have := HQ2.out; omega
                  case rel => exact ⟨(t292), (A293), (c294), (true), (wrap64 (x7_1 + 1)), (by first | rfl | (simp; done) | (simp [*]; done)), (by first | rfl | (simp; done) | (simp [*]; done)), H', ⟨by have := HQ1.out; have := HQ2.out; omega⟩, HS, HK⟩
                · replace c12 := Bool.eq_false_iff.mpr c12
                  subst c12
                  rw [if_neg (show ¬ (false = true) by decide)] at H
                  obtain rfl := Option.some.inj H
                  have hb_ := SL.at_ HS.out
                  have hz3000023_0_0 := ((blk_cell hb_ 0).trans rfl : _ = some (.int .i64 x7_1))
                  have hz3000023_1_0 := ((blk_cell hb_ 1).trans rfl : _ = some (.int .i64 x5_0))
                  clear hb_
                  refine hG_.out ?_
                  try simp only [c10b0]
                  go_wp2_with (first | ((with_reducible refine gate_dst (N := 58) rfl ?_); refine goesLc_ (some 58) rfl (by with_unfolding_all rfl) rfl Try.func30 (by kernel_rfl) rfl #[.agg #[.int .i64 x7_1, .int .i64 x5_0], .pointer (some ⟨b0, 0, none⟩)] rfl (by (try simp only [List.map_toArray, List.map_cons, List.map_nil]); first | done | rfl | (simp; done)) ?_; have hs0_ := (SL.get3 (SL.get3 HS.out)); (with_reducible refine (sight_Line_1_i1.slcalls _ _ _ _ _ _ _ _ _ _ _ (HF.out.keep HK.out) hs0_  Hc11.out).mono ?_); rintro e_ w14 ⟨A293, c294, rfl, hsr_, hkr_⟩; refine ⟨_, rfl, ?_⟩; replace HS := Aside0.mk (hsr_); replace HK := Aside0.mk (HK.out.trans hkr_); (try clear hz3000023_0_0 hz3000023_1_0)))
                  try simp only [Exit.noGoto_ret, Exit.noGoto_normal, Exit.noGoto_exit]
                  first | go_end0 | ((try simp only [Exit.inBlock, Exit.then]); refine bodyPost_ret (results_none rfl _ _ _) rfl ?_)
                  replace HS := Aside0.mk (SL.tail (SL.get2 (SL.tail (SL.get2 HS.out))))
                  unfold sight_lane_all_i2.Post
                  exact ⟨A293, c294, by first | rfl | (simp; done) | (simp [*]; done) | (simp at c10b0 ⊢; first | exact c10b0 | (simp [c10b0]; done)), HS.out, HK.out⟩
              · rw [if_neg c10] at H
                have c10b0 : decide (t290 ≤ t267) = false := decide_eq_false c10
                clear c10
                by_cases c15 : x6_1 = true
                · subst c15
                  rw [if_pos rfl] at H
                  have H' := Aside0.mk H
                  clear H
                  refine hG_.out ?_
                  try simp only [c10b0]
                  go_wp2
                  try simp only [Exit.noGoto_ret, Exit.noGoto_normal, Exit.noGoto_exit]
                  replace HS := Aside0.mk (SL.tail HS.out)
                  go_roundg k2
                  case measure => have := HQ1.out; have := HQ2.out; omega
                  case rel => exact ⟨(y100000_1), (A100000_1), (c100000_1), (wrap64 (x5_0 + 1)), (by first | rfl | (simp; done) | (simp [*]; done)), H', ⟨by have := HQ1.out; have := HQ2.out; omega⟩, HS, HK⟩
                · replace c15 := Bool.eq_false_iff.mpr c15
                  subst c15
                  rw [if_neg (show ¬ (false = true) by decide)] at H
                  have H' := Aside0.mk H
                  clear H
                  refine hG_.out ?_
                  try simp only [c10b0]
                  go_wp2
                  try simp only [Exit.noGoto_ret, Exit.noGoto_normal, Exit.noGoto_exit]
                  replace HS := Aside0.mk (SL.tail HS.out)
                  go_roundg k2
                  case measure => have := HQ1.out; have := HQ2.out; omega
                  case rel => exact ⟨(y100000_1), (A100000_1), (c100000_1), (false), (wrap64 (x7_1 + 1)), (by first | rfl | (simp; done) | (simp [*]; done)), (by first | rfl | (simp; done) | (simp [*]; done)), H', ⟨by have := HQ1.out; have := HQ2.out; omega⟩, HS, HK⟩
            · rw [if_neg c5] at H
              have c5b0 : decide (x7_1 ≤ j289) = false := decide_eq_false c5
              clear c5
              have H' := Aside0.mk H
              clear H
              have hb_ := SL.at_ HS.out
              have hz3000022_0_0 := ((blk_cell hb_ 0).trans rfl : _ = some (.int .i64 a0_0))
              have hz3000022_1_0 := ((blk_cell hb_ 1).trans rfl : _ = some (.int .i64 a0_1))
              have hz3000022_2_0 := ((blk_cell hb_ 2).trans rfl : _ = some (.int .i64 a0_2))
              have hz3000022_3_0 := ((blk_cell hb_ 3).trans rfl : _ = some (.int .i64 a0_3))
              clear hb_
              go_wp2
              try simp only [Exit.noGoto_ret, Exit.noGoto_normal, Exit.noGoto_exit]
              go_roundg k2
              case measure => have := HQ1.out; have := HQ2.out; omega
              case rel => exact ⟨(y100000_1), (A100000_1), (c100000_1), (wrap64 (x5_0 + 1)), (by first | rfl | (simp; done) | (simp [*]; done)), H', ⟨by have := HQ1.out; have := HQ2.out; omega⟩, HS, HK⟩
      · rw [if_neg c4] at H
        have c4b0 : decide (x5_0 ≤ j287) = false := decide_eq_false c4
        clear c4
        obtain rfl := Option.some.inj H
        have hb_ := SL.at_ HS.out
        have hz3000022_0_0 := ((blk_cell hb_ 0).trans rfl : _ = some (.int .i64 a0_0))
        have hz3000022_1_0 := ((blk_cell hb_ 1).trans rfl : _ = some (.int .i64 a0_1))
        have hz3000022_2_0 := ((blk_cell hb_ 2).trans rfl : _ = some (.int .i64 a0_2))
        have hz3000022_3_0 := ((blk_cell hb_ 3).trans rfl : _ = some (.int .i64 a0_3))
        clear hb_
        go_wp2
        try simp only [Exit.noGoto_ret, Exit.noGoto_normal, Exit.noGoto_exit]
        first | go_end0 | ((try simp only [Exit.inBlock, Exit.then]); refine bodyPost_ret (results_none rfl _ _ _) rfl ?_)
        replace HS := Aside0.mk (SL.tail HS.out)
        unfold sight_lane_all_i2.Post
        exact ⟨A100000_0, c100000_0, by first | rfl | (simp; done) | (simp [*]; done) | (simp at c4b0 ⊢; first | exact c4b0 | (simp [c4b0]; done)), HS.out, HK.out⟩

/-! ### sight_Line: function 12 -/
def sight_Line.f (k : Nat) (a0_0 : Int) (a0_1 : Int) (l0_2 : List Bool) (a1_0 : Int) (a1_1 : Int) (a2_0 : Int) (a2_1 : Int) : Option ((List (S26))) := (sight_between.f a0_0 a0_1 l0_2 a1_0 a1_1 a2_0 a2_1).bind fun bt262 => (if bt262.2.2.2.2 = true then ((sight_lane_all_i2.f k bt262.1 bt262.2.1 bt262.2.2.1 bt262.2.2.2.1 ([] : List (S26))).bind fun t295 => (some t295)) else (some ([] : List (S26))))
theorem sight_Line.mono : ∀ a0 a1 a2 a3 a4 a5 a6 k, LeO (sight_Line.f k a0 a1 a2 a3 a4 a5 a6) (sight_Line.f (k + 1) a0 a1 a2 a3 a4 a5 a6) := by
  intro a0 a1 a2 a3 a4 a5 a6 k
  unfold sight_Line.f
  repeat' first
      | (with_reducible exact sight_lane_all_i2.mono _ _ _ _ _ _)
      | (with_reducible exact LeO.refl _)
      | (with_reducible exact LeO.none _)
      | (with_reducible refine LeO.ite ?_ ?_)
      | (with_reducible refine everyOf_le (fun _ => ?_))
      | (with_reducible refine LeO.bind ?_ (fun _ => ?_))
      | exact sight_lane_all_i2.mono _ _ _ _ _ _
      | exact LeO.none _
      | refine LeO.ite ?_ ?_
      | refine LeO.bind ?_ (fun _ => ?_)
def sight_Line.Post (r : List (S26)) (S : Nat → Prop) (L : List Asr) (w : World) (e : Ending) (w' : World) : Prop := ∃ (Ar1 : Option Addr) (cr1 : Nat), e = .returned (.slice Ar1 r.length cr1) ∧ SL (row k26 26 (.slice Ar1 r.length cr1) r :: L) w' S ∧ Keep S w w'
set_option maxHeartbeats 8000000 in
set_option maxRecDepth 100000 in
theorem sight_Line.slcalls (k : Nat) (a0_0 : Int) (a0_1 : Int) (A0_2 : Option Addr) (c0_2 : Nat) (l0_2 : List Bool) (a1_0 : Int) (a1_1 : Int) (a2_0 : Int) (a2_1 : Int) (r : List (S26)) (S : Nat → Prop) (L : List Asr) (w : World) (hf : Fresh S w) (hs : SL (L) w S) (hr0_2 : RO S w (fun w_ => Kd.C Kd.bool w_ A0_2 l0_2.length l0_2)) (hc0_2 : l0_2.length ≤ c0_2) (h : sight_Line.f k a0_0 a0_1 l0_2 a1_0 a1_1 a2_0 a2_1 = some r) :
    Calls Try.prog 12 #[.agg #[.int .i64 a0_0, .int .i64 a0_1, .slice A0_2 l0_2.length c0_2], .agg #[.int .i64 a1_0, .int .i64 a1_1], .agg #[.int .i64 a2_0, .int .i64 a2_1]] w (sight_Line.Post r S L w) := by
  have HR0_2 := Aside0.mk hr0_2
  have HC0_2 := Aside0.mk hc0_2
  clear hr0_2 hc0_2
  have HF := Aside0.mk hf
  have HS := Aside0.mk hs
  have HK := Aside0.mk (Keep.refl S w)
  clear hf hs
  have hu24 := Try.underlying24
  have hu26 := Try.underlying26
  have hu43 := Try.underlying43
  have H : ((sight_between.f a0_0 a0_1 l0_2 a1_0 a1_1 a2_0 a2_1).bind fun bt262 => (if bt262.2.2.2.2 = true then ((sight_lane_all_i2.f k bt262.1 bt262.2.1 bt262.2.2.1 bt262.2.2.2.1 ([] : List (S26))).bind fun t295 => (some t295)) else (some ([] : List (S26))))) = some r := h
  clear h
  replace H := Option.bind_eq_some_iff.1 H
  obtain ⟨⟨t262, t263, t264, t265, t266⟩, Hc10, H⟩ := H
  try dsimp only at H
  have Hc1 := Aside0.mk Hc10
  clear Hc10
  have H' := Aside0.mk H
  clear H
  go_enter Try.func12, Try.ntmps12
  go_wp2_with (first | ((with_reducible refine gate_dst (N := 3) rfl ?_); refine wpList_plain rfl (fun K_ hK_ => ?_); refine op_box (S := S) (cs := #[.int .i64 a0_0, .int .i64 a0_1, .slice A0_2 l0_2.length c0_2]) (t := 24) (HF.out.keep HK.out) HS.out (by first | (go_simp; done) | (go_simp; rfl)) ?_; intro g3000026 w2 hs_ hk_; refine hK_ _ _ ?_; clear hK_ K_; replace HS := Aside0.mk (hs_); replace HK := Aside0.mk (HK.out.trans hk_)) | ((with_reducible refine gate_dst (N := 4) rfl ?_); refine wpList_plain rfl (fun K_ hK_ => ?_); refine op_box (S := S) (cs := #[.int .i64 a1_0, .int .i64 a1_1]) (t := 26) (HF.out.keep HK.out) HS.out (by first | (go_simp; done) | (go_simp; rfl)) ?_; intro g3000027 w3 hs_ hk_; refine hK_ _ _ ?_; clear hK_ K_; replace HS := Aside0.mk (hs_); replace HK := Aside0.mk (HK.out.trans hk_)) | ((with_reducible refine gate_dst (N := 5) rfl ?_); refine wpList_plain rfl (fun K_ hK_ => ?_); refine op_box (S := S) (cs := #[.int .i64 a2_0, .int .i64 a2_1]) (t := 26) (HF.out.keep HK.out) HS.out (by first | (go_simp; done) | (go_simp; rfl)) ?_; intro g3000028 w4 hs_ hk_; refine hK_ _ _ ?_; clear hK_ K_; replace HS := Aside0.mk (hs_); replace HK := Aside0.mk (HK.out.trans hk_); have hb_ := SL.at_ HS.out; have hz3000028_0_3 := ((blk_cell hb_ 0).trans rfl : _ = some (.int .i64 a2_0)); have hz3000028_1_3 := ((blk_cell hb_ 1).trans rfl : _ = some (.int .i64 a2_1)); clear hb_; have hb_ := SL.at_ (SL.get1 HS.out); have hz3000027_0_3 := ((blk_cell hb_ 0).trans rfl : _ = some (.int .i64 a1_0)); have hz3000027_1_3 := ((blk_cell hb_ 1).trans rfl : _ = some (.int .i64 a1_1)); clear hb_; have hb_ := SL.at_ (SL.get2 HS.out); have hz3000026_0_3 := ((blk_cell hb_ 0).trans rfl : _ = some (.int .i64 a0_0)); have hz3000026_1_3 := ((blk_cell hb_ 1).trans rfl : _ = some (.int .i64 a0_1)); have hz3000026_2_3 := ((blk_cell hb_ 2).trans rfl : _ = some (.slice A0_2 l0_2.length c0_2)); clear hb_) | ((with_reducible refine gate_dst (N := 14) rfl ?_); refine goesL_ (some 14) rfl rfl Try.func23 (by kernel_rfl) rfl #[.agg #[.int .i64 a0_0, .int .i64 a0_1, .slice A0_2 l0_2.length c0_2], .agg #[.int .i64 a1_0, .int .i64 a1_1], .agg #[.int .i64 a2_0, .int .i64 a2_1]] rfl (by (try simp only [List.map_toArray, List.map_cons, List.map_nil]); first | done | rfl | (simp; done)) ?_; (with_reducible refine (sight_between.calls _ _ _ _ _ _ _ _ _ _ _ _ _ _ _ (RO.at_ HR0_2.out HK.out) HC0_2.out Hc1.out).mono ?_); rintro e_ w5 ⟨rfl, hb_⟩; refine ⟨_, rfl, ?_⟩; replace HS := Aside0.mk (HS.out.below hb_); replace HK := Aside0.mk (HK.out.trans (Keep.below hb_)); (try clear hz3000026_0_3 hz3000026_1_3 hz3000026_2_3); (try clear hz3000027_0_3 hz3000027_1_3); (try clear hz3000028_0_3 hz3000028_1_3)) | ((with_reducible refine gate_dst (N := 7) rfl ?_); refine wpList_plain rfl (fun K_ hK_ => ?_); refine op_box (S := S) (cs := #[.int .i64 0, .int .i64 0, .int .i64 0, .int .i64 0]) (t := 43) (HF.out.keep HK.out) HS.out (by first | (go_simp; done) | (go_simp; rfl)) ?_; intro g3000029 w6 hs_ hk_; refine hK_ _ _ ?_; clear hK_ K_; replace HS := Aside0.mk (hs_); replace HK := Aside0.mk (HK.out.trans hk_)) | ((with_reducible refine gate_store (t := 43) (p := 7) (v := (.tmp 15)) rfl ?_); refine wpList_plain rfl (fun K_ hK_ => ?_); refine op_store (S := S) 43 (.tmp 7) (.tmp 15) rfl g3000029 0 (.agg #[.int .i64 t262, .int .i64 t263, .int .i64 t264, .int .i64 t265]) [.int .i64 t262, .int .i64 t263, .int .i64 t264, .int .i64 t265] rfl rfl rfl (by kernel_rfl) (by simp [Value.oneCell']) HS.out (by simp) ?_; intro w7 hs_ hk_; refine hK_ _ _ ?_; clear hK_ K_; replace HS := Aside0.mk ((show SL (cells g3000029 43 [.int .i64 t262, .int .i64 t263, .int .i64 t264, .int .i64 t265].toArray :: _) _ _ from hs_)); replace HK := Aside0.mk (HK.out.trans hk_); refine stop_ ?_; intro G_ hG_))
  have H := H'.out
  clear H'
  by_cases c8 : t266 = true
  · subst c8
    rw [if_pos rfl] at H
    replace H := Option.bind_eq_some_iff.1 H
    obtain ⟨t295, Hc90, H⟩ := H
    try dsimp only at H
    have Hc9 := Aside0.mk Hc90
    clear Hc90
    obtain rfl := Option.some.inj H
    refine hG_.out ?_
    go_wp2_with (first | ((with_reducible refine gate_dst (N := 9) rfl ?_); refine wpList_plain rfl (fun K_ hK_ => ?_); refine op_box (S := S) (cs := #[.slice none 0 0]) (t := 32) (HF.out.keep HK.out) HS.out (by first | (go_simp; done) | (go_simp; rfl)) ?_; intro g3000030 w10 hs_ hk_; refine hK_ _ _ ?_; clear hK_ K_; replace HS := Aside0.mk (hs_); replace HK := Aside0.mk (HK.out.trans hk_); have hb_ := SL.at_ (SL.get1 HS.out); have hz3000029_0_1 := ((blk_cell hb_ 0).trans rfl : _ = some (.int .i64 t262)); have hz3000029_1_1 := ((blk_cell hb_ 1).trans rfl : _ = some (.int .i64 t263)); have hz3000029_2_1 := ((blk_cell hb_ 2).trans rfl : _ = some (.int .i64 t264)); have hz3000029_3_1 := ((blk_cell hb_ 3).trans rfl : _ = some (.int .i64 t265)); clear hb_; have n2_ := Aside0.mk (SL.nil_row k26 26 HS.out); clear HS; have HS := n2_; clear n2_) | ((with_reducible refine gate_dst (N := 21) rfl ?_); refine goesL_ (some 21) rfl rfl Try.func25 (by kernel_rfl) rfl #[.agg #[.int .i64 t262, .int .i64 t263, .int .i64 t264, .int .i64 t265], .func (.func 30) #[] #[.pointer (some ⟨g3000030, 0, none⟩)]] rfl (by (try simp only [List.map_toArray, List.map_cons, List.map_nil]); first | done | rfl | (simp; done)) ?_; have hs0_ := (SL.get1 HS.out); (with_reducible refine (sight_lane_all_i2.slcalls k _ _ _ _ _ _ _ _ _ _ _ _ (HF.out.keep HK.out) hs0_  Hc9.out).mono ?_); rintro e_ w11 ⟨A296, c297, rfl, hsr_, hkr_⟩; refine ⟨_, rfl, ?_⟩; replace HS := Aside0.mk (hsr_); replace HK := Aside0.mk (HK.out.trans hkr_); (try clear hz3000029_0_1 hz3000029_1_1 hz3000029_2_1 hz3000029_3_1); have hb_ := SL.at_ HS.out; have hz3000030_0_2 := ((blk_cell hb_ 0).trans rfl : _ = some (.slice A296 t295.length c297)); clear hb_))
    go_ret
    replace HS := Aside0.mk (SL.tail (SL.get1 (SL.tail (SL.get1 (SL.tail (SL.get1 (SL.tail (SL.get1 (SL.tail HS.out)))))))))
    unfold sight_Line.Post
    exact ⟨A296, c297, by first | rfl | (simp; done) | (simp [*]; done), HS.out, HK.out⟩
  · replace c8 := Bool.eq_false_iff.mpr c8
    subst c8
    rw [if_neg (show ¬ (false = true) by decide)] at H
    obtain rfl := Option.some.inj H
    have n2_ := Aside0.mk (SL.nil_row k26 26 HS.out)
    clear HS
    have HS := n2_
    clear n2_
    refine hG_.out ?_
    go_wp2
    go_ret
    replace HS := Aside0.mk (SL.tail (SL.get1 (SL.tail (SL.get1 (SL.tail (SL.get1 (SL.tail (SL.get1 HS.out))))))))
    unfold sight_Line.Post
    exact ⟨none, 0, by first | rfl | (simp; done) | (simp [*]; done), HS.out, HK.out⟩

-- NOT PRINTED: function 33 (sight_Sees_1)

/-! ### sight_Sees_1_i1: function 33 -/
def sight_Sees_1_i1.f (a0_0 : Int) (a0_1 : Int) (s1_0 : Int) (s1_1 : Int) (s1_2 : Int) (s1_3 : Int) (s2_0 : Int) (s2_1 : Int) (lo2_2 : List Bool) (s3_0 : Bool) : Option (Bool × Int × Int × Int × Int × Int × Int × Bool) := (sight_lane_walls_1_i1.f a0_0 a0_1 s1_0 s1_1 s1_2 s1_3 s2_0 s2_1 lo2_2).bind fun bt325 => (if bt325.1 = true then (some (false, bt325.2.1, bt325.2.2.1, bt325.2.2.2.1, bt325.2.2.2.2.1, bt325.2.2.2.2.2.1, bt325.2.2.2.2.2.2, !bt325.1)) else (some (true, bt325.2.1, bt325.2.2.1, bt325.2.2.2.1, bt325.2.2.2.2.1, bt325.2.2.2.2.2.1, bt325.2.2.2.2.2.2, !bt325.1)))
def sight_Sees_1_i1.Post (b0 : Nat) (b1 : Nat) (b2 : Nat) (Ao2_2 : Option Addr) (co2_2 : Nat) (lo2_2 : List Bool) (b3 : Nat) (r1 : Bool) (r2 : Int) (r3 : Int) (r4 : Int) (r5 : Int) (r6 : Int) (r7 : Int) (r8 : Bool) (S : Nat → Prop) (L : List Asr) (w : World) (e : Ending) (w' : World) : Prop := e = .returned (.bool r1) ∧ SL (cells b0 46 [.func (.func 40) #[] #[.pointer (some ⟨b1, 0, none⟩), .pointer (some ⟨b2, 0, none⟩)]].toArray :: cells b1 43 [.int .i64 r2, .int .i64 r3, .int .i64 r4, .int .i64 r5].toArray :: cells b2 24 [.int .i64 r6, .int .i64 r7, .slice Ao2_2 lo2_2.length co2_2].toArray :: cells b3 4 [.bool r8].toArray :: L) w' S ∧ Keep S w w'
set_option maxHeartbeats 8000000 in
set_option maxRecDepth 100000 in
theorem sight_Sees_1_i1.slcalls (a0_0 : Int) (a0_1 : Int) (b0 : Nat) (b1 : Nat) (s1_0 : Int) (s1_1 : Int) (s1_2 : Int) (s1_3 : Int) (b2 : Nat) (s2_0 : Int) (s2_1 : Int) (Ao2_2 : Option Addr) (co2_2 : Nat) (lo2_2 : List Bool) (b3 : Nat) (s3_0 : Bool) (r1 : Bool) (r2 : Int) (r3 : Int) (r4 : Int) (r5 : Int) (r6 : Int) (r7 : Int) (r8 : Bool) (S : Nat → Prop) (L : List Asr) (w : World) (hf : Fresh S w) (hs : SL (cells b0 46 [.func (.func 40) #[] #[.pointer (some ⟨b1, 0, none⟩), .pointer (some ⟨b2, 0, none⟩)]].toArray :: cells b1 43 [.int .i64 s1_0, .int .i64 s1_1, .int .i64 s1_2, .int .i64 s1_3].toArray :: cells b2 24 [.int .i64 s2_0, .int .i64 s2_1, .slice Ao2_2 lo2_2.length co2_2].toArray :: cells b3 4 [.bool s3_0].toArray :: L) w S) (hro2_2 : RO S w (fun w_ => Kd.C Kd.bool w_ Ao2_2 lo2_2.length lo2_2)) (hco2_2 : lo2_2.length ≤ co2_2) (h : sight_Sees_1_i1.f a0_0 a0_1 s1_0 s1_1 s1_2 s1_3 s2_0 s2_1 lo2_2 s3_0 = some (r1, r2, r3, r4, r5, r6, r7, r8)) :
    Calls Try.prog 33 #[.agg #[.int .i64 a0_0, .int .i64 a0_1], .pointer (some ⟨b0, 0, none⟩), .pointer (some ⟨b3, 0, none⟩)] w (sight_Sees_1_i1.Post b0 b1 b2 Ao2_2 co2_2 lo2_2 b3 r1 r2 r3 r4 r5 r6 r7 r8 S L w) := by
  have HRo2_2 := Aside0.mk hro2_2
  have HCo2_2 := Aside0.mk hco2_2
  clear hro2_2 hco2_2
  have HF := Aside0.mk hf
  have HS := Aside0.mk hs
  have HK := Aside0.mk (Keep.refl S w)
  clear hf hs
  have hu26 := Try.underlying26
  have H : ((sight_lane_walls_1_i1.f a0_0 a0_1 s1_0 s1_1 s1_2 s1_3 s2_0 s2_1 lo2_2).bind fun bt325 => (if bt325.1 = true then (some (false, bt325.2.1, bt325.2.2.1, bt325.2.2.2.1, bt325.2.2.2.2.1, bt325.2.2.2.2.2.1, bt325.2.2.2.2.2.2, !bt325.1)) else (some (true, bt325.2.1, bt325.2.2.1, bt325.2.2.2.1, bt325.2.2.2.2.1, bt325.2.2.2.2.2.1, bt325.2.2.2.2.2.2, !bt325.1)))) = some (r1, r2, r3, r4, r5, r6, r7, r8) := h
  clear h
  replace H := Option.bind_eq_some_iff.1 H
  obtain ⟨⟨t325, t326, t327, t328, t329, t330, t331⟩, Hc10, H⟩ := H
  try dsimp only at H
  have Hc1 := Aside0.mk Hc10
  clear Hc10
  have H' := Aside0.mk H
  clear H
  go_enter Try.func33, Try.ntmps33
  go_wp2_with (first | ((with_reducible refine gate_dst (N := 3) rfl ?_); refine wpList_plain rfl (fun K_ hK_ => ?_); refine op_box (S := S) (cs := #[.int .i64 a0_0, .int .i64 a0_1]) (t := 26) (HF.out.keep HK.out) HS.out (by first | (go_simp; done) | (go_simp; rfl)) ?_; intro g3000043 w2 hs_ hk_; refine hK_ _ _ ?_; clear hK_ K_; replace HS := Aside0.mk (hs_); replace HK := Aside0.mk (HK.out.trans hk_); have hb_ := SL.at_ HS.out; have hz3000043_0_1 := ((blk_cell hb_ 0).trans rfl : _ = some (.int .i64 a0_0)); have hz3000043_1_1 := ((blk_cell hb_ 1).trans rfl : _ = some (.int .i64 a0_1)); clear hb_; have hb_ := SL.at_ (SL.get1 HS.out); have hz0_0_1 := ((blk_cell hb_ 0).trans rfl : _ = some (.func (.func 40) #[] #[.pointer (some ⟨b1, 0, none⟩), .pointer (some ⟨b2, 0, none⟩)])); clear hb_) | ((with_reducible refine gate_dst (N := 7) rfl ?_); refine goesLc_ (some 7) rfl (by with_unfolding_all rfl) rfl Try.func40 (by kernel_rfl) rfl #[.agg #[.int .i64 a0_0, .int .i64 a0_1], .pointer (some ⟨b1, 0, none⟩), .pointer (some ⟨b2, 0, none⟩)] rfl (by (try simp only [List.map_toArray, List.map_cons, List.map_nil]); first | done | rfl | (simp; done)) ?_; have hs0_ := (SL.get3 (SL.get3 HS.out)); (with_reducible refine (sight_lane_walls_1_i1.slcalls _ _ _ _ _ _ _ _ _ _ _ _ _ _ _ _ _ _ _ _ _ _ _ (HF.out.keep HK.out) hs0_ (HRo2_2.out.keep HK.out) HCo2_2.out Hc1.out).mono ?_); rintro e_ w3 ⟨rfl, hsr_, hkr_⟩; refine ⟨_, rfl, ?_⟩; replace HS := Aside0.mk (hsr_); replace HK := Aside0.mk (HK.out.trans hkr_); (try clear hz0_0_1); (try clear hz3000043_0_1 hz3000043_1_1)) | ((with_reducible refine gate_store (t := 4) (p := 2) (v := (.tmp 8)) rfl ?_); refine wpList_plain rfl (fun K_ hK_ => ?_); refine op_store (S := S) 4 (.tmp 2) (.tmp 8) rfl b3 0 (.bool (!t325)) [.bool (!t325)] rfl rfl rfl (by kernel_rfl) (by simp [Value.oneCell']) (SL.get4 HS.out) (by simp) ?_; intro w4 hs_ hk_; refine hK_ _ _ ?_; clear hK_ K_; replace HS := Aside0.mk ((SL.back4 (show SL (cells b3 4 [.bool (!t325)].toArray :: _) _ _ from hs_))); replace HK := Aside0.mk (HK.out.trans hk_); have hb_ := SL.at_ (SL.get4 HS.out); have hz3_0_3 := ((blk_cell hb_ 0).trans rfl : _ = some (.bool (!t325))); clear hb_; refine stop_ ?_; intro G_ hG_))
  have H := H'.out
  clear H'
  by_cases c5 : t325 = true
  · subst c5
    rw [if_pos rfl] at H
    simp only [Option.some.injEq, Prod.mk.injEq] at H
    obtain ⟨rfl, rfl, rfl, rfl, rfl, rfl, rfl, rfl⟩ := H
    refine hG_.out ?_
    go_wp2
    go_ret
    replace HS := Aside0.mk (SL.get3 (SL.get2 (SL.get2 (SL.get3 (SL.tail (SL.get2 HS.out))))))
    unfold sight_Sees_1_i1.Post
    exact ⟨by first | rfl | (simp; done) | (simp [*]; done), HS.out, HK.out⟩
  · replace c5 := Bool.eq_false_iff.mpr c5
    subst c5
    rw [if_neg (show ¬ (false = true) by decide)] at H
    simp only [Option.some.injEq, Prod.mk.injEq] at H
    obtain ⟨rfl, rfl, rfl, rfl, rfl, rfl, rfl, rfl⟩ := H
    refine hG_.out ?_
    go_wp2
    go_ret
    replace HS := Aside0.mk (SL.get3 (SL.get2 (SL.get2 (SL.get3 (SL.tail (SL.get2 HS.out))))))
    unfold sight_Sees_1_i1.Post
    exact ⟨by first | rfl | (simp; done) | (simp [*]; done), HS.out, HK.out⟩

end Go.Proofs.Ytljmecjciifceaa.XSW
