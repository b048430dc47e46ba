-- Written by xprint.py (a program of this session) for this claim
import Derived.Test.YtofodbnnminmkaaSL6
import Derived.Test.YtofodbnnminmkaaLay
import Derived.Test.YtofodbnnminmkaaSL5
import Derived.Test.YtofodbnnminmkaaXASx0
import Derived.Test.YtofodbnnminmkaaXASx5
namespace Go.Proofs.Ytofodbnnminmkaa.XAS
open Go.Proofs.YtofodbnnminmkaaV Go.Proofs.YtofodbnnminmkaaS
open Go.RowKit Go.Proofs.YtofodbnnminmkaaW.PrintWords Go.Proofs.YtofodbnnminmkaaW.PrintLast Go.Proofs.YtofodbnnminmkaaW.PrintMore
attribute [local go_sem] max2_int min2_int max_two min_two max_three min_three max_four min_four   -- for this text's walks alone
set_option linter.unusedVariables false
set_option linter.unusedSimpArgs false

/-! ### barrowref02_Same: function 16 -/
def barrowref02_Same.l0 : Nat → List Int → List Int → Int → Option (Bool)
  | 0, _, _, _ => none
  | k + 1, x0, x1, x5 => if x5 < (x0.length : Int) then (if 0 ≤ x5 then (if x5 < (x1.length : Int) then (if (rd x0 x5) = (rd x1 x5) then (barrowref02_Same.l0 k x0 x1 (wrap64 (x5 + 1))) else (some false)) else (none)) else (none)) else (some true)
def barrowref02_Same.f (k : Nat) (l0 : List Int) (l1 : List Int) : Option (Bool) := if (l0.length : Int) = (l1.length : Int) then (barrowref02_Same.l0 k l0 l1 0) else (some false)
theorem barrowref02_Same.mono_l : ∀ k, (∀ y0 y1 y2, LeO (barrowref02_Same.l0 k y0 y1 y2) (barrowref02_Same.l0 (k + 1) y0 y1 y2))
  | 0 => fun _ _ _ r h => by simp [barrowref02_Same.l0] at h
  | k + 1 => by
    have ih0 := barrowref02_Same.mono_l k
    · intro y0 y1 y2
      unfold barrowref02_Same.l0
      repeat' first
      | (with_reducible exact ih0 _ _ _)
      | (with_reducible exact LeO.refl _)
      | (with_reducible exact LeO.none _)
      | (with_reducible refine LeO.ite ?_ ?_)
      | (with_reducible refine LeO.bind ?_ (fun _ => ?_))
      | exact ih0 _ _ _
      | exact LeO.none _
      | refine LeO.ite ?_ ?_
      | refine LeO.bind ?_ (fun _ => ?_)
theorem barrowref02_Same.mono : ∀ a0 a1 k, LeO (barrowref02_Same.f k a0 a1) (barrowref02_Same.f (k + 1) a0 a1) := by
  intro a0 a1 k
  have ih0 := barrowref02_Same.mono_l k
  unfold barrowref02_Same.f
  repeat' first
      | (with_reducible exact ih0 _ _ _)
      | (with_reducible exact LeO.refl _)
      | (with_reducible exact LeO.none _)
      | (with_reducible refine LeO.ite ?_ ?_)
      | (with_reducible refine LeO.bind ?_ (fun _ => ?_))
      | exact ih0 _ _ _
      | exact LeO.none _
      | refine LeO.ite ?_ ?_
      | refine LeO.bind ?_ (fun _ => ?_)
set_option maxHeartbeats 8000000 in
set_option maxRecDepth 100000 in
theorem barrowref02_Same.calls (k : Nat) (A0 : Option Addr) (c0 : Nat) (l0 : List Int) (A1 : Option Addr) (c1 : Nat) (l1 : List Int) (r : Bool) (w : World) (hr0 : Kd.C (Kd.int .i64) w A0 l0.length l0) (hc0 : l0.length ≤ c0) (hr1 : Kd.C (Kd.int .i64) w A1 l1.length l1) (hc1 : l1.length ≤ c1) (h : barrowref02_Same.f k l0 l1 = some r) :
    Calls Try.prog 16 #[.slice A0 l0.length c0, .slice A1 l1.length c1] w fun e w' => e = .returned (.bool r) ∧ Drawn0 w w' := by
  have HR0 := Aside0.mk hr0
  have HC0 := Aside0.mk hc0
  clear hr0 hc0
  have HR1 := Aside0.mk hr1
  have HC1 := Aside0.mk hc1
  clear hr1 hc1
  have H : (if (l0.length : Int) = (l1.length : Int) then (barrowref02_Same.l0 k l0 l1 0) else (some false)) = some r := h
  clear h
  by_cases c3 : (l0.length : Int) = (l1.length : Int)
  · rw [if_pos c3] at H
    have c3b0 : ((l0.length : Int) == (l1.length : Int)) = true := beq_iff_eq.mpr c3
    have c3b1 : ((l0.length : Int) != (l1.length : Int)) = false := bne_eq_false_iff_eq.mpr c3
    have c3b2 : (l0.length == l1.length) = true := by first | simpa using c3 | (simp at c3 ⊢; omega)
    clear c3
    have H' := Aside0.mk H
    clear H
    go_enter Try.func16, Try.ntmps16
    go_wp2
    repeat (go_quiet (fail); try go_wp2)
    go_loopg [5] k (fun kq v5 w' => ∃ (x5_1 : Int), v5 = .int .i64 x5_1 ∧ Aside0 (barrowref02_Same.l0 kq l0 l1 x5_1 = some r) ∧ Aside0 (kq ≤ k) ∧ Drawn0 w w')
    case atStart => exact ⟨(0), (by first | rfl | (simp; done) | (simp [*]; done)), H', ⟨Nat.le_refl _⟩, by repeat (first | exact Drawn0.refl _ | apply Drawn0.step)⟩
    case round =>
      clear H'
      try clear c1
      try clear p2
      try clear c3
      try clear c3b0
      try clear c3b1
      try clear c3b2
      obtain ⟨x5_1, rfl, HA, HK1, ⟨m1, rfl⟩⟩ := hrel
      cases gk with
      | zero => exact absurd HA.out (by simp [barrowref02_Same.l0])
      | succ k1 =>
        have H := HA.out
        clear HA
        simp only [barrowref02_Same.l0] at H
        by_cases c4 : x5_1 < (l0.length : Int)
        · rw [if_pos c4] at H
          have c4b0 : decide (x5_1 < (l0.length : Int)) = true := decide_eq_true c4
          clear c4
          by_cases c5 : 0 ≤ x5_1
          · rw [if_pos c5] at H
            have c5b0 : decide (0 ≤ x5_1) = true := decide_eq_true c5
            clear c5
            by_cases c6 : x5_1 < (l1.length : Int)
            · rw [if_pos c6] at H
              have c6b0 : decide (x5_1 < (l1.length : Int)) = true := decide_eq_true c6
              clear c6
              by_cases c7 : (rd l0 x5_1) = (rd l1 x5_1)
              · rw [if_pos c7] at H
                have c7b0 : ((rd l0 x5_1) == (rd l1 x5_1)) = true := beq_iff_eq.mpr c7
                have c7b1 : ((rd l0 x5_1) != (rd l1 x5_1)) = false := bne_eq_false_iff_eq.mpr c7
                clear c7
                have H' := Aside0.mk H
                clear H
                have p239 : 0 ≤ (x5_1 : Int) := of_decide_eq_true (by first | (with_reducible assumption) | assumption)
                have q239 : x5_1 < (l0.length : Int) := of_decide_eq_true (by first | (with_reducible assumption) | assumption)
                obtain ⟨ad239, e239, hx239_0⟩ := Kd.at_int HR0.out x5_1 p239 q239
                cases e239
                replace p239 := eq_true p239
                replace q239 := eq_true q239
                have p240 : 0 ≤ (x5_1 : Int) := of_decide_eq_true (by first | (with_reducible assumption) | assumption)
                have q240 : x5_1 < (l1.length : Int) := of_decide_eq_true (by first | (with_reducible assumption) | assumption)
                obtain ⟨ad240, e240, hx240_0⟩ := Kd.at_int HR1.out x5_1 p240 q240
                cases e240
                replace p240 := eq_true p240
                replace q240 := eq_true q240
                go_wp2
                repeat (go_quiet (fail); try go_wp2)
                go_roundg k1
                case measure => have := HK1.out; omega
                case rel => exact ⟨(wrap64 (x5_1 + 1)), (by first | rfl | (simp; done) | (simp [*]; done)), H', ⟨by have := HK1.out; omega⟩, by repeat (first | exact Drawn0.refl _ | apply Drawn0.step)⟩
              · rw [if_neg c7] at H
                have c7b0 : ((rd l0 x5_1) == (rd l1 x5_1)) = false := beq_eq_false_iff_ne.mpr c7
                have c7b1 : ((rd l0 x5_1) != (rd l1 x5_1)) = true := bne_iff_ne.mpr c7
                obtain rfl := Option.some.inj H
                have p239 : 0 ≤ (x5_1 : Int) := of_decide_eq_true (by first | (with_reducible assumption) | assumption)
                have q239 : x5_1 < (l0.length : Int) := of_decide_eq_true (by first | (with_reducible assumption) | assumption)
                obtain ⟨ad239, e239, hx239_0⟩ := Kd.at_int HR0.out x5_1 p239 q239
                cases e239
                replace p239 := eq_true p239
                replace q239 := eq_true q239
                have p240 : 0 ≤ (x5_1 : Int) := of_decide_eq_true (by first | (with_reducible assumption) | assumption)
                have q240 : x5_1 < (l1.length : Int) := of_decide_eq_true (by first | (with_reducible assumption) | assumption)
                obtain ⟨ad240, e240, hx240_0⟩ := Kd.at_int HR1.out x5_1 p240 q240
                cases e240
                replace p240 := eq_true p240
                replace q240 := eq_true q240
                go_wp2
                repeat (go_quiet (fail); try go_wp2)
                go_ret
                exact ⟨by first | rfl | (simp; done) | (simp [*]; done), by repeat (first | exact Drawn0.refl _ | apply Drawn0.step)⟩
            · rw [if_neg c6] at H
              exact absurd H (by simp)
          · rw [if_neg c5] at H
            exact absurd H (by simp)
        · rw [if_neg c4] at H
          have c4b0 : decide (x5_1 < (l0.length : Int)) = false := decide_eq_false c4
          clear c4
          obtain rfl := Option.some.inj H
          go_wp2
          repeat (go_quiet (fail); try go_wp2)
          go_ret
          exact ⟨by first | rfl | (simp; done) | (simp [*]; done), by repeat (first | exact Drawn0.refl _ | apply Drawn0.step)⟩
  · rw [if_neg c3] at H
    have c3b0 : ((l0.length : Int) == (l1.length : Int)) = false := beq_eq_false_iff_ne.mpr c3
    have c3b1 : ((l0.length : Int) != (l1.length : Int)) = true := bne_iff_ne.mpr c3
    have c3b2 : (l0.length == l1.length) = false := by first | simpa using c3 | (simp at c3 ⊢; omega)
    obtain rfl := Option.some.inj H
    go_enter Try.func16, Try.ntmps16
    go_wp2
    repeat (go_quiet (fail); try go_wp2)
    go_ret
    exact ⟨by first | rfl | (simp; done) | (simp [*]; done), by repeat (first | exact Drawn0.refl _ | apply Drawn0.step)⟩

/-! ### area_places: function 33 -/
def area_places.l0 : Nat → (List (S47)) → Int → (List (Int × S26)) → Option ((List (Int × S26)))
  | 0, _, _, _ => none
  | k + 1, l0, x11_0, y3000023_0 => if x11_0 < (l0.length : Int) then (if 0 ≤ x11_0 then ((some (mgetD z26 y3000023_0 ((rd_T47 l0 x11_0).f0) : S26)).bind fun y248 => ((some (mhas y3000023_0 ((rd_T47 l0 x11_0).f0) : Bool)).bind fun t249 => (if t249 = true then (area_places.l0 k l0 (wrap64 (x11_0 + 1)) y3000023_0) else ((some (mput y3000023_0 ((rd_T47 l0 x11_0).f0) (⟨(rd_T47 l0 x11_0).f1.f0, (rd_T47 l0 x11_0).f1.f1⟩ : S26) : List (Int × S26))).bind fun y250 => (area_places.l0 k l0 (wrap64 (x11_0 + 1)) y250))))) else (none)) else (some y3000023_0)
def area_places.f (k : Nat) (l0 : List (S47)) : Option ((List (Int × S26))) := area_places.l0 k l0 0 ([] : List (Int × S26))
theorem area_places.mono_l : ∀ k, (∀ y0 y1 y2, LeO (area_places.l0 k y0 y1 y2) (area_places.l0 (k + 1) y0 y1 y2))
  | 0 => fun _ _ _ r h => by simp [area_places.l0] at h
  | k + 1 => by
    have ih0 := area_places.mono_l k
    · intro y0 y1 y2
      unfold area_places.l0
      repeat' first
      | (with_reducible exact ih0 _ _ _)
      | (with_reducible exact LeO.refl _)
      | (with_reducible exact LeO.none _)
      | (with_reducible refine LeO.ite ?_ ?_)
      | (with_reducible refine everyOf_le (fun _ => ?_))
      | (with_reducible refine LeO.bind ?_ (fun _ => ?_))
      | exact ih0 _ _ _
      | exact LeO.none _
      | refine LeO.ite ?_ ?_
      | refine LeO.bind ?_ (fun _ => ?_)
theorem area_places.mono : ∀ a0 k, LeO (area_places.f k a0) (area_places.f (k + 1) a0) := by
  intro a0 k
  have ih0 := area_places.mono_l k
  unfold area_places.f
  repeat' first
      | (with_reducible exact ih0 _ _ _)
      | (with_reducible exact LeO.refl _)
      | (with_reducible exact LeO.none _)
      | (with_reducible refine LeO.ite ?_ ?_)
      | (with_reducible refine everyOf_le (fun _ => ?_))
      | (with_reducible refine LeO.bind ?_ (fun _ => ?_))
      | exact ih0 _ _ _
      | exact LeO.none _
      | refine LeO.ite ?_ ?_
      | refine LeO.bind ?_ (fun _ => ?_)
def area_places.Post (r : List (Int × S26)) (S : Nat → Prop) (L : List Asr) (w : World) (e : Ending) (w' : World) : Prop := ∃ (gr0 : Nat) (bsr1 : List Nat) (ckr1 : Nat), e = .returned (.map (some gr0)) ∧ SL (mapo gr0 (Value.int .i64) (fun x_ : S26 => Value.agg #[.int .i64 x_.f0, .int .i64 x_.f1]) r bsr1 ckr1 :: L) w' S ∧ Keep S w w'
set_option maxHeartbeats 8000000 in
set_option maxRecDepth 100000 in
theorem area_places.slcalls (k : Nat) (A0 : Option Addr) (c0 : Nat) (l0 : List (S47)) (r : List (Int × S26)) (S : Nat → Prop) (L : List Asr) (w : World) (hf : Fresh S w) (hs : SL (L) w S) (hr0 : RO S w (fun w_ => Kd.C k47 w_ A0 l0.length l0)) (hc0 : l0.length ≤ c0) (h : area_places.f k l0 = some r) :
    Calls Try.prog 33 #[.slice A0 l0.length c0] w (area_places.Post r S L w) := by
  have HR0 := Aside0.mk hr0
  have HC0 := Aside0.mk hc0
  clear hr0 hc0
  have HF := Aside0.mk hf
  have HS := Aside0.mk hs
  have HK := Aside0.mk (Keep.refl S w)
  clear hf hs
  have hu26 := Try.underlying26
  have hu47 := Try.underlying47
  have H : (area_places.l0 k l0 0 ([] : List (Int × S26))) = some r := h
  clear h
  have H' := Aside0.mk H
  clear H
  go_enter Try.func33, Try.ntmps33
  go_wp2_with (first | ((with_reducible refine gate_dst (N := 8) rfl ?_); refine wpList_plain rfl (fun K_ hK_ => ?_); refine op_makeMap (S := S) (w := _) (Value.int .i64) (fun x_ : S26 => Value.agg #[.int .i64 x_.f0, .int .i64 x_.f1]) 55 rfl (HF.out.keep HK.out) HS.out ?_; intro g3000023 w1 hs_ hk_; refine hK_ _ _ ?_; clear hK_ K_; replace HS := Aside0.mk ((show SL (mapo g3000023 (Value.int .i64) (fun x_ : S26 => Value.agg #[.int .i64 x_.f0, .int .i64 x_.f1]) ([] : List (Int × S26)) [] 0 :: _) _ _ from hs_)); replace HK := Aside0.mk (HK.out.trans hk_)))
  go_loopg [11] k (fun kq v11 w' => ∃ (y3000023_0 : List (Int × S26)) (bs3000023_0 : List Nat) (ck3000023_0 : Nat) (x11_0 : Int), v11 = .int .i64 x11_0 ∧ Aside0 (area_places.l0 kq l0 x11_0 y3000023_0 = some r) ∧ Aside0 (kq ≤ k) ∧ Aside0 (SL (mapo g3000023 (Value.int .i64) (fun x_ : S26 => Value.agg #[.int .i64 x_.f0, .int .i64 x_.f1]) y3000023_0 bs3000023_0 ck3000023_0 :: L) w' S) ∧ Aside0 (Keep S w w'))
  case atStart => exact ⟨(([] : List (Int × S26))), ([]), (0), (0), (by first | rfl | (simp; done) | (simp [*]; done)), H', ⟨Nat.le_refl _⟩, HS, HK⟩
  case round =>
    clear H' HS HK
    obtain ⟨y3000023_0, bs3000023_0, ck3000023_0, x11_0, rfl, HA, HQ1, HS, HK⟩ := hrel
    cases gk with
    | zero => exact absurd HA.out (by simp [area_places.l0])
    | succ k1 =>
      have H := HA.out
      clear HA
      simp only [area_places.l0] at H
      by_cases c2 : x11_0 < (l0.length : Int)
      · rw [if_pos c2] at H
        have c2b0 : decide (x11_0 < (l0.length : Int)) = true := decide_eq_true c2
        clear c2
        by_cases c3 : 0 ≤ x11_0
        · rw [if_pos c3] at H
          have c3b0 : decide (0 ≤ x11_0) = true := decide_eq_true c3
          clear c3
          replace H := Option.bind_eq_some_iff.1 H
          obtain ⟨y248, hy2480, H⟩ := H
          try dsimp only at H
          have hy248 := Option.some.inj hy2480
          clear hy2480
          have Ny248 := Aside0.mk hy248
          clear hy248
          replace H := Option.bind_eq_some_iff.1 H
          obtain ⟨t249, ht2490, H⟩ := H
          try dsimp only at H
          have ht249 := Option.some.inj ht2490
          clear ht2490
          have Nt249 := Aside0.mk ht249
          clear ht249
          have H' := Aside0.mk H
          clear H
          have pq247 : 0 ≤ (x11_0 : Int) := of_decide_eq_true (by first | (with_reducible assumption) | assumption)
          have qq247 : x11_0 < ((l0.length : Int) : Int) := of_decide_eq_true (by first | (with_reducible assumption) | assumption)
          obtain ⟨adq247, eq247, hxq247_0, hxq247_1, hxq247_2⟩ := at_T47 (RO.at_ HR0.out HK.out) x11_0 pq247 qq247
          cases eq247
          replace pq247 := eq_true pq247
          replace qq247 := eq_true qq247
          go_wp2_with (first | ((with_reducible refine gate_dst (N := 5) rfl ?_); refine wpList_plain rfl (fun K_ hK_ => ?_); refine op_box (S := S) (cs := #[.int .i64 0, .int .i64 0, .int .i64 0]) (t := 47) (HF.out.keep HK.out) HS.out (by first | (go_simp; done) | (go_simp; rfl)) ?_; intro g3000024 w4 hs_ hk_; refine hK_ _ _ ?_; clear hK_ K_; replace HS := Aside0.mk (hs_); replace HK := Aside0.mk (HK.out.trans hk_)) | ((with_reducible refine gate_store (t := 47) (p := 5) (v := (.tmp 14)) rfl ?_); refine wpList_plain rfl (fun K_ hK_ => ?_); refine op_store (S := S) 47 (.tmp 5) (.tmp 14) rfl g3000024 0 (.agg #[.int .i64 ((rd_T47 l0 x11_0).f0), .int .i64 ((rd_T47 l0 x11_0).f1.f0), .int .i64 ((rd_T47 l0 x11_0).f1.f1)]) [.int .i64 ((rd_T47 l0 x11_0).f0), .int .i64 ((rd_T47 l0 x11_0).f1.f0), .int .i64 ((rd_T47 l0 x11_0).f1.f1)] rfl rfl rfl (by kernel_rfl) (by simp [Value.oneCell']) HS.out (by simp) ?_; intro w5 hs_ hk_; refine hK_ _ _ ?_; clear hK_ K_; replace HS := Aside0.mk ((show SL (cells g3000024 47 [.int .i64 ((rd_T47 l0 x11_0).f0), .int .i64 ((rd_T47 l0 x11_0).f1.f0), .int .i64 ((rd_T47 l0 x11_0).f1.f1)].toArray :: _) _ _ from hs_)); replace HK := Aside0.mk (HK.out.trans hk_); have hb_ := SL.at_ HS.out; have hz3000024_0_2 := ((blk_cell hb_ 0).trans rfl : _ = some (.int .i64 ((rd_T47 l0 x11_0).f0))); have hz3000024_1_2 := ((blk_cell hb_ 1).trans rfl : _ = some (.int .i64 ((rd_T47 l0 x11_0).f1.f0))); have hz3000024_2_2 := ((blk_cell hb_ 2).trans rfl : _ = some (.int .i64 ((rd_T47 l0 x11_0).f1.f1))); clear hb_) | ((with_reducible refine gate_dst (N := 19) rfl ?_); refine wpList_plain rfl (fun K_ hK_ => ?_); refine op_lookup (keyL_int (β := S26) (P := Try.prog) Try.underlying3) z26 (.tmp 16) (.tmp 18) rfl Try.underlying55 (by kernel_rfl) g3000023 rfl ((rd_T47 l0 x11_0).f0) (by rfl) (SL.get1 HS.out) y248 Ny248.out t249 Nt249.out (.agg #[.int .i64 y248.f0, .int .i64 y248.f1]) rfl ?_; refine hK_ _ _ ?_; clear hK_ K_) | ((with_reducible refine gate_dst (N := 6) rfl ?_); refine wpList_plain rfl (fun K_ hK_ => ?_); refine op_box (S := S) (cs := #[.int .i64 0, .int .i64 0]) (t := 26) (HF.out.keep HK.out) HS.out (by first | (go_simp; done) | (go_simp; rfl)) ?_; intro g3000025 w7 hs_ hk_; refine hK_ _ _ ?_; clear hK_ K_; replace HS := Aside0.mk (hs_); replace HK := Aside0.mk (HK.out.trans hk_); (try clear hz3000024_0_2 hz3000024_1_2 hz3000024_2_2)) | ((with_reducible refine gate_store (t := 26) (p := 6) (v := (.tmp 20)) rfl ?_); refine wpList_plain rfl (fun K_ hK_ => ?_); refine op_store (S := S) 26 (.tmp 6) (.tmp 20) rfl g3000025 0 (.agg #[.int .i64 y248.f0, .int .i64 y248.f1]) [.int .i64 y248.f0, .int .i64 y248.f1] rfl rfl rfl (by kernel_rfl) (by simp [Value.oneCell']) HS.out (by simp) ?_; intro w8 hs_ hk_; refine hK_ _ _ ?_; clear hK_ K_; replace HS := Aside0.mk ((show SL (cells g3000025 26 [.int .i64 y248.f0, .int .i64 y248.f1].toArray :: _) _ _ from hs_)); replace HK := Aside0.mk (HK.out.trans hk_); refine stop_ ?_; intro G_ hG_))
          have H := H'.out
          clear H'
          by_cases c9 : t249 = true
          · subst c9
            rw [if_pos rfl] at H
            have H' := Aside0.mk H
            clear H
            refine hG_.out ?_
            go_wp2
            replace HS := Aside0.mk (SL.tail (SL.tail HS.out))
            go_roundg k1
            case measure => have := HQ1.out; omega
            case rel => exact ⟨(y3000023_0), (bs3000023_0), (ck3000023_0), (wrap64 (x11_0 + 1)), (by first | rfl | (simp; done) | (simp [*]; done)), H', ⟨by have := HQ1.out; omega⟩, HS, HK⟩
          · replace c9 := Bool.eq_false_iff.mpr c9
            subst c9
            rw [if_neg (show ¬ (false = true) by decide)] at H
            replace H := Option.bind_eq_some_iff.1 H
            obtain ⟨y250, hy2500, H⟩ := H
            try dsimp only at H
            have hy250 := Option.some.inj hy2500
            clear hy2500
            have Ny250 := Aside0.mk hy250
            clear hy250
            have H' := Aside0.mk H
            clear H
            have hb_ := SL.at_ (SL.get1 HS.out)
            have hz3000024_0_0 := ((blk_cell hb_ 0).trans rfl : _ = some (.int .i64 ((rd_T47 l0 x11_0).f0)))
            have hz3000024_1_0 := ((blk_cell hb_ 1).trans rfl : _ = some (.int .i64 ((rd_T47 l0 x11_0).f1.f0)))
            have hz3000024_2_0 := ((blk_cell hb_ 2).trans rfl : _ = some (.int .i64 ((rd_T47 l0 x11_0).f1.f1)))
            clear hb_
            refine hG_.out ?_
            go_wp2_with (first | ((with_reducible refine gate_mapUpdate (T := 55) (m := (.tmp 24)) (k := (.tmp 26)) (v := (.tmp 28)) rfl ?_); refine wpList_plain rfl (fun K_ hK_ => ?_); refine op_mapUpdate (S := S) (keyL_int (β := S26) (P := Try.prog) Try.underlying3) (.tmp 24) (.tmp 26) (.tmp 28) rfl Try.underlying55 g3000023 rfl ((rd_T47 l0 x11_0).f0) (by rfl) (⟨(rd_T47 l0 x11_0).f1.f0, (rd_T47 l0 x11_0).f1.f1⟩ : S26) (by rfl) (HF.out.keep HK.out) (SL.get2 HS.out) y250 Ny250.out ?_; intro bs251 ck252 w10 hs_ hk_; refine hK_ _ _ ?_; clear hK_ K_; replace HS := Aside0.mk ((SL.back2 (show SL (mapo g3000023 (Value.int .i64) (fun x_ : S26 => Value.agg #[.int .i64 x_.f0, .int .i64 x_.f1]) y250 bs251 ck252 :: _) _ _ from hs_))); replace HK := Aside0.mk (HK.out.trans hk_); (try clear hz3000024_0_0 hz3000024_1_0 hz3000024_2_0)))
            replace HS := Aside0.mk (SL.tail (SL.tail HS.out))
            go_roundg k1
            case measure => have := HQ1.out; omega
            case rel => exact ⟨(y250), (bs251), (ck252), (wrap64 (x11_0 + 1)), (by first | rfl | (simp; done) | (simp [*]; done)), H', ⟨by have := HQ1.out; omega⟩, HS, HK⟩
        · rw [if_neg c3] at H
          exact absurd H (by simp)
      · rw [if_neg c2] at H
        have c2b0 : decide (x11_0 < (l0.length : Int)) = false := decide_eq_false c2
        clear c2
        obtain rfl := Option.some.inj H
        go_wp2
        go_ret
        unfold area_places.Post
        exact ⟨g3000023, bs3000023_0, ck3000023_0, by first | rfl | (simp; done) | (simp [*]; done) | (simp at c2b0 ⊢; first | exact c2b0 | (simp [c2b0]; done)), HS.out, HK.out⟩

/-! ### cmp_isNaN_int: function 50 -/
def cmp_isNaN_int.f (a0 : Int) : Option (Bool) := some (a0 != a0)
set_option maxHeartbeats 8000000 in
set_option maxRecDepth 100000 in
theorem cmp_isNaN_int.calls (a0 : Int) (r : Bool) (w : World) (h : cmp_isNaN_int.f a0 = some r) :
    Calls Try.prog 50 #[.int .i64 a0] w fun e w' => e = .returned (.bool r) ∧ Drawn0 w w' := by
  have H : (some (a0 != a0)) = some r := h
  clear h
  obtain rfl := Option.some.inj H
  go_enter Try.func50, Try.ntmps50
  go_wp2
  go_ret
  exact ⟨by first | rfl | (simp; done) | (simp [*]; done), by repeat (first | exact Drawn0.refl _ | apply Drawn0.step)⟩

/-! ### cmp_Less_int: function 66 -/
def cmp_Less_int.f (a0 : Int) (a1 : Int) : Option (Bool) := (cmp_isNaN_int.f a0).bind fun t253 => (if t253 = true then ((cmp_isNaN_int.f a1).bind fun t254 => (if t254 = true then (some (decide (a0 < a1))) else (some true))) else (some (decide (a0 < a1))))
set_option maxHeartbeats 8000000 in
set_option maxRecDepth 100000 in
theorem cmp_Less_int.calls (a0 : Int) (a1 : Int) (r : Bool) (w : World) (h : cmp_Less_int.f a0 a1 = some r) :
    Calls Try.prog 66 #[.int .i64 a0, .int .i64 a1] w fun e w' => e = .returned (.bool r) ∧ Drawn0 w w' := by
  have H : ((cmp_isNaN_int.f a0).bind fun t253 => (if t253 = true then ((cmp_isNaN_int.f a1).bind fun t254 => (if t254 = true then (some (decide (a0 < a1))) else (some true))) else (some (decide (a0 < a1))))) = some r := h
  clear h
  replace H := Option.bind_eq_some_iff.mp H
  obtain ⟨t253, A30, H⟩ := H
  replace H : (if t253 = true then ((cmp_isNaN_int.f a1).bind fun t254 => (if t254 = true then (some (decide (a0 < a1))) else (some true))) else (some (decide (a0 < a1)))) = some r := H
  have A3 := Aside0.mk A30
  clear A30
  by_cases c4 : t253 = true
  · subst c4
    have H1 : ((cmp_isNaN_int.f a1).bind fun t254 => (if t254 = true then (some (decide (a0 < a1))) else (some true))) = some r := by rw [if_pos rfl] at H; exact H
    clear H
    have H := H1
    clear H1
    replace H := Option.bind_eq_some_iff.mp H
    obtain ⟨t254, A50, H⟩ := H
    replace H : (if t254 = true then (some (decide (a0 < a1))) else (some true)) = some r := H
    have A5 := Aside0.mk A50
    clear A50
    by_cases c6 : t254 = true
    · subst c6
      have H1 : (some (decide (a0 < a1))) = some r := by rw [if_pos rfl] at H; exact H
      clear H
      have H := H1
      clear H1
      obtain rfl := Option.some.inj H
      go_enter Try.func66, Try.ntmps66
      go_wp2_with (first | ((with_reducible refine gate_callee (f := 50) rfl ?_); refine goesL_ (some 6) rfl rfl Try.func50 (by kernel_rfl) rfl #[.int .i64 a0] rfl (by (try simp only [List.map_toArray, List.map_cons, List.map_nil]); first | done | rfl | (simp only [List.length_drop, List.length_take]; rfl)) ?_; (with_reducible refine (cmp_isNaN_int.calls a0 true _ A3.out).mono ?_); rintro e w' ⟨rfl, ⟨nd, rfl⟩⟩; refine ⟨_, rfl, ?_⟩) | (go_at_call 50; (with_reducible refine calls_of_args (args' := #[.int .i64 a1]) rfl ?_); (with_reducible refine (cmp_isNaN_int.calls a1 true _ A5.out).mono ?_); rintro e w' ⟨rfl, ⟨nd, rfl⟩⟩))
      go_ret
      exact ⟨by first | rfl | (simp; done) | (simp [*]; done), by repeat (first | exact Drawn0.refl _ | apply Drawn0.step)⟩
    · replace c6 := Bool.eq_false_iff.mpr c6
      subst c6
      have H1 : (some true) = some r := by rw [if_neg (show ¬ (false = true) by decide)] at H; exact H
      clear H
      have H := H1
      clear H1
      obtain rfl := Option.some.inj H
      go_enter Try.func66, Try.ntmps66
      go_wp2_with (first | ((with_reducible refine gate_callee (f := 50) rfl ?_); refine goesL_ (some 6) rfl rfl Try.func50 (by kernel_rfl) rfl #[.int .i64 a0] rfl (by (try simp only [List.map_toArray, List.map_cons, List.map_nil]); first | done | rfl | (simp only [List.length_drop, List.length_take]; rfl)) ?_; (with_reducible refine (cmp_isNaN_int.calls a0 true _ A3.out).mono ?_); rintro e w' ⟨rfl, ⟨nd, rfl⟩⟩; refine ⟨_, rfl, ?_⟩) | (go_at_call 50; (with_reducible refine calls_of_args (args' := #[.int .i64 a1]) rfl ?_); (with_reducible refine (cmp_isNaN_int.calls a1 false _ A5.out).mono ?_); rintro e w' ⟨rfl, ⟨nd, rfl⟩⟩))
      go_ret
      exact ⟨by first | rfl | (simp; done) | (simp [*]; done), by repeat (first | exact Drawn0.refl _ | apply Drawn0.step)⟩
  · replace c4 := Bool.eq_false_iff.mpr c4
    subst c4
    have H1 : (some (decide (a0 < a1))) = some r := by rw [if_neg (show ¬ (false = true) by decide)] at H; exact H
    clear H
    have H := H1
    clear H1
    obtain rfl := Option.some.inj H
    go_enter Try.func66, Try.ntmps66
    go_wp2_with (first | ((with_reducible refine gate_callee (f := 50) rfl ?_); refine goesL_ (some 6) rfl rfl Try.func50 (by kernel_rfl) rfl #[.int .i64 a0] rfl (by (try simp only [List.map_toArray, List.map_cons, List.map_nil]); first | done | rfl | (simp only [List.length_drop, List.length_take]; rfl)) ?_; (with_reducible refine (cmp_isNaN_int.calls a0 false _ A3.out).mono ?_); rintro e w' ⟨rfl, ⟨nd, rfl⟩⟩; refine ⟨_, rfl, ?_⟩))
    go_ret
    exact ⟨by first | rfl | (simp; done) | (simp [*]; done), by repeat (first | exact Drawn0.refl _ | apply Drawn0.step)⟩

-- NOT PRINTED: function 60 (slices_insertionSortOrdered_int)

-- NOT PRINTED: function 76 (slices_siftDownOrdered_int)

-- NOT PRINTED: function 61 (slices_heapSortOrdered_int)

-- NOT PRINTED: function 69 (bits_Len32)

-- NOT PRINTED: function 70 (bits_Len64)

-- NOT PRINTED: function 48 (bits_Len)

-- NOT PRINTED: function 77 (slices_nextPowerOfTwo)

-- NOT PRINTED: function 78 (slices_xorshift_Next)

-- NOT PRINTED: function 62 (slices_breakPatternsOrdered_int)

-- NOT PRINTED: function 82 (slices_order2Ordered_int)

-- NOT PRINTED: function 80 (slices_medianOrdered_int)

-- NOT PRINTED: function 79 (slices_medianAdjacentOrdered_int)

-- NOT PRINTED: function 63 (slices_choosePivotOrdered_int)

-- NOT PRINTED: function 64 (slices_reverseRangeOrdered_int)

-- NOT PRINTED: function 65 (slices_partialInsertionSortOrdered_int)

-- NOT PRINTED: function 67 (slices_partitionEqualOrdered_int)

-- NOT PRINTED: function 68 (slices_partitionOrdered_int)

-- NOT PRINTED: function 47 (slices_pdqsortOrdered_int)

-- NOT PRINTED: function 34 (slices_Sort_int_int)

/-! ### slices_Sort_int_int_c: function 34, by the kit's contract -/
def slices_Sort_int_int_c.f (l0 : List Int) : Option (List Int) := if l0.length < 4611686018427387904 then some (sortI l0) else none
def slices_Sort_int_int_c.Post (A0 : Option Addr) (c0 : Nat) (l0 : List Int) (r : List Int) (S : Nat → Prop) (L : List Asr) (w : World) (e : Ending) (w' : World) : Prop := e = .returned (.tuple #[]) ∧ SL (row (Kd.int .i64) 3 (.slice A0 l0.length c0) r :: L) w' S ∧ Keep S w w'
theorem slices_Sort_int_int_c.slcalls (A0 : Option Addr) (c0 : Nat) (l0 : List Int) (r : List Int) (S : Nat → Prop) (L : List Asr) (w : World) (hf : Fresh S w) (hs : SL (row (Kd.int .i64) 3 (.slice A0 l0.length c0) l0 :: L) w S) (h : slices_Sort_int_int_c.f l0 = some r) :
    Calls Try.prog 34 #[.slice A0 l0.length c0] w (slices_Sort_int_int_c.Post A0 c0 l0 r S L w) := by
  unfold slices_Sort_int_int_c.f at h
  split at h
  · rename_i hl
    obtain rfl := Option.some.inj h
    exact (sort_calls srt34 hf hs hl)
  · cases h

/-! ### area_Units: function 17 -/
noncomputable def area_Units.l0 : Nat → Int → Int → Int → Int → Int → Int → Int → (List Int) → (List (Int × S26)) → Option ((List Int))
  | 0, _, _, _, _, _, _, _, _, _ => none
  | k + 1, a1_0, a1_1, a1_2, a1_3, a1_4, a1_5, a1_6, x5_0, y3000028_0 => if (y3000028_0).isEmpty = true then ((slices_Sort_int_int_c.f x5_0).bind fun t265 => (some t265)) else (everyOf y3000028_0 fun p264 => ((area_In.f k a1_0 a1_1 a1_2 a1_3 a1_4 a1_5 a1_6 p264.2.f0 p264.2.f1).bind fun t266 => (if t266 = true then ((some (([p264.1] : List Int) : List Int)).bind fun y267 => (if x5_0.length + y267.length < 17592186044416 then ((some (x5_0 ++ y267 : List Int)).bind fun y268 => (area_Units.l0 k a1_0 a1_1 a1_2 a1_3 a1_4 a1_5 a1_6 y268 (mdel y3000028_0 p264.1))) else (none))) else (area_Units.l0 k a1_0 a1_1 a1_2 a1_3 a1_4 a1_5 a1_6 x5_0 (mdel y3000028_0 p264.1)))))
noncomputable def area_Units.f (k : Nat) (l0 : List (S47)) (a1_0 : Int) (a1_1 : Int) (a1_2 : Int) (a1_3 : Int) (a1_4 : Int) (a1_5 : Int) (a1_6 : Int) : Option ((List Int)) := (area_places.f k l0).bind fun t256 => (area_Units.l0 k a1_0 a1_1 a1_2 a1_3 a1_4 a1_5 a1_6 ([] : List Int) t256)
theorem area_Units.mono_l : ∀ k, (∀ y0 y1 y2 y3 y4 y5 y6 y7 y8, LeO (area_Units.l0 k y0 y1 y2 y3 y4 y5 y6 y7 y8) (area_Units.l0 (k + 1) y0 y1 y2 y3 y4 y5 y6 y7 y8))
  | 0 => fun _ _ _ _ _ _ _ _ _ r h => by simp [area_Units.l0] at h
  | k + 1 => by
    have ih0 := area_Units.mono_l k
    · intro y0 y1 y2 y3 y4 y5 y6 y7 y8
      unfold area_Units.l0
      repeat' first
      | (with_reducible exact ih0 _ _ _ _ _ _ _ _ _)
      | (with_reducible exact area_In.mono _ _ _ _ _ _ _ _ _ _)
      | (with_reducible exact area_places.mono _ _)
      | (with_reducible exact LeO.refl _)
      | (with_reducible exact LeO.none _)
      | (with_reducible refine LeO.ite ?_ ?_)
      | (with_reducible refine everyOf_le (fun _ => ?_))
      | (with_reducible refine LeO.bind ?_ (fun _ => ?_))
      | exact ih0 _ _ _ _ _ _ _ _ _
      | exact area_In.mono _ _ _ _ _ _ _ _ _ _
      | exact area_places.mono _ _
      | exact LeO.none _
      | refine LeO.ite ?_ ?_
      | refine LeO.bind ?_ (fun _ => ?_)
theorem area_Units.mono : ∀ a0 a1 a2 a3 a4 a5 a6 a7 k, LeO (area_Units.f k a0 a1 a2 a3 a4 a5 a6 a7) (area_Units.f (k + 1) a0 a1 a2 a3 a4 a5 a6 a7) := by
  intro a0 a1 a2 a3 a4 a5 a6 a7 k
  have ih0 := area_Units.mono_l k
  unfold area_Units.f
  repeat' first
      | (with_reducible exact ih0 _ _ _ _ _ _ _ _ _)
      | (with_reducible exact area_In.mono _ _ _ _ _ _ _ _ _ _)
      | (with_reducible exact area_places.mono _ _)
      | (with_reducible exact LeO.refl _)
      | (with_reducible exact LeO.none _)
      | (with_reducible refine LeO.ite ?_ ?_)
      | (with_reducible refine everyOf_le (fun _ => ?_))
      | (with_reducible refine LeO.bind ?_ (fun _ => ?_))
      | exact ih0 _ _ _ _ _ _ _ _ _
      | exact area_In.mono _ _ _ _ _ _ _ _ _ _
      | exact area_places.mono _ _
      | exact LeO.none _
      | refine LeO.ite ?_ ?_
      | refine LeO.bind ?_ (fun _ => ?_)
def area_Units.Post (r : List Int) (S : Nat → Prop) (L : List Asr) (w : World) (e : Ending) (w' : World) : Prop := ∃ (Ar1 : Option Addr) (cr1 : Nat), e = .returned (.slice Ar1 r.length cr1) ∧ SL (row (Kd.int .i64) 3 (.slice Ar1 r.length cr1) r :: L) w' S ∧ Keep S w w'
set_option maxHeartbeats 8000000 in
set_option maxRecDepth 100000 in
theorem area_Units.slcalls (k : Nat) (A0 : Option Addr) (c0 : Nat) (l0 : List (S47)) (a1_0 : Int) (a1_1 : Int) (a1_2 : Int) (a1_3 : Int) (a1_4 : Int) (a1_5 : Int) (a1_6 : Int) (r : List Int) (S : Nat → Prop) (L : List Asr) (w : World) (hf : Fresh S w) (hs : SL (L) w S) (hr0 : RO S w (fun w_ => Kd.C k47 w_ A0 l0.length l0)) (hc0 : l0.length ≤ c0) (h : area_Units.f k l0 a1_0 a1_1 a1_2 a1_3 a1_4 a1_5 a1_6 = some r) :
    Calls Try.prog 17 #[.slice A0 l0.length c0, .agg #[.int .i64 a1_0, .int .i64 a1_1, .int .i64 a1_2, .int .i64 a1_3, .int .i64 a1_4, .int .i64 a1_5, .int .i64 a1_6]] w (area_Units.Post r S L w) := by
  have HR0 := Aside0.mk hr0
  have HC0 := Aside0.mk hc0
  clear hr0 hc0
  have HF := Aside0.mk hf
  have HS := Aside0.mk hs
  have HK := Aside0.mk (Keep.refl S w)
  clear hf hs
  have hu26 := Try.underlying26
  have hu28 := Try.underlying28
  have H : ((area_places.f k l0).bind fun t256 => (area_Units.l0 k a1_0 a1_1 a1_2 a1_3 a1_4 a1_5 a1_6 ([] : List Int) t256)) = some r := h
  clear h
  replace H := Option.bind_eq_some_iff.1 H
  obtain ⟨t256, Hc10, H⟩ := H
  try dsimp only at H
  have Hc1 := Aside0.mk Hc10
  clear Hc10
  have H' := Aside0.mk H
  clear H
  go_enter Try.func17, Try.ntmps17
  go_wp2_with (first | ((with_reducible refine gate_dst (N := 3) rfl ?_); refine wpList_plain rfl (fun K_ hK_ => ?_); refine op_box (S := S) (cs := #[.int .i64 a1_0, .int .i64 a1_1, .int .i64 a1_2, .int .i64 a1_3, .int .i64 a1_4, .int .i64 a1_5, .int .i64 a1_6]) (t := 28) (HF.out.keep HK.out) HS.out (by first | (go_simp; done) | (go_simp; rfl)) ?_; intro g3000026 w2 hs_ hk_; refine hK_ _ _ ?_; clear hK_ K_; replace HS := Aside0.mk (hs_); replace HK := Aside0.mk (HK.out.trans hk_)) | ((with_reducible refine gate_dst (N := 9) rfl ?_); refine goesL_ (some 9) rfl rfl Try.func33 (by kernel_rfl) rfl #[.slice A0 l0.length c0] rfl (by (try simp only [List.map_toArray, List.map_cons, List.map_nil]); first | done | rfl | (simp; done)) ?_; have hs0_ := HS.out; (with_reducible refine (area_places.slcalls k _ _ _ _ _ _ _ (HF.out.keep HK.out) hs0_ (HR0.out.keep HK.out) HC0.out Hc1.out).mono ?_); rintro e_ w3 ⟨g3000027, zs3000027, zc3000027, rfl, hsr_, hkr_⟩; refine ⟨_, rfl, ?_⟩; replace HS := Aside0.mk (hsr_); replace HK := Aside0.mk (HK.out.trans hkr_)) | ((with_reducible refine gate_dst (N := 10) rfl ?_); refine wpList_plain rfl (fun K_ hK_ => ?_); refine op_range (S := S) (.tmp 9) rfl Try.underlying55 g3000027 rfl (HF.out.keep HK.out) HS.out ?_; intro g3000028 w4 hs_ hk_; refine hK_ _ _ ?_; clear hK_ K_; replace HS := Aside0.mk ((SL.get2 (SL.get2 (SL.get2 (show SL (iter g3000028 g3000027 t256 zs3000027 zc3000027 t256 :: _) _ _ from hs_))))); replace HK := Aside0.mk (HK.out.trans hk_); have n2_ := Aside0.mk (SL.nil_row (Kd.int .i64) 3 HS.out); clear HS; have HS := n2_; clear n2_))
  try go_simp
  go_loopg [5] k (fun kq v5 w' => ∃ (x5_0 : List Int) (Ax5_0 : Option Addr) (cx5_0 : Nat) (y3000028_0 : List (Int × S26)), v5 = .slice Ax5_0 x5_0.length cx5_0 ∧ Aside0 (area_Units.l0 kq a1_0 a1_1 a1_2 a1_3 a1_4 a1_5 a1_6 x5_0 y3000028_0 = some r) ∧ Aside0 (kq ≤ k) ∧ Aside0 (SL (row (Kd.int .i64) 3 (.slice Ax5_0 x5_0.length cx5_0) x5_0 :: iter g3000028 g3000027 t256 zs3000027 zc3000027 y3000028_0 :: mapo g3000027 (Value.int .i64) (fun x_ : S26 => Value.agg #[.int .i64 x_.f0, .int .i64 x_.f1]) t256 zs3000027 zc3000027 :: cells g3000026 28 [.int .i64 a1_0, .int .i64 a1_1, .int .i64 a1_2, .int .i64 a1_3, .int .i64 a1_4, .int .i64 a1_5, .int .i64 a1_6].toArray :: L) w' S) ∧ Aside0 (Keep S w w'))
  case atStart => exact ⟨(([] : List Int)), (none), (0), (t256), (by first | rfl | (simp; done) | (simp [*]; done)), H', ⟨Nat.le_refl _⟩, HS, HK⟩
  case round =>
    clear H' HS HK
    obtain ⟨x5_0, Ax5_0, cx5_0, y3000028_0, rfl, HA, HQ1, HS, HK⟩ := hrel
    cases gk with
    | zero => exact absurd HA.out (by simp [area_Units.l0])
    | succ k1 =>
      have H := HA.out
      clear HA
      simp only [area_Units.l0] at H
      by_cases c5 : (y3000028_0).isEmpty = true
      · rw [if_pos c5] at H
        replace H := Option.bind_eq_some_iff.1 H
        obtain ⟨t265, Hc60, H⟩ := H
        try dsimp only at H
        have Hc6 := Aside0.mk Hc60
        clear Hc60
        obtain rfl := Option.some.inj H
        go_wp2_with (first | ((with_reducible refine gate_dst (N := 11) rfl ?_); refine wpList_plain rfl (fun K_ hK_ => ?_); refine op_next_end (.tmp 10) rfl rfl (SL.get2 (SL.get2 HS.out)) c5 ?_; refine hK_ _ _ ?_; clear hK_ K_) | ((with_reducible refine gate_dst (N := 24) rfl ?_); refine goesL_ (some 24) rfl rfl Try.func34 (by kernel_rfl) rfl #[.slice Ax5_0 x5_0.length cx5_0] rfl (by (try simp only [List.map_toArray, List.map_cons, List.map_nil]); first | done | rfl | (simp; done)) ?_; have hs0_ := HS.out; (with_reducible refine (slices_Sort_int_int_c.slcalls _ _ _ _ _ _ _ (HF.out.keep HK.out) hs0_  Hc6.out).mono ?_); rintro e_ w8 ⟨rfl, hsr_, hkr_⟩; refine ⟨_, rfl, ?_⟩; replace HS := Aside0.mk (hsr_); replace HK := Aside0.mk (HK.out.trans hkr_)))
        go_ret
        replace HS := Aside0.mk (SL.tail (SL.get1 (SL.tail (SL.get1 (SL.tail (SL.get1 HS.out))))))
        unfold area_Units.Post
        have el9 := Aside0.mk (SL.row_c HS.out).1
        replace HS := Aside0.mk (SL.row_len HS.out)
        exact ⟨Ax5_0, cx5_0, by first | rfl | (simp; done) | (rw [← el9.out]; rfl) | (rw [← el9.out]) | (simp [*]; done), HS.out, HK.out⟩
      · rw [if_neg c5] at H
        have H' := Aside0.mk H
        clear H
        go_wp2_with (first | ((with_reducible refine gate_dst (N := 11) rfl ?_); refine wpList_plain rfl (fun K_ hK_ => ?_); refine op_next (.tmp 10) rfl rfl (SL.get2 (SL.get2 HS.out)) c5 ?_; intro p264 hp_p264 w10 hs_ hk_; refine hK_ _ _ ?_; clear hK_ K_; replace HS := Aside0.mk ((SL.get3 (SL.get2 (SL.get2 (SL.get3 (show SL (iterAt g3000028 g3000027 t256 zs3000027 zc3000027 p264 (mdel y3000028_0 p264.1) :: _) _ _ from hs_)))))); replace HK := Aside0.mk (HK.out.trans hk_); refine stop_ ?_; intro G_ hG_))
        have H := everyOf_some H'.out p264 hp_p264
        clear H'
        try dsimp only at H
        replace H := Option.bind_eq_some_iff.1 H
        obtain ⟨t266, Hc110, H⟩ := H
        try dsimp only at H
        have Hc11 := Aside0.mk Hc110
        clear Hc110
        have H' := Aside0.mk H
        clear H
        refine hG_.out ?_
        go_wp2_with (first | ((with_reducible refine gate_dst (N := 13) rfl ?_); refine wpList_plain rfl (fun K_ hK_ => ?_); refine op_entry (.tmp 10) rfl rfl (SL.get2 (SL.get2 HS.out)) (.int .i64 p264.1) (.agg #[.int .i64 p264.2.f0, .int .i64 p264.2.f1]) rfl rfl ?_; intro hs_; refine hK_ _ _ ?_; clear hK_ K_; have n2_ := Aside0.mk (SL.get3 (SL.get2 (SL.get2 (SL.get3 (show SL (iter g3000028 g3000027 t256 zs3000027 zc3000027 (mdel y3000028_0 p264.1) :: _) _ _ from hs_))))); clear HS hs_; have HS := n2_; clear n2_) | ((with_reducible refine gate_dst (N := 7) rfl ?_); refine wpList_plain rfl (fun K_ hK_ => ?_); refine op_box (S := S) (cs := #[.int .i64 0, .int .i64 0]) (t := 26) (HF.out.keep HK.out) HS.out (by first | (go_simp; done) | (go_simp; rfl)) ?_; intro g3000029 w13 hs_ hk_; refine hK_ _ _ ?_; clear hK_ K_; replace HS := Aside0.mk (hs_); replace HK := Aside0.mk (HK.out.trans hk_)) | ((with_reducible refine gate_store (t := 26) (p := 7) (v := (.tmp 15)) rfl ?_); refine wpList_plain rfl (fun K_ hK_ => ?_); refine op_store (S := S) 26 (.tmp 7) (.tmp 15) rfl g3000029 0 (.agg #[.int .i64 p264.2.f0, .int .i64 p264.2.f1]) [.int .i64 p264.2.f0, .int .i64 p264.2.f1] rfl rfl rfl (by kernel_rfl) (by simp [Value.oneCell']) HS.out (by simp) ?_; intro w14 hs_ hk_; refine hK_ _ _ ?_; clear hK_ K_; replace HS := Aside0.mk ((show SL (cells g3000029 26 [.int .i64 p264.2.f0, .int .i64 p264.2.f1].toArray :: _) _ _ from hs_)); replace HK := Aside0.mk (HK.out.trans hk_); have hb_ := SL.at_ HS.out; have hz3000029_0_2 := ((blk_cell hb_ 0).trans rfl : _ = some (.int .i64 p264.2.f0)); have hz3000029_1_2 := ((blk_cell hb_ 1).trans rfl : _ = some (.int .i64 p264.2.f1)); clear hb_; have hb_ := SL.at_ (SL.get4 HS.out); have hz3000026_0_2 := ((blk_cell hb_ 0).trans rfl : _ = some (.int .i64 a1_0)); have hz3000026_1_2 := ((blk_cell hb_ 1).trans rfl : _ = some (.int .i64 a1_1)); have hz3000026_2_2 := ((blk_cell hb_ 2).trans rfl : _ = some (.int .i64 a1_2)); have hz3000026_3_2 := ((blk_cell hb_ 3).trans rfl : _ = some (.int .i64 a1_3)); have hz3000026_4_2 := ((blk_cell hb_ 4).trans rfl : _ = some (.int .i64 a1_4)); have hz3000026_5_2 := ((blk_cell hb_ 5).trans rfl : _ = some (.int .i64 a1_5)); have hz3000026_6_2 := ((blk_cell hb_ 6).trans rfl : _ = some (.int .i64 a1_6)); clear hb_) | ((with_reducible refine gate_dst (N := 18) rfl ?_); refine goesL_ (some 18) rfl rfl Try.func11 (by kernel_rfl) rfl #[.agg #[.int .i64 a1_0, .int .i64 a1_1, .int .i64 a1_2, .int .i64 a1_3, .int .i64 a1_4, .int .i64 a1_5, .int .i64 a1_6], .agg #[.int .i64 p264.2.f0, .int .i64 p264.2.f1]] rfl (by (try simp only [List.map_toArray, List.map_cons, List.map_nil]); first | done | rfl | (simp; done)) ?_; (with_reducible refine (area_In.calls k1 _ _ _ _ _ _ _ _ _ _ _  Hc11.out).mono ?_); rintro e_ w15 ⟨rfl, hb_⟩; refine ⟨_, rfl, ?_⟩; replace HS := Aside0.mk (HS.out.below hb_); replace HK := Aside0.mk (HK.out.trans (Keep.below hb_)); (try clear hz3000026_0_2 hz3000026_1_2 hz3000026_2_2 hz3000026_3_2 hz3000026_4_2 hz3000026_5_2 hz3000026_6_2); (try clear hz3000029_0_2 hz3000029_1_2); refine stop_ ?_; intro G_ hG_))
        have H := H'.out
        clear H'
        by_cases c16 : t266 = true
        · subst c16
          rw [if_pos rfl] at H
          replace H := Option.bind_eq_some_iff.1 H
          obtain ⟨y267, hy2670, H⟩ := H
          try dsimp only at H
          have hy267 := Option.some.inj hy2670
          clear hy2670
          have Ny267 := Aside0.mk hy267
          clear hy267
          by_cases c17 : x5_0.length + y267.length < 17592186044416
          · rw [if_pos c17] at H
            have LMc17 := Aside0.mk c17
            clear c17
            replace H := Option.bind_eq_some_iff.1 H
            obtain ⟨y268, hy2680, H⟩ := H
            try dsimp only at H
            have hy268 := Option.some.inj hy2680
            clear hy2680
            have Ny268 := Aside0.mk hy268
            clear hy268
            have H' := Aside0.mk H
            clear H
            refine hG_.out ?_
            go_wp2_with (first | ((with_reducible refine gate_dst (N := 21) rfl ?_); refine wpList_plain rfl (fun K_ hK_ => ?_); refine op_row (S := S) (enc := Value.int .i64) (h1 := fun _ => rfl) 3 y267 #[.int .i64 p264.1] 1 (by rw [← Ny267.out]; rfl) (by rw [← Ny267.out]; rfl) (by decide) (HF.out.keep HK.out) HS.out (by first | (go_simp; done) | (go_simp; rfl)) ?_; intro Az3000030 cz3000030 w18 hs_ hk_; refine hK_ _ _ ?_; clear hK_ K_; replace HS := Aside0.mk ((show SL (row (Kd.int .i64) 3 (.slice Az3000030 1 cz3000030) y267 :: _) _ _ from hs_)); replace HK := Aside0.mk (HK.out.trans hk_)) | ((with_reducible refine gate_dst (N := 22) rfl ?_); refine wpList_plain rfl (fun K_ hK_ => ?_); refine op_append (S := S) (enc := Value.int .i64) (h1 := fun _ => rfl) 0 (.tmp 19) (.tmp 21) 39 3 (.int .i64 0) 8 rfl Try.underlying39 info3 rfl (by decide) (.slice Ax5_0 x5_0.length cx5_0) rfl rfl (HF.out.keep HK.out) (SL.get2 HS.out) (SL.row_c HS.out).2.2 (by have := LMc17.out; have e_ := (SL.row_c HS.out).1; omega) y268 Ny268.out ?_; intro A269 c270 w19 hs_ hk_; refine hK_ _ _ ?_; clear hK_ K_; replace HS := Aside0.mk ((SL.back2 (show SL (row (Kd.int .i64) 3 (.slice A269 y268.length c270) y268 :: _) _ _ from hs_))); replace HK := Aside0.mk (HK.out.trans hk_)))
            replace HS := Aside0.mk (SL.tail (SL.tail HS.out))
            go_roundg k1
            case measure => have := HQ1.out; omega
            case rel => exact ⟨(y268), (A269), (c270), (mdel y3000028_0 p264.1), (by first | rfl | (simp; done) | (simp [*]; done)), H', ⟨by have := HQ1.out; omega⟩, HS, HK⟩
          · rw [if_neg c17] at H
            exact absurd H (by simp)
        · replace c16 := Bool.eq_false_iff.mpr c16
          subst c16
          rw [if_neg (show ¬ (false = true) by decide)] at H
          have H' := Aside0.mk H
          clear H
          refine hG_.out ?_
          go_wp2
          replace HS := Aside0.mk (SL.tail HS.out)
          go_roundg k1
          case measure => have := HQ1.out; omega
          case rel => exact ⟨(x5_0), (Ax5_0), (cx5_0), (mdel y3000028_0 p264.1), (by first | rfl | (simp; done) | (simp [*]; done)), H', ⟨by have := HQ1.out; omega⟩, HS, HK⟩

-- NOT PRINTED: function 71 (slices_insertionSortCmpFunc_int)

-- NOT PRINTED: function 83 (slices_swapRangeCmpFunc_int)

-- NOT PRINTED: function 81 (slices_rotateCmpFunc_int)

-- NOT PRINTED: function 72 (slices_symMergeCmpFunc_int)

-- NOT PRINTED: function 49 (slices_stableCmpFunc_int)

-- NOT PRINTED: function 36 (slices_SortStableFunc_int_int)

/-! ### cmp_Compare_int: function 38 -/
def cmp_Compare_int.f (a0 : Int) (a1 : Int) : Option (Int) := (cmp_isNaN_int.f a0).bind fun t271 => ((cmp_isNaN_int.f a1).bind fun t272 => (if t271 = true then (if t272 = true then (some 0) else (some (-1))) else (if t272 = true then (some 1) else (if a0 < a1 then (some (-1)) else (if a0 > a1 then (some 1) else (some 0))))))
set_option maxHeartbeats 8000000 in
set_option maxRecDepth 100000 in
theorem cmp_Compare_int.calls (a0 : Int) (a1 : Int) (r : Int) (w : World) (h : cmp_Compare_int.f a0 a1 = some r) :
    Calls Try.prog 38 #[.int .i64 a0, .int .i64 a1] w fun e w' => e = .returned (.int .i64 r) ∧ Drawn0 w w' := by
  have H : ((cmp_isNaN_int.f a0).bind fun t271 => ((cmp_isNaN_int.f a1).bind fun t272 => (if t271 = true then (if t272 = true then (some 0) else (some (-1))) else (if t272 = true then (some 1) else (if a0 < a1 then (some (-1)) else (if a0 > a1 then (some 1) else (some 0))))))) = some r := h
  clear h
  replace H := Option.bind_eq_some_iff.mp H
  obtain ⟨t271, A30, H⟩ := H
  replace H : ((cmp_isNaN_int.f a1).bind fun t272 => (if t271 = true then (if t272 = true then (some 0) else (some (-1))) else (if t272 = true then (some 1) else (if a0 < a1 then (some (-1)) else (if a0 > a1 then (some 1) else (some 0)))))) = some r := H
  have A3 := Aside0.mk A30
  clear A30
  replace H := Option.bind_eq_some_iff.mp H
  obtain ⟨t272, A40, H⟩ := H
  replace H : (if t271 = true then (if t272 = true then (some 0) else (some (-1))) else (if t272 = true then (some 1) else (if a0 < a1 then (some (-1)) else (if a0 > a1 then (some 1) else (some 0))))) = some r := H
  have A4 := Aside0.mk A40
  clear A40
  by_cases c5 : t271 = true
  · subst c5
    have H1 : (if t272 = true then (some 0) else (some (-1))) = some r := by rw [if_pos rfl] at H; exact H
    clear H
    have H := H1
    clear H1
    by_cases c6 : t272 = true
    · subst c6
      have H1 : (some 0) = some r := by rw [if_pos rfl] at H; exact H
      clear H
      have H := H1
      clear H1
      obtain rfl := Option.some.inj H
      go_enter Try.func38, Try.ntmps38
      go_wp2_with (first | ((with_reducible refine gate_callee (f := 50) rfl ?_); refine goesL_ (some 8) rfl rfl Try.func50 (by kernel_rfl) rfl #[.int .i64 a0] rfl (by (try simp only [List.map_toArray, List.map_cons, List.map_nil]); first | done | rfl | (simp only [List.length_drop, List.length_take]; rfl)) ?_; (with_reducible refine (cmp_isNaN_int.calls a0 true _ A3.out).mono ?_); rintro e w' ⟨rfl, ⟨nd, rfl⟩⟩; refine ⟨_, rfl, ?_⟩) | ((with_reducible refine gate_callee (f := 50) rfl ?_); refine goesL_ (some 10) rfl rfl Try.func50 (by kernel_rfl) rfl #[.int .i64 a1] rfl (by (try simp only [List.map_toArray, List.map_cons, List.map_nil]); first | done | rfl | (simp only [List.length_drop, List.length_take]; rfl)) ?_; (with_reducible refine (cmp_isNaN_int.calls a1 true _ A4.out).mono ?_); rintro e w' ⟨rfl, ⟨nd, rfl⟩⟩; refine ⟨_, rfl, ?_⟩))
      go_ret
      exact ⟨by first | rfl | (simp; done) | (simp [*]; done), by repeat (first | exact Drawn0.refl _ | apply Drawn0.step)⟩
    · replace c6 := Bool.eq_false_iff.mpr c6
      subst c6
      have H1 : (some (-1)) = some r := by rw [if_neg (show ¬ (false = true) by decide)] at H; exact H
      clear H
      have H := H1
      clear H1
      obtain rfl := Option.some.inj H
      go_enter Try.func38, Try.ntmps38
      go_wp2_with (first | ((with_reducible refine gate_callee (f := 50) rfl ?_); refine goesL_ (some 8) rfl rfl Try.func50 (by kernel_rfl) rfl #[.int .i64 a0] rfl (by (try simp only [List.map_toArray, List.map_cons, List.map_nil]); first | done | rfl | (simp only [List.length_drop, List.length_take]; rfl)) ?_; (with_reducible refine (cmp_isNaN_int.calls a0 true _ A3.out).mono ?_); rintro e w' ⟨rfl, ⟨nd, rfl⟩⟩; refine ⟨_, rfl, ?_⟩) | ((with_reducible refine gate_callee (f := 50) rfl ?_); refine goesL_ (some 10) rfl rfl Try.func50 (by kernel_rfl) rfl #[.int .i64 a1] rfl (by (try simp only [List.map_toArray, List.map_cons, List.map_nil]); first | done | rfl | (simp only [List.length_drop, List.length_take]; rfl)) ?_; (with_reducible refine (cmp_isNaN_int.calls a1 false _ A4.out).mono ?_); rintro e w' ⟨rfl, ⟨nd, rfl⟩⟩; refine ⟨_, rfl, ?_⟩))
      go_ret
      exact ⟨by first | rfl | (simp; done) | (simp [*]; done), by repeat (first | exact Drawn0.refl _ | apply Drawn0.step)⟩
  · replace c5 := Bool.eq_false_iff.mpr c5
    subst c5
    have H1 : (if t272 = true then (some 1) else (if a0 < a1 then (some (-1)) else (if a0 > a1 then (some 1) else (some 0)))) = some r := by rw [if_neg (show ¬ (false = true) by decide)] at H; exact H
    clear H
    have H := H1
    clear H1
    by_cases c7 : t272 = true
    · subst c7
      have H1 : (some 1) = some r := by rw [if_pos rfl] at H; exact H
      clear H
      have H := H1
      clear H1
      obtain rfl := Option.some.inj H
      go_enter Try.func38, Try.ntmps38
      go_wp2_with (first | ((with_reducible refine gate_callee (f := 50) rfl ?_); refine goesL_ (some 8) rfl rfl Try.func50 (by kernel_rfl) rfl #[.int .i64 a0] rfl (by (try simp only [List.map_toArray, List.map_cons, List.map_nil]); first | done | rfl | (simp only [List.length_drop, List.length_take]; rfl)) ?_; (with_reducible refine (cmp_isNaN_int.calls a0 false _ A3.out).mono ?_); rintro e w' ⟨rfl, ⟨nd, rfl⟩⟩; refine ⟨_, rfl, ?_⟩) | ((with_reducible refine gate_callee (f := 50) rfl ?_); refine goesL_ (some 10) rfl rfl Try.func50 (by kernel_rfl) rfl #[.int .i64 a1] rfl (by (try simp only [List.map_toArray, List.map_cons, List.map_nil]); first | done | rfl | (simp only [List.length_drop, List.length_take]; rfl)) ?_; (with_reducible refine (cmp_isNaN_int.calls a1 true _ A4.out).mono ?_); rintro e w' ⟨rfl, ⟨nd, rfl⟩⟩; refine ⟨_, rfl, ?_⟩))
      go_ret
      exact ⟨by first | rfl | (simp; done) | (simp [*]; done), by repeat (first | exact Drawn0.refl _ | apply Drawn0.step)⟩
    · replace c7 := Bool.eq_false_iff.mpr c7
      subst c7
      have H1 : (if a0 < a1 then (some (-1)) else (if a0 > a1 then (some 1) else (some 0))) = some r := by rw [if_neg (show ¬ (false = true) by decide)] at H; exact H
      clear H
      have H := H1
      clear H1
      by_cases c8 : a0 < a1
      · rw [if_pos c8] at H
        have c8b0 : decide (a0 < a1) = true := decide_eq_true c8
        clear c8
        obtain rfl := Option.some.inj H
        go_enter Try.func38, Try.ntmps38
        go_wp2_with (first | ((with_reducible refine gate_callee (f := 50) rfl ?_); refine goesL_ (some 8) rfl rfl Try.func50 (by kernel_rfl) rfl #[.int .i64 a0] rfl (by (try simp only [List.map_toArray, List.map_cons, List.map_nil]); first | done | rfl | (simp only [List.length_drop, List.length_take]; rfl)) ?_; (with_reducible refine (cmp_isNaN_int.calls a0 false _ A3.out).mono ?_); rintro e w' ⟨rfl, ⟨nd, rfl⟩⟩; refine ⟨_, rfl, ?_⟩) | ((with_reducible refine gate_callee (f := 50) rfl ?_); refine goesL_ (some 10) rfl rfl Try.func50 (by kernel_rfl) rfl #[.int .i64 a1] rfl (by (try simp only [List.map_toArray, List.map_cons, List.map_nil]); first | done | rfl | (simp only [List.length_drop, List.length_take]; rfl)) ?_; (with_reducible refine (cmp_isNaN_int.calls a1 false _ A4.out).mono ?_); rintro e w' ⟨rfl, ⟨nd, rfl⟩⟩; refine ⟨_, rfl, ?_⟩))
        go_ret
        exact ⟨by first | rfl | (simp; done) | (simp [*]; done), by repeat (first | exact Drawn0.refl _ | apply Drawn0.step)⟩
      · rw [if_neg c8] at H
        have c8b0 : decide (a0 < a1) = false := decide_eq_false c8
        clear c8
        by_cases c9 : a0 > a1
        · rw [if_pos c9] at H
          have c9b0 : decide (a1 < a0) = true := decide_eq_true c9
          clear c9
          obtain rfl := Option.some.inj H
          go_enter Try.func38, Try.ntmps38
          go_wp2_with (first | ((with_reducible refine gate_callee (f := 50) rfl ?_); refine goesL_ (some 8) rfl rfl Try.func50 (by kernel_rfl) rfl #[.int .i64 a0] rfl (by (try simp only [List.map_toArray, List.map_cons, List.map_nil]); first | done | rfl | (simp only [List.length_drop, List.length_take]; rfl)) ?_; (with_reducible refine (cmp_isNaN_int.calls a0 false _ A3.out).mono ?_); rintro e w' ⟨rfl, ⟨nd, rfl⟩⟩; refine ⟨_, rfl, ?_⟩) | ((with_reducible refine gate_callee (f := 50) rfl ?_); refine goesL_ (some 10) rfl rfl Try.func50 (by kernel_rfl) rfl #[.int .i64 a1] rfl (by (try simp only [List.map_toArray, List.map_cons, List.map_nil]); first | done | rfl | (simp only [List.length_drop, List.length_take]; rfl)) ?_; (with_reducible refine (cmp_isNaN_int.calls a1 false _ A4.out).mono ?_); rintro e w' ⟨rfl, ⟨nd, rfl⟩⟩; refine ⟨_, rfl, ?_⟩))
          go_ret
          exact ⟨by first | rfl | (simp; done) | (simp [*]; done), by repeat (first | exact Drawn0.refl _ | apply Drawn0.step)⟩
        · rw [if_neg c9] at H
          have c9b0 : decide (a1 < a0) = false := decide_eq_false c9
          clear c9
          obtain rfl := Option.some.inj H
          go_enter Try.func38, Try.ntmps38
          go_wp2_with (first | ((with_reducible refine gate_callee (f := 50) rfl ?_); refine goesL_ (some 8) rfl rfl Try.func50 (by kernel_rfl) rfl #[.int .i64 a0] rfl (by (try simp only [List.map_toArray, List.map_cons, List.map_nil]); first | done | rfl | (simp only [List.length_drop, List.length_take]; rfl)) ?_; (with_reducible refine (cmp_isNaN_int.calls a0 false _ A3.out).mono ?_); rintro e w' ⟨rfl, ⟨nd, rfl⟩⟩; refine ⟨_, rfl, ?_⟩) | ((with_reducible refine gate_callee (f := 50) rfl ?_); refine goesL_ (some 10) rfl rfl Try.func50 (by kernel_rfl) rfl #[.int .i64 a1] rfl (by (try simp only [List.map_toArray, List.map_cons, List.map_nil]); first | done | rfl | (simp only [List.length_drop, List.length_take]; rfl)) ?_; (with_reducible refine (cmp_isNaN_int.calls a1 false _ A4.out).mono ?_); rintro e w' ⟨rfl, ⟨nd, rfl⟩⟩; refine ⟨_, rfl, ?_⟩))
          go_ret
          exact ⟨by first | rfl | (simp; done) | (simp [*]; done), by repeat (first | exact Drawn0.refl _ | apply Drawn0.step)⟩

-- NOT PRINTED: function 37 (area_Nearest_1)

end Go.Proofs.Ytofodbnnminmkaa.XAS
