-- Written by xprint.py (a program of this session) for this claim
import Derived.Test.YtgcbmhihiacgnaaSL5
import Derived.Test.YtgcbmhihiacgnaaXINx0
import Derived.Test.YtgcbmhihiacgnaaXINx5
import Derived.Test.YtgcbmhihiacgnaaXINx7
import Derived.Test.YtgcbmhihiacgnaaXINx8
namespace Go.Proofs.Ytgcbmhihiacgnaa.XIN
open Go.Proofs.YtgcbmhihiacgnaaV Go.Proofs.YtgcbmhihiacgnaaS
open Go.RowKit Go.Proofs.YtgcbmhihiacgnaaW.PrintWords Go.Proofs.YtgcbmhihiacgnaaW.PrintLast Go.Proofs.YtgcbmhihiacgnaaW.PrintMore
attribute [local go_sem] max2_int min2_int max_two min_two max_three min_three max_four min_four   -- for this text's walks alone
set_option linter.unusedVariables false
set_option linter.unusedSimpArgs false

/-! ### barrowref24_Mutual: function 12 -/
def barrowref24_Mutual.f (k : Nat) (l0 : List (S50)) (a1 : Int) (a2 : Int) (a3 : Int) : Option (Bool) := (barrowref24_place.f k l0 a1).bind fun bt420 => ((barrowref24_place.f k l0 a2).bind fun bt423 => (if bt420.2.2 = true then (if bt423.2.2 = true then ((barrowref06_Near.f k bt420.1 bt420.2.1 bt423.1 bt423.2.1 a3).bind fun t426 => (some t426)) else (some false)) else (some false)))
theorem barrowref24_Mutual.mono : ∀ a0 a1 a2 a3 k, LeO (barrowref24_Mutual.f k a0 a1 a2 a3) (barrowref24_Mutual.f (k + 1) a0 a1 a2 a3) := by
  intro a0 a1 a2 a3 k
  unfold barrowref24_Mutual.f
  repeat' first
      | (with_reducible exact barrowref06_Near.mono _ _ _ _ _ _)
      | (with_reducible exact barrowref24_place.mono _ _ _)
      | (with_reducible exact LeO.refl _)
      | (with_reducible exact LeO.none _)
      | (with_reducible refine LeO.ite ?_ ?_)
      | (with_reducible refine everyOf_le (fun _ => ?_))
      | (with_reducible refine LeO.bind ?_ (fun _ => ?_))
      | exact barrowref06_Near.mono _ _ _ _ _ _
      | exact barrowref24_place.mono _ _ _
      | exact LeO.none _
      | refine LeO.ite ?_ ?_
      | refine LeO.bind ?_ (fun _ => ?_)
def barrowref24_Mutual.Post (r : Bool) (S : Nat → Prop) (L : List Asr) (w : World) (e : Ending) (w' : World) : Prop := e = .returned (.bool r) ∧ SL (L) w' S ∧ Keep S w w'
set_option maxHeartbeats 8000000 in
set_option maxRecDepth 100000 in
theorem barrowref24_Mutual.slcalls (k : Nat) (A0 : Option Addr) (c0 : Nat) (l0 : List (S50)) (a1 : Int) (a2 : Int) (a3 : Int) (r : Bool) (S : Nat → Prop) (L : List Asr) (w : World) (hf : Fresh S w) (hs : SL (L) w S) (hr0 : RO S w (fun w_ => Kd.C k50 w_ A0 l0.length l0)) (hc0 : l0.length ≤ c0) (h : barrowref24_Mutual.f k l0 a1 a2 a3 = some r) :
    Calls Try.prog 12 #[.slice A0 l0.length c0, .int .i64 a1, .int .i64 a2, .int .i64 a3] w (barrowref24_Mutual.Post r S L w) := by
  have HR0 := Aside0.mk hr0
  have HC0 := Aside0.mk hc0
  clear hr0 hc0
  have HF := Aside0.mk hf
  have HS := Aside0.mk hs
  have HK := Aside0.mk (Keep.refl S w)
  clear hf hs
  have hu41 := Try.underlying41
  have H : ((barrowref24_place.f k l0 a1).bind fun bt420 => ((barrowref24_place.f k l0 a2).bind fun bt423 => (if bt420.2.2 = true then (if bt423.2.2 = true then ((barrowref06_Near.f k bt420.1 bt420.2.1 bt423.1 bt423.2.1 a3).bind fun t426 => (some t426)) else (some false)) else (some false)))) = some r := h
  clear h
  replace H := Option.bind_eq_some_iff.1 H
  obtain ⟨⟨t420, t421, t422⟩, Hc10, H⟩ := H
  try dsimp only at H
  have Hc1 := Aside0.mk Hc10
  clear Hc10
  replace H := Option.bind_eq_some_iff.1 H
  obtain ⟨⟨t423, t424, t425⟩, Hc20, H⟩ := H
  try dsimp only at H
  have Hc2 := Aside0.mk Hc20
  clear Hc20
  have H' := Aside0.mk H
  clear H
  go_enter Try.func12, Try.ntmps12
  go_wp2_with (first | ((with_reducible refine gate_dst (N := 16) rfl ?_); refine goesL_ (some 16) rfl rfl Try.func24 (by kernel_rfl) rfl #[.slice A0 l0.length c0, .int .i64 a1] rfl (by (try simp only [List.map_toArray, List.map_cons, List.map_nil]); first | done | rfl | (simp; done)) ?_; (with_reducible refine (barrowref24_place.calls k _ _ _ _ _ _ _ _ (RO.at_ HR0.out HK.out) HC0.out Hc1.out).mono ?_); rintro e_ w3 ⟨rfl, hb_⟩; refine ⟨_, rfl, ?_⟩; replace HS := Aside0.mk (HS.out.below hb_); replace HK := Aside0.mk (HK.out.trans (Keep.below hb_))) | ((with_reducible refine gate_dst (N := 9) rfl ?_); refine wpList_plain rfl (fun K_ hK_ => ?_); refine op_box (S := S) (cs := #[.int .i64 0, .int .i64 0]) (t := 41) (HF.out.keep HK.out) HS.out (by first | (go_simp; done) | (go_simp; rfl)) ?_; intro g3000048 w4 hs_ hk_; refine hK_ _ _ ?_; clear hK_ K_; replace HS := Aside0.mk (hs_); replace HK := Aside0.mk (HK.out.trans hk_)) | ((with_reducible refine gate_store (t := 41) (p := 9) (v := (.tmp 17)) rfl ?_); refine wpList_plain rfl (fun K_ hK_ => ?_); refine op_store (S := S) 41 (.tmp 9) (.tmp 17) rfl g3000048 0 (.agg #[.int .i64 t420, .int .i64 t421]) [.int .i64 t420, .int .i64 t421] rfl rfl rfl (by kernel_rfl) (by simp [Value.oneCell']) HS.out (by simp) ?_; intro w5 hs_ hk_; refine hK_ _ _ ?_; clear hK_ K_; replace HS := Aside0.mk ((show SL (cells g3000048 41 [.int .i64 t420, .int .i64 t421].toArray :: _) _ _ from hs_)); replace HK := Aside0.mk (HK.out.trans hk_)) | ((with_reducible refine gate_dst (N := 22) rfl ?_); refine goesL_ (some 22) rfl rfl Try.func24 (by kernel_rfl) rfl #[.slice A0 l0.length c0, .int .i64 a2] rfl (by (try simp only [List.map_toArray, List.map_cons, List.map_nil]); first | done | rfl | (simp; done)) ?_; (with_reducible refine (barrowref24_place.calls k _ _ _ _ _ _ _ _ (RO.at_ HR0.out HK.out) HC0.out Hc2.out).mono ?_); rintro e_ w6 ⟨rfl, hb_⟩; refine ⟨_, rfl, ?_⟩; replace HS := Aside0.mk (HS.out.below hb_); replace HK := Aside0.mk (HK.out.trans (Keep.below hb_))) | ((with_reducible refine gate_dst (N := 11) rfl ?_); refine wpList_plain rfl (fun K_ hK_ => ?_); refine op_box (S := S) (cs := #[.int .i64 0, .int .i64 0]) (t := 41) (HF.out.keep HK.out) HS.out (by first | (go_simp; done) | (go_simp; rfl)) ?_; intro g3000049 w7 hs_ hk_; refine hK_ _ _ ?_; clear hK_ K_; replace HS := Aside0.mk (hs_); replace HK := Aside0.mk (HK.out.trans hk_)) | ((with_reducible refine gate_store (t := 41) (p := 11) (v := (.tmp 23)) rfl ?_); refine wpList_plain rfl (fun K_ hK_ => ?_); refine op_store (S := S) 41 (.tmp 11) (.tmp 23) rfl g3000049 0 (.agg #[.int .i64 t423, .int .i64 t424]) [.int .i64 t423, .int .i64 t424] rfl rfl rfl (by kernel_rfl) (by simp [Value.oneCell']) HS.out (by simp) ?_; intro w8 hs_ hk_; refine hK_ _ _ ?_; clear hK_ K_; replace HS := Aside0.mk ((show SL (cells g3000049 41 [.int .i64 t423, .int .i64 t424].toArray :: _) _ _ from hs_)); replace HK := Aside0.mk (HK.out.trans hk_); refine stop_ ?_; intro G_ hG_))
  have H := H'.out
  clear H'
  by_cases c9 : t422 = true
  · subst c9
    rw [if_pos rfl] at H
    by_cases c10 : t425 = true
    · subst c10
      rw [if_pos rfl] at H
      replace H := Option.bind_eq_some_iff.1 H
      obtain ⟨t426, Hc110, H⟩ := H
      try dsimp only at H
      have Hc11 := Aside0.mk Hc110
      clear Hc110
      obtain rfl := Option.some.inj H
      have hb_ := SL.at_ HS.out
      have hz3000049_0_0 := ((blk_cell hb_ 0).trans rfl : _ = some (.int .i64 t423))
      have hz3000049_1_0 := ((blk_cell hb_ 1).trans rfl : _ = some (.int .i64 t424))
      clear hb_
      have hb_ := SL.at_ (SL.get1 HS.out)
      have hz3000048_0_0 := ((blk_cell hb_ 0).trans rfl : _ = some (.int .i64 t420))
      have hz3000048_1_0 := ((blk_cell hb_ 1).trans rfl : _ = some (.int .i64 t421))
      clear hb_
      refine hG_.out ?_
      go_wp2_with (first | ((with_reducible refine gate_dst (N := 33) rfl ?_); (try (refine gate_guard (by rfl) ?_; dsimp only)); refine goesL_ (some 33) rfl rfl Try.func26 (by kernel_rfl) rfl #[.agg #[.int .i64 t420, .int .i64 t421], .agg #[.int .i64 t423, .int .i64 t424], .int .i64 a3] rfl (by (try simp only [List.map_toArray, List.map_cons, List.map_nil]); first | done | rfl | (simp; done)) ?_; (with_reducible refine (barrowref06_Near.calls k _ _ _ _ _ _ _  Hc11.out).mono ?_); rintro e_ w12 ⟨rfl, hb_⟩; refine ⟨_, rfl, ?_⟩; replace HS := Aside0.mk (HS.out.below hb_); replace HK := Aside0.mk (HK.out.trans (Keep.below hb_)); (try clear hz3000048_0_0 hz3000048_1_0); (try clear hz3000049_0_0 hz3000049_1_0)))
      go_ret
      replace HS := Aside0.mk (SL.tail (SL.tail HS.out))
      unfold barrowref24_Mutual.Post
      exact ⟨by first | rfl | (simp; done) | (simp [*]; done), HS.out, HK.out⟩
    · replace c10 := Bool.eq_false_iff.mpr c10
      subst c10
      rw [if_neg (show ¬ (false = true) by decide)] at H
      obtain rfl := Option.some.inj H
      refine hG_.out ?_
      go_wp2
      go_ret
      replace HS := Aside0.mk (SL.tail (SL.tail HS.out))
      unfold barrowref24_Mutual.Post
      exact ⟨by first | rfl | (simp; done) | (simp [*]; done), HS.out, HK.out⟩
  · replace c9 := Bool.eq_false_iff.mpr c9
    subst c9
    rw [if_neg (show ¬ (false = true) by decide)] at H
    obtain rfl := Option.some.inj H
    refine hG_.out ?_
    go_wp2
    go_ret
    replace HS := Aside0.mk (SL.tail (SL.tail HS.out))
    unfold barrowref24_Mutual.Post
    exact ⟨by first | rfl | (simp; done) | (simp [*]; done), HS.out, HK.out⟩
theorem barrowref24_Mutual.calls (k : Nat) (A0 : Option Addr) (c0 : Nat) (l0 : List (S50)) (a1 : Int) (a2 : Int) (a3 : Int) (r : Bool) (w : World) (hr0 : Kd.C k50 w A0 l0.length l0) (hc0 : l0.length ≤ c0) (h : barrowref24_Mutual.f k l0 a1 a2 a3 = some r) :
    Calls Try.prog 12 #[.slice A0 l0.length c0, .int .i64 a1, .int .i64 a2, .int .i64 a3] w fun e w' => e = .returned (.bool r) ∧ Below w.heap.size w w' :=
  (barrowref24_Mutual.slcalls k A0 c0 l0 a1 a2 a3 r (news w) [] w (fresh_news w) trivial (RO.top hr0) hc0 h).mono fun _ _ h => ⟨h.1, h.2.2.to_below⟩

/-! ### barrowref24_Change: function 14 -/
mutual
def barrowref24_Change.l0 : Nat → (List Int) → (List Int) → (List Int) → Int → Option ((List Int) × (List Int))
  | 0, _, _, _, _ => none
  | k + 1, l0, l1, x6_0, x8_0 => if x8_0 < (l0.length : Int) then (if 0 ≤ x8_0 then ((barrowref24_has.f k l1 (rd l0 x8_0)).bind fun t461 => (if t461 = true then (barrowref24_Change.l0 k l0 l1 x6_0 (wrap64 (x8_0 + 1))) else ((barrowref24_put_i1.f k x6_0 (rd l0 x8_0)).bind fun t463 => (barrowref24_Change.l0 k l0 l1 t463 (wrap64 (x8_0 + 1)))))) else (none)) else (barrowref24_Change.l1 k l0 l1 x6_0 ([] : List Int) 0)
def barrowref24_Change.l1 : Nat → (List Int) → (List Int) → (List Int) → (List Int) → Int → Option ((List Int) × (List Int))
  | 0, _, _, _, _, _ => none
  | k + 1, l0, l1, x6_0, x7_1, x9_1 => if x9_1 < (l1.length : Int) then (if 0 ≤ x9_1 then ((barrowref24_has.f k l0 (rd l1 x9_1)).bind fun t465 => (if t465 = true then (barrowref24_Change.l1 k l0 l1 x6_0 x7_1 (wrap64 (x9_1 + 1))) else ((barrowref24_put_i1.f k x7_1 (rd l1 x9_1)).bind fun t467 => (barrowref24_Change.l1 k l0 l1 x6_0 t467 (wrap64 (x9_1 + 1)))))) else (none)) else (some (x6_0, x7_1))
end
def barrowref24_Change.f (k : Nat) (l0 : List Int) (l1 : List Int) : Option ((List Int) × (List Int)) := barrowref24_Change.l0 k l0 l1 ([] : List Int) 0
theorem barrowref24_Change.mono_l : ∀ k, (∀ y0 y1 y2 y3, LeO (barrowref24_Change.l0 k y0 y1 y2 y3) (barrowref24_Change.l0 (k + 1) y0 y1 y2 y3)) ∧ (∀ y0 y1 y2 y3 y4, LeO (barrowref24_Change.l1 k y0 y1 y2 y3 y4) (barrowref24_Change.l1 (k + 1) y0 y1 y2 y3 y4))
  | 0 => ⟨fun _ _ _ _ r h => by simp [barrowref24_Change.l0] at h, fun _ _ _ _ _ r h => by simp [barrowref24_Change.l1] at h⟩
  | k + 1 => by
    obtain ⟨ih0, ih1⟩ := barrowref24_Change.mono_l k
    refine ⟨?_, ?_⟩
    · intro y0 y1 y2 y3
      unfold barrowref24_Change.l0
      repeat' first
      | (with_reducible exact ih0 _ _ _ _)
      | (with_reducible exact ih1 _ _ _ _ _)
      | (with_reducible exact barrowref24_has.mono _ _ _)
      | (with_reducible exact barrowref24_put_i1.mono _ _ _)
      | (with_reducible exact LeO.refl _)
      | (with_reducible exact LeO.none _)
      | (with_reducible refine LeO.ite ?_ ?_)
      | (with_reducible refine everyOf_le (fun _ => ?_))
      | (with_reducible refine LeO.bind ?_ (fun _ => ?_))
      | exact ih0 _ _ _ _
      | exact ih1 _ _ _ _ _
      | exact barrowref24_has.mono _ _ _
      | exact barrowref24_put_i1.mono _ _ _
      | exact LeO.none _
      | refine LeO.ite ?_ ?_
      | refine LeO.bind ?_ (fun _ => ?_)
    · intro y0 y1 y2 y3 y4
      unfold barrowref24_Change.l1
      repeat' first
      | (with_reducible exact ih0 _ _ _ _)
      | (with_reducible exact ih1 _ _ _ _ _)
      | (with_reducible exact barrowref24_has.mono _ _ _)
      | (with_reducible exact barrowref24_put_i1.mono _ _ _)
      | (with_reducible exact LeO.refl _)
      | (with_reducible exact LeO.none _)
      | (with_reducible refine LeO.ite ?_ ?_)
      | (with_reducible refine everyOf_le (fun _ => ?_))
      | (with_reducible refine LeO.bind ?_ (fun _ => ?_))
      | exact ih0 _ _ _ _
      | exact ih1 _ _ _ _ _
      | exact barrowref24_has.mono _ _ _
      | exact barrowref24_put_i1.mono _ _ _
      | exact LeO.none _
      | refine LeO.ite ?_ ?_
      | refine LeO.bind ?_ (fun _ => ?_)
theorem barrowref24_Change.mono : ∀ a0 a1 k, LeO (barrowref24_Change.f k a0 a1) (barrowref24_Change.f (k + 1) a0 a1) := by
  intro a0 a1 k
  obtain ⟨ih0, ih1⟩ := barrowref24_Change.mono_l k
  unfold barrowref24_Change.f
  repeat' first
      | (with_reducible exact ih0 _ _ _ _)
      | (with_reducible exact ih1 _ _ _ _ _)
      | (with_reducible exact barrowref24_has.mono _ _ _)
      | (with_reducible exact barrowref24_put_i1.mono _ _ _)
      | (with_reducible exact LeO.refl _)
      | (with_reducible exact LeO.none _)
      | (with_reducible refine LeO.ite ?_ ?_)
      | (with_reducible refine everyOf_le (fun _ => ?_))
      | (with_reducible refine LeO.bind ?_ (fun _ => ?_))
      | exact ih0 _ _ _ _
      | exact ih1 _ _ _ _ _
      | exact barrowref24_has.mono _ _ _
      | exact barrowref24_put_i1.mono _ _ _
      | exact LeO.none _
      | refine LeO.ite ?_ ?_
      | refine LeO.bind ?_ (fun _ => ?_)
def barrowref24_Change.Post (r1 : List Int) (r2 : List Int) (S : Nat → Prop) (L : List Asr) (w : World) (e : Ending) (w' : World) : Prop := ∃ (Ar1 : Option Addr) (cr1 : Nat) (Ar2 : Option Addr) (cr2 : Nat), e = .returned (.tuple #[.slice Ar1 r1.length cr1, .slice Ar2 r2.length cr2]) ∧ SL (row (Kd.int .i64) 3 (.slice Ar1 r1.length cr1) r1 :: row (Kd.int .i64) 3 (.slice Ar2 r2.length cr2) r2 :: L) w' S ∧ Keep S w w'
set_option maxHeartbeats 8000000 in
set_option maxRecDepth 100000 in
theorem barrowref24_Change.slcalls (k : Nat) (A0 : Option Addr) (c0 : Nat) (l0 : List Int) (A1 : Option Addr) (c1 : Nat) (l1 : List Int) (r1 : List Int) (r2 : List Int) (S : Nat → Prop) (L : List Asr) (w : World) (hf : Fresh S w) (hs : SL (L) w S) (hr0 : RO S w (fun w_ => Kd.C (Kd.int .i64) w_ A0 l0.length l0)) (hc0 : l0.length ≤ c0) (hr1 : RO S w (fun w_ => Kd.C (Kd.int .i64) w_ A1 l1.length l1)) (hc1 : l1.length ≤ c1) (h : barrowref24_Change.f k l0 l1 = some (r1, r2)) :
    Calls Try.prog 14 #[.slice A0 l0.length c0, .slice A1 l1.length c1] w (barrowref24_Change.Post r1 r2 S L w) := by
  have HR0 := Aside0.mk hr0
  have HC0 := Aside0.mk hc0
  clear hr0 hc0
  have HR1 := Aside0.mk hr1
  have HC1 := Aside0.mk hc1
  clear hr1 hc1
  have HF := Aside0.mk hf
  have HS := Aside0.mk hs
  have HK := Aside0.mk (Keep.refl S w)
  clear hf hs
  have H : (barrowref24_Change.l0 k l0 l1 ([] : List Int) 0) = some (r1, r2) := h
  clear h
  have H' := Aside0.mk H
  clear H
  have n2_ := Aside0.mk (SL.nil_row (Kd.int .i64) 3 HS.out)
  clear HS
  have HS := n2_
  clear n2_
  go_enter Try.func14, Try.ntmps14
  go_wp2
  go_loopg [6, 8] k (fun kq v6 v8 w' => ∃ (x6_0 : List Int) (Ax6_0 : Option Addr) (cx6_0 : Nat) (x8_0 : Int), v6 = .slice Ax6_0 x6_0.length cx6_0 ∧ v8 = .int .i64 x8_0 ∧ Aside0 (barrowref24_Change.l0 kq l0 l1 x6_0 x8_0 = some (r1, r2)) ∧ Aside0 (kq ≤ k) ∧ Aside0 (SL (row (Kd.int .i64) 3 (.slice Ax6_0 x6_0.length cx6_0) x6_0 :: L) w' S) ∧ Aside0 (Keep S w w'))
  case atStart => exact ⟨(([] : List Int)), (none), (0), (0), (by first | rfl | (simp; done) | (simp [*]; done)), (by first | rfl | (simp; done) | (simp [*]; done)), H', ⟨Nat.le_refl _⟩, HS, HK⟩
  case round =>
    clear H' HS HK
    obtain ⟨x6_0, Ax6_0, cx6_0, x8_0, rfl, rfl, HA, HQ1, HS, HK⟩ := hrel
    cases gk with
    | zero => exact absurd HA.out (by simp [barrowref24_Change.l0])
    | succ k1 =>
      have H := HA.out
      clear HA
      simp only [barrowref24_Change.l0] at H
      by_cases c1 : x8_0 < (l0.length : Int)
      · rw [if_pos c1] at H
        have c1b0 : decide (x8_0 < (l0.length : Int)) = true := decide_eq_true c1
        clear c1
        by_cases c2 : 0 ≤ x8_0
        · rw [if_pos c2] at H
          have c2b0 : decide (0 ≤ x8_0) = true := decide_eq_true c2
          clear c2
          replace H := Option.bind_eq_some_iff.1 H
          obtain ⟨t461, Hc30, H⟩ := H
          try dsimp only at H
          have Hc3 := Aside0.mk Hc30
          clear Hc30
          by_cases c4 : t461 = true
          · subst c4
            rw [if_pos rfl] at H
            have H' := Aside0.mk H
            clear H
            have pq460 : 0 ≤ (x8_0 : Int) := of_decide_eq_true (by first | (with_reducible assumption) | assumption)
            have qq460 : x8_0 < ((l0.length : Int) : Int) := of_decide_eq_true (by first | (with_reducible assumption) | assumption)
            obtain ⟨adq460, eq460, hxq460_0⟩ := Kd.at_int (RO.at_ HR0.out HK.out) x8_0 pq460 qq460
            cases eq460
            replace pq460 := eq_true pq460
            replace qq460 := eq_true qq460
            go_wp2_with (first | ((with_reducible refine gate_dst (N := 21) rfl ?_); refine goesL_ (some 21) rfl rfl Try.func28 (by kernel_rfl) rfl #[.slice A1 l1.length c1, .int .i64 (rd l0 x8_0)] rfl (by (try simp only [List.map_toArray, List.map_cons, List.map_nil]); first | done | rfl | (simp; done)) ?_; (with_reducible refine (barrowref24_has.calls k1 _ _ _ _ _ _ (RO.at_ HR1.out HK.out) HC1.out Hc3.out).mono ?_); rintro e_ w5 ⟨rfl, hb_⟩; refine ⟨_, rfl, ?_⟩; replace hb_ := Drawn0.below hb_; replace HS := Aside0.mk (HS.out.below hb_); replace HK := Aside0.mk (HK.out.trans (Keep.below hb_))))
            go_roundg k1
            case measure => have := HQ1.out; omega
            case rel => exact ⟨(x6_0), (Ax6_0), (cx6_0), (wrap64 (x8_0 + 1)), (by first | rfl | (simp; done) | (simp [*]; done)), (by first | rfl | (simp; done) | (simp [*]; done)), H', ⟨by have := HQ1.out; omega⟩, HS, HK⟩
          · replace c4 := Bool.eq_false_iff.mpr c4
            subst c4
            rw [if_neg (show ¬ (false = true) by decide)] at H
            replace H := Option.bind_eq_some_iff.1 H
            obtain ⟨t463, Hc60, H⟩ := H
            try dsimp only at H
            have Hc6 := Aside0.mk Hc60
            clear Hc60
            have H' := Aside0.mk H
            clear H
            have pq460 : 0 ≤ (x8_0 : Int) := of_decide_eq_true (by first | (with_reducible assumption) | assumption)
            have qq460 : x8_0 < ((l0.length : Int) : Int) := of_decide_eq_true (by first | (with_reducible assumption) | assumption)
            obtain ⟨adq460, eq460, hxq460_0⟩ := Kd.at_int (RO.at_ HR0.out HK.out) x8_0 pq460 qq460
            cases eq460
            replace pq460 := eq_true pq460
            replace qq460 := eq_true qq460
            go_wp2_with (first | ((with_reducible refine gate_dst (N := 21) rfl ?_); refine goesL_ (some 21) rfl rfl Try.func28 (by kernel_rfl) rfl #[.slice A1 l1.length c1, .int .i64 (rd l0 x8_0)] rfl (by (try simp only [List.map_toArray, List.map_cons, List.map_nil]); first | done | rfl | (simp; done)) ?_; (with_reducible refine (barrowref24_has.calls k1 _ _ _ _ _ _ (RO.at_ HR1.out HK.out) HC1.out Hc3.out).mono ?_); rintro e_ w7 ⟨rfl, hb_⟩; refine ⟨_, rfl, ?_⟩; replace hb_ := Drawn0.below hb_; replace HS := Aside0.mk (HS.out.below hb_); replace HK := Aside0.mk (HK.out.trans (Keep.below hb_)); have pq462 : 0 ≤ (x8_0 : Int) := of_decide_eq_true (by first | (with_reducible assumption) | assumption); have qq462 : x8_0 < ((l0.length : Int) : Int) := of_decide_eq_true (by first | (with_reducible assumption) | assumption); obtain ⟨adq462, eq462, hxq462_0⟩ := Kd.at_int (RO.at_ HR0.out HK.out) x8_0 pq462 qq462; obtain rfl : adq460 = adq462 := (by injection eq462); replace pq462 := eq_true pq462; replace qq462 := eq_true qq462) | ((with_reducible refine gate_dst (N := 28) rfl ?_); refine goesL_ (some 28) rfl rfl Try.func25 (by kernel_rfl) rfl #[.slice Ax6_0 x6_0.length cx6_0, .int .i64 (rd l0 x8_0)] rfl (by (try simp only [List.map_toArray, List.map_cons, List.map_nil]); first | done | rfl | (simp; done)) ?_; have hs0_ := HS.out; (with_reducible refine (barrowref24_put_i1.slcalls k1 _ _ _ _ _ _ _ _ (HF.out.keep HK.out) hs0_  Hc6.out).mono ?_); rintro e_ w8 ⟨Az3000054, cz3000054, rfl, hsr_, hkr_⟩; refine ⟨_, rfl, ?_⟩; replace HS := Aside0.mk (hsr_); replace HK := Aside0.mk (HK.out.trans hkr_)))
            go_roundg k1
            case measure => have := HQ1.out; omega
            case rel => exact ⟨(t463), (Az3000054), (cz3000054), (wrap64 (x8_0 + 1)), (by first | rfl | (simp; done) | (simp [*]; done)), (by first | rfl | (simp; done) | (simp [*]; done)), H', ⟨by have := HQ1.out; omega⟩, HS, HK⟩
        · rw [if_neg c2] at H
          exact absurd H (by simp)
      · rw [if_neg c1] at H
        have c1b0 : decide (x8_0 < (l0.length : Int)) = false := decide_eq_false c1
        clear c1
        have H' := Aside0.mk H
        clear H
        have n2_ := Aside0.mk (SL.nil_row (Kd.int .i64) 3 HS.out)
        clear HS
        have HS := n2_
        clear n2_
        go_wp2
        go_loopg [7, 9] k1 (fun kq v7 v9 w' => ∃ (x7_1 : List Int) (Ax7_1 : Option Addr) (cx7_1 : Nat) (x9_1 : Int), v7 = .slice Ax7_1 x7_1.length cx7_1 ∧ v9 = .int .i64 x9_1 ∧ Aside0 (barrowref24_Change.l1 kq l0 l1 x6_0 x7_1 x9_1 = some (r1, r2)) ∧ Aside0 (kq ≤ k1) ∧ Aside0 (SL (row (Kd.int .i64) 3 (.slice Ax7_1 x7_1.length cx7_1) x7_1 :: row (Kd.int .i64) 3 (.slice Ax6_0 x6_0.length cx6_0) x6_0 :: L) w' S) ∧ Aside0 (Keep S w w'))
        case atStart => exact ⟨(([] : List Int)), (none), (0), (0), (by first | rfl | (simp; done) | (simp [*]; done)), (by first | rfl | (simp; done) | (simp [*]; done)), H', ⟨Nat.le_refl _⟩, HS, HK⟩
        case round =>
          clear H' HS HK
          obtain ⟨x7_1, Ax7_1, cx7_1, x9_1, rfl, rfl, HA, HQ2, HS, HK⟩ := hrel
          cases gk with
          | zero => exact absurd HA.out (by simp [barrowref24_Change.l1])
          | succ k2 =>
            have H := HA.out
            clear HA
            simp only [barrowref24_Change.l1] at H
            by_cases c9 : x9_1 < (l1.length : Int)
            · rw [if_pos c9] at H
              have c9b0 : decide (x9_1 < (l1.length : Int)) = true := decide_eq_true c9
              clear c9
              by_cases c10 : 0 ≤ x9_1
              · rw [if_pos c10] at H
                have c10b0 : decide (0 ≤ x9_1) = true := decide_eq_true c10
                clear c10
                replace H := Option.bind_eq_some_iff.1 H
                obtain ⟨t465, Hc110, H⟩ := H
                try dsimp only at H
                have Hc11 := Aside0.mk Hc110
                clear Hc110
                by_cases c12 : t465 = true
                · subst c12
                  rw [if_pos rfl] at H
                  have H' := Aside0.mk H
                  clear H
                  have pq464 : 0 ≤ (x9_1 : Int) := of_decide_eq_true (by first | (with_reducible assumption) | assumption)
                  have qq464 : x9_1 < ((l1.length : Int) : Int) := of_decide_eq_true (by first | (with_reducible assumption) | assumption)
                  obtain ⟨adq464, eq464, hxq464_0⟩ := Kd.at_int (RO.at_ HR1.out HK.out) x9_1 pq464 qq464
                  cases eq464
                  replace pq464 := eq_true pq464
                  replace qq464 := eq_true qq464
                  go_wp2_with (first | ((with_reducible refine gate_dst (N := 40) rfl ?_); refine goesL_ (some 40) rfl rfl Try.func28 (by kernel_rfl) rfl #[.slice A0 l0.length c0, .int .i64 (rd l1 x9_1)] rfl (by (try simp only [List.map_toArray, List.map_cons, List.map_nil]); first | done | rfl | (simp; done)) ?_; (with_reducible refine (barrowref24_has.calls k2 _ _ _ _ _ _ (RO.at_ HR0.out HK.out) HC0.out Hc11.out).mono ?_); rintro e_ w13 ⟨rfl, hb_⟩; refine ⟨_, rfl, ?_⟩; replace hb_ := Drawn0.below hb_; replace HS := Aside0.mk (HS.out.below hb_); replace HK := Aside0.mk (HK.out.trans (Keep.below hb_))))
                  go_roundg k2
                  case measure => have := HQ1.out; have := HQ2.out; omega
                  case rel => exact ⟨(x7_1), (Ax7_1), (cx7_1), (wrap64 (x9_1 + 1)), (by first | rfl | (simp; done) | (simp [*]; done)), (by first | rfl | (simp; done) | (simp [*]; done)), H', ⟨by have := HQ1.out; have := HQ2.out; omega⟩, HS, HK⟩
                · replace c12 := Bool.eq_false_iff.mpr c12
                  subst c12
                  rw [if_neg (show ¬ (false = true) by decide)] at H
                  replace H := Option.bind_eq_some_iff.1 H
                  obtain ⟨t467, Hc140, H⟩ := H
                  try dsimp only at H
                  have Hc14 := Aside0.mk Hc140
                  clear Hc140
                  have H' := Aside0.mk H
                  clear H
                  have pq464 : 0 ≤ (x9_1 : Int) := of_decide_eq_true (by first | (with_reducible assumption) | assumption)
                  have qq464 : x9_1 < ((l1.length : Int) : Int) := of_decide_eq_true (by first | (with_reducible assumption) | assumption)
                  obtain ⟨adq464, eq464, hxq464_0⟩ := Kd.at_int (RO.at_ HR1.out HK.out) x9_1 pq464 qq464
                  cases eq464
                  replace pq464 := eq_true pq464
                  replace qq464 := eq_true qq464
                  go_wp2_with (first | ((with_reducible refine gate_dst (N := 40) rfl ?_); refine goesL_ (some 40) rfl rfl Try.func28 (by kernel_rfl) rfl #[.slice A0 l0.length c0, .int .i64 (rd l1 x9_1)] rfl (by (try simp only [List.map_toArray, List.map_cons, List.map_nil]); first | done | rfl | (simp; done)) ?_; (with_reducible refine (barrowref24_has.calls k2 _ _ _ _ _ _ (RO.at_ HR0.out HK.out) HC0.out Hc11.out).mono ?_); rintro e_ w15 ⟨rfl, hb_⟩; refine ⟨_, rfl, ?_⟩; replace hb_ := Drawn0.below hb_; replace HS := Aside0.mk (HS.out.below hb_); replace HK := Aside0.mk (HK.out.trans (Keep.below hb_)); have pq466 : 0 ≤ (x9_1 : Int) := of_decide_eq_true (by first | (with_reducible assumption) | assumption); have qq466 : x9_1 < ((l1.length : Int) : Int) := of_decide_eq_true (by first | (with_reducible assumption) | assumption); obtain ⟨adq466, eq466, hxq466_0⟩ := Kd.at_int (RO.at_ HR1.out HK.out) x9_1 pq466 qq466; obtain rfl : adq464 = adq466 := (by injection eq466); replace pq466 := eq_true pq466; replace qq466 := eq_true qq466) | ((with_reducible refine gate_dst (N := 47) rfl ?_); refine goesL_ (some 47) rfl rfl Try.func25 (by kernel_rfl) rfl #[.slice Ax7_1 x7_1.length cx7_1, .int .i64 (rd l1 x9_1)] rfl (by (try simp only [List.map_toArray, List.map_cons, List.map_nil]); first | done | rfl | (simp; done)) ?_; have hs0_ := HS.out; (with_reducible refine (barrowref24_put_i1.slcalls k2 _ _ _ _ _ _ _ _ (HF.out.keep HK.out) hs0_  Hc14.out).mono ?_); rintro e_ w16 ⟨Az3000055, cz3000055, rfl, hsr_, hkr_⟩; refine ⟨_, rfl, ?_⟩; replace HS := Aside0.mk (hsr_); replace HK := Aside0.mk (HK.out.trans hkr_)))
                  go_roundg k2
                  case measure => have := HQ1.out; have := HQ2.out; omega
                  case rel => exact ⟨(t467), (Az3000055), (cz3000055), (wrap64 (x9_1 + 1)), (by first | rfl | (simp; done) | (simp [*]; done)), (by first | rfl | (simp; done) | (simp [*]; done)), H', ⟨by have := HQ1.out; have := HQ2.out; omega⟩, HS, HK⟩
              · rw [if_neg c10] at H
                exact absurd H (by simp)
            · rw [if_neg c9] at H
              have c9b0 : decide (x9_1 < (l1.length : Int)) = false := decide_eq_false c9
              clear c9
              simp only [Option.some.injEq, Prod.mk.injEq] at H
              obtain ⟨rfl, rfl⟩ := H
              go_wp2
              go_ret2
              replace HS := Aside0.mk (SL.get1 HS.out)
              unfold barrowref24_Change.Post
              exact ⟨Ax6_0, cx6_0, Ax7_1, cx7_1, by first | rfl | (simp; done) | (simp [*]; done) | (simp at c9b0 ⊢; first | exact c9b0 | (simp [c9b0]; done)), HS.out, HK.out⟩

/-! ### barrowref24_Hears: function 16 -/
def barrowref24_Hears.f (k : Nat) (l0 : List Int) (a1 : Int) (a2 : Int) : Option (Bool) := if a1 = 0 then (if a2 = 0 then (some false) else ((barrowref24_has.f k l0 a2).bind fun t468 => (some t468))) else ((barrowref24_has.f k l0 a1).bind fun t469 => (if t469 = true then (some true) else (if a2 = 0 then (some false) else ((barrowref24_has.f k l0 a2).bind fun t470 => (some t470)))))
theorem barrowref24_Hears.mono : ∀ a0 a1 a2 k, LeO (barrowref24_Hears.f k a0 a1 a2) (barrowref24_Hears.f (k + 1) a0 a1 a2) := by
  intro a0 a1 a2 k
  unfold barrowref24_Hears.f
  repeat' first
      | (with_reducible exact barrowref24_has.mono _ _ _)
      | (with_reducible exact LeO.refl _)
      | (with_reducible exact LeO.none _)
      | (with_reducible refine LeO.ite ?_ ?_)
      | (with_reducible refine LeO.bind ?_ (fun _ => ?_))
      | exact barrowref24_has.mono _ _ _
      | exact LeO.none _
      | refine LeO.ite ?_ ?_
      | refine LeO.bind ?_ (fun _ => ?_)
set_option maxHeartbeats 8000000 in
set_option maxRecDepth 100000 in
theorem barrowref24_Hears.calls (k : Nat) (A0 : Option Addr) (c0 : Nat) (l0 : List Int) (a1 : Int) (a2 : Int) (r : Bool) (w : World) (hr0 : Kd.C (Kd.int .i64) w A0 l0.length l0) (hc0 : l0.length ≤ c0) (h : barrowref24_Hears.f k l0 a1 a2 = some r) :
    Calls Try.prog 16 #[.slice A0 l0.length c0, .int .i64 a1, .int .i64 a2] w fun e w' => e = .returned (.bool r) ∧ Drawn0 w w' := by
  have HR0 := Aside0.mk hr0
  have HC0 := Aside0.mk hc0
  clear hr0 hc0
  have H : (if a1 = 0 then (if a2 = 0 then (some false) else ((barrowref24_has.f k l0 a2).bind fun t468 => (some t468))) else ((barrowref24_has.f k l0 a1).bind fun t469 => (if t469 = true then (some true) else (if a2 = 0 then (some false) else ((barrowref24_has.f k l0 a2).bind fun t470 => (some t470)))))) = some r := h
  clear h
  by_cases c4 : a1 = 0
  · rw [if_pos c4] at H
    have c4b0 : (a1 == 0) = true := beq_iff_eq.mpr c4
    have c4b1 : (a1 != 0) = false := bne_eq_false_iff_eq.mpr c4
    clear c4
    by_cases c5 : a2 = 0
    · rw [if_pos c5] at H
      have c5b0 : (a2 == 0) = true := beq_iff_eq.mpr c5
      have c5b1 : (a2 != 0) = false := bne_eq_false_iff_eq.mpr c5
      clear c5
      obtain rfl := Option.some.inj H
      go_enter Try.func16, Try.ntmps16
      go_wp2
      go_ret
      exact ⟨by first | rfl | (simp; done) | (simp [*]; done), by repeat (first | exact Drawn0.refl _ | apply Drawn0.step)⟩
    · rw [if_neg c5] at H
      have c5b0 : (a2 == 0) = false := beq_eq_false_iff_ne.mpr c5
      have c5b1 : (a2 != 0) = true := bne_iff_ne.mpr c5
      replace H := Option.bind_eq_some_iff.mp H
      obtain ⟨t468, A60, H⟩ := H
      replace H : (some t468) = some r := H
      have A6 := Aside0.mk A60
      clear A60
      obtain rfl := Option.some.inj H
      go_enter Try.func16, Try.ntmps16
      go_wp2_with (first | (go_at_call 28; (with_reducible refine calls_of_args (args' := #[_, .int .i64 a2]) rfl ?_); (with_reducible refine (barrowref24_has.calls k _ _ l0 a2 t468 _ ?side1 ?side2 A6.out).mono ?_); (case side1 => repeat (first | exact HR0.out | (with_reducible refine Kd.C_alloc ?_ _) | (with_reducible refine Kd.C_drewN ?_ _) | (with_reducible refine Kd.C_drew ?_))); (case side2 => exact HC0.out); rintro e w' ⟨rfl, ⟨nd, rfl⟩⟩))
      go_ret
      exact ⟨by first | rfl | (simp; done) | (simp [*]; done), by repeat (first | exact Drawn0.refl _ | apply Drawn0.step)⟩
  · rw [if_neg c4] at H
    have c4b0 : (a1 == 0) = false := beq_eq_false_iff_ne.mpr c4
    have c4b1 : (a1 != 0) = true := bne_iff_ne.mpr c4
    replace H := Option.bind_eq_some_iff.mp H
    obtain ⟨t469, A70, H⟩ := H
    replace H : (if t469 = true then (some true) else (if a2 = 0 then (some false) else ((barrowref24_has.f k l0 a2).bind fun t470 => (some t470)))) = some r := H
    have A7 := Aside0.mk A70
    clear A70
    by_cases c8 : t469 = true
    · subst c8
      have H1 : (some true) = some r := by rw [if_pos rfl] at H; exact H
      clear H
      have H := H1
      clear H1
      obtain rfl := Option.some.inj H
      go_enter Try.func16, Try.ntmps16
      go_wp2_with (first | (go_at_call 28; (with_reducible refine calls_of_args (args' := #[_, .int .i64 a1]) rfl ?_); (with_reducible refine (barrowref24_has.calls k _ _ l0 a1 true _ ?side1 ?side2 A7.out).mono ?_); (case side1 => repeat (first | exact HR0.out | (with_reducible refine Kd.C_alloc ?_ _) | (with_reducible refine Kd.C_drewN ?_ _) | (with_reducible refine Kd.C_drew ?_))); (case side2 => exact HC0.out); rintro e w' ⟨rfl, ⟨nd, rfl⟩⟩))
      go_ret
      exact ⟨by first | rfl | (simp; done) | (simp [*]; done), by repeat (first | exact Drawn0.refl _ | apply Drawn0.step)⟩
    · replace c8 := Bool.eq_false_iff.mpr c8
      subst c8
      have H1 : (if a2 = 0 then (some false) else ((barrowref24_has.f k l0 a2).bind fun t470 => (some t470))) = some r := by rw [if_neg (show ¬ (false = true) by decide)] at H; exact H
      clear H
      have H := H1
      clear H1
      by_cases c9 : a2 = 0
      · rw [if_pos c9] at H
        have c9b0 : (a2 == 0) = true := beq_iff_eq.mpr c9
        have c9b1 : (a2 != 0) = false := bne_eq_false_iff_eq.mpr c9
        clear c9
        obtain rfl := Option.some.inj H
        go_enter Try.func16, Try.ntmps16
        go_wp2_with (first | (go_at_call 28; (with_reducible refine calls_of_args (args' := #[_, .int .i64 a1]) rfl ?_); (with_reducible refine (barrowref24_has.calls k _ _ l0 a1 false _ ?side1 ?side2 A7.out).mono ?_); (case side1 => repeat (first | exact HR0.out | (with_reducible refine Kd.C_alloc ?_ _) | (with_reducible refine Kd.C_drewN ?_ _) | (with_reducible refine Kd.C_drew ?_))); (case side2 => exact HC0.out); rintro e w' ⟨rfl, ⟨nd, rfl⟩⟩))
        go_ret
        exact ⟨by first | rfl | (simp; done) | (simp [*]; done), by repeat (first | exact Drawn0.refl _ | apply Drawn0.step)⟩
      · rw [if_neg c9] at H
        have c9b0 : (a2 == 0) = false := beq_eq_false_iff_ne.mpr c9
        have c9b1 : (a2 != 0) = true := bne_iff_ne.mpr c9
        replace H := Option.bind_eq_some_iff.mp H
        obtain ⟨t470, A100, H⟩ := H
        replace H : (some t470) = some r := H
        have A10 := Aside0.mk A100
        clear A100
        obtain rfl := Option.some.inj H
        go_enter Try.func16, Try.ntmps16
        go_wp2_with (first | (go_at_call 28; (with_reducible refine calls_of_args (args' := #[_, .int .i64 a1]) rfl ?_); (with_reducible refine (barrowref24_has.calls k _ _ l0 a1 false _ ?side1 ?side2 A7.out).mono ?_); (case side1 => repeat (first | exact HR0.out | (with_reducible refine Kd.C_alloc ?_ _) | (with_reducible refine Kd.C_drewN ?_ _) | (with_reducible refine Kd.C_drew ?_))); (case side2 => exact HC0.out); rintro e w' ⟨rfl, ⟨nd, rfl⟩⟩) | (go_at_call 28; (with_reducible refine calls_of_args (args' := #[_, .int .i64 a2]) rfl ?_); (with_reducible refine (barrowref24_has.calls k _ _ l0 a2 t470 _ ?side1 ?side2 A10.out).mono ?_); (case side1 => repeat (first | exact HR0.out | (with_reducible refine Kd.C_alloc ?_ _) | (with_reducible refine Kd.C_drewN ?_ _) | (with_reducible refine Kd.C_drew ?_))); (case side2 => exact HC0.out); rintro e w' ⟨rfl, ⟨nd, rfl⟩⟩))
        go_ret
        exact ⟨by first | rfl | (simp; done) | (simp [*]; done), by repeat (first | exact Drawn0.refl _ | apply Drawn0.step)⟩

end Go.Proofs.Ytgcbmhihiacgnaa.XIN
