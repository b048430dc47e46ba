-- Written by xprint.py (a program of this session) for this claim
import Derived.Test.YtbhgohomgfjjfaaSL5
import Derived.Test.YtbhgohomgfjjfaaXCOx0
import Derived.Test.YtbhgohomgfjjfaaXCOx1
import Derived.Test.YtbhgohomgfjjfaaXCOx3
import Derived.Test.YtbhgohomgfjjfaaXCOx6
import Derived.Test.YtbhgohomgfjjfaaXCOx8
import Derived.Test.YtbhgohomgfjjfaaXCOx9
namespace Go.Proofs.Ytbhgohomgfjjfaa.XCO
open Go.Proofs.YtbhgohomgfjjfaaV Go.Proofs.YtbhgohomgfjjfaaS
open Go.RowKit Go.Proofs.YtbhgohomgfjjfaaW.PrintWords Go.Proofs.YtbhgohomgfjjfaaW.PrintLast Go.Proofs.YtbhgohomgfjjfaaW.PrintMore
attribute [local go_sem] max2_int min2_int max_two min_two max_three min_three max_four min_four   -- for this text's walks alone
set_option linter.unusedVariables false
set_option linter.unusedSimpArgs false

/-! ### barrowlaw16_CoolAll: function 5 -/
mutual
def barrowlaw16_CoolAll.l0 : Nat → Int → Int → Int → Bool → (List (S35)) → Int → Option (Bool)
  | 0, _, _, _, _, _, _ => none
  | k + 1, a0, a1, a2, t351, x9_0, x10_0 => if x10_0 < a0 then ((cool_Use.f k x9_0 1 0 a1 a0 0 0 false ([] : List (S76)) a2).bind fun bt352 => (if bt352.2 = true then (barrowlaw16_CoolAll.l0 k a0 a1 a2 t351 bt352.1 (wrap64 (x10_0 + 1))) else (none))) else ((cool_Use.f k x9_0 1 0 a1 a0 0 0 false ([] : List (S76)) a2).bind fun bt354 => (barrowlaw16_CoolAll.l1 k a0 a1 a2 t351 x9_0 bt354.2 0))
def barrowlaw16_CoolAll.l1 : Nat → Int → Int → Int → Bool → (List (S35)) → Bool → Int → Option (Bool)
  | 0, _, _, _, _, _, _, _ => none
  | k + 1, a0, a1, a2, t351, x9_0, t355, x15_1 => if x15_1 ≤ a0 then ((cool_Ready.f k x9_0 1 0 a1 a0 0 0 false ([] : List (S76)) (wrap64 (a2 + (wrap64 (x15_1 * a1))))).bind fun t356 => (if t356 = x15_1 then (if x15_1 < a0 then ((cool_Ready.f k x9_0 1 0 a1 a0 0 0 false ([] : List (S76)) (wrap64 ((wrap64 ((wrap64 (a2 + (wrap64 (x15_1 * a1)))) + a1)) - 1))).bind fun t357 => (if t357 = x15_1 then (barrowlaw16_CoolAll.l1 k a0 a1 a2 t351 x9_0 t355 (wrap64 (x15_1 + 1))) else (none))) else (barrowlaw16_CoolAll.l1 k a0 a1 a2 t351 x9_0 t355 (wrap64 (x15_1 + 1)))) else (none))) else (if t351 = true then (if t355 = true then (none) else ((cool_Next.f k x9_0 1 0 a1 a0 0 0 false ([] : List (S76)) a2).bind fun t358 => (if t358 = (wrap64 (a2 + a1)) then (some true) else (none)))) else (none))
end
def barrowlaw16_CoolAll.f (k : Nat) (a0 : Int) (a1 : Int) (a2 : Int) : Option (Bool) := (barrowlaw16_small.f k).bind fun t351 => (if a0 < 1 then (some t351) else (if a0 > 100 then (some t351) else (if a1 < 1 then (some t351) else (if a1 > 1000000 then (some t351) else (if a2 < 0 then (some t351) else (if a2 > 1099511627776 then (some t351) else (barrowlaw16_CoolAll.l0 k a0 a1 a2 t351 ([] : List (S35)) 0)))))))
theorem barrowlaw16_CoolAll.mono_l : ∀ k, (∀ y0 y1 y2 y3 y4 y5, LeO (barrowlaw16_CoolAll.l0 k y0 y1 y2 y3 y4 y5) (barrowlaw16_CoolAll.l0 (k + 1) y0 y1 y2 y3 y4 y5)) ∧ (∀ y0 y1 y2 y3 y4 y5 y6, LeO (barrowlaw16_CoolAll.l1 k y0 y1 y2 y3 y4 y5 y6) (barrowlaw16_CoolAll.l1 (k + 1) y0 y1 y2 y3 y4 y5 y6))
  | 0 => ⟨fun _ _ _ _ _ _ r h => by simp [barrowlaw16_CoolAll.l0] at h, fun _ _ _ _ _ _ _ r h => by simp [barrowlaw16_CoolAll.l1] at h⟩
  | k + 1 => by
    obtain ⟨ih0, ih1⟩ := barrowlaw16_CoolAll.mono_l k
    refine ⟨?_, ?_⟩
    · intro y0 y1 y2 y3 y4 y5
      unfold barrowlaw16_CoolAll.l0
      repeat' first
      | (with_reducible exact ih0 _ _ _ _ _ _)
      | (with_reducible exact ih1 _ _ _ _ _ _ _)
      | (with_reducible exact barrowlaw16_small.mono _)
      | (with_reducible exact cool_Next.mono _ _ _ _ _ _ _ _ _ _ _)
      | (with_reducible exact cool_Ready.mono _ _ _ _ _ _ _ _ _ _ _)
      | (with_reducible exact cool_Use.mono _ _ _ _ _ _ _ _ _ _ _)
      | (with_reducible exact LeO.refl _)
      | (with_reducible exact LeO.none _)
      | (with_reducible refine LeO.ite ?_ ?_)
      | (with_reducible refine everyOf_le (fun _ => ?_))
      | (with_reducible refine LeO.bind ?_ (fun _ => ?_))
      | exact ih0 _ _ _ _ _ _
      | exact ih1 _ _ _ _ _ _ _
      | exact barrowlaw16_small.mono _
      | exact cool_Next.mono _ _ _ _ _ _ _ _ _ _ _
      | exact cool_Ready.mono _ _ _ _ _ _ _ _ _ _ _
      | exact cool_Use.mono _ _ _ _ _ _ _ _ _ _ _
      | exact LeO.none _
      | refine LeO.ite ?_ ?_
      | refine LeO.bind ?_ (fun _ => ?_)
    · intro y0 y1 y2 y3 y4 y5 y6
      unfold barrowlaw16_CoolAll.l1
      repeat' first
      | (with_reducible exact ih0 _ _ _ _ _ _)
      | (with_reducible exact ih1 _ _ _ _ _ _ _)
      | (with_reducible exact barrowlaw16_small.mono _)
      | (with_reducible exact cool_Next.mono _ _ _ _ _ _ _ _ _ _ _)
      | (with_reducible exact cool_Ready.mono _ _ _ _ _ _ _ _ _ _ _)
      | (with_reducible exact cool_Use.mono _ _ _ _ _ _ _ _ _ _ _)
      | (with_reducible exact LeO.refl _)
      | (with_reducible exact LeO.none _)
      | (with_reducible refine LeO.ite ?_ ?_)
      | (with_reducible refine everyOf_le (fun _ => ?_))
      | (with_reducible refine LeO.bind ?_ (fun _ => ?_))
      | exact ih0 _ _ _ _ _ _
      | exact ih1 _ _ _ _ _ _ _
      | exact barrowlaw16_small.mono _
      | exact cool_Next.mono _ _ _ _ _ _ _ _ _ _ _
      | exact cool_Ready.mono _ _ _ _ _ _ _ _ _ _ _
      | exact cool_Use.mono _ _ _ _ _ _ _ _ _ _ _
      | exact LeO.none _
      | refine LeO.ite ?_ ?_
      | refine LeO.bind ?_ (fun _ => ?_)
theorem barrowlaw16_CoolAll.mono : ∀ a0 a1 a2 k, LeO (barrowlaw16_CoolAll.f k a0 a1 a2) (barrowlaw16_CoolAll.f (k + 1) a0 a1 a2) := by
  intro a0 a1 a2 k
  obtain ⟨ih0, ih1⟩ := barrowlaw16_CoolAll.mono_l k
  unfold barrowlaw16_CoolAll.f
  repeat' first
      | (with_reducible exact ih0 _ _ _ _ _ _)
      | (with_reducible exact ih1 _ _ _ _ _ _ _)
      | (with_reducible exact barrowlaw16_small.mono _)
      | (with_reducible exact cool_Next.mono _ _ _ _ _ _ _ _ _ _ _)
      | (with_reducible exact cool_Ready.mono _ _ _ _ _ _ _ _ _ _ _)
      | (with_reducible exact cool_Use.mono _ _ _ _ _ _ _ _ _ _ _)
      | (with_reducible exact LeO.refl _)
      | (with_reducible exact LeO.none _)
      | (with_reducible refine LeO.ite ?_ ?_)
      | (with_reducible refine everyOf_le (fun _ => ?_))
      | (with_reducible refine LeO.bind ?_ (fun _ => ?_))
      | exact ih0 _ _ _ _ _ _
      | exact ih1 _ _ _ _ _ _ _
      | exact barrowlaw16_small.mono _
      | exact cool_Next.mono _ _ _ _ _ _ _ _ _ _ _
      | exact cool_Ready.mono _ _ _ _ _ _ _ _ _ _ _
      | exact cool_Use.mono _ _ _ _ _ _ _ _ _ _ _
      | exact LeO.none _
      | refine LeO.ite ?_ ?_
      | refine LeO.bind ?_ (fun _ => ?_)
def barrowlaw16_CoolAll.Post (r : Bool) (S : Nat → Prop) (L : List Asr) (w : World) (e : Ending) (w' : World) : Prop := e = .returned (.bool r) ∧ SL (L) w' S ∧ Keep S w w'
set_option maxHeartbeats 8000000 in
set_option maxRecDepth 100000 in
theorem barrowlaw16_CoolAll.slcalls (k : Nat) (a0 : Int) (a1 : Int) (a2 : Int) (r : Bool) (S : Nat → Prop) (L : List Asr) (w : World) (hf : Fresh S w) (hs : SL (L) w S) (h : barrowlaw16_CoolAll.f k a0 a1 a2 = some r) :
    Calls Try.prog 5 #[.int .i64 a0, .int .i64 a1, .int .i64 a2] w (barrowlaw16_CoolAll.Post r S L w) := by
  have HF := Aside0.mk hf
  have HS := Aside0.mk hs
  have HK := Aside0.mk (Keep.refl S w)
  clear hf hs
  have hu25 := Try.underlying25
  have H : ((barrowlaw16_small.f k).bind fun t351 => (if a0 < 1 then (some t351) else (if a0 > 100 then (some t351) else (if a1 < 1 then (some t351) else (if a1 > 1000000 then (some t351) else (if a2 < 0 then (some t351) else (if a2 > 1099511627776 then (some t351) else (barrowlaw16_CoolAll.l0 k a0 a1 a2 t351 ([] : List (S35)) 0)))))))) = some r := h
  clear h
  replace H := Option.bind_eq_some_iff.1 H
  obtain ⟨t351, Hc10, H⟩ := H
  try dsimp only at H
  have Hc1 := Aside0.mk Hc10
  clear Hc10
  by_cases c2 : a0 < 1
  · rw [if_pos c2] at H
    have c2b0 : decide (a0 < 1) = true := decide_eq_true c2
    clear c2
    obtain rfl := Option.some.inj H
    go_enter Try.func5, Try.ntmps5
    go_wp2_with (first | ((with_reducible refine gate_dst (N := 16) rfl ?_); refine goesL_ (some 16) rfl rfl Try.func7 (by kernel_rfl) rfl #[] rfl (by (try simp only [List.map_toArray, List.map_cons, List.map_nil]); first | done | rfl | (simp; done)) ?_; (with_reducible refine (barrowlaw16_small.calls k _ _  Hc1.out).mono ?_); rintro e_ w3 ⟨rfl, hb_⟩; refine ⟨_, rfl, ?_⟩; replace HS := Aside0.mk (HS.out.below hb_); replace HK := Aside0.mk (HK.out.trans (Keep.below hb_))))
    go_ret
    unfold barrowlaw16_CoolAll.Post
    exact ⟨by first | rfl | (simp; done) | (simp [*]; done) | (simp at c2b0 ⊢; first | exact c2b0 | (simp [c2b0]; done)), HS.out, HK.out⟩
  · rw [if_neg c2] at H
    have c2b0 : decide (a0 < 1) = false := decide_eq_false c2
    clear c2
    by_cases c4 : a0 > 100
    · rw [if_pos c4] at H
      have c4b0 : decide (100 < a0) = true := decide_eq_true c4
      clear c4
      obtain rfl := Option.some.inj H
      go_enter Try.func5, Try.ntmps5
      go_wp2_with (first | ((with_reducible refine gate_dst (N := 16) rfl ?_); refine goesL_ (some 16) rfl rfl Try.func7 (by kernel_rfl) rfl #[] rfl (by (try simp only [List.map_toArray, List.map_cons, List.map_nil]); first | done | rfl | (simp; done)) ?_; (with_reducible refine (barrowlaw16_small.calls k _ _  Hc1.out).mono ?_); rintro e_ w5 ⟨rfl, hb_⟩; refine ⟨_, rfl, ?_⟩; replace HS := Aside0.mk (HS.out.below hb_); replace HK := Aside0.mk (HK.out.trans (Keep.below hb_))))
      go_ret
      unfold barrowlaw16_CoolAll.Post
      exact ⟨by first | rfl | (simp; done) | (simp [*]; done) | (simp at c4b0 ⊢; first | exact c4b0 | (simp [c4b0]; done)), HS.out, HK.out⟩
    · rw [if_neg c4] at H
      have c4b0 : decide (100 < a0) = false := decide_eq_false c4
      clear c4
      by_cases c6 : a1 < 1
      · rw [if_pos c6] at H
        have c6b0 : decide (a1 < 1) = true := decide_eq_true c6
        clear c6
        obtain rfl := Option.some.inj H
        go_enter Try.func5, Try.ntmps5
        go_wp2_with (first | ((with_reducible refine gate_dst (N := 16) rfl ?_); refine goesL_ (some 16) rfl rfl Try.func7 (by kernel_rfl) rfl #[] rfl (by (try simp only [List.map_toArray, List.map_cons, List.map_nil]); first | done | rfl | (simp; done)) ?_; (with_reducible refine (barrowlaw16_small.calls k _ _  Hc1.out).mono ?_); rintro e_ w7 ⟨rfl, hb_⟩; refine ⟨_, rfl, ?_⟩; replace HS := Aside0.mk (HS.out.below hb_); replace HK := Aside0.mk (HK.out.trans (Keep.below hb_))))
        go_ret
        unfold barrowlaw16_CoolAll.Post
        exact ⟨by first | rfl | (simp; done) | (simp [*]; done) | (simp at c6b0 ⊢; first | exact c6b0 | (simp [c6b0]; done)), HS.out, HK.out⟩
      · rw [if_neg c6] at H
        have c6b0 : decide (a1 < 1) = false := decide_eq_false c6
        clear c6
        by_cases c8 : a1 > 1000000
        · rw [if_pos c8] at H
          have c8b0 : decide (1000000 < a1) = true := decide_eq_true c8
          clear c8
          obtain rfl := Option.some.inj H
          go_enter Try.func5, Try.ntmps5
          go_wp2_with (first | ((with_reducible refine gate_dst (N := 16) rfl ?_); refine goesL_ (some 16) rfl rfl Try.func7 (by kernel_rfl) rfl #[] rfl (by (try simp only [List.map_toArray, List.map_cons, List.map_nil]); first | done | rfl | (simp; done)) ?_; (with_reducible refine (barrowlaw16_small.calls k _ _  Hc1.out).mono ?_); rintro e_ w9 ⟨rfl, hb_⟩; refine ⟨_, rfl, ?_⟩; replace HS := Aside0.mk (HS.out.below hb_); replace HK := Aside0.mk (HK.out.trans (Keep.below hb_))))
          go_ret
          unfold barrowlaw16_CoolAll.Post
          exact ⟨by first | rfl | (simp; done) | (simp [*]; done) | (simp at c8b0 ⊢; first | exact c8b0 | (simp [c8b0]; done)), HS.out, HK.out⟩
        · rw [if_neg c8] at H
          have c8b0 : decide (1000000 < a1) = false := decide_eq_false c8
          clear c8
          by_cases c10 : a2 < 0
          · rw [if_pos c10] at H
            have c10b0 : decide (a2 < 0) = true := decide_eq_true c10
            clear c10
            obtain rfl := Option.some.inj H
            go_enter Try.func5, Try.ntmps5
            go_wp2_with (first | ((with_reducible refine gate_dst (N := 16) rfl ?_); refine goesL_ (some 16) rfl rfl Try.func7 (by kernel_rfl) rfl #[] rfl (by (try simp only [List.map_toArray, List.map_cons, List.map_nil]); first | done | rfl | (simp; done)) ?_; (with_reducible refine (barrowlaw16_small.calls k _ _  Hc1.out).mono ?_); rintro e_ w11 ⟨rfl, hb_⟩; refine ⟨_, rfl, ?_⟩; replace HS := Aside0.mk (HS.out.below hb_); replace HK := Aside0.mk (HK.out.trans (Keep.below hb_))))
            go_ret
            unfold barrowlaw16_CoolAll.Post
            exact ⟨by first | rfl | (simp; done) | (simp [*]; done) | (simp at c10b0 ⊢; first | exact c10b0 | (simp [c10b0]; done)), HS.out, HK.out⟩
          · rw [if_neg c10] at H
            have c10b0 : decide (a2 < 0) = false := decide_eq_false c10
            clear c10
            by_cases c12 : a2 > 1099511627776
            · rw [if_pos c12] at H
              have c12b0 : decide (1099511627776 < a2) = true := decide_eq_true c12
              clear c12
              obtain rfl := Option.some.inj H
              go_enter Try.func5, Try.ntmps5
              go_wp2_with (first | ((with_reducible refine gate_dst (N := 16) rfl ?_); refine goesL_ (some 16) rfl rfl Try.func7 (by kernel_rfl) rfl #[] rfl (by (try simp only [List.map_toArray, List.map_cons, List.map_nil]); first | done | rfl | (simp; done)) ?_; (with_reducible refine (barrowlaw16_small.calls k _ _  Hc1.out).mono ?_); rintro e_ w13 ⟨rfl, hb_⟩; refine ⟨_, rfl, ?_⟩; replace HS := Aside0.mk (HS.out.below hb_); replace HK := Aside0.mk (HK.out.trans (Keep.below hb_))))
              go_ret
              unfold barrowlaw16_CoolAll.Post
              exact ⟨by first | rfl | (simp; done) | (simp [*]; done) | (simp at c12b0 ⊢; first | exact c12b0 | (simp [c12b0]; done)), HS.out, HK.out⟩
            · rw [if_neg c12] at H
              have c12b0 : decide (1099511627776 < a2) = false := decide_eq_false c12
              clear c12
              have H' := Aside0.mk H
              clear H
              go_enter Try.func5, Try.ntmps5
              go_wp2_with (first | ((with_reducible refine gate_dst (N := 16) rfl ?_); refine goesL_ (some 16) rfl rfl Try.func7 (by kernel_rfl) rfl #[] rfl (by (try simp only [List.map_toArray, List.map_cons, List.map_nil]); first | done | rfl | (simp; done)) ?_; (with_reducible refine (barrowlaw16_small.calls k _ _  Hc1.out).mono ?_); rintro e_ w14 ⟨rfl, hb_⟩; refine ⟨_, rfl, ?_⟩; replace HS := Aside0.mk (HS.out.below hb_); replace HK := Aside0.mk (HK.out.trans (Keep.below hb_))) | ((with_reducible refine gate_dst (N := 8) rfl ?_); refine wpList_plain rfl (fun K_ hK_ => ?_); refine op_box (S := S) (cs := #[.int .i64 0, .int .i64 0, .int .i64 0, .int .i64 0, .int .i64 0, .int .i64 0, .bool false, .slice none 0 0]) (t := 25) (HF.out.keep HK.out) HS.out (by first | (go_simp; done) | (go_simp; rfl)) ?_; intro g3000032 w15 hs_ hk_; refine hK_ _ _ ?_; clear hK_ K_; replace HS := Aside0.mk (hs_); replace HK := Aside0.mk (HK.out.trans hk_)) | ((with_reducible refine gate_store (t := 25) (p := 8) (v := (.tmp 42)) rfl ?_); refine wpList_plain rfl (fun K_ hK_ => ?_); refine op_store (S := S) 25 (.tmp 8) (.tmp 42) rfl g3000032 0 (.agg #[.int .i64 1, .int .i64 0, .int .i64 a1, .int .i64 a0, .int .i64 0, .int .i64 0, .bool false, .slice none 0 0]) [.int .i64 1, .int .i64 0, .int .i64 a1, .int .i64 a0, .int .i64 0, .int .i64 0, .bool false, .slice none 0 0] rfl rfl rfl (by kernel_rfl) (by simp [Value.oneCell']) HS.out (by simp) ?_; intro w16 hs_ hk_; refine hK_ _ _ ?_; clear hK_ K_; replace HS := Aside0.mk ((show SL (cells g3000032 25 [.int .i64 1, .int .i64 0, .int .i64 a1, .int .i64 a0, .int .i64 0, .int .i64 0, .bool false, .slice none 0 0].toArray :: _) _ _ from hs_)); replace HK := Aside0.mk (HK.out.trans hk_); have n2_ := Aside0.mk (rows_nil inn35 2 35 HS.out); clear HS; have HS := n2_; clear n2_))
              go_loopg [9, 10] k (fun kq v9 v10 w' => ∃ (x9_0 : List (S35)) (Ax9_0 : Option Addr) (cx9_0 : Nat) (x10_0 : Int), v9 = .slice Ax9_0 x9_0.length cx9_0 ∧ v10 = .int .i64 x10_0 ∧ Aside0 (barrowlaw16_CoolAll.l0 kq a0 a1 a2 t351 x9_0 x10_0 = some r) ∧ Aside0 (kq ≤ k) ∧ Aside0 (SL (rows inn35 2 35 (.slice Ax9_0 x9_0.length cx9_0) x9_0 :: cells g3000032 25 [.int .i64 1, .int .i64 0, .int .i64 a1, .int .i64 a0, .int .i64 0, .int .i64 0, .bool false, .slice none 0 0].toArray :: L) w' S) ∧ Aside0 (Keep S w w'))
              case atStart => exact ⟨(([] : List (S35))), (none), (0), (0), (by first | rfl | (simp; done) | (simp [*]; done)), (by first | rfl | (simp; done) | (simp [*]; done)), H', ⟨Nat.le_refl _⟩, HS, HK⟩
              case round =>
                clear H' HS HK
                obtain ⟨x9_0, Ax9_0, cx9_0, x10_0, rfl, rfl, HA, HQ1, HS, HK⟩ := hrel
                cases gk with
                | zero => exact absurd HA.out (by simp [barrowlaw16_CoolAll.l0])
                | succ k1 =>
                  have H := HA.out
                  clear HA
                  simp only [barrowlaw16_CoolAll.l0] at H
                  by_cases c17 : x10_0 < a0
                  · rw [if_pos c17] at H
                    have c17b0 : decide (x10_0 < a0) = true := decide_eq_true c17
                    clear c17
                    replace H := Option.bind_eq_some_iff.1 H
                    obtain ⟨⟨t352, t353⟩, Hc180, H⟩ := H
                    try dsimp only at H
                    have Hc18 := Aside0.mk Hc180
                    clear Hc180
                    by_cases c19 : t353 = true
                    · subst c19
                      rw [if_pos rfl] at H
                      have H' := Aside0.mk H
                      clear H
                      have hb_ := SL.at_ (SL.get1 HS.out)
                      have hz3000032_0_0 := ((blk_cell hb_ 0).trans rfl : _ = some (.int .i64 1))
                      have hz3000032_1_0 := ((blk_cell hb_ 1).trans rfl : _ = some (.int .i64 0))
                      have hz3000032_2_0 := ((blk_cell hb_ 2).trans rfl : _ = some (.int .i64 a1))
                      have hz3000032_3_0 := ((blk_cell hb_ 3).trans rfl : _ = some (.int .i64 a0))
                      have hz3000032_4_0 := ((blk_cell hb_ 4).trans rfl : _ = some (.int .i64 0))
                      have hz3000032_5_0 := ((blk_cell hb_ 5).trans rfl : _ = some (.int .i64 0))
                      have hz3000032_6_0 := ((blk_cell hb_ 6).trans rfl : _ = some (.bool false))
                      have hz3000032_7_0 := ((blk_cell hb_ 7).trans rfl : _ = some (.slice none 0 0))
                      clear hb_
                      go_wp2_with (first | ((with_reducible refine gate_dst (N := 52) rfl ?_); refine goesL_ (some 52) rfl rfl Try.func10 (by kernel_rfl) rfl #[.slice Ax9_0 x9_0.length cx9_0, .agg #[.int .i64 1, .int .i64 0, .int .i64 a1, .int .i64 a0, .int .i64 0, .int .i64 0, .bool false, .slice none 0 0], .int .i64 a2] rfl (by (try simp only [List.map_toArray, List.map_cons, List.map_nil]); first | done | rfl | (simp; done)) ?_; have hs0_ := HS.out; obtain ⟨U1_, hfU1_, hsub1_, hs1_, hro1_, hback1_⟩ := SL.lend (HF.out.keep HK.out) hs0_ (p := fun w_ => Kd.C k35 w_ Ax9_0 x9_0.length x9_0) (fun w_ T_ h_ => rows_h (d := k35) reads_inn35 sz35 h_); (refine (cool_Use.slcalls k1 _ _ _ _ _ _ _ _ _ _ _ _ _ _ _ _ _ _ _ hfU1_ hs1_ hro1_ (rows_c (d := k35) reads_inn35 sz35 HS.out).2.1 (fun w_ _ => Kd.C_nil _ _) (Nat.le_refl _) Hc18.out).mono ?_); rintro e_ w20 ⟨Az3000033, cz3000033, rfl, hsr_, hkr_⟩; refine ⟨_, rfl, ?_⟩; replace HS := Aside0.mk ((hback1_ _ _ hkr_ hsr_)); replace HK := Aside0.mk (HK.out.trans (Keep.sub hkr_ (fun k_ h_ => hsub1_ k_ h_))); (try clear hz3000032_0_0 hz3000032_1_0 hz3000032_2_0 hz3000032_3_0 hz3000032_4_0 hz3000032_5_0 hz3000032_6_0 hz3000032_7_0)))
                      replace HS := Aside0.mk (SL.tail HS.out)
                      go_roundg k1
                      case measure => have := HQ1.out; omega
                      case rel => exact ⟨(t352), (Az3000033), (cz3000033), (wrap64 (x10_0 + 1)), (by first | rfl | (simp; done) | (simp [*]; done)), (by first | rfl | (simp; done) | (simp [*]; done)), H', ⟨by have := HQ1.out; omega⟩, HS, HK⟩
                    · replace c19 := Bool.eq_false_iff.mpr c19
                      subst c19
                      rw [if_neg (show ¬ (false = true) by decide)] at H
                      exact absurd H (by simp)
                  · rw [if_neg c17] at H
                    have c17b0 : decide (x10_0 < a0) = false := decide_eq_false c17
                    clear c17
                    replace H := Option.bind_eq_some_iff.1 H
                    obtain ⟨⟨t354, t355⟩, Hc210, H⟩ := H
                    try dsimp only at H
                    have Hc21 := Aside0.mk Hc210
                    clear Hc210
                    have H' := Aside0.mk H
                    clear H
                    have hb_ := SL.at_ (SL.get1 HS.out)
                    have hz3000032_0_0 := ((blk_cell hb_ 0).trans rfl : _ = some (.int .i64 1))
                    have hz3000032_1_0 := ((blk_cell hb_ 1).trans rfl : _ = some (.int .i64 0))
                    have hz3000032_2_0 := ((blk_cell hb_ 2).trans rfl : _ = some (.int .i64 a1))
                    have hz3000032_3_0 := ((blk_cell hb_ 3).trans rfl : _ = some (.int .i64 a0))
                    have hz3000032_4_0 := ((blk_cell hb_ 4).trans rfl : _ = some (.int .i64 0))
                    have hz3000032_5_0 := ((blk_cell hb_ 5).trans rfl : _ = some (.int .i64 0))
                    have hz3000032_6_0 := ((blk_cell hb_ 6).trans rfl : _ = some (.bool false))
                    have hz3000032_7_0 := ((blk_cell hb_ 7).trans rfl : _ = some (.slice none 0 0))
                    clear hb_
                    go_wp2_with (first | ((with_reducible refine gate_dst (N := 62) rfl ?_); refine goesL_ (some 62) rfl rfl Try.func10 (by kernel_rfl) rfl #[.slice Ax9_0 x9_0.length cx9_0, .agg #[.int .i64 1, .int .i64 0, .int .i64 a1, .int .i64 a0, .int .i64 0, .int .i64 0, .bool false, .slice none 0 0], .int .i64 a2] rfl (by (try simp only [List.map_toArray, List.map_cons, List.map_nil]); first | done | rfl | (simp; done)) ?_; have hs0_ := HS.out; obtain ⟨U1_, hfU1_, hsub1_, hs1_, hro1_, hback1_⟩ := SL.lend (HF.out.keep HK.out) hs0_ (p := fun w_ => Kd.C k35 w_ Ax9_0 x9_0.length x9_0) (fun w_ T_ h_ => rows_h (d := k35) reads_inn35 sz35 h_); (refine (cool_Use.slcalls k1 _ _ _ _ _ _ _ _ _ _ _ _ _ _ _ _ _ _ _ hfU1_ hs1_ hro1_ (rows_c (d := k35) reads_inn35 sz35 HS.out).2.1 (fun w_ _ => Kd.C_nil _ _) (Nat.le_refl _) Hc21.out).mono ?_); rintro e_ w22 ⟨Az3000034, cz3000034, rfl, hsr_, hkr_⟩; refine ⟨_, rfl, ?_⟩; replace HS := Aside0.mk ((hback1_ _ _ hkr_ hsr_)); replace HK := Aside0.mk (HK.out.trans (Keep.sub hkr_ (fun k_ h_ => hsub1_ k_ h_))); (try clear hz3000032_0_0 hz3000032_1_0 hz3000032_2_0 hz3000032_3_0 hz3000032_4_0 hz3000032_5_0 hz3000032_6_0 hz3000032_7_0)))
                    try go_simp
                    go_loopg [15] k1 (fun kq v15 w' => ∃ (x15_1 : Int), v15 = .int .i64 x15_1 ∧ Aside0 (barrowlaw16_CoolAll.l1 kq a0 a1 a2 t351 x9_0 t355 x15_1 = some r) ∧ Aside0 (kq ≤ k1) ∧ Aside0 (SL (rows inn35 2 35 (.slice Ax9_0 x9_0.length cx9_0) x9_0 :: rows inn35 2 35 (.slice Az3000034 t354.length cz3000034) t354 :: cells g3000032 25 [.int .i64 1, .int .i64 0, .int .i64 a1, .int .i64 a0, .int .i64 0, .int .i64 0, .bool false, .slice none 0 0].toArray :: L) w' S) ∧ Aside0 (Keep S w w'))
                    case atStart => exact ⟨(0), (by first | rfl | (simp; done) | (simp [*]; done)), H', ⟨Nat.le_refl _⟩, HS, HK⟩
                    case round =>
                      clear H' HS HK
                      try clear hz3000032_0_0 hz3000032_1_0 hz3000032_2_0 hz3000032_3_0 hz3000032_4_0 hz3000032_5_0 hz3000032_6_0 hz3000032_7_0
                      obtain ⟨x15_1, rfl, HA, HQ2, HS, HK⟩ := hrel
                      cases gk with
                      | zero => exact absurd HA.out (by simp [barrowlaw16_CoolAll.l1])
                      | succ k2 =>
                        have H := HA.out
                        clear HA
                        simp only [barrowlaw16_CoolAll.l1] at H
                        by_cases c23 : x15_1 ≤ a0
                        · rw [if_pos c23] at H
                          have c23b0 : decide (x15_1 ≤ a0) = true := decide_eq_true c23
                          clear c23
                          replace H := Option.bind_eq_some_iff.1 H
                          obtain ⟨t356, Hc240, H⟩ := H
                          try dsimp only at H
                          have Hc24 := Aside0.mk Hc240
                          clear Hc240
                          by_cases c25 : t356 = x15_1
                          · rw [if_pos c25] at H
                            have c25b0 : (t356 == x15_1) = true := beq_iff_eq.mpr c25
                            have c25b1 : (t356 != x15_1) = false := bne_eq_false_iff_eq.mpr c25
                            clear c25
                            by_cases c26 : x15_1 < a0
                            · rw [if_pos c26] at H
                              have c26b0 : decide (x15_1 < a0) = true := decide_eq_true c26
                              clear c26
                              replace H := Option.bind_eq_some_iff.1 H
                              obtain ⟨t357, Hc270, H⟩ := H
                              try dsimp only at H
                              have Hc27 := Aside0.mk Hc270
                              clear Hc270
                              by_cases c28 : t357 = x15_1
                              · rw [if_pos c28] at H
                                have c28b0 : (t357 == x15_1) = true := beq_iff_eq.mpr c28
                                have c28b1 : (t357 != x15_1) = false := bne_eq_false_iff_eq.mpr c28
                                clear c28
                                have H' := Aside0.mk H
                                clear H
                                have hb_ := SL.at_ (SL.get2 HS.out)
                                have hz3000032_0_0 := ((blk_cell hb_ 0).trans rfl : _ = some (.int .i64 1))
                                have hz3000032_1_0 := ((blk_cell hb_ 1).trans rfl : _ = some (.int .i64 0))
                                have hz3000032_2_0 := ((blk_cell hb_ 2).trans rfl : _ = some (.int .i64 a1))
                                have hz3000032_3_0 := ((blk_cell hb_ 3).trans rfl : _ = some (.int .i64 a0))
                                have hz3000032_4_0 := ((blk_cell hb_ 4).trans rfl : _ = some (.int .i64 0))
                                have hz3000032_5_0 := ((blk_cell hb_ 5).trans rfl : _ = some (.int .i64 0))
                                have hz3000032_6_0 := ((blk_cell hb_ 6).trans rfl : _ = some (.bool false))
                                have hz3000032_7_0 := ((blk_cell hb_ 7).trans rfl : _ = some (.slice none 0 0))
                                clear hb_
                                go_wp2_with (first | ((with_reducible refine gate_dst (N := 77) rfl ?_); refine goesL_ (some 77) rfl rfl Try.func19 (by kernel_rfl) rfl #[.slice Ax9_0 x9_0.length cx9_0, .agg #[.int .i64 1, .int .i64 0, .int .i64 a1, .int .i64 a0, .int .i64 0, .int .i64 0, .bool false, .slice none 0 0], .int .i64 (wrap64 (a2 + (wrap64 (x15_1 * a1))))] rfl (by (try simp only [List.map_toArray, List.map_cons, List.map_nil]); first | done | rfl | (simp; done)) ?_; (refine (cool_Ready.calls k2 _ _ _ _ _ _ _ _ _ _ _ _ _ _ _ _ (rows_c (d := k35) reads_inn35 sz35 HS.out).2.2 (rows_c (d := k35) reads_inn35 sz35 HS.out).2.1 (Kd.C_nil _ _) (Nat.le_refl _) Hc24.out).mono ?_); rintro e_ w29 ⟨rfl, hb_⟩; refine ⟨_, rfl, ?_⟩; replace HS := Aside0.mk (HS.out.below hb_); replace HK := Aside0.mk (HK.out.trans (Keep.below hb_)); (try clear hz3000032_0_0 hz3000032_1_0 hz3000032_2_0 hz3000032_3_0 hz3000032_4_0 hz3000032_5_0 hz3000032_6_0 hz3000032_7_0); have hb_ := SL.at_ (SL.get2 HS.out); have hz3000032_0_1 := ((blk_cell hb_ 0).trans rfl : _ = some (.int .i64 1)); have hz3000032_1_1 := ((blk_cell hb_ 1).trans rfl : _ = some (.int .i64 0)); have hz3000032_2_1 := ((blk_cell hb_ 2).trans rfl : _ = some (.int .i64 a1)); have hz3000032_3_1 := ((blk_cell hb_ 3).trans rfl : _ = some (.int .i64 a0)); have hz3000032_4_1 := ((blk_cell hb_ 4).trans rfl : _ = some (.int .i64 0)); have hz3000032_5_1 := ((blk_cell hb_ 5).trans rfl : _ = some (.int .i64 0)); have hz3000032_6_1 := ((blk_cell hb_ 6).trans rfl : _ = some (.bool false)); have hz3000032_7_1 := ((blk_cell hb_ 7).trans rfl : _ = some (.slice none 0 0)); clear hb_) | ((with_reducible refine gate_dst (N := 95) rfl ?_); (try (refine gate_guard (by rfl) ?_; dsimp only)); refine goesL_ (some 95) rfl rfl Try.func19 (by kernel_rfl) rfl #[.slice Ax9_0 x9_0.length cx9_0, .agg #[.int .i64 1, .int .i64 0, .int .i64 a1, .int .i64 a0, .int .i64 0, .int .i64 0, .bool false, .slice none 0 0], .int .i64 (wrap64 ((wrap64 ((wrap64 (a2 + (wrap64 (x15_1 * a1)))) + a1)) - 1))] rfl (by (try simp only [List.map_toArray, List.map_cons, List.map_nil]); first | done | rfl | (simp; done)) ?_; (refine (cool_Ready.calls k2 _ _ _ _ _ _ _ _ _ _ _ _ _ _ _ _ (rows_c (d := k35) reads_inn35 sz35 HS.out).2.2 (rows_c (d := k35) reads_inn35 sz35 HS.out).2.1 (Kd.C_nil _ _) (Nat.le_refl _) Hc27.out).mono ?_); rintro e_ w30 ⟨rfl, hb_⟩; refine ⟨_, rfl, ?_⟩; replace HS := Aside0.mk (HS.out.below hb_); replace HK := Aside0.mk (HK.out.trans (Keep.below hb_)); (try clear hz3000032_0_1 hz3000032_1_1 hz3000032_2_1 hz3000032_3_1 hz3000032_4_1 hz3000032_5_1 hz3000032_6_1 hz3000032_7_1)))
                                go_roundg k2
                                case measure => have := HQ1.out; have := HQ2.out; omega
                                case rel => exact ⟨(wrap64 (x15_1 + 1)), (by first | rfl | (simp; done) | (simp [*]; done)), H', ⟨by have := HQ1.out; have := HQ2.out; omega⟩, HS, HK⟩
                              · rw [if_neg c28] at H
                                exact absurd H (by simp)
                            · rw [if_neg c26] at H
                              have c26b0 : decide (x15_1 < a0) = false := decide_eq_false c26
                              clear c26
                              have H' := Aside0.mk H
                              clear H
                              have hb_ := SL.at_ (SL.get2 HS.out)
                              have hz3000032_0_0 := ((blk_cell hb_ 0).trans rfl : _ = some (.int .i64 1))
                              have hz3000032_1_0 := ((blk_cell hb_ 1).trans rfl : _ = some (.int .i64 0))
                              have hz3000032_2_0 := ((blk_cell hb_ 2).trans rfl : _ = some (.int .i64 a1))
                              have hz3000032_3_0 := ((blk_cell hb_ 3).trans rfl : _ = some (.int .i64 a0))
                              have hz3000032_4_0 := ((blk_cell hb_ 4).trans rfl : _ = some (.int .i64 0))
                              have hz3000032_5_0 := ((blk_cell hb_ 5).trans rfl : _ = some (.int .i64 0))
                              have hz3000032_6_0 := ((blk_cell hb_ 6).trans rfl : _ = some (.bool false))
                              have hz3000032_7_0 := ((blk_cell hb_ 7).trans rfl : _ = some (.slice none 0 0))
                              clear hb_
                              go_wp2_with (first | ((with_reducible refine gate_dst (N := 77) rfl ?_); refine goesL_ (some 77) rfl rfl Try.func19 (by kernel_rfl) rfl #[.slice Ax9_0 x9_0.length cx9_0, .agg #[.int .i64 1, .int .i64 0, .int .i64 a1, .int .i64 a0, .int .i64 0, .int .i64 0, .bool false, .slice none 0 0], .int .i64 (wrap64 (a2 + (wrap64 (x15_1 * a1))))] rfl (by (try simp only [List.map_toArray, List.map_cons, List.map_nil]); first | done | rfl | (simp; done)) ?_; (refine (cool_Ready.calls k2 _ _ _ _ _ _ _ _ _ _ _ _ _ _ _ _ (rows_c (d := k35) reads_inn35 sz35 HS.out).2.2 (rows_c (d := k35) reads_inn35 sz35 HS.out).2.1 (Kd.C_nil _ _) (Nat.le_refl _) Hc24.out).mono ?_); rintro e_ w31 ⟨rfl, hb_⟩; refine ⟨_, rfl, ?_⟩; replace HS := Aside0.mk (HS.out.below hb_); replace HK := Aside0.mk (HK.out.trans (Keep.below hb_)); (try clear hz3000032_0_0 hz3000032_1_0 hz3000032_2_0 hz3000032_3_0 hz3000032_4_0 hz3000032_5_0 hz3000032_6_0 hz3000032_7_0)))
                              go_roundg k2
                              case measure => have := HQ1.out; have := HQ2.out; omega
                              case rel => exact ⟨(wrap64 (x15_1 + 1)), (by first | rfl | (simp; done) | (simp [*]; done)), H', ⟨by have := HQ1.out; have := HQ2.out; omega⟩, HS, HK⟩
                          · rw [if_neg c25] at H
                            exact absurd H (by simp)
                        · rw [if_neg c23] at H
                          have c23b0 : decide (x15_1 ≤ a0) = false := decide_eq_false c23
                          clear c23
                          by_cases c32 : t351 = true
                          · subst c32
                            rw [if_pos rfl] at H
                            by_cases c33 : t355 = true
                            · subst c33
                              rw [if_pos rfl] at H
                              exact absurd H (by simp)
                            · replace c33 := Bool.eq_false_iff.mpr c33
                              subst c33
                              rw [if_neg (show ¬ (false = true) by decide)] at H
                              replace H := Option.bind_eq_some_iff.1 H
                              obtain ⟨t358, Hc340, H⟩ := H
                              try dsimp only at H
                              have Hc34 := Aside0.mk Hc340
                              clear Hc340
                              by_cases c35 : t358 = (wrap64 (a2 + a1))
                              · rw [if_pos c35] at H
                                have c35b0 : (t358 == (wrap64 (a2 + a1))) = true := beq_iff_eq.mpr c35
                                have c35b1 : (t358 != (wrap64 (a2 + a1))) = false := bne_eq_false_iff_eq.mpr c35
                                clear c35
                                obtain rfl := Option.some.inj H
                                have hb_ := SL.at_ (SL.get2 HS.out)
                                have hz3000032_0_0 := ((blk_cell hb_ 0).trans rfl : _ = some (.int .i64 1))
                                have hz3000032_1_0 := ((blk_cell hb_ 1).trans rfl : _ = some (.int .i64 0))
                                have hz3000032_2_0 := ((blk_cell hb_ 2).trans rfl : _ = some (.int .i64 a1))
                                have hz3000032_3_0 := ((blk_cell hb_ 3).trans rfl : _ = some (.int .i64 a0))
                                have hz3000032_4_0 := ((blk_cell hb_ 4).trans rfl : _ = some (.int .i64 0))
                                have hz3000032_5_0 := ((blk_cell hb_ 5).trans rfl : _ = some (.int .i64 0))
                                have hz3000032_6_0 := ((blk_cell hb_ 6).trans rfl : _ = some (.bool false))
                                have hz3000032_7_0 := ((blk_cell hb_ 7).trans rfl : _ = some (.slice none 0 0))
                                clear hb_
                                go_wp2_with (first | ((with_reducible refine gate_dst (N := 109) rfl ?_); (try (refine gate_guard (by rfl) ?_; dsimp only)); refine goesL_ (some 109) rfl rfl Try.func21 (by kernel_rfl) rfl #[.slice Ax9_0 x9_0.length cx9_0, .agg #[.int .i64 1, .int .i64 0, .int .i64 a1, .int .i64 a0, .int .i64 0, .int .i64 0, .bool false, .slice none 0 0], .int .i64 a2] rfl (by (try simp only [List.map_toArray, List.map_cons, List.map_nil]); first | done | rfl | (simp; done)) ?_; (refine (cool_Next.calls k2 _ _ _ _ _ _ _ _ _ _ _ _ _ _ _ _ (rows_c (d := k35) reads_inn35 sz35 HS.out).2.2 (rows_c (d := k35) reads_inn35 sz35 HS.out).2.1 (Kd.C_nil _ _) (Nat.le_refl _) Hc34.out).mono ?_); rintro e_ w36 ⟨rfl, hb_⟩; refine ⟨_, rfl, ?_⟩; replace HS := Aside0.mk (HS.out.below hb_); replace HK := Aside0.mk (HK.out.trans (Keep.below hb_)); (try clear hz3000032_0_0 hz3000032_1_0 hz3000032_2_0 hz3000032_3_0 hz3000032_4_0 hz3000032_5_0 hz3000032_6_0 hz3000032_7_0)))
                                go_ret
                                replace HS := Aside0.mk (SL.tail (SL.tail (SL.tail HS.out)))
                                unfold barrowlaw16_CoolAll.Post
                                exact ⟨by first | rfl | (simp; done) | (simp [*]; done) | (simp at c35b0 ⊢; first | exact c35b0 | (simp [c35b0]; done)), HS.out, HK.out⟩
                              · rw [if_neg c35] at H
                                exact absurd H (by simp)
                          · replace c32 := Bool.eq_false_iff.mpr c32
                            subst c32
                            rw [if_neg (show ¬ (false = true) by decide)] at H
                            exact absurd H (by simp)
theorem barrowlaw16_CoolAll.calls (k : Nat) (a0 : Int) (a1 : Int) (a2 : Int) (r : Bool) (w : World) (h : barrowlaw16_CoolAll.f k a0 a1 a2 = some r) :
    Calls Try.prog 5 #[.int .i64 a0, .int .i64 a1, .int .i64 a2] w fun e w' => e = .returned (.bool r) ∧ Below w.heap.size w w' :=
  (barrowlaw16_CoolAll.slcalls k a0 a1 a2 r (news w) [] w (fresh_news w) trivial h).mono fun _ _ h => ⟨h.1, h.2.2.to_below⟩

/-- THE ONE PURE STATEMENT of barrowlaw16_CoolAll. -/
def barrowlaw16_CoolAll.Pure : Prop := ∀ (a0 : Int) (a1 : Int) (a2 : Int), ((Lit.int .i64 a0).wf = true) → ((Lit.int .i64 a1).wf = true) → ((Lit.int .i64 a2).wf = true) → ∃ k, barrowlaw16_CoolAll.f k a0 a1 a2 = some true

end Go.Proofs.Ytbhgohomgfjjfaa.XCO
