-- Written by xprint.py (a program of this session) for this claim
import Derived.Test.YtbhgohomgfjjfaaSL5
import Derived.Test.YtbhgohomgfjjfaaXCOx0
import Derived.Test.YtbhgohomgfjjfaaXCOx1
import Derived.Test.YtbhgohomgfjjfaaXCOx2
import Derived.Test.YtbhgohomgfjjfaaXCOx3
import Derived.Test.YtbhgohomgfjjfaaXCOx6
import Derived.Test.YtbhgohomgfjjfaaXCOx8
import Derived.Test.YtbhgohomgfjjfaaXCOx9
namespace Go.Proofs.Ytbhgohomgfjjfaa.XCO
open Go.Proofs.YtbhgohomgfjjfaaV Go.Proofs.YtbhgohomgfjjfaaS
open Go.RowKit Go.Proofs.YtbhgohomgfjjfaaW.PrintWords Go.Proofs.YtbhgohomgfjjfaaW.PrintLast Go.Proofs.YtbhgohomgfjjfaaW.PrintMore
attribute [local go_sem] max2_int min2_int max_two min_two max_three min_three max_four min_four   -- for this text's walks alone
set_option linter.unusedVariables false
set_option linter.unusedSimpArgs false

/-! ### barrowlaw16_CoolUses: function 4 -/
def barrowlaw16_CoolUses.l0 : Nat → (List Int) → (List Int) → (List (S39)) → Bool → (List (S35)) → Int → Int → Option (Bool)
  | 0, _, _, _, _, _, _, _ => none
  | k + 1, l0, l1, l2, t361, x8_0, x9_0, x10_0 => if x10_0 < (l2.length : Int) then (if 0 ≤ x10_0 then (if (Go.bits .and .i64 ((rd_T39 l2 x10_0).f0) 15) ≥ (l0.length : Int) then (barrowlaw16_CoolUses.l0 k l0 l1 l2 t361 x8_0 x9_0 (wrap64 (x10_0 + 1))) else (if (Go.bits .and .i64 ((rd_T39 l2 x10_0).f0) 15) ≥ (l1.length : Int) then (barrowlaw16_CoolUses.l0 k l0 l1 l2 t361 x8_0 x9_0 (wrap64 (x10_0 + 1))) else ((some (Go.bits .and .i64 ((rd_T39 l2 x10_0).f0) 15 : Int)).bind fun j363 => (if 0 ≤ j363 then (if j363 < (l0.length : Int) then (if (rd l0 j363) < 1 then (barrowlaw16_CoolUses.l0 k l0 l1 l2 t361 x8_0 x9_0 (wrap64 (x10_0 + 1))) else (if (rd l0 j363) > 100 then (barrowlaw16_CoolUses.l0 k l0 l1 l2 t361 x8_0 x9_0 (wrap64 (x10_0 + 1))) else (if j363 < (l1.length : Int) then (if (rd l1 j363) < 0 then (barrowlaw16_CoolUses.l0 k l0 l1 l2 t361 x8_0 x9_0 (wrap64 (x10_0 + 1))) else (if (rd l1 j363) > 1000000 then (barrowlaw16_CoolUses.l0 k l0 l1 l2 t361 x8_0 x9_0 (wrap64 (x10_0 + 1))) else ((cool_Ready.f k x8_0 (wrap64 ((Go.bits .and .i64 ((rd_T39 l2 x10_0).f0) 15) + 1)) 0 (rd l1 j363) (rd l0 j363) 0 0 false ([] : List (S76)) (wrap64 (x9_0 + (Go.bits .and .i64 ((rd_T39 l2 x10_0).f1) 7)))).bind fun t371 => ((cool_Next.f k x8_0 (wrap64 ((Go.bits .and .i64 ((rd_T39 l2 x10_0).f0) 15) + 1)) 0 (rd l1 j363) (rd l0 j363) 0 0 false ([] : List (S76)) (wrap64 (x9_0 + (Go.bits .and .i64 ((rd_T39 l2 x10_0).f1) 7)))).bind fun t372 => ((cool_Use.f k x8_0 (wrap64 ((Go.bits .and .i64 ((rd_T39 l2 x10_0).f0) 15) + 1)) 0 (rd l1 j363) (rd l0 j363) 0 0 false ([] : List (S76)) (wrap64 (x9_0 + (Go.bits .and .i64 ((rd_T39 l2 x10_0).f1) 7)))).bind fun bt373 => ((cool_Use.f k x8_0 (wrap64 ((Go.bits .and .i64 ((rd_T39 l2 x10_0).f0) 15) + 1)) 0 (rd l1 j363) (rd l0 j363) 0 0 false ([] : List (S76)) t372).bind fun bt375 => (if (bt373.2 != (decide (t371 > 0))) = true then (none) else (if t372 < (wrap64 (x9_0 + (Go.bits .and .i64 ((rd_T39 l2 x10_0).f1) 7))) then (none) else (if bt373.2 = true then (if t372 = (wrap64 (x9_0 + (Go.bits .and .i64 ((rd_T39 l2 x10_0).f1) 7))) then (if bt375.2 = true then ((cool_Right.f k bt373.1).bind fun t377 => (if t377 = true then ((cool_Ready.f k bt373.1 (wrap64 ((Go.bits .and .i64 ((rd_T39 l2 x10_0).f0) 15) + 1)) 0 (rd l1 j363) (rd l0 j363) 0 0 false ([] : List (S76)) (wrap64 (x9_0 + (Go.bits .and .i64 ((rd_T39 l2 x10_0).f1) 7)))).bind fun t378 => (if t378 = (wrap64 (t371 - 1)) then (if (rd l1 j363) = 0 then ((cool_Ready.f k bt373.1 (wrap64 ((Go.bits .and .i64 ((rd_T39 l2 x10_0).f0) 15) + 1)) 0 (rd l1 j363) (rd l0 j363) 0 0 false ([] : List (S76)) (wrap64 (x9_0 + (Go.bits .and .i64 ((rd_T39 l2 x10_0).f1) 7)))).bind fun t379 => (if t379 = t371 then (barrowlaw16_CoolUses.l0 k l0 l1 l2 t361 bt373.1 (wrap64 (x9_0 + (Go.bits .and .i64 ((rd_T39 l2 x10_0).f1) 7))) (wrap64 (x10_0 + 1))) else (none))) else (barrowlaw16_CoolUses.l0 k l0 l1 l2 t361 bt373.1 (wrap64 (x9_0 + (Go.bits .and .i64 ((rd_T39 l2 x10_0).f1) 7))) (wrap64 (x10_0 + 1)))) else (if (rd l1 j363) > 0 then (none) else (if (rd l1 j363) = 0 then ((cool_Ready.f k bt373.1 (wrap64 ((Go.bits .and .i64 ((rd_T39 l2 x10_0).f0) 15) + 1)) 0 (rd l1 j363) (rd l0 j363) 0 0 false ([] : List (S76)) (wrap64 (x9_0 + (Go.bits .and .i64 ((rd_T39 l2 x10_0).f1) 7)))).bind fun t380 => (if t380 = t371 then (barrowlaw16_CoolUses.l0 k l0 l1 l2 t361 bt373.1 (wrap64 (x9_0 + (Go.bits .and .i64 ((rd_T39 l2 x10_0).f1) 7))) (wrap64 (x10_0 + 1))) else (none))) else (barrowlaw16_CoolUses.l0 k l0 l1 l2 t361 bt373.1 (wrap64 (x9_0 + (Go.bits .and .i64 ((rd_T39 l2 x10_0).f1) 7))) (wrap64 (x10_0 + 1))))))) else (none))) else (none)) else (none)) else (if bt375.2 = true then ((cool_Ready.f k x8_0 (wrap64 ((Go.bits .and .i64 ((rd_T39 l2 x10_0).f0) 15) + 1)) 0 (rd l1 j363) (rd l0 j363) 0 0 false ([] : List (S76)) (wrap64 (t372 - 1))).bind fun t381 => (if t381 = 0 then ((cool_Right.f k bt373.1).bind fun t382 => (if t382 = true then (barrowlaw16_CoolUses.l0 k l0 l1 l2 t361 bt373.1 (wrap64 (x9_0 + (Go.bits .and .i64 ((rd_T39 l2 x10_0).f1) 7))) (wrap64 (x10_0 + 1))) else (none))) else (none))) else (none))))))))))) else (none)))) else (none)) else (none))))) else (none)) else (some t361)
def barrowlaw16_CoolUses.f (k : Nat) (l0 : List Int) (l1 : List Int) (l2 : List (S39)) : Option (Bool) := (barrowlaw16_small.f k).bind fun t361 => (if (l0.length : Int) > 20 then (some t361) else (if (l2.length : Int) > 200 then (some t361) else (barrowlaw16_CoolUses.l0 k l0 l1 l2 t361 ([] : List (S35)) 0 0)))
theorem barrowlaw16_CoolUses.mono_l : ∀ k, (∀ y0 y1 y2 y3 y4 y5 y6, LeO (barrowlaw16_CoolUses.l0 k y0 y1 y2 y3 y4 y5 y6) (barrowlaw16_CoolUses.l0 (k + 1) y0 y1 y2 y3 y4 y5 y6))
  | 0 => fun _ _ _ _ _ _ _ r h => by simp [barrowlaw16_CoolUses.l0] at h
  | k + 1 => by
    have ih0 := barrowlaw16_CoolUses.mono_l k
    · intro y0 y1 y2 y3 y4 y5 y6
      unfold barrowlaw16_CoolUses.l0
      repeat' first
      | (with_reducible exact ih0 _ _ _ _ _ _ _)
      | (with_reducible exact barrowlaw16_small.mono _)
      | (with_reducible exact cool_Next.mono _ _ _ _ _ _ _ _ _ _ _)
      | (with_reducible exact cool_Ready.mono _ _ _ _ _ _ _ _ _ _ _)
      | (with_reducible exact cool_Right.mono _ _)
      | (with_reducible exact cool_Use.mono _ _ _ _ _ _ _ _ _ _ _)
      | (with_reducible exact LeO.refl _)
      | (with_reducible exact LeO.none _)
      | (with_reducible refine LeO.ite ?_ ?_)
      | (with_reducible refine everyOf_le (fun _ => ?_))
      | (with_reducible refine LeO.bind ?_ (fun _ => ?_))
      | exact ih0 _ _ _ _ _ _ _
      | exact barrowlaw16_small.mono _
      | exact cool_Next.mono _ _ _ _ _ _ _ _ _ _ _
      | exact cool_Ready.mono _ _ _ _ _ _ _ _ _ _ _
      | exact cool_Right.mono _ _
      | exact cool_Use.mono _ _ _ _ _ _ _ _ _ _ _
      | exact LeO.none _
      | refine LeO.ite ?_ ?_
      | refine LeO.bind ?_ (fun _ => ?_)
theorem barrowlaw16_CoolUses.mono : ∀ a0 a1 a2 k, LeO (barrowlaw16_CoolUses.f k a0 a1 a2) (barrowlaw16_CoolUses.f (k + 1) a0 a1 a2) := by
  intro a0 a1 a2 k
  have ih0 := barrowlaw16_CoolUses.mono_l k
  unfold barrowlaw16_CoolUses.f
  repeat' first
      | (with_reducible exact ih0 _ _ _ _ _ _ _)
      | (with_reducible exact barrowlaw16_small.mono _)
      | (with_reducible exact cool_Next.mono _ _ _ _ _ _ _ _ _ _ _)
      | (with_reducible exact cool_Ready.mono _ _ _ _ _ _ _ _ _ _ _)
      | (with_reducible exact cool_Right.mono _ _)
      | (with_reducible exact cool_Use.mono _ _ _ _ _ _ _ _ _ _ _)
      | (with_reducible exact LeO.refl _)
      | (with_reducible exact LeO.none _)
      | (with_reducible refine LeO.ite ?_ ?_)
      | (with_reducible refine everyOf_le (fun _ => ?_))
      | (with_reducible refine LeO.bind ?_ (fun _ => ?_))
      | exact ih0 _ _ _ _ _ _ _
      | exact barrowlaw16_small.mono _
      | exact cool_Next.mono _ _ _ _ _ _ _ _ _ _ _
      | exact cool_Ready.mono _ _ _ _ _ _ _ _ _ _ _
      | exact cool_Right.mono _ _
      | exact cool_Use.mono _ _ _ _ _ _ _ _ _ _ _
      | exact LeO.none _
      | refine LeO.ite ?_ ?_
      | refine LeO.bind ?_ (fun _ => ?_)
def barrowlaw16_CoolUses.T11 : Bool × List (List Nat × List Nat) := (true, [([], []), ([0], [0]), ([], []), ([], []), ([2, 3], [2, 3]), ([4], [4]), ([], []), ([], []), ([6, 7], [6, 7]), ([8], [8]), ([1, 5, 9], [1, 5, 9]), ([], []), ([11, 10, 0, 1, 2, 3, 4, 5, 6, 7, 8, 9, 10, 11], [10, 11])])
def barrowlaw16_CoolUses.B11 : List Nat := [0, 1, 0, 0, 12, 28, 0, 0, 192, 448, 1023, 0, 4095]
theorem barrowlaw16_CoolUses.tab11 : rtab .any (opsOf Try.f4 11) = barrowlaw16_CoolUses.T11 := by kernel_rfl
theorem barrowlaw16_CoolUses.bits11 : waitsOk barrowlaw16_CoolUses.T11.2 barrowlaw16_CoolUses.B11 = true := by kernel_rfl
def barrowlaw16_CoolUses.Post (r : Bool) (S : Nat → Prop) (L : List Asr) (w : World) (e : Ending) (w' : World) : Prop := e = .returned (.bool r) ∧ SL (L) w' S ∧ Keep S w w'
set_option maxHeartbeats 8000000 in
set_option maxRecDepth 100000 in
theorem barrowlaw16_CoolUses.slcalls (k : Nat) (A0 : Option Addr) (c0 : Nat) (l0 : List Int) (A1 : Option Addr) (c1 : Nat) (l1 : List Int) (A2 : Option Addr) (c2 : Nat) (l2 : List (S39)) (r : Bool) (S : Nat → Prop) (L : List Asr) (w : World) (hf : Fresh S w) (hs : SL (L) w S) (hr0 : RO S w (fun w_ => Kd.C (Kd.int .i64) w_ A0 l0.length l0)) (hc0 : l0.length ≤ c0) (hr1 : RO S w (fun w_ => Kd.C (Kd.int .i64) w_ A1 l1.length l1)) (hc1 : l1.length ≤ c1) (hr2 : RO S w (fun w_ => Kd.C k39 w_ A2 l2.length l2)) (hc2 : l2.length ≤ c2) (h : barrowlaw16_CoolUses.f k l0 l1 l2 = some r) :
    Calls Try.prog 4 #[.slice A0 l0.length c0, .slice A1 l1.length c1, .slice A2 l2.length c2] w (barrowlaw16_CoolUses.Post r S L w) := by
  have HR0 := Aside0.mk hr0
  have HC0 := Aside0.mk hc0
  clear hr0 hc0
  have HR1 := Aside0.mk hr1
  have HC1 := Aside0.mk hc1
  clear hr1 hc1
  have HR2 := Aside0.mk hr2
  have HC2 := Aside0.mk hc2
  clear hr2 hc2
  have HF := Aside0.mk hf
  have HS := Aside0.mk hs
  have HK := Aside0.mk (Keep.refl S w)
  clear hf hs
  have hu25 := Try.underlying25
  have H : ((barrowlaw16_small.f k).bind fun t361 => (if (l0.length : Int) > 20 then (some t361) else (if (l2.length : Int) > 200 then (some t361) else (barrowlaw16_CoolUses.l0 k l0 l1 l2 t361 ([] : List (S35)) 0 0)))) = some r := h
  clear h
  replace H := Option.bind_eq_some_iff.1 H
  obtain ⟨t361, Hc10, H⟩ := H
  try dsimp only at H
  have Hc1 := Aside0.mk Hc10
  clear Hc10
  by_cases c2 : (l0.length : Int) > 20
  · rw [if_pos c2] at H
    have c2b0 : decide (20 < (l0.length : Int)) = true := decide_eq_true c2
    have c2b1 : decide (20 < l0.length) = true := decide_eq_true (by omega)
    clear c2
    obtain rfl := Option.some.inj H
    go_enter Try.func4, Try.ntmps4
    go_wp2_with (first | ((with_reducible refine gate_dst (N := 19) rfl ?_); refine goesL_ (some 19) rfl rfl Try.func7 (by kernel_rfl) rfl #[] rfl (by (try simp only [List.map_toArray, List.map_cons, List.map_nil]); first | done | rfl | (simp; done)) ?_; (with_reducible refine (barrowlaw16_small.calls k _ _  Hc1.out).mono ?_); rintro e_ w3 ⟨rfl, hb_⟩; refine ⟨_, rfl, ?_⟩; replace HS := Aside0.mk (HS.out.below hb_); replace HK := Aside0.mk (HK.out.trans (Keep.below hb_))))
    go_ret
    unfold barrowlaw16_CoolUses.Post
    exact ⟨by first | rfl | (simp; done) | (simp [*]; done) | (simp at c2b0 ⊢; first | exact c2b0 | (simp [c2b0]; done)), HS.out, HK.out⟩
  · rw [if_neg c2] at H
    have c2b0 : decide (20 < (l0.length : Int)) = false := decide_eq_false c2
    have c2b1 : decide (20 < l0.length) = false := decide_eq_false (by omega)
    clear c2
    by_cases c4 : (l2.length : Int) > 200
    · rw [if_pos c4] at H
      have c4b0 : decide (200 < (l2.length : Int)) = true := decide_eq_true c4
      have c4b1 : decide (200 < l2.length) = true := decide_eq_true (by omega)
      clear c4
      obtain rfl := Option.some.inj H
      go_enter Try.func4, Try.ntmps4
      go_wp2_with (first | ((with_reducible refine gate_dst (N := 19) rfl ?_); refine goesL_ (some 19) rfl rfl Try.func7 (by kernel_rfl) rfl #[] rfl (by (try simp only [List.map_toArray, List.map_cons, List.map_nil]); first | done | rfl | (simp; done)) ?_; (with_reducible refine (barrowlaw16_small.calls k _ _  Hc1.out).mono ?_); rintro e_ w5 ⟨rfl, hb_⟩; refine ⟨_, rfl, ?_⟩; replace HS := Aside0.mk (HS.out.below hb_); replace HK := Aside0.mk (HK.out.trans (Keep.below hb_))))
      go_ret
      unfold barrowlaw16_CoolUses.Post
      exact ⟨by first | rfl | (simp; done) | (simp [*]; done) | (simp at c4b0 ⊢; first | exact c4b0 | (simp [c4b0]; done)), HS.out, HK.out⟩
    · rw [if_neg c4] at H
      have c4b0 : decide (200 < (l2.length : Int)) = false := decide_eq_false c4
      have c4b1 : decide (200 < l2.length) = false := decide_eq_false (by omega)
      clear c4
      have H' := Aside0.mk H
      clear H
      go_enter Try.func4, Try.ntmps4
      go_wp2_with (first | ((with_reducible refine gate_dst (N := 19) rfl ?_); refine goesL_ (some 19) rfl rfl Try.func7 (by kernel_rfl) rfl #[] rfl (by (try simp only [List.map_toArray, List.map_cons, List.map_nil]); first | done | rfl | (simp; done)) ?_; (with_reducible refine (barrowlaw16_small.calls k _ _  Hc1.out).mono ?_); rintro e_ w6 ⟨rfl, hb_⟩; refine ⟨_, rfl, ?_⟩; replace HS := Aside0.mk (HS.out.below hb_); replace HK := Aside0.mk (HK.out.trans (Keep.below hb_)); have n2_ := Aside0.mk (rows_nil inn35 2 35 HS.out); clear HS; have HS := n2_; clear n2_))
      try go_simp
      go_loopg [8, 9, 10] k (fun kq v8 v9 v10 w' => ∃ (x8_0 : List (S35)) (Ax8_0 : Option Addr) (cx8_0 : Nat) (x9_0 : Int) (x10_0 : Int), v8 = .slice Ax8_0 x8_0.length cx8_0 ∧ v9 = .int .i64 x9_0 ∧ v10 = .int .i64 x10_0 ∧ Aside0 (barrowlaw16_CoolUses.l0 kq l0 l1 l2 t361 x8_0 x9_0 x10_0 = some r) ∧ Aside0 (kq ≤ k) ∧ Aside0 (SL (rows inn35 2 35 (.slice Ax8_0 x8_0.length cx8_0) x8_0 :: L) w' S) ∧ Aside0 (Keep S w w'))
      case atStart => exact ⟨(([] : List (S35))), (none), (0), (0), (0), (by first | rfl | (simp; done) | (simp [*]; done)), (by first | rfl | (simp; done) | (simp [*]; done)), (by first | rfl | (simp; done) | (simp [*]; done)), H', ⟨Nat.le_refl _⟩, HS, HK⟩
      case round =>
        clear H' HS HK
        obtain ⟨x8_0, Ax8_0, cx8_0, x9_0, x10_0, rfl, rfl, rfl, HA, HQ1, HS, HK⟩ := hrel
        cases gk with
        | zero => exact absurd HA.out (by simp [barrowlaw16_CoolUses.l0])
        | succ k1 =>
          have H := HA.out
          clear HA
          simp only [barrowlaw16_CoolUses.l0] at H
          by_cases c7 : x10_0 < (l2.length : Int)
          · rw [if_pos c7] at H
            have c7b0 : decide (x10_0 < (l2.length : Int)) = true := decide_eq_true c7
            clear c7
            by_cases c8 : 0 ≤ x10_0
            · rw [if_pos c8] at H
              have c8b0 : decide (0 ≤ x10_0) = true := decide_eq_true c8
              clear c8
              by_cases c9 : (Go.bits .and .i64 ((rd_T39 l2 x10_0).f0) 15) ≥ (l0.length : Int)
              · rw [if_pos c9] at H
                have c9b0 : decide ((l0.length : Int) ≤ (Go.bits .and .i64 ((rd_T39 l2 x10_0).f0) 15)) = true := decide_eq_true c9
                clear c9
                have H' := Aside0.mk H
                clear H
                have pq362 : 0 ≤ (x10_0 : Int) := of_decide_eq_true (by first | (with_reducible assumption) | assumption)
                have qq362 : x10_0 < ((l2.length : Int) : Int) := of_decide_eq_true (by first | (with_reducible assumption) | assumption)
                obtain ⟨adq362, eq362, hxq362_0, hxq362_1⟩ := at_T39 (RO.at_ HR2.out HK.out) x10_0 pq362 qq362
                cases eq362
                replace pq362 := eq_true pq362
                replace qq362 := eq_true qq362
                go_wp2
                go_roundg k1
                case measure => have := HQ1.out; omega
                case rel => exact ⟨(x8_0), (Ax8_0), (cx8_0), (x9_0), (wrap64 (x10_0 + 1)), (by first | rfl | (simp; done) | (simp [*]; done)), (by first | rfl | (simp; done) | (simp [*]; done)), (by first | rfl | (simp; done) | (simp [*]; done)), H', ⟨by have := HQ1.out; omega⟩, HS, HK⟩
              · rw [if_neg c9] at H
                have c9b0 : decide ((l0.length : Int) ≤ (Go.bits .and .i64 ((rd_T39 l2 x10_0).f0) 15)) = false := decide_eq_false c9
                clear c9
                by_cases c10 : (Go.bits .and .i64 ((rd_T39 l2 x10_0).f0) 15) ≥ (l1.length : Int)
                · rw [if_pos c10] at H
                  have c10b0 : decide ((l1.length : Int) ≤ (Go.bits .and .i64 ((rd_T39 l2 x10_0).f0) 15)) = true := decide_eq_true c10
                  clear c10
                  have H' := Aside0.mk H
                  clear H
                  have pq362 : 0 ≤ (x10_0 : Int) := of_decide_eq_true (by first | (with_reducible assumption) | assumption)
                  have qq362 : x10_0 < ((l2.length : Int) : Int) := of_decide_eq_true (by first | (with_reducible assumption) | assumption)
                  obtain ⟨adq362, eq362, hxq362_0, hxq362_1⟩ := at_T39 (RO.at_ HR2.out HK.out) x10_0 pq362 qq362
                  cases eq362
                  replace pq362 := eq_true pq362
                  replace qq362 := eq_true qq362
                  go_wp2
                  go_roundg k1
                  case measure => have := HQ1.out; omega
                  case rel => exact ⟨(x8_0), (Ax8_0), (cx8_0), (x9_0), (wrap64 (x10_0 + 1)), (by first | rfl | (simp; done) | (simp [*]; done)), (by first | rfl | (simp; done) | (simp [*]; done)), (by first | rfl | (simp; done) | (simp [*]; done)), H', ⟨by have := HQ1.out; omega⟩, HS, HK⟩
                · rw [if_neg c10] at H
                  have c10b0 : decide ((l1.length : Int) ≤ (Go.bits .and .i64 ((rd_T39 l2 x10_0).f0) 15)) = false := decide_eq_false c10
                  clear c10
                  replace H := Option.bind_eq_some_iff.1 H
                  obtain ⟨j363, hj3630, H⟩ := H
                  try dsimp only at H
                  have hj363 := Option.some.inj hj3630
                  clear hj3630
                  rw [hj363] at H c10b0 c9b0
                  by_cases c11 : 0 ≤ j363
                  · rw [if_pos c11] at H
                    have c11b0 : decide (0 ≤ j363) = true := decide_eq_true c11
                    clear c11
                    by_cases c12 : j363 < (l0.length : Int)
                    · rw [if_pos c12] at H
                      have c12b0 : decide (j363 < (l0.length : Int)) = true := decide_eq_true c12
                      clear c12
                      by_cases c13 : (rd l0 j363) < 1
                      · rw [if_pos c13] at H
                        have c13b0 : decide ((rd l0 j363) < 1) = true := decide_eq_true c13
                        clear c13
                        have H' := Aside0.mk H
                        clear H
                        have pq362 : 0 ≤ (x10_0 : Int) := of_decide_eq_true (by first | (with_reducible assumption) | assumption)
                        have qq362 : x10_0 < ((l2.length : Int) : Int) := of_decide_eq_true (by first | (with_reducible assumption) | assumption)
                        obtain ⟨adq362, eq362, hxq362_0, hxq362_1⟩ := at_T39 (RO.at_ HR2.out HK.out) x10_0 pq362 qq362
                        cases eq362
                        replace pq362 := eq_true pq362
                        replace qq362 := eq_true qq362
                        have pq364 : 0 ≤ (j363 : Int) := of_decide_eq_true (by first | (with_reducible assumption) | assumption)
                        have qq364 : j363 < ((l0.length : Int) : Int) := of_decide_eq_true (by first | (with_reducible assumption) | assumption)
                        obtain ⟨adq364, eq364, hxq364_0⟩ := Kd.at_int (RO.at_ HR0.out HK.out) j363 pq364 qq364
                        cases eq364
                        replace pq364 := eq_true pq364
                        replace qq364 := eq_true qq364
                        go_wp2
                        go_roundg k1
                        case measure => have := HQ1.out; omega
                        case rel => exact ⟨(x8_0), (Ax8_0), (cx8_0), (x9_0), (wrap64 (x10_0 + 1)), (by first | rfl | (simp; done) | (simp [*]; done)), (by first | rfl | (simp; done) | (simp [*]; done)), (by first | rfl | (simp; done) | (simp [*]; done)), H', ⟨by have := HQ1.out; omega⟩, HS, HK⟩
                      · rw [if_neg c13] at H
                        have c13b0 : decide ((rd l0 j363) < 1) = false := decide_eq_false c13
                        clear c13
                        by_cases c14 : (rd l0 j363) > 100
                        · rw [if_pos c14] at H
                          have c14b0 : decide (100 < (rd l0 j363)) = true := decide_eq_true c14
                          clear c14
                          have H' := Aside0.mk H
                          clear H
                          have pq362 : 0 ≤ (x10_0 : Int) := of_decide_eq_true (by first | (with_reducible assumption) | assumption)
                          have qq362 : x10_0 < ((l2.length : Int) : Int) := of_decide_eq_true (by first | (with_reducible assumption) | assumption)
                          obtain ⟨adq362, eq362, hxq362_0, hxq362_1⟩ := at_T39 (RO.at_ HR2.out HK.out) x10_0 pq362 qq362
                          cases eq362
                          replace pq362 := eq_true pq362
                          replace qq362 := eq_true qq362
                          have pq364 : 0 ≤ (j363 : Int) := of_decide_eq_true (by first | (with_reducible assumption) | assumption)
                          have qq364 : j363 < ((l0.length : Int) : Int) := of_decide_eq_true (by first | (with_reducible assumption) | assumption)
                          obtain ⟨adq364, eq364, hxq364_0⟩ := Kd.at_int (RO.at_ HR0.out HK.out) j363 pq364 qq364
                          cases eq364
                          replace pq364 := eq_true pq364
                          replace qq364 := eq_true qq364
                          go_wp2
                          go_roundg k1
                          case measure => have := HQ1.out; omega
                          case rel => exact ⟨(x8_0), (Ax8_0), (cx8_0), (x9_0), (wrap64 (x10_0 + 1)), (by first | rfl | (simp; done) | (simp [*]; done)), (by first | rfl | (simp; done) | (simp [*]; done)), (by first | rfl | (simp; done) | (simp [*]; done)), H', ⟨by have := HQ1.out; omega⟩, HS, HK⟩
                        · rw [if_neg c14] at H
                          have c14b0 : decide (100 < (rd l0 j363)) = false := decide_eq_false c14
                          clear c14
                          by_cases c15 : j363 < (l1.length : Int)
                          · rw [if_pos c15] at H
                            have c15b0 : decide (j363 < (l1.length : Int)) = true := decide_eq_true c15
                            clear c15
                            by_cases c16 : (rd l1 j363) < 0
                            · rw [if_pos c16] at H
                              have c16b0 : decide ((rd l1 j363) < 0) = true := decide_eq_true c16
                              clear c16
                              have H' := Aside0.mk H
                              clear H
                              have pq362 : 0 ≤ (x10_0 : Int) := of_decide_eq_true (by first | (with_reducible assumption) | assumption)
                              have qq362 : x10_0 < ((l2.length : Int) : Int) := of_decide_eq_true (by first | (with_reducible assumption) | assumption)
                              obtain ⟨adq362, eq362, hxq362_0, hxq362_1⟩ := at_T39 (RO.at_ HR2.out HK.out) x10_0 pq362 qq362
                              cases eq362
                              replace pq362 := eq_true pq362
                              replace qq362 := eq_true qq362
                              have pq364 : 0 ≤ (j363 : Int) := of_decide_eq_true (by first | (with_reducible assumption) | assumption)
                              have qq364 : j363 < ((l0.length : Int) : Int) := of_decide_eq_true (by first | (with_reducible assumption) | assumption)
                              obtain ⟨adq364, eq364, hxq364_0⟩ := Kd.at_int (RO.at_ HR0.out HK.out) j363 pq364 qq364
                              cases eq364
                              replace pq364 := eq_true pq364
                              replace qq364 := eq_true qq364
                              have pq366 : 0 ≤ (j363 : Int) := of_decide_eq_true (by first | (with_reducible assumption) | assumption)
                              have qq366 : j363 < ((l1.length : Int) : Int) := of_decide_eq_true (by first | (with_reducible assumption) | assumption)
                              obtain ⟨adq366, eq366, hxq366_0⟩ := Kd.at_int (RO.at_ HR1.out HK.out) j363 pq366 qq366
                              cases eq366
                              replace pq366 := eq_true pq366
                              replace qq366 := eq_true qq366
                              go_wp2
                              go_roundg k1
                              case measure => have := HQ1.out; omega
                              case rel => exact ⟨(x8_0), (Ax8_0), (cx8_0), (x9_0), (wrap64 (x10_0 + 1)), (by first | rfl | (simp; done) | (simp [*]; done)), (by first | rfl | (simp; done) | (simp [*]; done)), (by first | rfl | (simp; done) | (simp [*]; done)), H', ⟨by have := HQ1.out; omega⟩, HS, HK⟩
                            · rw [if_neg c16] at H
                              have c16b0 : decide ((rd l1 j363) < 0) = false := decide_eq_false c16
                              clear c16
                              by_cases c17 : (rd l1 j363) > 1000000
                              · rw [if_pos c17] at H
                                have c17b0 : decide (1000000 < (rd l1 j363)) = true := decide_eq_true c17
                                clear c17
                                have H' := Aside0.mk H
                                clear H
                                have pq362 : 0 ≤ (x10_0 : Int) := of_decide_eq_true (by first | (with_reducible assumption) | assumption)
                                have qq362 : x10_0 < ((l2.length : Int) : Int) := of_decide_eq_true (by first | (with_reducible assumption) | assumption)
                                obtain ⟨adq362, eq362, hxq362_0, hxq362_1⟩ := at_T39 (RO.at_ HR2.out HK.out) x10_0 pq362 qq362
                                cases eq362
                                replace pq362 := eq_true pq362
                                replace qq362 := eq_true qq362
                                have pq364 : 0 ≤ (j363 : Int) := of_decide_eq_true (by first | (with_reducible assumption) | assumption)
                                have qq364 : j363 < ((l0.length : Int) : Int) := of_decide_eq_true (by first | (with_reducible assumption) | assumption)
                                obtain ⟨adq364, eq364, hxq364_0⟩ := Kd.at_int (RO.at_ HR0.out HK.out) j363 pq364 qq364
                                cases eq364
                                replace pq364 := eq_true pq364
                                replace qq364 := eq_true qq364
                                have pq366 : 0 ≤ (j363 : Int) := of_decide_eq_true (by first | (with_reducible assumption) | assumption)
                                have qq366 : j363 < ((l1.length : Int) : Int) := of_decide_eq_true (by first | (with_reducible assumption) | assumption)
                                obtain ⟨adq366, eq366, hxq366_0⟩ := Kd.at_int (RO.at_ HR1.out HK.out) j363 pq366 qq366
                                cases eq366
                                replace pq366 := eq_true pq366
                                replace qq366 := eq_true qq366
                                go_wp2
                                go_roundg k1
                                case measure => have := HQ1.out; omega
                                case rel => exact ⟨(x8_0), (Ax8_0), (cx8_0), (x9_0), (wrap64 (x10_0 + 1)), (by first | rfl | (simp; done) | (simp [*]; done)), (by first | rfl | (simp; done) | (simp [*]; done)), (by first | rfl | (simp; done) | (simp [*]; done)), H', ⟨by have := HQ1.out; omega⟩, HS, HK⟩
                              · rw [if_neg c17] at H
                                have c17b0 : decide (1000000 < (rd l1 j363)) = false := decide_eq_false c17
                                clear c17
                                replace H := Option.bind_eq_some_iff.1 H
                                obtain ⟨t371, Hc180, H⟩ := H
                                try dsimp only at H
                                have Hc18 := Aside0.mk Hc180
                                clear Hc180
                                replace H := Option.bind_eq_some_iff.1 H
                                obtain ⟨t372, Hc190, H⟩ := H
                                try dsimp only at H
                                have Hc19 := Aside0.mk Hc190
                                clear Hc190
                                replace H := Option.bind_eq_some_iff.1 H
                                obtain ⟨⟨t373, t374⟩, Hc200, H⟩ := H
                                try dsimp only at H
                                have Hc20 := Aside0.mk Hc200
                                clear Hc200
                                replace H := Option.bind_eq_some_iff.1 H
                                obtain ⟨⟨t375, t376⟩, Hc210, H⟩ := H
                                try dsimp only at H
                                have Hc21 := Aside0.mk Hc210
                                clear Hc210
                                by_cases c22 : (t374 != (decide (t371 > 0))) = true
                                · rw [if_pos c22] at H
                                  exact absurd H (by simp)
                                · rw [if_neg c22] at H
                                  have c22b0 : (t374 != (decide (t371 > 0))) = false := by simpa using c22
                                  (try (have c22b1 : decide (t374 = (decide (t371 > 0))) = true := by simpa using c22))
                                  (try (have c22b2 : (t374 == (decide (t371 > 0))) = true := by simpa using c22))
                                  clear c22
                                  by_cases c23 : t372 < (wrap64 (x9_0 + (Go.bits .and .i64 ((rd_T39 l2 x10_0).f1) 7)))
                                  · rw [if_pos c23] at H
                                    exact absurd H (by simp)
                                  · rw [if_neg c23] at H
                                    have c23b0 : decide (t372 < (wrap64 (x9_0 + (Go.bits .and .i64 ((rd_T39 l2 x10_0).f1) 7)))) = false := decide_eq_false c23
                                    clear c23
                                    have H' := Aside0.mk H
                                    clear H
                                    have pq362 : 0 ≤ (x10_0 : Int) := of_decide_eq_true (by first | (with_reducible assumption) | assumption)
                                    have qq362 : x10_0 < ((l2.length : Int) : Int) := of_decide_eq_true (by first | (with_reducible assumption) | assumption)
                                    obtain ⟨adq362, eq362, hxq362_0, hxq362_1⟩ := at_T39 (RO.at_ HR2.out HK.out) x10_0 pq362 qq362
                                    cases eq362
                                    replace pq362 := eq_true pq362
                                    replace qq362 := eq_true qq362
                                    have pq364 : 0 ≤ (j363 : Int) := of_decide_eq_true (by first | (with_reducible assumption) | assumption)
                                    have qq364 : j363 < ((l0.length : Int) : Int) := of_decide_eq_true (by first | (with_reducible assumption) | assumption)
                                    obtain ⟨adq364, eq364, hxq364_0⟩ := Kd.at_int (RO.at_ HR0.out HK.out) j363 pq364 qq364
                                    cases eq364
                                    replace pq364 := eq_true pq364
                                    replace qq364 := eq_true qq364
                                    have pq366 : 0 ≤ (j363 : Int) := of_decide_eq_true (by first | (with_reducible assumption) | assumption)
                                    have qq366 : j363 < ((l1.length : Int) : Int) := of_decide_eq_true (by first | (with_reducible assumption) | assumption)
                                    obtain ⟨adq366, eq366, hxq366_0⟩ := Kd.at_int (RO.at_ HR1.out HK.out) j363 pq366 qq366
                                    cases eq366
                                    replace pq366 := eq_true pq366
                                    replace qq366 := eq_true qq366
                                    try go_wp2
                                    have pq368 : 0 ≤ (j363 : Int) := of_decide_eq_true (by first | (with_reducible assumption) | assumption)
                                    have qq368 : j363 < ((l0.length : Int) : Int) := of_decide_eq_true (by first | (with_reducible assumption) | assumption)
                                    obtain ⟨adq368, eq368, hxxq368⟩ := RO.cell (enc := Value.int .i64) (h1 := fun _ => rfl) 0 HR0.out j363 pq368 qq368
                                    have hxq368_0 := hxxq368 _ HK.out
                                    obtain rfl : adq364 = adq368 := (by injection eq368)
                                    replace pq368 := eq_true pq368
                                    replace qq368 := eq_true qq368
                                    have pq369 : 0 ≤ (j363 : Int) := of_decide_eq_true (by first | (with_reducible assumption) | assumption)
                                    have qq369 : j363 < ((l1.length : Int) : Int) := of_decide_eq_true (by first | (with_reducible assumption) | assumption)
                                    obtain ⟨adq369, eq369, hxxq369⟩ := RO.cell (enc := Value.int .i64) (h1 := fun _ => rfl) 0 HR1.out j363 pq369 qq369
                                    have hxq369_0 := hxxq369 _ HK.out
                                    obtain rfl : adq366 = adq369 := (by injection eq369)
                                    replace pq369 := eq_true pq369
                                    replace qq369 := eq_true qq369
                                    refine start_ (n := 13) (S := fun w' => w'.cell? (adq364.add j363.toNat) = some (.int .i64 (rd l0 j363)) ∧ w'.cell? (adq366.add j363.toNat) = some (.int .i64 (rd l1 j363))) (ds := []) #[false, false, false, false, false, false, false, false, false, false, false, false, false] (by kernel_rfl) rfl rfl ⟨(by have h_ := hxxq368 _ HK.out; exact h_), (by have h_ := hxxq369 _ HK.out; exact h_)⟩ (fun hHeld => ?_); refine with_tabW barrowlaw16_CoolUses.tab11 barrowlaw16_CoolUses.bits11 (fun HT_ HW_ => ?_)
                                    replace HK := Aside0.mk (Keep.drew HK.out)
                                    replace HS := Aside0.mk (SL.drew HS.out)
                                    refine pure_ (i := 0) (N := some 79) (v := ?_) (a' := ?_) #[true, false, false, false, false, false, false, false, false, false, false, false, false] rfl rfl (any_of HT_.out (by kernel_rfl)) (fun _ _ _ h => h) (Or.inl ⟨by rfl, ?_⟩) ?_ ?_; rotate_left; · (intro w'; go_simp; with_reducible rfl)
                                    rotate_left; · (simp only [Act.put, sT, sZ, sS, i64_w, i32_w]; rfl)
                                    refine pure_ (i := 1) (N := some 80) (v := ?_) (a' := ?_) #[true, true, false, false, false, false, false, false, false, false, false, false, false] rfl rfl (any_of HT_.out (by kernel_rfl)) (fun _ _ _ h => h) (Or.inl ⟨by rfl, ?_⟩) ?_ ?_; rotate_left; · (intro w'; go_simp; with_reducible rfl)
                                    rotate_left; · (simp only [Act.put, sT, sZ, sS, i64_w, i32_w]; rfl)
                                    refine pure_ (i := 2) (N := some 81) (v := ?_) (a' := ?_) #[true, true, true, false, false, false, false, false, false, false, false, false, false] rfl rfl (any_of HT_.out (by kernel_rfl)) (fun _ _ _ h => h) (Or.inl ⟨by rfl, ?_⟩) ?_ ?_; rotate_left; · (intro w'; go_simp; with_reducible rfl)
                                    rotate_left; · (simp only [Act.put, sT, sZ, sS, i64_w, i32_w]; rfl)
                                    refine pure_ (i := 3) (N := some 82) (v := ?_) (a' := ?_) #[true, true, true, true, false, false, false, false, false, false, false, false, false] rfl rfl (any_of HT_.out (by kernel_rfl)) (fun _ _ _ h => h) (Or.inl ⟨by rfl, ?_⟩) ?_ ?_; rotate_left; · (intro w'; go_simp; with_reducible rfl)
                                    rotate_left; · (simp only [Act.put, sT, sZ, sS, i64_w, i32_w]; rfl)
                                    refine pure_ (i := 4) (N := some 83) (v := ?_) (a' := ?_) #[true, true, true, true, true, false, false, false, false, false, false, false, false] rfl rfl (any_of HT_.out (by kernel_rfl)) (fun _ _ _ h => h) (Or.inl ⟨by rfl, ?_⟩) ?_ ?_; rotate_left; · (intro w'; go_simp; with_reducible rfl)
                                    rotate_left; · (simp only [Act.put, sT, sZ, sS, i64_w, i32_w]; rfl)
                                    refine pure_ (i := 6) (N := some 85) (v := ?_) (a' := ?_) #[true, true, true, true, true, false, true, false, false, false, false, false, false] rfl rfl (any_of HT_.out (by kernel_rfl)) (fun _ _ _ h => h) (Or.inl ⟨by rfl, ?_⟩) ?_ ?_; rotate_left; · (intro w'; go_simp; with_reducible rfl)
                                    rotate_left; · (simp only [Act.put, sT, sZ, sS, i64_w, i32_w]; rfl)
                                    refine pure_ (i := 7) (N := some 86) (v := ?_) (a' := ?_) #[true, true, true, true, true, false, true, true, false, false, false, false, false] rfl rfl (any_of HT_.out (by kernel_rfl)) (fun _ _ _ h => h) (Or.inl ⟨by rfl, ?_⟩) ?_ ?_; rotate_left; · (intro w'; go_simp; with_reducible rfl)
                                    rotate_left; · (simp only [Act.put, sT, sZ, sS, i64_w, i32_w]; rfl)
                                    refine pure_ (i := 8) (N := some 87) (v := ?_) (a' := ?_) #[true, true, true, true, true, false, true, true, true, false, false, false, false] rfl rfl (any_of HT_.out (by kernel_rfl)) (fun _ _ _ h => h) (Or.inl ⟨by rfl, ?_⟩) ?_ ?_; rotate_left; · (intro w'; go_simp; with_reducible rfl)
                                    rotate_left; · (simp only [Act.put, sT, sZ, sS, i64_w, i32_w]; rfl)
                                    refine take_ (i := 5) (N := some 84) (v := ?_) (a' := ?_) #[true, true, true, true, true, true, true, true, true, false, false, false, false] rfl rfl (take_ofW HT_.out HW_.out (by kernel_rfl)) (fun _ _ _ h => h) (Or.inl ⟨by rfl, ?_⟩) hHeld ?_ ?_; rotate_left
                                    · rintro w' ⟨s0, s1⟩
                                      go_simp
                                      with_reducible rfl
                                    rotate_left; · (simp only [Act.put, sT, sZ, sS, i64_w, i32_w]; rfl)
                                    refine take_ (i := 9) (N := some 88) (v := ?_) (a' := ?_) #[true, true, true, true, true, true, true, true, true, true, false, false, false] rfl rfl (take_ofW HT_.out HW_.out (by kernel_rfl)) (fun _ _ _ h => h) (Or.inl ⟨by rfl, ?_⟩) hHeld ?_ ?_; rotate_left
                                    · rintro w' ⟨s0, s1⟩
                                      go_simp
                                      with_reducible rfl
                                    rotate_left; · (simp only [Act.put, sT, sZ, sS, i64_w, i32_w]; rfl)
                                    refine pure_ (i := 10) (N := some 89) (v := ?_) (a' := ?_) #[true, true, true, true, true, true, true, true, true, true, true, false, false] rfl rfl (any_of HT_.out (by kernel_rfl)) (fun _ _ _ h => h) (Or.inl ⟨by rfl, ?_⟩) ?_ ?_; rotate_left; · (intro w'; go_simp; with_reducible rfl)
                                    rotate_left; · (simp only [Act.put, sT, sZ, sS, i64_w, i32_w]; rfl)
                                    refine one_ (i := 11) (N := some 12) #[true, true, true, true, true, true, true, true, true, true, true, true, false] rfl rfl (one_of HT_.out (by kernel_rfl)) (by decide) (fun K hK => ?_)
                                    refine st_of (by rfl) ?_
                                    refine op_box (S := S) (cs := #[.int .i64 0, .int .i64 0, .int .i64 0, .int .i64 0, .int .i64 0, .int .i64 0, .bool false, .slice none 0 0]) (t := 25) (HF.out.keep HK.out) HS.out (by first | (go_simp; done) | (go_simp; rfl)) ?_
                                    intro g3000032 w24 hs_ hk_
                                    replace HS := Aside0.mk (hs_)
                                    replace HK := Aside0.mk (HK.out.trans hk_)
                                    refine hK.out _ _ ⟨(by have h_ := hxxq368 _ HK.out; exact h_), (by have h_ := hxxq369 _ HK.out; exact h_)⟩ (fun hHeld => ?_)
                                    clear hK K
                                    refine norm_ (a' := ?_) ?_ ?_; rotate_left
                                    · show Act.put _ (some 12) _ = _
                                      simp only [Act.put, sT, sZ, sS, i64_w, i32_w]
                                      rfl
                                    refine one_ (i := 12) (N := none) #[true, true, true, true, true, true, true, true, true, true, true, true, true] rfl rfl (one_of HT_.out (by kernel_rfl)) (by decide) (fun K hK => ?_)
                                    refine st_of (by rfl) ?_
                                    refine op_store (S := S) 25 (.tmp 12) (.tmp 89) rfl g3000032 0 (.agg #[.int .i64 (wrap64 (j363 + 1)), .int .i64 0, .int .i64 (rd l1 j363), .int .i64 (rd l0 j363), .int .i64 0, .int .i64 0, .bool false, .slice none 0 0]) [.int .i64 (wrap64 (j363 + 1)), .int .i64 0, .int .i64 (rd l1 j363), .int .i64 (rd l0 j363), .int .i64 0, .int .i64 0, .bool false, .slice none 0 0] rfl rfl rfl (by kernel_rfl) (by simp [Value.oneCell']) HS.out (by simp) ?_
                                    intro w25 hs_ hk_
                                    replace HS := Aside0.mk ((show SL (cells g3000032 25 [.int .i64 (wrap64 (j363 + 1)), .int .i64 0, .int .i64 (rd l1 j363), .int .i64 (rd l0 j363), .int .i64 0, .int .i64 0, .bool false, .slice none 0 0].toArray :: _) _ _ from hs_))
                                    replace HK := Aside0.mk (HK.out.trans hk_)
                                    refine hK.out _ _ ⟨(by have h_ := hxxq368 _ HK.out; exact h_), (by have h_ := hxxq369 _ HK.out; exact h_)⟩ (fun hHeld => ?_)
                                    clear hK K
                                    refine done_ (done_of HT_.out (by kernel_rfl)) ?_
                                    have hb_ := SL.at_ HS.out
                                    have hz3000032_0_3 := ((blk_cell hb_ 0).trans rfl : _ = some (.int .i64 (wrap64 (j363 + 1))))
                                    have hz3000032_1_3 := ((blk_cell hb_ 1).trans rfl : _ = some (.int .i64 0))
                                    have hz3000032_2_3 := ((blk_cell hb_ 2).trans rfl : _ = some (.int .i64 (rd l1 j363)))
                                    have hz3000032_3_3 := ((blk_cell hb_ 3).trans rfl : _ = some (.int .i64 (rd l0 j363)))
                                    have hz3000032_4_3 := ((blk_cell hb_ 4).trans rfl : _ = some (.int .i64 0))
                                    have hz3000032_5_3 := ((blk_cell hb_ 5).trans rfl : _ = some (.int .i64 0))
                                    have hz3000032_6_3 := ((blk_cell hb_ 6).trans rfl : _ = some (.bool false))
                                    have hz3000032_7_3 := ((blk_cell hb_ 7).trans rfl : _ = some (.slice none 0 0))
                                    clear hb_
                                    have pq370 : 0 ≤ (x10_0 : Int) := of_decide_eq_true (by first | (with_reducible assumption) | assumption)
                                    have qq370 : x10_0 < ((l2.length : Int) : Int) := of_decide_eq_true (by first | (with_reducible assumption) | assumption)
                                    obtain ⟨adq370, eq370, hxq370_0, hxq370_1⟩ := at_T39 (RO.at_ HR2.out HK.out) x10_0 pq370 qq370
                                    obtain rfl : adq362 = adq370 := (by injection eq370)
                                    replace pq370 := eq_true pq370
                                    replace qq370 := eq_true qq370
                                    try go_wp2_with (first | ((with_reducible refine gate_dst (N := 101) rfl ?_); refine goesL_ (some 101) rfl rfl Try.func19 (by kernel_rfl) rfl #[.slice Ax8_0 x8_0.length cx8_0, .agg #[.int .i64 (wrap64 (j363 + 1)), .int .i64 0, .int .i64 (rd l1 j363), .int .i64 (rd l0 j363), .int .i64 0, .int .i64 0, .bool false, .slice none 0 0], .int .i64 (wrap64 (x9_0 + (Go.bits .and .i64 ((rd_T39 l2 x10_0).f1) 7)))] rfl (by (try simp only [List.map_toArray, List.map_cons, List.map_nil]); first | done | rfl | (simp; done)) ?_; (refine (cool_Ready.calls k1 _ _ _ _ _ _ _ _ _ _ _ _ _ _ _ _ (rows_c (d := k35) reads_inn35 sz35 (SL.get1 HS.out)).2.2 (rows_c (d := k35) reads_inn35 sz35 (SL.get1 HS.out)).2.1 (Kd.C_nil _ _) (Nat.le_refl _) Hc18.out).mono ?_); rintro e_ w26 ⟨rfl, hb_⟩; refine ⟨_, rfl, ?_⟩; replace HS := Aside0.mk (HS.out.below hb_); replace HK := Aside0.mk (HK.out.trans (Keep.below hb_)); (try clear hz3000032_0_3 hz3000032_1_3 hz3000032_2_3 hz3000032_3_3 hz3000032_4_3 hz3000032_5_3 hz3000032_6_3 hz3000032_7_3); have hb_ := SL.at_ HS.out; have hz3000032_0_4 := ((blk_cell hb_ 0).trans rfl : _ = some (.int .i64 (wrap64 (j363 + 1)))); have hz3000032_1_4 := ((blk_cell hb_ 1).trans rfl : _ = some (.int .i64 0)); have hz3000032_2_4 := ((blk_cell hb_ 2).trans rfl : _ = some (.int .i64 (rd l1 j363))); have hz3000032_3_4 := ((blk_cell hb_ 3).trans rfl : _ = some (.int .i64 (rd l0 j363))); have hz3000032_4_4 := ((blk_cell hb_ 4).trans rfl : _ = some (.int .i64 0)); have hz3000032_5_4 := ((blk_cell hb_ 5).trans rfl : _ = some (.int .i64 0)); have hz3000032_6_4 := ((blk_cell hb_ 6).trans rfl : _ = some (.bool false)); have hz3000032_7_4 := ((blk_cell hb_ 7).trans rfl : _ = some (.slice none 0 0)); clear hb_) | ((with_reducible refine gate_dst (N := 105) rfl ?_); refine goesL_ (some 105) rfl rfl Try.func21 (by kernel_rfl) rfl #[.slice Ax8_0 x8_0.length cx8_0, .agg #[.int .i64 (wrap64 (j363 + 1)), .int .i64 0, .int .i64 (rd l1 j363), .int .i64 (rd l0 j363), .int .i64 0, .int .i64 0, .bool false, .slice none 0 0], .int .i64 (wrap64 (x9_0 + (Go.bits .and .i64 ((rd_T39 l2 x10_0).f1) 7)))] rfl (by (try simp only [List.map_toArray, List.map_cons, List.map_nil]); first | done | rfl | (simp; done)) ?_; (refine (cool_Next.calls k1 _ _ _ _ _ _ _ _ _ _ _ _ _ _ _ _ (rows_c (d := k35) reads_inn35 sz35 (SL.get1 HS.out)).2.2 (rows_c (d := k35) reads_inn35 sz35 (SL.get1 HS.out)).2.1 (Kd.C_nil _ _) (Nat.le_refl _) Hc19.out).mono ?_); rintro e_ w27 ⟨rfl, hb_⟩; refine ⟨_, rfl, ?_⟩; replace HS := Aside0.mk (HS.out.below hb_); replace HK := Aside0.mk (HK.out.trans (Keep.below hb_)); (try clear hz3000032_0_4 hz3000032_1_4 hz3000032_2_4 hz3000032_3_4 hz3000032_4_4 hz3000032_5_4 hz3000032_6_4 hz3000032_7_4); have hb_ := SL.at_ HS.out; have hz3000032_0_5 := ((blk_cell hb_ 0).trans rfl : _ = some (.int .i64 (wrap64 (j363 + 1)))); have hz3000032_1_5 := ((blk_cell hb_ 1).trans rfl : _ = some (.int .i64 0)); have hz3000032_2_5 := ((blk_cell hb_ 2).trans rfl : _ = some (.int .i64 (rd l1 j363))); have hz3000032_3_5 := ((blk_cell hb_ 3).trans rfl : _ = some (.int .i64 (rd l0 j363))); have hz3000032_4_5 := ((blk_cell hb_ 4).trans rfl : _ = some (.int .i64 0)); have hz3000032_5_5 := ((blk_cell hb_ 5).trans rfl : _ = some (.int .i64 0)); have hz3000032_6_5 := ((blk_cell hb_ 6).trans rfl : _ = some (.bool false)); have hz3000032_7_5 := ((blk_cell hb_ 7).trans rfl : _ = some (.slice none 0 0)); clear hb_) | ((with_reducible refine gate_dst (N := 110) rfl ?_); refine goesL_ (some 110) rfl rfl Try.func10 (by kernel_rfl) rfl #[.slice Ax8_0 x8_0.length cx8_0, .agg #[.int .i64 (wrap64 (j363 + 1)), .int .i64 0, .int .i64 (rd l1 j363), .int .i64 (rd l0 j363), .int .i64 0, .int .i64 0, .bool false, .slice none 0 0], .int .i64 (wrap64 (x9_0 + (Go.bits .and .i64 ((rd_T39 l2 x10_0).f1) 7)))] rfl (by (try simp only [List.map_toArray, List.map_cons, List.map_nil]); first | done | rfl | (simp; done)) ?_; have hs0_ := (SL.get1 HS.out); obtain ⟨U1_, hfU1_, hsub1_, hs1_, hro1_, hback1_⟩ := SL.lend (HF.out.keep HK.out) hs0_ (p := fun w_ => Kd.C k35 w_ Ax8_0 x8_0.length x8_0) (fun w_ T_ h_ => rows_h (d := k35) reads_inn35 sz35 h_); (refine (cool_Use.slcalls k1 _ _ _ _ _ _ _ _ _ _ _ _ _ _ _ _ _ _ _ hfU1_ hs1_ hro1_ (rows_c (d := k35) reads_inn35 sz35 (SL.get1 HS.out)).2.1 (fun w_ _ => Kd.C_nil _ _) (Nat.le_refl _) Hc20.out).mono ?_); rintro e_ w28 ⟨Az3000033, cz3000033, rfl, hsr_, hkr_⟩; refine ⟨_, rfl, ?_⟩; replace HS := Aside0.mk ((hback1_ _ _ hkr_ hsr_)); replace HK := Aside0.mk (HK.out.trans (Keep.sub hkr_ (fun k_ h_ => hsub1_ k_ h_))); (try clear hz3000032_0_5 hz3000032_1_5 hz3000032_2_5 hz3000032_3_5 hz3000032_4_5 hz3000032_5_5 hz3000032_6_5 hz3000032_7_5); have hb_ := SL.at_ (SL.get2 HS.out); have hz3000032_0_6 := ((blk_cell hb_ 0).trans rfl : _ = some (.int .i64 (wrap64 (j363 + 1)))); have hz3000032_1_6 := ((blk_cell hb_ 1).trans rfl : _ = some (.int .i64 0)); have hz3000032_2_6 := ((blk_cell hb_ 2).trans rfl : _ = some (.int .i64 (rd l1 j363))); have hz3000032_3_6 := ((blk_cell hb_ 3).trans rfl : _ = some (.int .i64 (rd l0 j363))); have hz3000032_4_6 := ((blk_cell hb_ 4).trans rfl : _ = some (.int .i64 0)); have hz3000032_5_6 := ((blk_cell hb_ 5).trans rfl : _ = some (.int .i64 0)); have hz3000032_6_6 := ((blk_cell hb_ 6).trans rfl : _ = some (.bool false)); have hz3000032_7_6 := ((blk_cell hb_ 7).trans rfl : _ = some (.slice none 0 0)); clear hb_) | ((with_reducible refine gate_dst (N := 117) rfl ?_); refine goesL_ (some 117) rfl rfl Try.func10 (by kernel_rfl) rfl #[.slice Ax8_0 x8_0.length cx8_0, .agg #[.int .i64 (wrap64 (j363 + 1)), .int .i64 0, .int .i64 (rd l1 j363), .int .i64 (rd l0 j363), .int .i64 0, .int .i64 0, .bool false, .slice none 0 0], .int .i64 t372] rfl (by (try simp only [List.map_toArray, List.map_cons, List.map_nil]); first | done | rfl | (simp; done)) ?_; have hs0_ := HS.out; obtain ⟨U1_, hfU1_, hsub1_, hs1_, hro1_, hback1_⟩ := SL.lend (HF.out.keep HK.out) hs0_ (p := fun w_ => Kd.C k35 w_ Ax8_0 x8_0.length x8_0) (fun w_ T_ h_ => rows_h (d := k35) reads_inn35 sz35 h_); (refine (cool_Use.slcalls k1 _ _ _ _ _ _ _ _ _ _ _ _ _ _ _ _ _ _ _ hfU1_ hs1_ hro1_ (rows_c (d := k35) reads_inn35 sz35 HS.out).2.1 (fun w_ _ => Kd.C_nil _ _) (Nat.le_refl _) Hc21.out).mono ?_); rintro e_ w29 ⟨Az3000034, cz3000034, rfl, hsr_, hkr_⟩; refine ⟨_, rfl, ?_⟩; replace HS := Aside0.mk ((hback1_ _ _ hkr_ hsr_)); replace HK := Aside0.mk (HK.out.trans (Keep.sub hkr_ (fun k_ h_ => hsub1_ k_ h_))); (try clear hz3000032_0_6 hz3000032_1_6 hz3000032_2_6 hz3000032_3_6 hz3000032_4_6 hz3000032_5_6 hz3000032_6_6 hz3000032_7_6); refine stop_ ?_; intro G_ hG_))
                                    have H := H'.out
                                    clear H'
                                    by_cases c30 : t374 = true
                                    · subst c30
                                      rw [if_pos rfl] at H
                                      by_cases c31 : t372 = (wrap64 (x9_0 + (Go.bits .and .i64 ((rd_T39 l2 x10_0).f1) 7)))
                                      · rw [if_pos c31] at H
                                        have c31b0 : (t372 == (wrap64 (x9_0 + (Go.bits .and .i64 ((rd_T39 l2 x10_0).f1) 7)))) = true := beq_iff_eq.mpr c31
                                        have c31b1 : (t372 != (wrap64 (x9_0 + (Go.bits .and .i64 ((rd_T39 l2 x10_0).f1) 7)))) = false := bne_eq_false_iff_eq.mpr c31
                                        clear c31
                                        by_cases c32 : t376 = true
                                        · subst c32
                                          rw [if_pos rfl] at H
                                          replace H := Option.bind_eq_some_iff.1 H
                                          obtain ⟨t377, Hc330, H⟩ := H
                                          try dsimp only at H
                                          have Hc33 := Aside0.mk Hc330
                                          clear Hc330
                                          by_cases c34 : t377 = true
                                          · subst c34
                                            rw [if_pos rfl] at H
                                            replace H := Option.bind_eq_some_iff.1 H
                                            obtain ⟨t378, Hc350, H⟩ := H
                                            try dsimp only at H
                                            have Hc35 := Aside0.mk Hc350
                                            clear Hc350
                                            by_cases c36 : t378 = (wrap64 (t371 - 1))
                                            · rw [if_pos c36] at H
                                              have c36b0 : (t378 == (wrap64 (t371 - 1))) = true := beq_iff_eq.mpr c36
                                              have c36b1 : (t378 != (wrap64 (t371 - 1))) = false := bne_eq_false_iff_eq.mpr c36
                                              clear c36
                                              by_cases c37 : (rd l1 j363) = 0
                                              · rw [if_pos c37] at H
                                                have c37b0 : ((rd l1 j363) == 0) = true := beq_iff_eq.mpr c37
                                                have c37b1 : ((rd l1 j363) != 0) = false := bne_eq_false_iff_eq.mpr c37
                                                clear c37
                                                replace H := Option.bind_eq_some_iff.1 H
                                                obtain ⟨t379, Hc380, H⟩ := H
                                                try dsimp only at H
                                                have Hc38 := Aside0.mk Hc380
                                                clear Hc380
                                                by_cases c39 : t379 = t371
                                                · rw [if_pos c39] at H
                                                  have c39b0 : (t379 == t371) = true := beq_iff_eq.mpr c39
                                                  have c39b1 : (t379 != t371) = false := bne_eq_false_iff_eq.mpr c39
                                                  clear c39
                                                  have H' := Aside0.mk H
                                                  clear H
                                                  refine hG_.out ?_
                                                  try simp only [c31b0, c31b1, c36b0, c36b1, c37b0, c37b1, c39b0, c39b1]
                                                  go_wp2_with (first | ((with_reducible refine gate_dst (N := 155) rfl ?_); (try (refine gate_guard (by rfl) ?_; dsimp only)); refine goesL_ (some 155) rfl rfl Try.func17 (by kernel_rfl) rfl #[.slice Az3000033 t373.length cz3000033] rfl (by (try simp only [List.map_toArray, List.map_cons, List.map_nil]); first | done | rfl | (simp; done)) ?_; (with_reducible refine (cool_Right.calls k1 _ _ _ _ _ (rows_c (d := k35) reads_inn35 sz35 (SL.get2 HS.out)).2.2 (rows_c (d := k35) reads_inn35 sz35 (SL.get2 HS.out)).2.1 Hc33.out).mono ?_); rintro e_ w40 ⟨rfl, hb_⟩; refine ⟨_, rfl, ?_⟩; replace HS := Aside0.mk (HS.out.below hb_); replace HK := Aside0.mk (HK.out.trans (Keep.below hb_)); have hb_ := SL.at_ (SL.get3 HS.out); have hz3000032_0_1 := ((blk_cell hb_ 0).trans rfl : _ = some (.int .i64 (wrap64 (j363 + 1)))); have hz3000032_1_1 := ((blk_cell hb_ 1).trans rfl : _ = some (.int .i64 0)); have hz3000032_2_1 := ((blk_cell hb_ 2).trans rfl : _ = some (.int .i64 (rd l1 j363))); have hz3000032_3_1 := ((blk_cell hb_ 3).trans rfl : _ = some (.int .i64 (rd l0 j363))); have hz3000032_4_1 := ((blk_cell hb_ 4).trans rfl : _ = some (.int .i64 0)); have hz3000032_5_1 := ((blk_cell hb_ 5).trans rfl : _ = some (.int .i64 0)); have hz3000032_6_1 := ((blk_cell hb_ 6).trans rfl : _ = some (.bool false)); have hz3000032_7_1 := ((blk_cell hb_ 7).trans rfl : _ = some (.slice none 0 0)); clear hb_) | ((with_reducible refine gate_dst (N := 163) rfl ?_); (try (refine gate_guard (by rfl) ?_; dsimp only)); refine goesL_ (some 163) rfl rfl Try.func19 (by kernel_rfl) rfl #[.slice Az3000033 t373.length cz3000033, .agg #[.int .i64 (wrap64 (j363 + 1)), .int .i64 0, .int .i64 (rd l1 j363), .int .i64 (rd l0 j363), .int .i64 0, .int .i64 0, .bool false, .slice none 0 0], .int .i64 (wrap64 (x9_0 + (Go.bits .and .i64 ((rd_T39 l2 x10_0).f1) 7)))] rfl (by (try simp only [List.map_toArray, List.map_cons, List.map_nil]); first | done | rfl | (simp; done)) ?_; (refine (cool_Ready.calls k1 _ _ _ _ _ _ _ _ _ _ _ _ _ _ _ _ (rows_c (d := k35) reads_inn35 sz35 (SL.get2 HS.out)).2.2 (rows_c (d := k35) reads_inn35 sz35 (SL.get2 HS.out)).2.1 (Kd.C_nil _ _) (Nat.le_refl _) Hc35.out).mono ?_); rintro e_ w41 ⟨rfl, hb_⟩; refine ⟨_, rfl, ?_⟩; replace HS := Aside0.mk (HS.out.below hb_); replace HK := Aside0.mk (HK.out.trans (Keep.below hb_)); (try clear hz3000032_0_1 hz3000032_1_1 hz3000032_2_1 hz3000032_3_1 hz3000032_4_1 hz3000032_5_1 hz3000032_6_1 hz3000032_7_1); have hb_ := SL.at_ (SL.get3 HS.out); have hz3000032_0_2 := ((blk_cell hb_ 0).trans rfl : _ = some (.int .i64 (wrap64 (j363 + 1)))); have hz3000032_1_2 := ((blk_cell hb_ 1).trans rfl : _ = some (.int .i64 0)); have hz3000032_2_2 := ((blk_cell hb_ 2).trans rfl : _ = some (.int .i64 (rd l1 j363))); have hz3000032_3_2 := ((blk_cell hb_ 3).trans rfl : _ = some (.int .i64 (rd l0 j363))); have hz3000032_4_2 := ((blk_cell hb_ 4).trans rfl : _ = some (.int .i64 0)); have hz3000032_5_2 := ((blk_cell hb_ 5).trans rfl : _ = some (.int .i64 0)); have hz3000032_6_2 := ((blk_cell hb_ 6).trans rfl : _ = some (.bool false)); have hz3000032_7_2 := ((blk_cell hb_ 7).trans rfl : _ = some (.slice none 0 0)); clear hb_) | ((with_reducible refine gate_dst (N := 184) rfl ?_); (try (refine gate_guard (by rfl) ?_; dsimp only)); refine goesL_ (some 184) rfl rfl Try.func19 (by kernel_rfl) rfl #[.slice Az3000033 t373.length cz3000033, .agg #[.int .i64 (wrap64 (j363 + 1)), .int .i64 0, .int .i64 (rd l1 j363), .int .i64 (rd l0 j363), .int .i64 0, .int .i64 0, .bool false, .slice none 0 0], .int .i64 (wrap64 (x9_0 + (Go.bits .and .i64 ((rd_T39 l2 x10_0).f1) 7)))] rfl (by (try simp only [List.map_toArray, List.map_cons, List.map_nil]); first | done | rfl | (simp; done)) ?_; (refine (cool_Ready.calls k1 _ _ _ _ _ _ _ _ _ _ _ _ _ _ _ _ (rows_c (d := k35) reads_inn35 sz35 (SL.get2 HS.out)).2.2 (rows_c (d := k35) reads_inn35 sz35 (SL.get2 HS.out)).2.1 (Kd.C_nil _ _) (Nat.le_refl _) Hc38.out).mono ?_); rintro e_ w42 ⟨rfl, hb_⟩; refine ⟨_, rfl, ?_⟩; replace HS := Aside0.mk (HS.out.below hb_); replace HK := Aside0.mk (HK.out.trans (Keep.below hb_)); (try clear hz3000032_0_2 hz3000032_1_2 hz3000032_2_2 hz3000032_3_2 hz3000032_4_2 hz3000032_5_2 hz3000032_6_2 hz3000032_7_2)))
                                                  replace HS := Aside0.mk (SL.tail (SL.get1 (SL.tail (SL.tail HS.out))))
                                                  go_roundg k1
                                                  case measure => have := HQ1.out; omega
                                                  case rel => exact ⟨(t373), (Az3000033), (cz3000033), (wrap64 (x9_0 + (Go.bits .and .i64 ((rd_T39 l2 x10_0).f1) 7))), (wrap64 (x10_0 + 1)), (by first | rfl | (simp; done) | (simp [*]; done)), (by first | rfl | (simp; done) | (simp [*]; done)), (by first | rfl | (simp; done) | (simp [*]; done)), H', ⟨by have := HQ1.out; omega⟩, HS, HK⟩
                                                · rw [if_neg c39] at H
                                                  exact absurd H (by simp)
                                              · rw [if_neg c37] at H
                                                have c37b0 : ((rd l1 j363) == 0) = false := beq_eq_false_iff_ne.mpr c37
                                                have c37b1 : ((rd l1 j363) != 0) = true := bne_iff_ne.mpr c37
                                                have H' := Aside0.mk H
                                                clear H
                                                refine hG_.out ?_
                                                try simp only [c31b0, c31b1, c36b0, c36b1, c37b0, c37b1]
                                                go_wp2_with (first | ((with_reducible refine gate_dst (N := 155) rfl ?_); (try (refine gate_guard (by rfl) ?_; dsimp only)); refine goesL_ (some 155) rfl rfl Try.func17 (by kernel_rfl) rfl #[.slice Az3000033 t373.length cz3000033] rfl (by (try simp only [List.map_toArray, List.map_cons, List.map_nil]); first | done | rfl | (simp; done)) ?_; (with_reducible refine (cool_Right.calls k1 _ _ _ _ _ (rows_c (d := k35) reads_inn35 sz35 (SL.get2 HS.out)).2.2 (rows_c (d := k35) reads_inn35 sz35 (SL.get2 HS.out)).2.1 Hc33.out).mono ?_); rintro e_ w43 ⟨rfl, hb_⟩; refine ⟨_, rfl, ?_⟩; replace HS := Aside0.mk (HS.out.below hb_); replace HK := Aside0.mk (HK.out.trans (Keep.below hb_)); have hb_ := SL.at_ (SL.get3 HS.out); have hz3000032_0_1 := ((blk_cell hb_ 0).trans rfl : _ = some (.int .i64 (wrap64 (j363 + 1)))); have hz3000032_1_1 := ((blk_cell hb_ 1).trans rfl : _ = some (.int .i64 0)); have hz3000032_2_1 := ((blk_cell hb_ 2).trans rfl : _ = some (.int .i64 (rd l1 j363))); have hz3000032_3_1 := ((blk_cell hb_ 3).trans rfl : _ = some (.int .i64 (rd l0 j363))); have hz3000032_4_1 := ((blk_cell hb_ 4).trans rfl : _ = some (.int .i64 0)); have hz3000032_5_1 := ((blk_cell hb_ 5).trans rfl : _ = some (.int .i64 0)); have hz3000032_6_1 := ((blk_cell hb_ 6).trans rfl : _ = some (.bool false)); have hz3000032_7_1 := ((blk_cell hb_ 7).trans rfl : _ = some (.slice none 0 0)); clear hb_) | ((with_reducible refine gate_dst (N := 163) rfl ?_); (try (refine gate_guard (by rfl) ?_; dsimp only)); refine goesL_ (some 163) rfl rfl Try.func19 (by kernel_rfl) rfl #[.slice Az3000033 t373.length cz3000033, .agg #[.int .i64 (wrap64 (j363 + 1)), .int .i64 0, .int .i64 (rd l1 j363), .int .i64 (rd l0 j363), .int .i64 0, .int .i64 0, .bool false, .slice none 0 0], .int .i64 (wrap64 (x9_0 + (Go.bits .and .i64 ((rd_T39 l2 x10_0).f1) 7)))] rfl (by (try simp only [List.map_toArray, List.map_cons, List.map_nil]); first | done | rfl | (simp; done)) ?_; (refine (cool_Ready.calls k1 _ _ _ _ _ _ _ _ _ _ _ _ _ _ _ _ (rows_c (d := k35) reads_inn35 sz35 (SL.get2 HS.out)).2.2 (rows_c (d := k35) reads_inn35 sz35 (SL.get2 HS.out)).2.1 (Kd.C_nil _ _) (Nat.le_refl _) Hc35.out).mono ?_); rintro e_ w44 ⟨rfl, hb_⟩; refine ⟨_, rfl, ?_⟩; replace HS := Aside0.mk (HS.out.below hb_); replace HK := Aside0.mk (HK.out.trans (Keep.below hb_)); (try clear hz3000032_0_1 hz3000032_1_1 hz3000032_2_1 hz3000032_3_1 hz3000032_4_1 hz3000032_5_1 hz3000032_6_1 hz3000032_7_1); have hb_ := SL.at_ (SL.get3 HS.out); have hz3000032_0_2 := ((blk_cell hb_ 0).trans rfl : _ = some (.int .i64 (wrap64 (j363 + 1)))); have hz3000032_1_2 := ((blk_cell hb_ 1).trans rfl : _ = some (.int .i64 0)); have hz3000032_2_2 := ((blk_cell hb_ 2).trans rfl : _ = some (.int .i64 (rd l1 j363))); have hz3000032_3_2 := ((blk_cell hb_ 3).trans rfl : _ = some (.int .i64 (rd l0 j363))); have hz3000032_4_2 := ((blk_cell hb_ 4).trans rfl : _ = some (.int .i64 0)); have hz3000032_5_2 := ((blk_cell hb_ 5).trans rfl : _ = some (.int .i64 0)); have hz3000032_6_2 := ((blk_cell hb_ 6).trans rfl : _ = some (.bool false)); have hz3000032_7_2 := ((blk_cell hb_ 7).trans rfl : _ = some (.slice none 0 0)); clear hb_))
                                                replace HS := Aside0.mk (SL.tail (SL.get1 (SL.tail (SL.tail HS.out))))
                                                go_roundg k1
                                                case measure => have := HQ1.out; omega
                                                case rel => exact ⟨(t373), (Az3000033), (cz3000033), (wrap64 (x9_0 + (Go.bits .and .i64 ((rd_T39 l2 x10_0).f1) 7))), (wrap64 (x10_0 + 1)), (by first | rfl | (simp; done) | (simp [*]; done)), (by first | rfl | (simp; done) | (simp [*]; done)), (by first | rfl | (simp; done) | (simp [*]; done)), H', ⟨by have := HQ1.out; omega⟩, HS, HK⟩
                                            · rw [if_neg c36] at H
                                              have c36b0 : (t378 == (wrap64 (t371 - 1))) = false := beq_eq_false_iff_ne.mpr c36
                                              have c36b1 : (t378 != (wrap64 (t371 - 1))) = true := bne_iff_ne.mpr c36
                                              by_cases c45 : (rd l1 j363) > 0
                                              · rw [if_pos c45] at H
                                                exact absurd H (by simp)
                                              · rw [if_neg c45] at H
                                                have c45b0 : decide (0 < (rd l1 j363)) = false := decide_eq_false c45
                                                clear c45
                                                by_cases c46 : (rd l1 j363) = 0
                                                · rw [if_pos c46] at H
                                                  have c46b0 : ((rd l1 j363) == 0) = true := beq_iff_eq.mpr c46
                                                  have c46b1 : ((rd l1 j363) != 0) = false := bne_eq_false_iff_eq.mpr c46
                                                  clear c46
                                                  replace H := Option.bind_eq_some_iff.1 H
                                                  obtain ⟨t380, Hc470, H⟩ := H
                                                  try dsimp only at H
                                                  have Hc47 := Aside0.mk Hc470
                                                  clear Hc470
                                                  by_cases c48 : t380 = t371
                                                  · rw [if_pos c48] at H
                                                    have c48b0 : (t380 == t371) = true := beq_iff_eq.mpr c48
                                                    have c48b1 : (t380 != t371) = false := bne_eq_false_iff_eq.mpr c48
                                                    clear c48
                                                    have H' := Aside0.mk H
                                                    clear H
                                                    refine hG_.out ?_
                                                    try simp only [c31b0, c31b1, c36b0, c36b1, c45b0, c46b0, c46b1, c48b0, c48b1]
                                                    go_wp2_with (first | ((with_reducible refine gate_dst (N := 155) rfl ?_); (try (refine gate_guard (by rfl) ?_; dsimp only)); refine goesL_ (some 155) rfl rfl Try.func17 (by kernel_rfl) rfl #[.slice Az3000033 t373.length cz3000033] rfl (by (try simp only [List.map_toArray, List.map_cons, List.map_nil]); first | done | rfl | (simp; done)) ?_; (with_reducible refine (cool_Right.calls k1 _ _ _ _ _ (rows_c (d := k35) reads_inn35 sz35 (SL.get2 HS.out)).2.2 (rows_c (d := k35) reads_inn35 sz35 (SL.get2 HS.out)).2.1 Hc33.out).mono ?_); rintro e_ w49 ⟨rfl, hb_⟩; refine ⟨_, rfl, ?_⟩; replace HS := Aside0.mk (HS.out.below hb_); replace HK := Aside0.mk (HK.out.trans (Keep.below hb_)); have hb_ := SL.at_ (SL.get3 HS.out); have hz3000032_0_1 := ((blk_cell hb_ 0).trans rfl : _ = some (.int .i64 (wrap64 (j363 + 1)))); have hz3000032_1_1 := ((blk_cell hb_ 1).trans rfl : _ = some (.int .i64 0)); have hz3000032_2_1 := ((blk_cell hb_ 2).trans rfl : _ = some (.int .i64 (rd l1 j363))); have hz3000032_3_1 := ((blk_cell hb_ 3).trans rfl : _ = some (.int .i64 (rd l0 j363))); have hz3000032_4_1 := ((blk_cell hb_ 4).trans rfl : _ = some (.int .i64 0)); have hz3000032_5_1 := ((blk_cell hb_ 5).trans rfl : _ = some (.int .i64 0)); have hz3000032_6_1 := ((blk_cell hb_ 6).trans rfl : _ = some (.bool false)); have hz3000032_7_1 := ((blk_cell hb_ 7).trans rfl : _ = some (.slice none 0 0)); clear hb_) | ((with_reducible refine gate_dst (N := 163) rfl ?_); (try (refine gate_guard (by rfl) ?_; dsimp only)); refine goesL_ (some 163) rfl rfl Try.func19 (by kernel_rfl) rfl #[.slice Az3000033 t373.length cz3000033, .agg #[.int .i64 (wrap64 (j363 + 1)), .int .i64 0, .int .i64 (rd l1 j363), .int .i64 (rd l0 j363), .int .i64 0, .int .i64 0, .bool false, .slice none 0 0], .int .i64 (wrap64 (x9_0 + (Go.bits .and .i64 ((rd_T39 l2 x10_0).f1) 7)))] rfl (by (try simp only [List.map_toArray, List.map_cons, List.map_nil]); first | done | rfl | (simp; done)) ?_; (refine (cool_Ready.calls k1 _ _ _ _ _ _ _ _ _ _ _ _ _ _ _ _ (rows_c (d := k35) reads_inn35 sz35 (SL.get2 HS.out)).2.2 (rows_c (d := k35) reads_inn35 sz35 (SL.get2 HS.out)).2.1 (Kd.C_nil _ _) (Nat.le_refl _) Hc35.out).mono ?_); rintro e_ w50 ⟨rfl, hb_⟩; refine ⟨_, rfl, ?_⟩; replace HS := Aside0.mk (HS.out.below hb_); replace HK := Aside0.mk (HK.out.trans (Keep.below hb_)); (try clear hz3000032_0_1 hz3000032_1_1 hz3000032_2_1 hz3000032_3_1 hz3000032_4_1 hz3000032_5_1 hz3000032_6_1 hz3000032_7_1); have hb_ := SL.at_ (SL.get3 HS.out); have hz3000032_0_2 := ((blk_cell hb_ 0).trans rfl : _ = some (.int .i64 (wrap64 (j363 + 1)))); have hz3000032_1_2 := ((blk_cell hb_ 1).trans rfl : _ = some (.int .i64 0)); have hz3000032_2_2 := ((blk_cell hb_ 2).trans rfl : _ = some (.int .i64 (rd l1 j363))); have hz3000032_3_2 := ((blk_cell hb_ 3).trans rfl : _ = some (.int .i64 (rd l0 j363))); have hz3000032_4_2 := ((blk_cell hb_ 4).trans rfl : _ = some (.int .i64 0)); have hz3000032_5_2 := ((blk_cell hb_ 5).trans rfl : _ = some (.int .i64 0)); have hz3000032_6_2 := ((blk_cell hb_ 6).trans rfl : _ = some (.bool false)); have hz3000032_7_2 := ((blk_cell hb_ 7).trans rfl : _ = some (.slice none 0 0)); clear hb_) | ((with_reducible refine gate_dst (N := 184) rfl ?_); (try (refine gate_guard (by rfl) ?_; dsimp only)); refine goesL_ (some 184) rfl rfl Try.func19 (by kernel_rfl) rfl #[.slice Az3000033 t373.length cz3000033, .agg #[.int .i64 (wrap64 (j363 + 1)), .int .i64 0, .int .i64 (rd l1 j363), .int .i64 (rd l0 j363), .int .i64 0, .int .i64 0, .bool false, .slice none 0 0], .int .i64 (wrap64 (x9_0 + (Go.bits .and .i64 ((rd_T39 l2 x10_0).f1) 7)))] rfl (by (try simp only [List.map_toArray, List.map_cons, List.map_nil]); first | done | rfl | (simp; done)) ?_; (refine (cool_Ready.calls k1 _ _ _ _ _ _ _ _ _ _ _ _ _ _ _ _ (rows_c (d := k35) reads_inn35 sz35 (SL.get2 HS.out)).2.2 (rows_c (d := k35) reads_inn35 sz35 (SL.get2 HS.out)).2.1 (Kd.C_nil _ _) (Nat.le_refl _) Hc47.out).mono ?_); rintro e_ w51 ⟨rfl, hb_⟩; refine ⟨_, rfl, ?_⟩; replace HS := Aside0.mk (HS.out.below hb_); replace HK := Aside0.mk (HK.out.trans (Keep.below hb_)); (try clear hz3000032_0_2 hz3000032_1_2 hz3000032_2_2 hz3000032_3_2 hz3000032_4_2 hz3000032_5_2 hz3000032_6_2 hz3000032_7_2)))
                                                    replace HS := Aside0.mk (SL.tail (SL.get1 (SL.tail (SL.tail HS.out))))
                                                    go_roundg k1
                                                    case measure => have := HQ1.out; omega
                                                    case rel => exact ⟨(t373), (Az3000033), (cz3000033), (wrap64 (x9_0 + (Go.bits .and .i64 ((rd_T39 l2 x10_0).f1) 7))), (wrap64 (x10_0 + 1)), (by first | rfl | (simp; done) | (simp [*]; done)), (by first | rfl | (simp; done) | (simp [*]; done)), (by first | rfl | (simp; done) | (simp [*]; done)), H', ⟨by have := HQ1.out; omega⟩, HS, HK⟩
                                                  · rw [if_neg c48] at H
                                                    exact absurd H (by simp)
                                                · rw [if_neg c46] at H
                                                  have c46b0 : ((rd l1 j363) == 0) = false := beq_eq_false_iff_ne.mpr c46
                                                  have c46b1 : ((rd l1 j363) != 0) = true := bne_iff_ne.mpr c46
                                                  have H' := Aside0.mk H
                                                  clear H
                                                  refine hG_.out ?_
                                                  try simp only [c31b0, c31b1, c36b0, c36b1, c45b0, c46b0, c46b1]
                                                  go_wp2_with (first | ((with_reducible refine gate_dst (N := 155) rfl ?_); (try (refine gate_guard (by rfl) ?_; dsimp only)); refine goesL_ (some 155) rfl rfl Try.func17 (by kernel_rfl) rfl #[.slice Az3000033 t373.length cz3000033] rfl (by (try simp only [List.map_toArray, List.map_cons, List.map_nil]); first | done | rfl | (simp; done)) ?_; (with_reducible refine (cool_Right.calls k1 _ _ _ _ _ (rows_c (d := k35) reads_inn35 sz35 (SL.get2 HS.out)).2.2 (rows_c (d := k35) reads_inn35 sz35 (SL.get2 HS.out)).2.1 Hc33.out).mono ?_); rintro e_ w52 ⟨rfl, hb_⟩; refine ⟨_, rfl, ?_⟩; replace HS := Aside0.mk (HS.out.below hb_); replace HK := Aside0.mk (HK.out.trans (Keep.below hb_)); have hb_ := SL.at_ (SL.get3 HS.out); have hz3000032_0_1 := ((blk_cell hb_ 0).trans rfl : _ = some (.int .i64 (wrap64 (j363 + 1)))); have hz3000032_1_1 := ((blk_cell hb_ 1).trans rfl : _ = some (.int .i64 0)); have hz3000032_2_1 := ((blk_cell hb_ 2).trans rfl : _ = some (.int .i64 (rd l1 j363))); have hz3000032_3_1 := ((blk_cell hb_ 3).trans rfl : _ = some (.int .i64 (rd l0 j363))); have hz3000032_4_1 := ((blk_cell hb_ 4).trans rfl : _ = some (.int .i64 0)); have hz3000032_5_1 := ((blk_cell hb_ 5).trans rfl : _ = some (.int .i64 0)); have hz3000032_6_1 := ((blk_cell hb_ 6).trans rfl : _ = some (.bool false)); have hz3000032_7_1 := ((blk_cell hb_ 7).trans rfl : _ = some (.slice none 0 0)); clear hb_) | ((with_reducible refine gate_dst (N := 163) rfl ?_); (try (refine gate_guard (by rfl) ?_; dsimp only)); refine goesL_ (some 163) rfl rfl Try.func19 (by kernel_rfl) rfl #[.slice Az3000033 t373.length cz3000033, .agg #[.int .i64 (wrap64 (j363 + 1)), .int .i64 0, .int .i64 (rd l1 j363), .int .i64 (rd l0 j363), .int .i64 0, .int .i64 0, .bool false, .slice none 0 0], .int .i64 (wrap64 (x9_0 + (Go.bits .and .i64 ((rd_T39 l2 x10_0).f1) 7)))] rfl (by (try simp only [List.map_toArray, List.map_cons, List.map_nil]); first | done | rfl | (simp; done)) ?_; (refine (cool_Ready.calls k1 _ _ _ _ _ _ _ _ _ _ _ _ _ _ _ _ (rows_c (d := k35) reads_inn35 sz35 (SL.get2 HS.out)).2.2 (rows_c (d := k35) reads_inn35 sz35 (SL.get2 HS.out)).2.1 (Kd.C_nil _ _) (Nat.le_refl _) Hc35.out).mono ?_); rintro e_ w53 ⟨rfl, hb_⟩; refine ⟨_, rfl, ?_⟩; replace HS := Aside0.mk (HS.out.below hb_); replace HK := Aside0.mk (HK.out.trans (Keep.below hb_)); (try clear hz3000032_0_1 hz3000032_1_1 hz3000032_2_1 hz3000032_3_1 hz3000032_4_1 hz3000032_5_1 hz3000032_6_1 hz3000032_7_1); have hb_ := SL.at_ (SL.get3 HS.out); have hz3000032_0_2 := ((blk_cell hb_ 0).trans rfl : _ = some (.int .i64 (wrap64 (j363 + 1)))); have hz3000032_1_2 := ((blk_cell hb_ 1).trans rfl : _ = some (.int .i64 0)); have hz3000032_2_2 := ((blk_cell hb_ 2).trans rfl : _ = some (.int .i64 (rd l1 j363))); have hz3000032_3_2 := ((blk_cell hb_ 3).trans rfl : _ = some (.int .i64 (rd l0 j363))); have hz3000032_4_2 := ((blk_cell hb_ 4).trans rfl : _ = some (.int .i64 0)); have hz3000032_5_2 := ((blk_cell hb_ 5).trans rfl : _ = some (.int .i64 0)); have hz3000032_6_2 := ((blk_cell hb_ 6).trans rfl : _ = some (.bool false)); have hz3000032_7_2 := ((blk_cell hb_ 7).trans rfl : _ = some (.slice none 0 0)); clear hb_))
                                                  replace HS := Aside0.mk (SL.tail (SL.get1 (SL.tail (SL.tail HS.out))))
                                                  go_roundg k1
                                                  case measure => have := HQ1.out; omega
                                                  case rel => exact ⟨(t373), (Az3000033), (cz3000033), (wrap64 (x9_0 + (Go.bits .and .i64 ((rd_T39 l2 x10_0).f1) 7))), (wrap64 (x10_0 + 1)), (by first | rfl | (simp; done) | (simp [*]; done)), (by first | rfl | (simp; done) | (simp [*]; done)), (by first | rfl | (simp; done) | (simp [*]; done)), H', ⟨by have := HQ1.out; omega⟩, HS, HK⟩
                                          · replace c34 := Bool.eq_false_iff.mpr c34
                                            subst c34
                                            rw [if_neg (show ¬ (false = true) by decide)] at H
                                            exact absurd H (by simp)
                                        · replace c32 := Bool.eq_false_iff.mpr c32
                                          subst c32
                                          rw [if_neg (show ¬ (false = true) by decide)] at H
                                          exact absurd H (by simp)
                                      · rw [if_neg c31] at H
                                        exact absurd H (by simp)
                                    · replace c30 := Bool.eq_false_iff.mpr c30
                                      subst c30
                                      rw [if_neg (show ¬ (false = true) by decide)] at H
                                      by_cases c54 : t376 = true
                                      · subst c54
                                        rw [if_pos rfl] at H
                                        replace H := Option.bind_eq_some_iff.1 H
                                        obtain ⟨t381, Hc550, H⟩ := H
                                        try dsimp only at H
                                        have Hc55 := Aside0.mk Hc550
                                        clear Hc550
                                        by_cases c56 : t381 = 0
                                        · rw [if_pos c56] at H
                                          have c56b0 : (t381 == 0) = true := beq_iff_eq.mpr c56
                                          have c56b1 : (t381 != 0) = false := bne_eq_false_iff_eq.mpr c56
                                          clear c56
                                          replace H := Option.bind_eq_some_iff.1 H
                                          obtain ⟨t382, Hc570, H⟩ := H
                                          try dsimp only at H
                                          have Hc57 := Aside0.mk Hc570
                                          clear Hc570
                                          by_cases c58 : t382 = true
                                          · subst c58
                                            rw [if_pos rfl] at H
                                            have H' := Aside0.mk H
                                            clear H
                                            have hb_ := SL.at_ (SL.get3 HS.out)
                                            have hz3000032_0_0 := ((blk_cell hb_ 0).trans rfl : _ = some (.int .i64 (wrap64 (j363 + 1))))
                                            have hz3000032_1_0 := ((blk_cell hb_ 1).trans rfl : _ = some (.int .i64 0))
                                            have hz3000032_2_0 := ((blk_cell hb_ 2).trans rfl : _ = some (.int .i64 (rd l1 j363)))
                                            have hz3000032_3_0 := ((blk_cell hb_ 3).trans rfl : _ = some (.int .i64 (rd l0 j363)))
                                            have hz3000032_4_0 := ((blk_cell hb_ 4).trans rfl : _ = some (.int .i64 0))
                                            have hz3000032_5_0 := ((blk_cell hb_ 5).trans rfl : _ = some (.int .i64 0))
                                            have hz3000032_6_0 := ((blk_cell hb_ 6).trans rfl : _ = some (.bool false))
                                            have hz3000032_7_0 := ((blk_cell hb_ 7).trans rfl : _ = some (.slice none 0 0))
                                            clear hb_
                                            refine hG_.out ?_
                                            try simp only [c56b0, c56b1]
                                            go_wp2_with (first | ((with_reducible refine gate_dst (N := 149) rfl ?_); (try (refine gate_guard (by rfl) ?_; dsimp only)); refine goesL_ (some 149) rfl rfl Try.func19 (by kernel_rfl) rfl #[.slice Ax8_0 x8_0.length cx8_0, .agg #[.int .i64 (wrap64 (j363 + 1)), .int .i64 0, .int .i64 (rd l1 j363), .int .i64 (rd l0 j363), .int .i64 0, .int .i64 0, .bool false, .slice none 0 0], .int .i64 (wrap64 (t372 - 1))] rfl (by (try simp only [List.map_toArray, List.map_cons, List.map_nil]); first | done | rfl | (simp; done)) ?_; (refine (cool_Ready.calls k1 _ _ _ _ _ _ _ _ _ _ _ _ _ _ _ _ (rows_c (d := k35) reads_inn35 sz35 HS.out).2.2 (rows_c (d := k35) reads_inn35 sz35 HS.out).2.1 (Kd.C_nil _ _) (Nat.le_refl _) Hc55.out).mono ?_); rintro e_ w59 ⟨rfl, hb_⟩; refine ⟨_, rfl, ?_⟩; replace HS := Aside0.mk (HS.out.below hb_); replace HK := Aside0.mk (HK.out.trans (Keep.below hb_)); (try clear hz3000032_0_0 hz3000032_1_0 hz3000032_2_0 hz3000032_3_0 hz3000032_4_0 hz3000032_5_0 hz3000032_6_0 hz3000032_7_0)) | ((with_reducible refine gate_dst (N := 155) rfl ?_); (try (refine gate_guard (by rfl) ?_; dsimp only)); refine goesL_ (some 155) rfl rfl Try.func17 (by kernel_rfl) rfl #[.slice Az3000033 t373.length cz3000033] rfl (by (try simp only [List.map_toArray, List.map_cons, List.map_nil]); first | done | rfl | (simp; done)) ?_; (with_reducible refine (cool_Right.calls k1 _ _ _ _ _ (rows_c (d := k35) reads_inn35 sz35 (SL.get2 HS.out)).2.2 (rows_c (d := k35) reads_inn35 sz35 (SL.get2 HS.out)).2.1 Hc57.out).mono ?_); rintro e_ w60 ⟨rfl, hb_⟩; refine ⟨_, rfl, ?_⟩; replace HS := Aside0.mk (HS.out.below hb_); replace HK := Aside0.mk (HK.out.trans (Keep.below hb_))))
                                            replace HS := Aside0.mk (SL.tail (SL.get1 (SL.tail (SL.tail HS.out))))
                                            go_roundg k1
                                            case measure => have := HQ1.out; omega
                                            case rel => exact ⟨(t373), (Az3000033), (cz3000033), (wrap64 (x9_0 + (Go.bits .and .i64 ((rd_T39 l2 x10_0).f1) 7))), (wrap64 (x10_0 + 1)), (by first | rfl | (simp; done) | (simp [*]; done)), (by first | rfl | (simp; done) | (simp [*]; done)), (by first | rfl | (simp; done) | (simp [*]; done)), H', ⟨by have := HQ1.out; omega⟩, HS, HK⟩
                                          · replace c58 := Bool.eq_false_iff.mpr c58
                                            subst c58
                                            rw [if_neg (show ¬ (false = true) by decide)] at H
                                            exact absurd H (by simp)
                                        · rw [if_neg c56] at H
                                          exact absurd H (by simp)
                                      · replace c54 := Bool.eq_false_iff.mpr c54
                                        subst c54
                                        rw [if_neg (show ¬ (false = true) by decide)] at H
                                        exact absurd H (by simp)
                          · rw [if_neg c15] at H
                            exact absurd H (by simp)
                    · rw [if_neg c12] at H
                      exact absurd H (by simp)
                  · rw [if_neg c11] at H
                    exact absurd H (by simp)
            · rw [if_neg c8] at H
              exact absurd H (by simp)
          · rw [if_neg c7] at H
            have c7b0 : decide (x10_0 < (l2.length : Int)) = false := decide_eq_false c7
            clear c7
            obtain rfl := Option.some.inj H
            go_wp2
            go_ret
            replace HS := Aside0.mk (SL.tail HS.out)
            unfold barrowlaw16_CoolUses.Post
            exact ⟨by first | rfl | (simp; done) | (simp [*]; done) | (simp at c7b0 ⊢; first | exact c7b0 | (simp [c7b0]; done)), HS.out, HK.out⟩
theorem barrowlaw16_CoolUses.calls (k : Nat) (A0 : Option Addr) (c0 : Nat) (l0 : List Int) (A1 : Option Addr) (c1 : Nat) (l1 : List Int) (A2 : Option Addr) (c2 : Nat) (l2 : List (S39)) (r : Bool) (w : World) (hr0 : Kd.C (Kd.int .i64) w A0 l0.length l0) (hc0 : l0.length ≤ c0) (hr1 : Kd.C (Kd.int .i64) w A1 l1.length l1) (hc1 : l1.length ≤ c1) (hr2 : Kd.C k39 w A2 l2.length l2) (hc2 : l2.length ≤ c2) (h : barrowlaw16_CoolUses.f k l0 l1 l2 = some r) :
    Calls Try.prog 4 #[.slice A0 l0.length c0, .slice A1 l1.length c1, .slice A2 l2.length c2] w fun e w' => e = .returned (.bool r) ∧ Below w.heap.size w w' :=
  (barrowlaw16_CoolUses.slcalls k A0 c0 l0 A1 c1 l1 A2 c2 l2 r (news w) [] w (fresh_news w) trivial (RO.top hr0) hc0 (RO.top hr1) hc1 (RO.top hr2) hc2 h).mono fun _ _ h => ⟨h.1, h.2.2.to_below⟩

/-- THE ONE PURE STATEMENT of barrowlaw16_CoolUses. -/
def barrowlaw16_CoolUses.Pure : Prop := ∀ (l0 : List Int) (l1 : List Int) (l2 : List (S39)), (l0.length ≤ maxLen ∧ l0.length * 8 ≤ 140737488351232 ∧ ∀ x383_ ∈ l0, (Lit.int .i64 x383_).wf = true) → (l1.length ≤ maxLen ∧ l1.length * 8 ≤ 140737488351232 ∧ ∀ x384_ ∈ l1, (Lit.int .i64 x384_).wf = true) → (l2.length ≤ maxLen ∧ l2.length * 16 ≤ 140737488351232 ∧ ∀ x385_ ∈ l2, ((Lit.int .i64 x385_.f0).wf = true) ∧ ((Lit.int .i64 x385_.f1).wf = true)) → ∃ k, barrowlaw16_CoolUses.f k l0 l1 l2 = some true

end Go.Proofs.Ytbhgohomgfjjfaa.XCO
