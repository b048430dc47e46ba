-- Written by xprint.py (a program of this session) for this claim
import Derived.Test.YtkffeglkbpfndaaXDRx0
import Derived.Test.YtkffeglkbpfndaaXDRx2
namespace Go.Proofs.Ytkffeglkbpfndaa.XDR
open Go.Proofs.YtkffeglkbpfndaaV Go.Proofs.YtkffeglkbpfndaaS
open Go.RowKit Go.Proofs.YtkffeglkbpfndaaW.PrintWords Go.Proofs.YtkffeglkbpfndaaW.PrintLast Go.Proofs.YtkffeglkbpfndaaW.PrintMore
attribute [local go_sem] max2_int min2_int max_two min_two max_three min_three max_four min_four   -- for this text's walks alone
set_option linter.unusedVariables false
set_option linter.unusedSimpArgs false

/-! ### barrowref02_Stream_Pick: function 18 -/
mutual
def barrowref02_Stream_Pick.l0 : Nat → (List Int) → (List Int) → Int → Int → Option (Int × Bool × (List Int))
  | 0, _, _, _, _ => none
  | k + 1, s0_0, l1, x6_0, x7_0 => if x7_0 < (l1.length : Int) then (if 0 ≤ x7_0 then (if (rd l1 x7_0) < 0 then (some (0, false, s0_0)) else (if (rd l1 x7_0) > (wrap64 (4294967296 - x6_0)) then (some (0, false, s0_0)) else (barrowref02_Stream_Pick.l0 k s0_0 l1 (wrap64 (x6_0 + (rd l1 x7_0))) (wrap64 (x7_0 + 1))))) else (none)) else ((barrowref02_Stream_Below.f k s0_0 x6_0).bind fun bt308 => (barrowref02_Stream_Pick.l1 k l1 bt308.1 bt308.2.1 bt308.2.2 0 0))
def barrowref02_Stream_Pick.l1 : Nat → (List Int) → Int → Bool → (List Int) → Int → Int → Option (Int × Bool × (List Int))
  | 0, _, _, _, _, _, _ => none
  | k + 1, l1, t308, t309, t310, x10_1, x11_1 => if x11_1 < (l1.length : Int) then (if t309 = true then (if 0 ≤ x11_1 then (if (wrap64 (x10_1 + (rd l1 x11_1))) > t308 then (some (x11_1, true, t310)) else (barrowref02_Stream_Pick.l1 k l1 t308 t309 t310 (wrap64 (x10_1 + (rd l1 x11_1))) (wrap64 (x11_1 + 1)))) else (none)) else (some (0, false, t310))) else (some (0, false, t310))
end
def barrowref02_Stream_Pick.f (k : Nat) (s0_0 : List Int) (l1 : List Int) : Option (Int × Bool × (List Int)) := barrowref02_Stream_Pick.l0 k s0_0 l1 0 0
theorem barrowref02_Stream_Pick.mono_l : ∀ k, (∀ y0 y1 y2 y3, LeO (barrowref02_Stream_Pick.l0 k y0 y1 y2 y3) (barrowref02_Stream_Pick.l0 (k + 1) y0 y1 y2 y3)) ∧ (∀ y0 y1 y2 y3 y4 y5, LeO (barrowref02_Stream_Pick.l1 k y0 y1 y2 y3 y4 y5) (barrowref02_Stream_Pick.l1 (k + 1) y0 y1 y2 y3 y4 y5))
  | 0 => ⟨fun _ _ _ _ r h => by simp [barrowref02_Stream_Pick.l0] at h, fun _ _ _ _ _ _ r h => by simp [barrowref02_Stream_Pick.l1] at h⟩
  | k + 1 => by
    obtain ⟨ih0, ih1⟩ := barrowref02_Stream_Pick.mono_l k
    refine ⟨?_, ?_⟩
    · intro y0 y1 y2 y3
      unfold barrowref02_Stream_Pick.l0
      repeat' first
      | (with_reducible exact ih0 _ _ _ _)
      | (with_reducible exact ih1 _ _ _ _ _ _)
      | (with_reducible exact barrowref02_Stream_Below.mono _ _ _)
      | (with_reducible exact LeO.refl _)
      | (with_reducible exact LeO.none _)
      | (with_reducible refine LeO.ite ?_ ?_)
      | (with_reducible refine LeO.bind ?_ (fun _ => ?_))
      | exact ih0 _ _ _ _
      | exact ih1 _ _ _ _ _ _
      | exact barrowref02_Stream_Below.mono _ _ _
      | exact LeO.none _
      | refine LeO.ite ?_ ?_
      | refine LeO.bind ?_ (fun _ => ?_)
    · intro y0 y1 y2 y3 y4 y5
      unfold barrowref02_Stream_Pick.l1
      repeat' first
      | (with_reducible exact ih0 _ _ _ _)
      | (with_reducible exact ih1 _ _ _ _ _ _)
      | (with_reducible exact barrowref02_Stream_Below.mono _ _ _)
      | (with_reducible exact LeO.refl _)
      | (with_reducible exact LeO.none _)
      | (with_reducible refine LeO.ite ?_ ?_)
      | (with_reducible refine LeO.bind ?_ (fun _ => ?_))
      | exact ih0 _ _ _ _
      | exact ih1 _ _ _ _ _ _
      | exact barrowref02_Stream_Below.mono _ _ _
      | exact LeO.none _
      | refine LeO.ite ?_ ?_
      | refine LeO.bind ?_ (fun _ => ?_)
theorem barrowref02_Stream_Pick.mono : ∀ a0 a1 k, LeO (barrowref02_Stream_Pick.f k a0 a1) (barrowref02_Stream_Pick.f (k + 1) a0 a1) := by
  intro a0 a1 k
  obtain ⟨ih0, ih1⟩ := barrowref02_Stream_Pick.mono_l k
  unfold barrowref02_Stream_Pick.f
  repeat' first
      | (with_reducible exact ih0 _ _ _ _)
      | (with_reducible exact ih1 _ _ _ _ _ _)
      | (with_reducible exact barrowref02_Stream_Below.mono _ _ _)
      | (with_reducible exact LeO.refl _)
      | (with_reducible exact LeO.none _)
      | (with_reducible refine LeO.ite ?_ ?_)
      | (with_reducible refine LeO.bind ?_ (fun _ => ?_))
      | exact ih0 _ _ _ _
      | exact ih1 _ _ _ _ _ _
      | exact barrowref02_Stream_Below.mono _ _ _
      | exact LeO.none _
      | refine LeO.ite ?_ ?_
      | refine LeO.bind ?_ (fun _ => ?_)
def barrowref02_Stream_Pick.Post (b0 : Nat) (r1 : Int) (r2 : Bool) (r3 : List Int) (S : Nat → Prop) (L : List Asr) (w : World) (e : Ending) (w' : World) : Prop := ∃ (Ar2 : Option Addr) (cr2 : Nat), e = .returned (.tuple #[.int .i64 r1, .bool r2]) ∧ SL (cells b0 39 [.slice Ar2 r3.length cr2].toArray :: row (Kd.int .i64) 3 (.slice Ar2 r3.length cr2) r3 :: L) w' S ∧ Keep S w w'
set_option maxHeartbeats 8000000 in
set_option maxRecDepth 100000 in
theorem barrowref02_Stream_Pick.slcalls (k : Nat) (b0 : Nat) (As0_0 : Option Addr) (cs0_0 : Nat) (s0_0 : List Int) (A1 : Option Addr) (c1 : Nat) (l1 : List Int) (r1 : Int) (r2 : Bool) (r3 : List Int) (S : Nat → Prop) (L : List Asr) (w : World) (hf : Fresh S w) (hs : SL (cells b0 39 [.slice As0_0 s0_0.length cs0_0].toArray :: row (Kd.int .i64) 3 (.slice As0_0 s0_0.length cs0_0) s0_0 :: L) w S) (hr1 : RO S w (fun w_ => Kd.C (Kd.int .i64) w_ A1 l1.length l1)) (hc1 : l1.length ≤ c1) (h : barrowref02_Stream_Pick.f k s0_0 l1 = some (r1, r2, r3)) :
    Calls Try.prog 18 #[.pointer (some ⟨b0, 0, none⟩), .slice A1 l1.length c1] w (barrowref02_Stream_Pick.Post b0 r1 r2 r3 S L w) := by
  have HR1 := Aside0.mk hr1
  have HC1 := Aside0.mk hc1
  clear hr1 hc1
  have HF := Aside0.mk hf
  have HS := Aside0.mk hs
  have HK := Aside0.mk (Keep.refl S w)
  clear hf hs
  have H : (barrowref02_Stream_Pick.l0 k s0_0 l1 0 0) = some (r1, r2, r3) := h
  clear h
  have H' := Aside0.mk H
  clear H
  go_enter Try.func18, Try.ntmps18
  go_wp2
  have n2_ := Aside0.mk (SL.get1 (SL.get1 HS.out))
  clear HS
  have HS := n2_
  clear n2_
  go_loopg [6, 7] k (fun kq v6 v7 w' => ∃ (x6_0 : Int) (x7_0 : Int), v6 = .int .i64 x6_0 ∧ v7 = .int .i64 x7_0 ∧ Aside0 (barrowref02_Stream_Pick.l0 kq s0_0 l1 x6_0 x7_0 = some (r1, r2, r3)) ∧ Aside0 (kq ≤ k) ∧ Aside0 (SL (cells b0 39 [.slice As0_0 s0_0.length cs0_0].toArray :: row (Kd.int .i64) 3 (.slice As0_0 s0_0.length cs0_0) s0_0 :: L) w' S) ∧ Aside0 (Keep S w w'))
  case atStart => exact ⟨(0), (0), (by first | rfl | (simp; done) | (simp [*]; done)), (by first | rfl | (simp; done) | (simp [*]; done)), H', ⟨Nat.le_refl _⟩, HS, HK⟩
  case round =>
    clear H' HS HK
    obtain ⟨x6_0, x7_0, rfl, rfl, HA, HQ1, HS, HK⟩ := hrel
    cases gk with
    | zero => exact absurd HA.out (by simp [barrowref02_Stream_Pick.l0])
    | succ k1 =>
      have H := HA.out
      clear HA
      simp only [barrowref02_Stream_Pick.l0] at H
      by_cases c1 : x7_0 < (l1.length : Int)
      · rw [if_pos c1] at H
        have c1b0 : decide (x7_0 < (l1.length : Int)) = true := decide_eq_true c1
        clear c1
        by_cases c2 : 0 ≤ x7_0
        · rw [if_pos c2] at H
          have c2b0 : decide (0 ≤ x7_0) = true := decide_eq_true c2
          clear c2
          by_cases c3 : (rd l1 x7_0) < 0
          · rw [if_pos c3] at H
            have c3b0 : decide ((rd l1 x7_0) < 0) = true := decide_eq_true c3
            clear c3
            simp only [Option.some.injEq, Prod.mk.injEq] at H
            obtain ⟨rfl, rfl, rfl⟩ := H
            have pq305 : 0 ≤ (x7_0 : Int) := of_decide_eq_true (by first | (with_reducible assumption) | assumption)
            have qq305 : x7_0 < ((l1.length : Int) : Int) := of_decide_eq_true (by first | (with_reducible assumption) | assumption)
            obtain ⟨adq305, eq305, hxq305_0⟩ := Kd.at_int (RO.at_ HR1.out HK.out) x7_0 pq305 qq305
            cases eq305
            replace pq305 := eq_true pq305
            replace qq305 := eq_true qq305
            go_wp2
            go_ret2
            have n2_ := Aside0.mk (SL.get1 (SL.get1 HS.out))
            clear HS
            have HS := n2_
            clear n2_
            unfold barrowref02_Stream_Pick.Post
            exact ⟨As0_0, cs0_0, by first | rfl | (simp; done) | (simp [*]; done), HS.out, HK.out⟩
          · rw [if_neg c3] at H
            have c3b0 : decide ((rd l1 x7_0) < 0) = false := decide_eq_false c3
            clear c3
            by_cases c4 : (rd l1 x7_0) > (wrap64 (4294967296 - x6_0))
            · rw [if_pos c4] at H
              have c4b0 : decide ((wrap64 (4294967296 - x6_0)) < (rd l1 x7_0)) = true := decide_eq_true c4
              clear c4
              simp only [Option.some.injEq, Prod.mk.injEq] at H
              obtain ⟨rfl, rfl, rfl⟩ := H
              have pq305 : 0 ≤ (x7_0 : Int) := of_decide_eq_true (by first | (with_reducible assumption) | assumption)
              have qq305 : x7_0 < ((l1.length : Int) : Int) := of_decide_eq_true (by first | (with_reducible assumption) | assumption)
              obtain ⟨adq305, eq305, hxq305_0⟩ := Kd.at_int (RO.at_ HR1.out HK.out) x7_0 pq305 qq305
              cases eq305
              replace pq305 := eq_true pq305
              replace qq305 := eq_true qq305
              have pq306 : 0 ≤ (x7_0 : Int) := of_decide_eq_true (by first | (with_reducible assumption) | assumption)
              have qq306 : x7_0 < ((l1.length : Int) : Int) := of_decide_eq_true (by first | (with_reducible assumption) | assumption)
              obtain ⟨adq306, eq306, hxq306_0⟩ := Kd.at_int (RO.at_ HR1.out HK.out) x7_0 pq306 qq306
              obtain rfl : adq305 = adq306 := (by injection eq306)
              replace pq306 := eq_true pq306
              replace qq306 := eq_true qq306
              go_wp2
              go_ret2
              have n2_ := Aside0.mk (SL.get1 (SL.get1 HS.out))
              clear HS
              have HS := n2_
              clear n2_
              unfold barrowref02_Stream_Pick.Post
              exact ⟨As0_0, cs0_0, by first | rfl | (simp; done) | (simp [*]; done), HS.out, HK.out⟩
            · rw [if_neg c4] at H
              have c4b0 : decide ((wrap64 (4294967296 - x6_0)) < (rd l1 x7_0)) = false := decide_eq_false c4
              clear c4
              have H' := Aside0.mk H
              clear H
              have pq305 : 0 ≤ (x7_0 : Int) := of_decide_eq_true (by first | (with_reducible assumption) | assumption)
              have qq305 : x7_0 < ((l1.length : Int) : Int) := of_decide_eq_true (by first | (with_reducible assumption) | assumption)
              obtain ⟨adq305, eq305, hxq305_0⟩ := Kd.at_int (RO.at_ HR1.out HK.out) x7_0 pq305 qq305
              cases eq305
              replace pq305 := eq_true pq305
              replace qq305 := eq_true qq305
              have pq306 : 0 ≤ (x7_0 : Int) := of_decide_eq_true (by first | (with_reducible assumption) | assumption)
              have qq306 : x7_0 < ((l1.length : Int) : Int) := of_decide_eq_true (by first | (with_reducible assumption) | assumption)
              obtain ⟨adq306, eq306, hxq306_0⟩ := Kd.at_int (RO.at_ HR1.out HK.out) x7_0 pq306 qq306
              obtain rfl : adq305 = adq306 := (by injection eq306)
              replace pq306 := eq_true pq306
              replace qq306 := eq_true qq306
              have pq307 : 0 ≤ (x7_0 : Int) := of_decide_eq_true (by first | (with_reducible assumption) | assumption)
              have qq307 : x7_0 < ((l1.length : Int) : Int) := of_decide_eq_true (by first | (with_reducible assumption) | assumption)
              obtain ⟨adq307, eq307, hxq307_0⟩ := Kd.at_int (RO.at_ HR1.out HK.out) x7_0 pq307 qq307
              obtain rfl : adq305 = adq307 := (by injection eq307)
              replace pq307 := eq_true pq307
              replace qq307 := eq_true qq307
              go_wp2
              have n2_ := Aside0.mk (SL.get1 (SL.get1 HS.out))
              clear HS
              have HS := n2_
              clear n2_
              go_roundg k1
              case measure => have := HQ1.out; omega
              case rel => exact ⟨(wrap64 (x6_0 + (rd l1 x7_0))), (wrap64 (x7_0 + 1)), (by first | rfl | (simp; done) | (simp [*]; done)), (by first | rfl | (simp; done) | (simp [*]; done)), H', ⟨by have := HQ1.out; omega⟩, HS, HK⟩
        · rw [if_neg c2] at H
          exact absurd H (by simp)
      · rw [if_neg c1] at H
        have c1b0 : decide (x7_0 < (l1.length : Int)) = false := decide_eq_false c1
        clear c1
        replace H := Option.bind_eq_some_iff.1 H
        obtain ⟨⟨t308, t309, t310⟩, Hc50, H⟩ := H
        try dsimp only at H
        have Hc5 := Aside0.mk Hc50
        clear Hc50
        have H' := Aside0.mk H
        clear H
        go_wp2_with (first | ((with_reducible refine gate_dst (N := 41) rfl ?_); refine goesL_ (some 41) rfl rfl Try.func16 (by kernel_rfl) rfl #[.pointer (some ⟨b0, 0, none⟩), .int .i64 x6_0] rfl (by (try simp only [List.map_toArray, List.map_cons, List.map_nil]); first | done | rfl | (simp; done)) ?_; have hs0_ := (SL.get1 (SL.get1 HS.out)); (with_reducible refine (barrowref02_Stream_Below.slcalls k1 _ _ _ _ _ _ _ _ _ _ _ (HF.out.keep HK.out) hs0_  Hc5.out).mono ?_); rintro e_ w6 ⟨A311, c312, rfl, hsr_, hkr_⟩; refine ⟨_, rfl, ?_⟩; have n1_ := Aside0.mk (HK.out.trans hkr_); have n2_ := Aside0.mk (hsr_); clear HK HS; have HK := n1_; have HS := n2_; clear n1_ n2_))
        have n2_ := Aside0.mk (SL.get1 (SL.get1 HS.out))
        clear HS
        have HS := n2_
        clear n2_
        go_loopg [10, 11] k1 (fun kq v10 v11 w' => ∃ (x10_1 : Int) (x11_1 : Int), v10 = .int .i64 x10_1 ∧ v11 = .int .i64 x11_1 ∧ Aside0 (barrowref02_Stream_Pick.l1 kq l1 t308 t309 t310 x10_1 x11_1 = some (r1, r2, r3)) ∧ Aside0 (kq ≤ k1) ∧ Aside0 (SL (cells b0 39 [.slice A311 t310.length c312].toArray :: row (Kd.int .i64) 3 (.slice A311 t310.length c312) t310 :: L) w' S) ∧ Aside0 (Keep S w w'))
        case atStart => exact ⟨(0), (0), (by first | rfl | (simp; done) | (simp [*]; done)), (by first | rfl | (simp; done) | (simp [*]; done)), H', ⟨Nat.le_refl _⟩, HS, HK⟩
        case round =>
          clear H' HS HK
          obtain ⟨x10_1, x11_1, rfl, rfl, HA, HQ2, HS, HK⟩ := hrel
          cases gk with
          | zero => exact absurd HA.out (by simp [barrowref02_Stream_Pick.l1])
          | succ k2 =>
            have H := HA.out
            clear HA
            simp only [barrowref02_Stream_Pick.l1] at H
            by_cases c7 : x11_1 < (l1.length : Int)
            · rw [if_pos c7] at H
              have c7b0 : decide (x11_1 < (l1.length : Int)) = true := decide_eq_true c7
              clear c7
              by_cases c8 : t309 = true
              · subst c8
                rw [if_pos rfl] at H
                by_cases c9 : 0 ≤ x11_1
                · rw [if_pos c9] at H
                  have c9b0 : decide (0 ≤ x11_1) = true := decide_eq_true c9
                  clear c9
                  by_cases c10 : (wrap64 (x10_1 + (rd l1 x11_1))) > t308
                  · rw [if_pos c10] at H
                    have c10b0 : decide (t308 < (wrap64 (x10_1 + (rd l1 x11_1)))) = true := decide_eq_true c10
                    clear c10
                    simp only [Option.some.injEq, Prod.mk.injEq] at H
                    obtain ⟨rfl, rfl, rfl⟩ := H
                    have pq313 : 0 ≤ (x11_1 : Int) := of_decide_eq_true (by first | (with_reducible assumption) | assumption)
                    have qq313 : x11_1 < ((l1.length : Int) : Int) := of_decide_eq_true (by first | (with_reducible assumption) | assumption)
                    obtain ⟨adq313, eq313, hxq313_0⟩ := Kd.at_int (RO.at_ HR1.out HK.out) x11_1 pq313 qq313
                    cases eq313
                    replace pq313 := eq_true pq313
                    replace qq313 := eq_true qq313
                    go_wp2
                    go_ret2
                    have n2_ := Aside0.mk (SL.get1 (SL.get1 HS.out))
                    clear HS
                    have HS := n2_
                    clear n2_
                    unfold barrowref02_Stream_Pick.Post
                    exact ⟨A311, c312, by first | rfl | (simp; done) | (simp [*]; done), HS.out, HK.out⟩
                  · rw [if_neg c10] at H
                    have c10b0 : decide (t308 < (wrap64 (x10_1 + (rd l1 x11_1)))) = false := decide_eq_false c10
                    clear c10
                    have H' := Aside0.mk H
                    clear H
                    have pq313 : 0 ≤ (x11_1 : Int) := of_decide_eq_true (by first | (with_reducible assumption) | assumption)
                    have qq313 : x11_1 < ((l1.length : Int) : Int) := of_decide_eq_true (by first | (with_reducible assumption) | assumption)
                    obtain ⟨adq313, eq313, hxq313_0⟩ := Kd.at_int (RO.at_ HR1.out HK.out) x11_1 pq313 qq313
                    cases eq313
                    replace pq313 := eq_true pq313
                    replace qq313 := eq_true qq313
                    go_wp2
                    have n2_ := Aside0.mk (SL.get1 (SL.get1 HS.out))
                    clear HS
                    have HS := n2_
                    clear n2_
                    go_roundg k2
                    case measure => have := HQ1.out; have := HQ2.out; omega
                    case rel => exact ⟨(wrap64 (x10_1 + (rd l1 x11_1))), (wrap64 (x11_1 + 1)), (by first | rfl | (simp; done) | (simp [*]; done)), (by first | rfl | (simp; done) | (simp [*]; done)), H', ⟨by have := HQ1.out; have := HQ2.out; omega⟩, HS, HK⟩
                · rw [if_neg c9] at H
                  exact absurd H (by simp)
              · replace c8 := Bool.eq_false_iff.mpr c8
                subst c8
                rw [if_neg (show ¬ (false = true) by decide)] at H
                simp only [Option.some.injEq, Prod.mk.injEq] at H
                obtain ⟨rfl, rfl, rfl⟩ := H
                go_wp2
                go_ret2
                have n2_ := Aside0.mk (SL.get1 (SL.get1 HS.out))
                clear HS
                have HS := n2_
                clear n2_
                unfold barrowref02_Stream_Pick.Post
                exact ⟨A311, c312, by first | rfl | (simp; done) | (simp [*]; done), HS.out, HK.out⟩
            · rw [if_neg c7] at H
              have c7b0 : decide (x11_1 < (l1.length : Int)) = false := decide_eq_false c7
              clear c7
              simp only [Option.some.injEq, Prod.mk.injEq] at H
              obtain ⟨rfl, rfl, rfl⟩ := H
              go_wp2
              go_ret2
              have n2_ := Aside0.mk (SL.get1 (SL.get1 HS.out))
              clear HS
              have HS := n2_
              clear n2_
              unfold barrowref02_Stream_Pick.Post
              exact ⟨A311, c312, by first | rfl | (simp; done) | (simp [*]; done), HS.out, HK.out⟩

-- NOT PRINTED: function 19 (draw_Stream_Deal)

-- NOT PRINTED: function 20 (barrowref02_Stream_Deal)

/-! ### barrowref02_Same: function 21 -/
def barrowref02_Same.l0 : Nat → List Int → List Int → Int → Option (Bool)
  | 0, _, _, _ => none
  | k + 1, x0, x1, x5 => if x5 < (x0.length : Int) then (if 0 ≤ x5 then (if x5 < (x1.length : Int) then (if (rd x0 x5) = (rd x1 x5) then (barrowref02_Same.l0 k x0 x1 (wrap64 (x5 + 1))) else (some false)) else (none)) else (none)) else (some true)
def barrowref02_Same.f (k : Nat) (l0 : List Int) (l1 : List Int) : Option (Bool) := if (l0.length : Int) = (l1.length : Int) then (barrowref02_Same.l0 k l0 l1 0) else (some false)
theorem barrowref02_Same.mono_l : ∀ k, (∀ y0 y1 y2, LeO (barrowref02_Same.l0 k y0 y1 y2) (barrowref02_Same.l0 (k + 1) y0 y1 y2))
  | 0 => fun _ _ _ r h => by simp [barrowref02_Same.l0] at h
  | k + 1 => by
    have ih0 := barrowref02_Same.mono_l k
    · intro y0 y1 y2
      unfold barrowref02_Same.l0
      repeat' first
      | (with_reducible exact ih0 _ _ _)
      | (with_reducible exact LeO.refl _)
      | (with_reducible exact LeO.none _)
      | (with_reducible refine LeO.ite ?_ ?_)
      | (with_reducible refine LeO.bind ?_ (fun _ => ?_))
      | exact ih0 _ _ _
      | exact LeO.none _
      | refine LeO.ite ?_ ?_
      | refine LeO.bind ?_ (fun _ => ?_)
theorem barrowref02_Same.mono : ∀ a0 a1 k, LeO (barrowref02_Same.f k a0 a1) (barrowref02_Same.f (k + 1) a0 a1) := by
  intro a0 a1 k
  have ih0 := barrowref02_Same.mono_l k
  unfold barrowref02_Same.f
  repeat' first
      | (with_reducible exact ih0 _ _ _)
      | (with_reducible exact LeO.refl _)
      | (with_reducible exact LeO.none _)
      | (with_reducible refine LeO.ite ?_ ?_)
      | (with_reducible refine LeO.bind ?_ (fun _ => ?_))
      | exact ih0 _ _ _
      | exact LeO.none _
      | refine LeO.ite ?_ ?_
      | refine LeO.bind ?_ (fun _ => ?_)
set_option maxHeartbeats 8000000 in
set_option maxRecDepth 100000 in
theorem barrowref02_Same.calls (k : Nat) (A0 : Option Addr) (c0 : Nat) (l0 : List Int) (A1 : Option Addr) (c1 : Nat) (l1 : List Int) (r : Bool) (w : World) (hr0 : Kd.C (Kd.int .i64) w A0 l0.length l0) (hc0 : l0.length ≤ c0) (hr1 : Kd.C (Kd.int .i64) w A1 l1.length l1) (hc1 : l1.length ≤ c1) (h : barrowref02_Same.f k l0 l1 = some r) :
    Calls Try.prog 21 #[.slice A0 l0.length c0, .slice A1 l1.length c1] w fun e w' => e = .returned (.bool r) ∧ Drawn0 w w' := by
  have HR0 := Aside0.mk hr0
  have HC0 := Aside0.mk hc0
  clear hr0 hc0
  have HR1 := Aside0.mk hr1
  have HC1 := Aside0.mk hc1
  clear hr1 hc1
  have H : (if (l0.length : Int) = (l1.length : Int) then (barrowref02_Same.l0 k l0 l1 0) else (some false)) = some r := h
  clear h
  by_cases c3 : (l0.length : Int) = (l1.length : Int)
  · rw [if_pos c3] at H
    have c3b0 : ((l0.length : Int) == (l1.length : Int)) = true := beq_iff_eq.mpr c3
    have c3b1 : ((l0.length : Int) != (l1.length : Int)) = false := bne_eq_false_iff_eq.mpr c3
    have c3b2 : (l0.length == l1.length) = true := by first | simpa using c3 | (simp at c3 ⊢; omega)
    clear c3
    have H' := Aside0.mk H
    clear H
    go_enter Try.func21, Try.ntmps21
    go_wp2
    repeat (go_quiet (fail); try go_wp2)
    go_loopg [5] k (fun kq v5 w' => ∃ (x5_1 : Int), v5 = .int .i64 x5_1 ∧ Aside0 (barrowref02_Same.l0 kq l0 l1 x5_1 = some r) ∧ Aside0 (kq ≤ k) ∧ Drawn0 w w')
    case atStart => exact ⟨(0), (by first | rfl | (simp; done) | (simp [*]; done)), H', ⟨Nat.le_refl _⟩, by repeat (first | exact Drawn0.refl _ | apply Drawn0.step)⟩
    case round =>
      clear H'
      try clear c1
      try clear c2
      try clear p2
      try clear c3
      try clear c3b0
      try clear c3b1
      try clear c3b2
      obtain ⟨x5_1, rfl, HA, HK1, ⟨m1, rfl⟩⟩ := hrel
      cases gk with
      | zero => exact absurd HA.out (by simp [barrowref02_Same.l0])
      | succ k1 =>
        have H := HA.out
        clear HA
        simp only [barrowref02_Same.l0] at H
        by_cases c4 : x5_1 < (l0.length : Int)
        · rw [if_pos c4] at H
          have c4b0 : decide (x5_1 < (l0.length : Int)) = true := decide_eq_true c4
          clear c4
          by_cases c5 : 0 ≤ x5_1
          · rw [if_pos c5] at H
            have c5b0 : decide (0 ≤ x5_1) = true := decide_eq_true c5
            clear c5
            by_cases c6 : x5_1 < (l1.length : Int)
            · rw [if_pos c6] at H
              have c6b0 : decide (x5_1 < (l1.length : Int)) = true := decide_eq_true c6
              clear c6
              by_cases c7 : (rd l0 x5_1) = (rd l1 x5_1)
              · rw [if_pos c7] at H
                have c7b0 : ((rd l0 x5_1) == (rd l1 x5_1)) = true := beq_iff_eq.mpr c7
                have c7b1 : ((rd l0 x5_1) != (rd l1 x5_1)) = false := bne_eq_false_iff_eq.mpr c7
                clear c7
                have H' := Aside0.mk H
                clear H
                have p352 : 0 ≤ (x5_1 : Int) := of_decide_eq_true (by first | (with_reducible assumption) | assumption)
                have q352 : x5_1 < (l0.length : Int) := of_decide_eq_true (by first | (with_reducible assumption) | assumption)
                obtain ⟨ad352, e352, hx352_0⟩ := Kd.at_int HR0.out x5_1 p352 q352
                cases e352
                replace p352 := eq_true p352
                replace q352 := eq_true q352
                have p353 : 0 ≤ (x5_1 : Int) := of_decide_eq_true (by first | (with_reducible assumption) | assumption)
                have q353 : x5_1 < (l1.length : Int) := of_decide_eq_true (by first | (with_reducible assumption) | assumption)
                obtain ⟨ad353, e353, hx353_0⟩ := Kd.at_int HR1.out x5_1 p353 q353
                cases e353
                replace p353 := eq_true p353
                replace q353 := eq_true q353
                go_wp2
                repeat (go_quiet (fail); try go_wp2)
                go_roundg k1
                case measure => have := HK1.out; omega
                case rel => exact ⟨(wrap64 (x5_1 + 1)), (by first | rfl | (simp; done) | (simp [*]; done)), H', ⟨by have := HK1.out; omega⟩, by repeat (first | exact Drawn0.refl _ | apply Drawn0.step)⟩
              · rw [if_neg c7] at H
                have c7b0 : ((rd l0 x5_1) == (rd l1 x5_1)) = false := beq_eq_false_iff_ne.mpr c7
                have c7b1 : ((rd l0 x5_1) != (rd l1 x5_1)) = true := bne_iff_ne.mpr c7
                obtain rfl := Option.some.inj H
                have p352 : 0 ≤ (x5_1 : Int) := of_decide_eq_true (by first | (with_reducible assumption) | assumption)
                have q352 : x5_1 < (l0.length : Int) := of_decide_eq_true (by first | (with_reducible assumption) | assumption)
                obtain ⟨ad352, e352, hx352_0⟩ := Kd.at_int HR0.out x5_1 p352 q352
                cases e352
                replace p352 := eq_true p352
                replace q352 := eq_true q352
                have p353 : 0 ≤ (x5_1 : Int) := of_decide_eq_true (by first | (with_reducible assumption) | assumption)
                have q353 : x5_1 < (l1.length : Int) := of_decide_eq_true (by first | (with_reducible assumption) | assumption)
                obtain ⟨ad353, e353, hx353_0⟩ := Kd.at_int HR1.out x5_1 p353 q353
                cases e353
                replace p353 := eq_true p353
                replace q353 := eq_true q353
                go_wp2
                repeat (go_quiet (fail); try go_wp2)
                go_ret
                exact ⟨by first | rfl | (simp; done) | (simp [*]; done), by repeat (first | exact Drawn0.refl _ | apply Drawn0.step)⟩
            · rw [if_neg c6] at H
              exact absurd H (by simp)
          · rw [if_neg c5] at H
            exact absurd H (by simp)
        · rw [if_neg c4] at H
          have c4b0 : decide (x5_1 < (l0.length : Int)) = false := decide_eq_false c4
          clear c4
          obtain rfl := Option.some.inj H
          go_wp2
          repeat (go_quiet (fail); try go_wp2)
          go_ret
          exact ⟨by first | rfl | (simp; done) | (simp [*]; done), by repeat (first | exact Drawn0.refl _ | apply Drawn0.step)⟩
  · rw [if_neg c3] at H
    have c3b0 : ((l0.length : Int) == (l1.length : Int)) = false := beq_eq_false_iff_ne.mpr c3
    have c3b1 : ((l0.length : Int) != (l1.length : Int)) = true := bne_iff_ne.mpr c3
    have c3b2 : (l0.length == l1.length) = false := by first | simpa using c3 | (simp at c3 ⊢; omega)
    obtain rfl := Option.some.inj H
    go_enter Try.func21, Try.ntmps21
    go_wp2
    repeat (go_quiet (fail); try go_wp2)
    go_ret
    exact ⟨by first | rfl | (simp; done) | (simp [*]; done), by repeat (first | exact Drawn0.refl _ | apply Drawn0.step)⟩

-- NOT PRINTED: function 6 (barrowlaw02_DrawPlays)

-- NOT PRINTED: function 7 (barrowlaw02_DrawDeals)

end Go.Proofs.Ytkffeglkbpfndaa.XDR
