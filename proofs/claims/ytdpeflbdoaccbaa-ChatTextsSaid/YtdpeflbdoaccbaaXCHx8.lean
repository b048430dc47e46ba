-- Written by xprint.py (a program of this session) for this claim
import Derived.Test.YtdpeflbdoaccbaaSL7
import Derived.Test.YtdpeflbdoaccbaaSL5
import Derived.Test.YtdpeflbdoaccbaaXCHx0
import Derived.Test.YtdpeflbdoaccbaaXCHx6
import Derived.Test.YtdpeflbdoaccbaaXCHx7
namespace Go.Proofs.Ytdpeflbdoaccbaa.XCH
open Go.Proofs.YtdpeflbdoaccbaaV Go.Proofs.YtdpeflbdoaccbaaS
open Go.RowKit Go.Proofs.YtdpeflbdoaccbaaW.PrintWords Go.Proofs.YtdpeflbdoaccbaaW.PrintLast Go.Proofs.YtdpeflbdoaccbaaW.PrintMore
attribute [local go_sem] max2_int min2_int max_two min_two max_three min_three max_four min_four   -- for this text's walks alone
set_option linter.unusedVariables false
set_option linter.unusedSimpArgs false

/-! ### chat_Words: function 19 -/
def chat_Words.l0 : Nat → (List Int) → (List ByteArray) → Int → Int → Option ((List ByteArray))
  | 0, _, _, _, _ => none
  | k + 1, t248, x3_0, x5_0, x12_0 => if x12_0 < (wrap64 ((t248.length : Int) + 1)) then (if x12_0 < (t248.length : Int) then (if 0 ≤ x12_0 then ((chat_letter.f (rd t248 x12_0)).bind fun t250 => (if t250 = true then (chat_Words.l0 k t248 x3_0 x5_0 (wrap64 (x12_0 + 1))) else (if x12_0 > x5_0 then (if 0 ≤ x5_0 then (if x5_0 ≤ x12_0 then (if x12_0 ≤ (t248.length : Int) then ((some ((t248.drop (x5_0).toNat).take ((x12_0).toNat - (x5_0).toNat) : List Int)).bind fun y251 => ((some (([strOfNums y251] : List ByteArray) : List ByteArray)).bind fun y255 => (if x3_0.length + y255.length < 8796093022208 then ((some (x3_0 ++ y255 : List ByteArray)).bind fun y256 => (chat_Words.l0 k t248 y256 (wrap64 (x12_0 + 1)) (wrap64 (x12_0 + 1)))) else (none)))) else (none)) else (none)) else (none)) else (chat_Words.l0 k t248 x3_0 (wrap64 (x12_0 + 1)) (wrap64 (x12_0 + 1)))))) else (none)) else (if x12_0 > x5_0 then (if 0 ≤ x5_0 then (if x5_0 ≤ x12_0 then (if x12_0 ≤ (t248.length : Int) then ((some ((t248.drop (x5_0).toNat).take ((x12_0).toNat - (x5_0).toNat) : List Int)).bind fun y259 => ((some (([strOfNums y259] : List ByteArray) : List ByteArray)).bind fun y263 => (if x3_0.length + y263.length < 8796093022208 then ((some (x3_0 ++ y263 : List ByteArray)).bind fun y264 => (chat_Words.l0 k t248 y264 (wrap64 (x12_0 + 1)) (wrap64 (x12_0 + 1)))) else (none)))) else (none)) else (none)) else (none)) else (chat_Words.l0 k t248 x3_0 (wrap64 (x12_0 + 1)) (wrap64 (x12_0 + 1))))) else (some x3_0)
def chat_Words.f (k : Nat) (a0 : ByteArray) : Option ((List ByteArray)) := (chat_lowered.f k a0).bind fun t248 => (chat_Words.l0 k t248 ([] : List ByteArray) 0 0)
theorem chat_Words.mono_l : ∀ k, (∀ y0 y1 y2 y3, LeO (chat_Words.l0 k y0 y1 y2 y3) (chat_Words.l0 (k + 1) y0 y1 y2 y3))
  | 0 => fun _ _ _ _ r h => by simp [chat_Words.l0] at h
  | k + 1 => by
    have ih0 := chat_Words.mono_l k
    · intro y0 y1 y2 y3
      unfold chat_Words.l0
      repeat' first
      | (with_reducible exact ih0 _ _ _ _)
      | (with_reducible exact chat_lowered.mono _ _)
      | (with_reducible exact LeO.refl _)
      | (with_reducible exact LeO.none _)
      | (with_reducible refine LeO.ite ?_ ?_)
      | (with_reducible refine everyOf_le (fun _ => ?_))
      | (with_reducible refine LeO.bind ?_ (fun _ => ?_))
      | exact ih0 _ _ _ _
      | exact chat_lowered.mono _ _
      | exact LeO.none _
      | refine LeO.ite ?_ ?_
      | refine LeO.bind ?_ (fun _ => ?_)
theorem chat_Words.mono : ∀ a0 k, LeO (chat_Words.f k a0) (chat_Words.f (k + 1) a0) := by
  intro a0 k
  have ih0 := chat_Words.mono_l k
  unfold chat_Words.f
  repeat' first
      | (with_reducible exact ih0 _ _ _ _)
      | (with_reducible exact chat_lowered.mono _ _)
      | (with_reducible exact LeO.refl _)
      | (with_reducible exact LeO.none _)
      | (with_reducible refine LeO.ite ?_ ?_)
      | (with_reducible refine everyOf_le (fun _ => ?_))
      | (with_reducible refine LeO.bind ?_ (fun _ => ?_))
      | exact ih0 _ _ _ _
      | exact chat_lowered.mono _ _
      | exact LeO.none _
      | refine LeO.ite ?_ ?_
      | refine LeO.bind ?_ (fun _ => ?_)
def chat_Words.Post (r : List ByteArray) (S : Nat → Prop) (L : List Asr) (w : World) (e : Ending) (w' : World) : Prop := ∃ (Ar1 : Option Addr) (cr1 : Nat), e = .returned (.slice Ar1 r.length cr1) ∧ SL (row Kd.string 9 (.slice Ar1 r.length cr1) r :: L) w' S ∧ Keep S w w'
set_option maxHeartbeats 8000000 in
set_option maxRecDepth 100000 in
theorem chat_Words.slcalls (k : Nat) (a0 : ByteArray) (r : List ByteArray) (S : Nat → Prop) (L : List Asr) (w : World) (hf : Fresh S w) (hs : SL (L) w S) (h : chat_Words.f k a0 = some r) :
    Calls Try.prog 19 #[.string a0] w (chat_Words.Post r S L w) := by
  have HF := Aside0.mk hf
  have HS := Aside0.mk hs
  have HK := Aside0.mk (Keep.refl S w)
  clear hf hs
  have H : ((chat_lowered.f k a0).bind fun t248 => (chat_Words.l0 k t248 ([] : List ByteArray) 0 0)) = some r := h
  clear h
  replace H := Option.bind_eq_some_iff.1 H
  obtain ⟨t248, Hc10, H⟩ := H
  try dsimp only at H
  have Hc1 := Aside0.mk Hc10
  clear Hc10
  have H' := Aside0.mk H
  clear H
  go_enter Try.func19, Try.ntmps19
  go_wp2_with (first | ((with_reducible refine gate_dst (N := 8) rfl ?_); refine goesL_ (some 8) rfl rfl Try.func29 (by kernel_rfl) rfl #[.string a0] rfl (by (try simp only [List.map_toArray, List.map_cons, List.map_nil]); first | done | rfl | (simp; done)) ?_; have hs0_ := HS.out; (with_reducible refine (chat_lowered.slcalls k _ _ _ _ _ (HF.out.keep HK.out) hs0_  Hc1.out).mono ?_); rintro e_ w2 ⟨Az3000024, cz3000024, rfl, hsr_, hkr_⟩; refine ⟨_, rfl, ?_⟩; replace HS := Aside0.mk (hsr_); replace HK := Aside0.mk (HK.out.trans hkr_); have n2_ := Aside0.mk (SL.nil_row Kd.string 9 HS.out); clear HS; have HS := n2_; clear n2_))
  try go_simp
  go_loopg [3, 5, 12] k (fun kq v3 v5 v12 w' => ∃ (x3_0 : List ByteArray) (Ax3_0 : Option Addr) (cx3_0 : Nat) (x5_0 : Int) (x12_0 : Int), v3 = .slice Ax3_0 x3_0.length cx3_0 ∧ v5 = .int .i64 x5_0 ∧ v12 = .int .i64 x12_0 ∧ Aside0 (chat_Words.l0 kq t248 x3_0 x5_0 x12_0 = some r) ∧ Aside0 (kq ≤ k) ∧ Aside0 (SL (row Kd.string 9 (.slice Ax3_0 x3_0.length cx3_0) x3_0 :: rowM 5 (.slice Az3000024 t248.length cz3000024) t248 :: L) w' S) ∧ Aside0 (Keep S w w'))
  case atStart => exact ⟨(([] : List ByteArray)), (none), (0), (0), (0), (by first | rfl | (simp; done) | (simp [*]; done)), (by first | rfl | (simp; done) | (simp [*]; done)), (by first | rfl | (simp; done) | (simp [*]; done)), H', ⟨Nat.le_refl _⟩, HS, HK⟩
  case round =>
    clear H' HS HK
    obtain ⟨x3_0, Ax3_0, cx3_0, x5_0, x12_0, rfl, rfl, rfl, HA, HQ1, HS, HK⟩ := hrel
    cases gk with
    | zero => exact absurd HA.out (by simp [chat_Words.l0])
    | succ k1 =>
      have H := HA.out
      clear HA
      simp only [chat_Words.l0] at H
      by_cases c3 : x12_0 < (wrap64 ((t248.length : Int) + 1))
      · rw [if_pos c3] at H
        have c3b0 : decide (x12_0 < (wrap64 ((t248.length : Int) + 1))) = true := decide_eq_true c3
        clear c3
        by_cases c4 : x12_0 < (t248.length : Int)
        · rw [if_pos c4] at H
          have c4b0 : decide (x12_0 < (t248.length : Int)) = true := decide_eq_true c4
          clear c4
          by_cases c5 : 0 ≤ x12_0
          · rw [if_pos c5] at H
            have c5b0 : decide (0 ≤ x12_0) = true := decide_eq_true c5
            clear c5
            replace H := Option.bind_eq_some_iff.1 H
            obtain ⟨t250, Hc60, H⟩ := H
            try dsimp only at H
            have Hc6 := Aside0.mk Hc60
            clear Hc60
            by_cases c7 : t250 = true
            · subst c7
              rw [if_pos rfl] at H
              have H' := Aside0.mk H
              clear H
              have pq249 : 0 ≤ (x12_0 : Int) := of_decide_eq_true (by first | (with_reducible assumption) | assumption)
              have qq249 : x12_0 < ((t248.length : Int) : Int) := of_decide_eq_true (by first | (with_reducible assumption) | assumption)
              obtain ⟨adq249, eq249, hxq249_0⟩ := Kd.at_int (rowM_c (SL.get1 HS.out)).2.2 x12_0 pq249 qq249
              cases eq249
              replace pq249 := eq_true pq249
              replace qq249 := eq_true qq249
              go_wp2_with (first | ((with_reducible refine gate_dst (N := 24) rfl ?_); (try (refine gate_guard (by rfl) ?_; dsimp only)); refine goesL_ (some 24) rfl rfl Try.func32 (by kernel_rfl) rfl #[.int .u8 (rd t248 x12_0)] rfl (by (try simp only [List.map_toArray, List.map_cons, List.map_nil]); first | done | rfl | (simp; done)) ?_; (with_reducible refine (chat_letter.calls _ _ _  Hc6.out).mono ?_); rintro e_ w8 ⟨rfl, hb_⟩; refine ⟨_, rfl, ?_⟩; replace hb_ := Drawn0.below hb_; replace HS := Aside0.mk (HS.out.below hb_); replace HK := Aside0.mk (HK.out.trans (Keep.below hb_))))
              go_roundg k1
              case measure => have := HQ1.out; omega
              case rel => exact ⟨(x3_0), (Ax3_0), (cx3_0), (x5_0), (wrap64 (x12_0 + 1)), (by first | rfl | (simp; done) | (simp [*]; done)), (by first | rfl | (simp; done) | (simp [*]; done)), (by first | rfl | (simp; done) | (simp [*]; done)), H', ⟨by have := HQ1.out; omega⟩, HS, HK⟩
            · replace c7 := Bool.eq_false_iff.mpr c7
              subst c7
              rw [if_neg (show ¬ (false = true) by decide)] at H
              by_cases c9 : x12_0 > x5_0
              · rw [if_pos c9] at H
                have c9b0 : decide (x5_0 < x12_0) = true := decide_eq_true c9
                clear c9
                by_cases c10 : 0 ≤ x5_0
                · rw [if_pos c10] at H
                  have c10b0 := eq_true c10
                  have c10b1 : decide (0 ≤ x5_0) = true := decide_eq_true c10
                  clear c10
                  by_cases c11 : x5_0 ≤ x12_0
                  · rw [if_pos c11] at H
                    have c11b0 := eq_true c11
                    have c11b1 : decide (x5_0 ≤ x12_0) = true := decide_eq_true c11
                    clear c11
                    by_cases c12 : x12_0 ≤ (t248.length : Int)
                    · rw [if_pos c12] at H
                      have c12b0 := eq_true c12
                      have c12b1 : decide (x12_0 ≤ (t248.length : Int)) = true := decide_eq_true c12
                      clear c12
                      replace H := Option.bind_eq_some_iff.1 H
                      obtain ⟨y251, hy2510, H⟩ := H
                      try dsimp only at H
                      have hy251 := Option.some.inj hy2510
                      clear hy2510
                      have Ny251 := Aside0.mk hy251
                      clear hy251
                      replace H := Option.bind_eq_some_iff.1 H
                      obtain ⟨y255, hy2550, H⟩ := H
                      try dsimp only at H
                      have hy255 := Option.some.inj hy2550
                      clear hy2550
                      have Ny255 := Aside0.mk hy255
                      clear hy255
                      by_cases c13 : x3_0.length + y255.length < 8796093022208
                      · rw [if_pos c13] at H
                        have LMc13 := Aside0.mk c13
                        clear c13
                        replace H := Option.bind_eq_some_iff.1 H
                        obtain ⟨y256, hy2560, H⟩ := H
                        try dsimp only at H
                        have hy256 := Option.some.inj hy2560
                        clear hy2560
                        have Ny256 := Aside0.mk hy256
                        clear hy256
                        have H' := Aside0.mk H
                        clear H
                        have pq249 : 0 ≤ (x12_0 : Int) := of_decide_eq_true (by first | (with_reducible assumption) | assumption)
                        have qq249 : x12_0 < ((t248.length : Int) : Int) := of_decide_eq_true (by first | (with_reducible assumption) | assumption)
                        obtain ⟨adq249, eq249, hxq249_0⟩ := Kd.at_int (rowM_c (SL.get1 HS.out)).2.2 x12_0 pq249 qq249
                        cases eq249
                        replace pq249 := eq_true pq249
                        replace qq249 := eq_true qq249
                        go_wp2_with (first | ((with_reducible refine gate_dst (N := 24) rfl ?_); (try (refine gate_guard (by rfl) ?_; dsimp only)); refine goesL_ (some 24) rfl rfl Try.func32 (by kernel_rfl) rfl #[.int .u8 (rd t248 x12_0)] rfl (by (try simp only [List.map_toArray, List.map_cons, List.map_nil]); first | done | rfl | (simp; done)) ?_; (with_reducible refine (chat_letter.calls _ _ _  Hc6.out).mono ?_); rintro e_ w14 ⟨rfl, hb_⟩; refine ⟨_, rfl, ?_⟩; replace hb_ := Drawn0.below hb_; replace HS := Aside0.mk (HS.out.below hb_); replace HK := Aside0.mk (HK.out.trans (Keep.below hb_)); obtain ⟨A252, c253, hcvq254, hcs_, hcc_, hcl_⟩ := cut_mid (P := Try.prog) (Kd.int .u8) 57 5 .i64 .i64 Try.underlying57 (by kernel_rfl) rfl (some adq249) t248.length cz3000024 t248 rfl (rowM_c (SL.get1 HS.out)).2.1 x5_0 x12_0 (of_decide_eq_true (by first | (with_reducible assumption) | assumption) : (0 : Int) ≤ (x5_0 : Int)) (of_decide_eq_true (by first | (with_reducible assumption) | assumption) : (x5_0 : Int) ≤ (x12_0 : Int)) (of_decide_eq_true (by first | (with_reducible assumption) | assumption) : (x12_0 : Int) ≤ ((t248.length : Int) : Int)) y251 Ny251.out; have HVq254 := Aside0.mk (And.intro True.intro hcc_); have HCq254 := Aside0.mk hcl_; clear hcs_ hcc_ hcl_; have hcs16 := Kd.C_string (P := Try.prog) (A := A252) (c := c253) Try.underlying57 Try.underlying5 Try.underlying9 (And.right HVq254.out _ (rowM_c (SL.get1 HS.out)).2.2)) | ((with_reducible refine gate_dst (N := 35) rfl ?_); refine wpList_plain rfl (fun K_ hK_ => ?_); refine op_row (S := S) (enc := Value.string) (h1 := fun _ => rfl) 9 y255 #[.string (strOfNums y251)] 1 (by rw [← Ny255.out]; rfl) (by rw [← Ny255.out]; rfl) (by decide) (HF.out.keep HK.out) HS.out (by first | (go_simp; done) | (go_simp; rfl)) ?_; intro Az3000025 cz3000025 w17 hs_ hk_; refine hK_ _ _ ?_; clear hK_ K_; replace HS := Aside0.mk ((show SL (row Kd.string 9 (.slice Az3000025 1 cz3000025) y255 :: _) _ _ from hs_)); replace HK := Aside0.mk (HK.out.trans hk_)) | ((with_reducible refine gate_dst (N := 36) rfl ?_); refine wpList_plain rfl (fun K_ hK_ => ?_); refine op_append (S := S) (enc := Value.string) (h1 := fun _ => rfl) (⟨#[]⟩ : ByteArray) (.tmp 29) (.tmp 35) 31 9 (.string ⟨#[]⟩) 16 rfl Try.underlying31 info9 rfl (by decide) (.slice Ax3_0 x3_0.length cx3_0) rfl rfl (HF.out.keep HK.out) (SL.get1 HS.out) (SL.row_c HS.out).2.2 (by have := LMc13.out; have e_ := (SL.row_c HS.out).1; omega) y256 Ny256.out ?_; intro A257 c258 w18 hs_ hk_; refine hK_ _ _ ?_; clear hK_ K_; replace HS := Aside0.mk ((SL.back1 (show SL (row Kd.string 9 (.slice A257 y256.length c258) y256 :: _) _ _ from hs_))); replace HK := Aside0.mk (HK.out.trans hk_)))
                        replace HS := Aside0.mk (SL.tail HS.out)
                        go_roundg k1
                        case measure => have := HQ1.out; omega
                        case rel => exact ⟨(y256), (A257), (c258), (wrap64 (x12_0 + 1)), (wrap64 (x12_0 + 1)), (by first | rfl | (simp; done) | (simp [*]; done)), (by first | rfl | (simp; done) | (simp [*]; done)), (by first | rfl | (simp; done) | (simp [*]; done)), H', ⟨by have := HQ1.out; omega⟩, HS, HK⟩
                      · rw [if_neg c13] at H
                        exact absurd H (by simp)
                    · rw [if_neg c12] at H
                      exact absurd H (by simp)
                  · rw [if_neg c11] at H
                    exact absurd H (by simp)
                · rw [if_neg c10] at H
                  exact absurd H (by simp)
              · rw [if_neg c9] at H
                have c9b0 : decide (x5_0 < x12_0) = false := decide_eq_false c9
                clear c9
                have H' := Aside0.mk H
                clear H
                have pq249 : 0 ≤ (x12_0 : Int) := of_decide_eq_true (by first | (with_reducible assumption) | assumption)
                have qq249 : x12_0 < ((t248.length : Int) : Int) := of_decide_eq_true (by first | (with_reducible assumption) | assumption)
                obtain ⟨adq249, eq249, hxq249_0⟩ := Kd.at_int (rowM_c (SL.get1 HS.out)).2.2 x12_0 pq249 qq249
                cases eq249
                replace pq249 := eq_true pq249
                replace qq249 := eq_true qq249
                go_wp2_with (first | ((with_reducible refine gate_dst (N := 24) rfl ?_); (try (refine gate_guard (by rfl) ?_; dsimp only)); refine goesL_ (some 24) rfl rfl Try.func32 (by kernel_rfl) rfl #[.int .u8 (rd t248 x12_0)] rfl (by (try simp only [List.map_toArray, List.map_cons, List.map_nil]); first | done | rfl | (simp; done)) ?_; (with_reducible refine (chat_letter.calls _ _ _  Hc6.out).mono ?_); rintro e_ w19 ⟨rfl, hb_⟩; refine ⟨_, rfl, ?_⟩; replace hb_ := Drawn0.below hb_; replace HS := Aside0.mk (HS.out.below hb_); replace HK := Aside0.mk (HK.out.trans (Keep.below hb_))))
                go_roundg k1
                case measure => have := HQ1.out; omega
                case rel => exact ⟨(x3_0), (Ax3_0), (cx3_0), (wrap64 (x12_0 + 1)), (wrap64 (x12_0 + 1)), (by first | rfl | (simp; done) | (simp [*]; done)), (by first | rfl | (simp; done) | (simp [*]; done)), (by first | rfl | (simp; done) | (simp [*]; done)), H', ⟨by have := HQ1.out; omega⟩, HS, HK⟩
          · rw [if_neg c5] at H
            exact absurd H (by simp)
        · rw [if_neg c4] at H
          have c4b0 : decide (x12_0 < (t248.length : Int)) = false := decide_eq_false c4
          clear c4
          by_cases c20 : x12_0 > x5_0
          · rw [if_pos c20] at H
            have c20b0 : decide (x5_0 < x12_0) = true := decide_eq_true c20
            clear c20
            by_cases c21 : 0 ≤ x5_0
            · rw [if_pos c21] at H
              have c21b0 := eq_true c21
              have c21b1 : decide (0 ≤ x5_0) = true := decide_eq_true c21
              clear c21
              by_cases c22 : x5_0 ≤ x12_0
              · rw [if_pos c22] at H
                have c22b0 := eq_true c22
                have c22b1 : decide (x5_0 ≤ x12_0) = true := decide_eq_true c22
                clear c22
                by_cases c23 : x12_0 ≤ (t248.length : Int)
                · rw [if_pos c23] at H
                  have c23b0 := eq_true c23
                  have c23b1 : decide (x12_0 ≤ (t248.length : Int)) = true := decide_eq_true c23
                  clear c23
                  replace H := Option.bind_eq_some_iff.1 H
                  obtain ⟨y259, hy2590, H⟩ := H
                  try dsimp only at H
                  have hy259 := Option.some.inj hy2590
                  clear hy2590
                  have Ny259 := Aside0.mk hy259
                  clear hy259
                  replace H := Option.bind_eq_some_iff.1 H
                  obtain ⟨y263, hy2630, H⟩ := H
                  try dsimp only at H
                  have hy263 := Option.some.inj hy2630
                  clear hy2630
                  have Ny263 := Aside0.mk hy263
                  clear hy263
                  by_cases c24 : x3_0.length + y263.length < 8796093022208
                  · rw [if_pos c24] at H
                    have LMc24 := Aside0.mk c24
                    clear c24
                    replace H := Option.bind_eq_some_iff.1 H
                    obtain ⟨y264, hy2640, H⟩ := H
                    try dsimp only at H
                    have hy264 := Option.some.inj hy2640
                    clear hy2640
                    have Ny264 := Aside0.mk hy264
                    clear hy264
                    have H' := Aside0.mk H
                    clear H
                    obtain ⟨A260, c261, hcvq262, hcs_, hcc_, hcl_⟩ := cut_mid (P := Try.prog) (Kd.int .u8) 57 5 .i64 .i64 Try.underlying57 (by kernel_rfl) rfl Az3000024 t248.length cz3000024 t248 rfl (rowM_c (SL.get1 HS.out)).2.1 x5_0 x12_0 (of_decide_eq_true (by first | (with_reducible assumption) | assumption) : (0 : Int) ≤ (x5_0 : Int)) (of_decide_eq_true (by first | (with_reducible assumption) | assumption) : (x5_0 : Int) ≤ (x12_0 : Int)) (of_decide_eq_true (by first | (with_reducible assumption) | assumption) : (x12_0 : Int) ≤ ((t248.length : Int) : Int)) y259 Ny259.out
                    have HVq262 := Aside0.mk (And.intro True.intro hcc_)
                    have HCq262 := Aside0.mk hcl_
                    clear hcs_ hcc_ hcl_
                    have hcs26 := Kd.C_string (P := Try.prog) (A := A260) (c := c261) Try.underlying57 Try.underlying5 Try.underlying9 (And.right HVq262.out _ (rowM_c (SL.get1 HS.out)).2.2)
                    go_wp2_with (first | ((with_reducible refine gate_dst (N := 35) rfl ?_); refine wpList_plain rfl (fun K_ hK_ => ?_); refine op_row (S := S) (enc := Value.string) (h1 := fun _ => rfl) 9 y263 #[.string (strOfNums y259)] 1 (by rw [← Ny263.out]; rfl) (by rw [← Ny263.out]; rfl) (by decide) (HF.out.keep HK.out) HS.out (by first | (go_simp; done) | (go_simp; rfl)) ?_; intro Az3000025 cz3000025 w27 hs_ hk_; refine hK_ _ _ ?_; clear hK_ K_; replace HS := Aside0.mk ((show SL (row Kd.string 9 (.slice Az3000025 1 cz3000025) y263 :: _) _ _ from hs_)); replace HK := Aside0.mk (HK.out.trans hk_)) | ((with_reducible refine gate_dst (N := 36) rfl ?_); refine wpList_plain rfl (fun K_ hK_ => ?_); refine op_append (S := S) (enc := Value.string) (h1 := fun _ => rfl) (⟨#[]⟩ : ByteArray) (.tmp 29) (.tmp 35) 31 9 (.string ⟨#[]⟩) 16 rfl Try.underlying31 info9 rfl (by decide) (.slice Ax3_0 x3_0.length cx3_0) rfl rfl (HF.out.keep HK.out) (SL.get1 HS.out) (SL.row_c HS.out).2.2 (by have := LMc24.out; have e_ := (SL.row_c HS.out).1; omega) y264 Ny264.out ?_; intro A265 c266 w28 hs_ hk_; refine hK_ _ _ ?_; clear hK_ K_; replace HS := Aside0.mk ((SL.back1 (show SL (row Kd.string 9 (.slice A265 y264.length c266) y264 :: _) _ _ from hs_))); replace HK := Aside0.mk (HK.out.trans hk_)))
                    replace HS := Aside0.mk (SL.tail HS.out)
                    go_roundg k1
                    case measure => have := HQ1.out; omega
                    case rel => exact ⟨(y264), (A265), (c266), (wrap64 (x12_0 + 1)), (wrap64 (x12_0 + 1)), (by first | rfl | (simp; done) | (simp [*]; done)), (by first | rfl | (simp; done) | (simp [*]; done)), (by first | rfl | (simp; done) | (simp [*]; done)), H', ⟨by have := HQ1.out; omega⟩, HS, HK⟩
                  · rw [if_neg c24] at H
                    exact absurd H (by simp)
                · rw [if_neg c23] at H
                  exact absurd H (by simp)
              · rw [if_neg c22] at H
                exact absurd H (by simp)
            · rw [if_neg c21] at H
              exact absurd H (by simp)
          · rw [if_neg c20] at H
            have c20b0 : decide (x5_0 < x12_0) = false := decide_eq_false c20
            clear c20
            have H' := Aside0.mk H
            clear H
            go_wp2
            go_roundg k1
            case measure => have := HQ1.out; omega
            case rel => exact ⟨(x3_0), (Ax3_0), (cx3_0), (wrap64 (x12_0 + 1)), (wrap64 (x12_0 + 1)), (by first | rfl | (simp; done) | (simp [*]; done)), (by first | rfl | (simp; done) | (simp [*]; done)), (by first | rfl | (simp; done) | (simp [*]; done)), H', ⟨by have := HQ1.out; omega⟩, HS, HK⟩
      · rw [if_neg c3] at H
        have c3b0 : decide (x12_0 < (wrap64 ((t248.length : Int) + 1))) = false := decide_eq_false c3
        clear c3
        obtain rfl := Option.some.inj H
        go_wp2
        go_ret
        replace HS := Aside0.mk (SL.tail (SL.get1 HS.out))
        unfold chat_Words.Post
        exact ⟨Ax3_0, cx3_0, by first | rfl | (simp; done) | (simp [*]; done) | (simp at c3b0 ⊢; first | exact c3b0 | (simp [c3b0]; done)), HS.out, HK.out⟩

/-! ### bytealg_LastIndexByteString: function 66 -/
def bytealg_LastIndexByteString.l0 : Nat → ByteArray → Int → Int → Option (Int)
  | 0, _, _, _ => none
  | k + 1, x0, x1, x5 => if x5 ≥ 0 then (if 0 ≤ x5 then (if x5 < (x0.size : Int) then (if (bt x0 x5) = x1 then (some x5) else (bytealg_LastIndexByteString.l0 k x0 x1 (wrap64 (x5 - 1)))) else (none)) else (none)) else (some (-1))
def bytealg_LastIndexByteString.f (k : Nat) (a0 : ByteArray) (a1 : Int) : Option (Int) := bytealg_LastIndexByteString.l0 k a0 a1 (wrap64 ((a0.size : Int) - 1))
theorem bytealg_LastIndexByteString.mono_l : ∀ k, (∀ y0 y1 y2, LeO (bytealg_LastIndexByteString.l0 k y0 y1 y2) (bytealg_LastIndexByteString.l0 (k + 1) y0 y1 y2))
  | 0 => fun _ _ _ r h => by simp [bytealg_LastIndexByteString.l0] at h
  | k + 1 => by
    have ih0 := bytealg_LastIndexByteString.mono_l k
    · intro y0 y1 y2
      unfold bytealg_LastIndexByteString.l0
      repeat' first
      | (with_reducible exact ih0 _ _ _)
      | (with_reducible exact LeO.refl _)
      | (with_reducible exact LeO.none _)
      | (with_reducible refine LeO.ite ?_ ?_)
      | (with_reducible refine LeO.bind ?_ (fun _ => ?_))
      | exact ih0 _ _ _
      | exact LeO.none _
      | refine LeO.ite ?_ ?_
      | refine LeO.bind ?_ (fun _ => ?_)
theorem bytealg_LastIndexByteString.mono : ∀ a0 a1 k, LeO (bytealg_LastIndexByteString.f k a0 a1) (bytealg_LastIndexByteString.f (k + 1) a0 a1) := by
  intro a0 a1 k
  have ih0 := bytealg_LastIndexByteString.mono_l k
  unfold bytealg_LastIndexByteString.f
  repeat' first
      | (with_reducible exact ih0 _ _ _)
      | (with_reducible exact LeO.refl _)
      | (with_reducible exact LeO.none _)
      | (with_reducible refine LeO.ite ?_ ?_)
      | (with_reducible refine LeO.bind ?_ (fun _ => ?_))
      | exact ih0 _ _ _
      | exact LeO.none _
      | refine LeO.ite ?_ ?_
      | refine LeO.bind ?_ (fun _ => ?_)
set_option maxHeartbeats 8000000 in
set_option maxRecDepth 100000 in
theorem bytealg_LastIndexByteString.calls (k : Nat) (a0 : ByteArray) (a1 : Int) (r : Int) (w : World) (h : bytealg_LastIndexByteString.f k a0 a1 = some r) :
    Calls Try.prog 66 #[.string a0, .int .u8 a1] w fun e w' => e = .returned (.int .i64 r) ∧ Drawn0 w w' := by
  have H : (bytealg_LastIndexByteString.l0 k a0 a1 (wrap64 ((a0.size : Int) - 1))) = some r := h
  clear h
  have H' := Aside0.mk H
  clear H
  go_enter Try.func66, Try.ntmps66
  go_wp2
  go_loopg [5] k (fun kq v5 w' => ∃ (x5_1 : Int), v5 = .int .i64 x5_1 ∧ Aside0 (bytealg_LastIndexByteString.l0 kq a0 a1 x5_1 = some r) ∧ Aside0 (kq ≤ k) ∧ Drawn0 w w')
  case atStart => exact ⟨(wrap64 ((a0.size : Int) - 1)), (by first | rfl | (simp; done) | (simp [*]; done)), H', ⟨Nat.le_refl _⟩, by repeat (first | exact Drawn0.refl _ | apply Drawn0.step)⟩
  case round =>
    clear H'
    try clear p2
    obtain ⟨x5_1, rfl, HA, HK1, ⟨m1, rfl⟩⟩ := hrel
    cases gk with
    | zero => exact absurd HA.out (by simp [bytealg_LastIndexByteString.l0])
    | succ k1 =>
      have H := HA.out
      clear HA
      simp only [bytealg_LastIndexByteString.l0] at H
      by_cases c3 : x5_1 ≥ 0
      · rw [if_pos c3] at H
        have c3b0 : decide (0 ≤ x5_1) = true := decide_eq_true c3
        clear c3
        by_cases c4 : 0 ≤ x5_1
        · rw [if_pos c4] at H
          have c4b0 : decide (0 ≤ x5_1) = true := decide_eq_true c4
          clear c4
          by_cases c5 : x5_1 < (a0.size : Int)
          · rw [if_pos c5] at H
            have c5b0 : decide (x5_1 < (a0.size : Int)) = true := decide_eq_true c5
            clear c5
            by_cases c7 : (bt a0 x5_1) = a1
            · rw [if_pos c7] at H
              have c7b0 : ((bt a0 x5_1) == a1) = true := beq_iff_eq.mpr c7
              have c7b1 : ((bt a0 x5_1) != a1) = false := bne_eq_false_iff_eq.mpr c7
              clear c7
              obtain rfl := Option.some.inj H
              have p6 : 0 ≤ (x5_1 : Int) := of_decide_eq_true (by first | (with_reducible assumption) | assumption)
              have q6 : x5_1 < (a0.size : Int) := of_decide_eq_true (by first | (with_reducible assumption) | assumption)
              have hx6 := bt_at a0 x5_1
              replace p6 := eq_true p6
              replace q6 := eq_true q6
              go_wp2
              go_ret
              exact ⟨by first | rfl | (simp; done) | (simp [*]; done), by repeat (first | exact Drawn0.refl _ | apply Drawn0.step)⟩
            · rw [if_neg c7] at H
              have c7b0 : ((bt a0 x5_1) == a1) = false := beq_eq_false_iff_ne.mpr c7
              have c7b1 : ((bt a0 x5_1) != a1) = true := bne_iff_ne.mpr c7
              have H' := Aside0.mk H
              clear H
              have p6 : 0 ≤ (x5_1 : Int) := of_decide_eq_true (by first | (with_reducible assumption) | assumption)
              have q6 : x5_1 < (a0.size : Int) := of_decide_eq_true (by first | (with_reducible assumption) | assumption)
              have hx6 := bt_at a0 x5_1
              replace p6 := eq_true p6
              replace q6 := eq_true q6
              go_wp2
              go_roundg k1
              case measure => have := HK1.out; omega
              case rel => exact ⟨(wrap64 (x5_1 - 1)), (by first | rfl | (simp; done) | (simp [*]; done)), H', ⟨by have := HK1.out; omega⟩, by repeat (first | exact Drawn0.refl _ | apply Drawn0.step)⟩
          · rw [if_neg c5] at H
            exact absurd H (by simp)
        · rw [if_neg c4] at H
          exact absurd H (by simp)
      · rw [if_neg c3] at H
        have c3b0 : decide (0 ≤ x5_1) = false := decide_eq_false c3
        clear c3
        obtain rfl := Option.some.inj H
        go_wp2
        go_ret
        exact ⟨by first | rfl | (simp; done) | (simp [*]; done), by repeat (first | exact Drawn0.refl _ | apply Drawn0.step)⟩

/-! ### strings_LastIndexByte: function 45 -/
def strings_LastIndexByte.f (k : Nat) (a0 : ByteArray) (a1 : Int) : Option (Int) := (bytealg_LastIndexByteString.f k a0 a1).bind fun t267 => (some t267)
theorem strings_LastIndexByte.mono : ∀ a0 a1 k, LeO (strings_LastIndexByte.f k a0 a1) (strings_LastIndexByte.f (k + 1) a0 a1) := by
  intro a0 a1 k
  unfold strings_LastIndexByte.f
  repeat' first
      | (with_reducible exact bytealg_LastIndexByteString.mono _ _ _)
      | (with_reducible exact LeO.refl _)
      | (with_reducible exact LeO.none _)
      | (with_reducible refine LeO.ite ?_ ?_)
      | (with_reducible refine LeO.bind ?_ (fun _ => ?_))
      | exact bytealg_LastIndexByteString.mono _ _ _
      | exact LeO.none _
      | refine LeO.ite ?_ ?_
      | refine LeO.bind ?_ (fun _ => ?_)
set_option maxHeartbeats 8000000 in
set_option maxRecDepth 100000 in
theorem strings_LastIndexByte.calls (k : Nat) (a0 : ByteArray) (a1 : Int) (r : Int) (w : World) (h : strings_LastIndexByte.f k a0 a1 = some r) :
    Calls Try.prog 45 #[.string a0, .int .u8 a1] w fun e w' => e = .returned (.int .i64 r) ∧ Drawn0 w w' := by
  have H : ((bytealg_LastIndexByteString.f k a0 a1).bind fun t267 => (some t267)) = some r := h
  clear h
  replace H := Option.bind_eq_some_iff.mp H
  obtain ⟨t267, A30, H⟩ := H
  replace H : (some t267) = some r := H
  have A3 := Aside0.mk A30
  clear A30
  obtain rfl := Option.some.inj H
  go_enter Try.func45, Try.ntmps45
  go_wp2_with (first | ((with_reducible refine gate_callee (f := 66) rfl ?_); refine goesL_ (some 7) rfl rfl Try.func66 (by kernel_rfl) rfl #[.string a0, .int .u8 a1] rfl (by (try simp only [List.map_toArray, List.map_cons, List.map_nil]); first | done | rfl | (simp only [List.length_drop, List.length_take]; rfl)) ?_; (with_reducible refine (bytealg_LastIndexByteString.calls k a0 a1 t267 _ A3.out).mono ?_); rintro e w' ⟨rfl, ⟨nd, rfl⟩⟩; refine ⟨_, rfl, ?_⟩))
  go_ret
  exact ⟨by first | rfl | (simp; done) | (simp [*]; done), by repeat (first | exact Drawn0.refl _ | apply Drawn0.step)⟩

/-! ### chat_piece: function 34 -/
def chat_piece.f (k : Nat) (a0 : ByteArray) (a1 : Int) : Option (Int) := if (a0.size : Int) ≤ a1 then (some (a0.size : Int)) else (if 0 ≤ a1 then (if a1 ≤ (a0.size : Int) then ((strings_LastIndexByte.f k (a0.extract 0 (a1 : Int).toNat) 32).bind fun t268 => (if t268 ≥ 0 then (some (wrap64 (t268 + 1))) else (some a1))) else (none)) else (none))
theorem chat_piece.mono : ∀ a0 a1 k, LeO (chat_piece.f k a0 a1) (chat_piece.f (k + 1) a0 a1) := by
  intro a0 a1 k
  unfold chat_piece.f
  repeat' first
      | (with_reducible exact strings_LastIndexByte.mono _ _ _)
      | (with_reducible exact LeO.refl _)
      | (with_reducible exact LeO.none _)
      | (with_reducible refine LeO.ite ?_ ?_)
      | (with_reducible refine LeO.bind ?_ (fun _ => ?_))
      | exact strings_LastIndexByte.mono _ _ _
      | exact LeO.none _
      | refine LeO.ite ?_ ?_
      | refine LeO.bind ?_ (fun _ => ?_)
set_option maxHeartbeats 8000000 in
set_option maxRecDepth 100000 in
theorem chat_piece.calls (k : Nat) (a0 : ByteArray) (a1 : Int) (r : Int) (w : World) (h : chat_piece.f k a0 a1 = some r) :
    Calls Try.prog 34 #[.string a0, .int .i64 a1] w fun e w' => e = .returned (.int .i64 r) ∧ Drawn0 w w' := by
  have H : (if (a0.size : Int) ≤ a1 then (some (a0.size : Int)) else (if 0 ≤ a1 then (if a1 ≤ (a0.size : Int) then ((strings_LastIndexByte.f k (a0.extract 0 (a1 : Int).toNat) 32).bind fun t268 => (if t268 ≥ 0 then (some (wrap64 (t268 + 1))) else (some a1))) else (none)) else (none))) = some r := h
  clear h
  by_cases c3 : (a0.size : Int) ≤ a1
  · rw [if_pos c3] at H
    have c3b0 : decide ((a0.size : Int) ≤ a1) = true := decide_eq_true c3
    clear c3
    obtain rfl := Option.some.inj H
    go_enter Try.func34, Try.ntmps34
    go_wp2
    go_ret
    exact ⟨by first | rfl | (simp; done) | (simp [*]; done), by repeat (first | exact Drawn0.refl _ | apply Drawn0.step)⟩
  · rw [if_neg c3] at H
    have c3b0 : decide ((a0.size : Int) ≤ a1) = false := decide_eq_false c3
    clear c3
    by_cases c4 : 0 ≤ a1
    · rw [if_pos c4] at H
      have c4b0 := eq_true c4
      have c4b1 : decide (0 ≤ a1) = true := decide_eq_true c4
      clear c4
      by_cases c5 : a1 ≤ (a0.size : Int)
      · rw [if_pos c5] at H
        have c5b0 := eq_true c5
        have c5b1 : decide (a1 ≤ (a0.size : Int)) = true := decide_eq_true c5
        clear c5
        replace H := Option.bind_eq_some_iff.mp H
        obtain ⟨t268, A60, H⟩ := H
        replace H : (if t268 ≥ 0 then (some (wrap64 (t268 + 1))) else (some a1)) = some r := H
        have A6 := Aside0.mk A60
        clear A60
        by_cases c7 : t268 ≥ 0
        · rw [if_pos c7] at H
          have c7b0 : decide (0 ≤ t268) = true := decide_eq_true c7
          clear c7
          obtain rfl := Option.some.inj H
          go_enter Try.func34, Try.ntmps34
          go_wp2_with (first | ((with_reducible refine gate_callee (f := 45) rfl ?_); refine goesL_ (some 15) rfl rfl Try.func45 (by kernel_rfl) rfl #[.string (a0.extract 0 (a1 : Int).toNat), .int .u8 32] rfl (by (try simp only [List.map_toArray, List.map_cons, List.map_nil]); first | done | rfl | (simp only [List.length_drop, List.length_take]; rfl)) ?_; (with_reducible refine (strings_LastIndexByte.calls k (a0.extract 0 (a1 : Int).toNat) 32 t268 _ A6.out).mono ?_); rintro e w' ⟨rfl, ⟨nd, rfl⟩⟩; refine ⟨_, rfl, ?_⟩))
          go_ret
          exact ⟨by first | rfl | (simp; done) | (simp [*]; done), by repeat (first | exact Drawn0.refl _ | apply Drawn0.step)⟩
        · rw [if_neg c7] at H
          have c7b0 : decide (0 ≤ t268) = false := decide_eq_false c7
          clear c7
          obtain rfl := Option.some.inj H
          go_enter Try.func34, Try.ntmps34
          go_wp2_with (first | ((with_reducible refine gate_callee (f := 45) rfl ?_); refine goesL_ (some 15) rfl rfl Try.func45 (by kernel_rfl) rfl #[.string (a0.extract 0 (a1 : Int).toNat), .int .u8 32] rfl (by (try simp only [List.map_toArray, List.map_cons, List.map_nil]); first | done | rfl | (simp only [List.length_drop, List.length_take]; rfl)) ?_; (with_reducible refine (strings_LastIndexByte.calls k (a0.extract 0 (a1 : Int).toNat) 32 t268 _ A6.out).mono ?_); rintro e w' ⟨rfl, ⟨nd, rfl⟩⟩; refine ⟨_, rfl, ?_⟩))
          go_ret
          exact ⟨by first | rfl | (simp; done) | (simp [*]; done), by repeat (first | exact Drawn0.refl _ | apply Drawn0.step)⟩
      · rw [if_neg c5] at H
        exact absurd H (by simp)
    · rw [if_neg c4] at H
      exact absurd H (by simp)

/-! ### chat_Cut: function 21 -/
def chat_Cut.l0 : Nat → ByteArray → Int → List ByteArray → Option (List ByteArray)
  | 0, _, _, _ => none
  | k + 1, x0, x1, x5 => if x0.toList = ([] : List UInt8) then (some x5) else (if x1 ≥ 1 then ((chat_piece.f k x0 x1).bind fun t269 => (if 0 ≤ t269 then (if t269 ≤ (x0.size : Int) then (if x5.length < 8796093022208 then (chat_Cut.l0 k (x0.extract (t269 : Int).toNat x0.size) x1 (x5 ++ [x0.extract 0 (t269 : Int).toNat])) else (none)) else (none)) else (none))) else (some x5))
def chat_Cut.f (k : Nat) (a0 : ByteArray) (a1 : Int) : Option (List ByteArray) := chat_Cut.l0 k a0 a1 ([] : List ByteArray)
theorem chat_Cut.mono_l : ∀ k, (∀ y0 y1 y2, LeO (chat_Cut.l0 k y0 y1 y2) (chat_Cut.l0 (k + 1) y0 y1 y2))
  | 0 => fun _ _ _ r h => by simp [chat_Cut.l0] at h
  | k + 1 => by
    have ih0 := chat_Cut.mono_l k
    · intro y0 y1 y2
      unfold chat_Cut.l0
      repeat' first
      | (with_reducible exact ih0 _ _ _)
      | (with_reducible exact chat_piece.mono _ _ _)
      | (with_reducible exact LeO.refl _)
      | (with_reducible exact LeO.none _)
      | (with_reducible refine LeO.ite ?_ ?_)
      | (with_reducible refine LeO.bind ?_ (fun _ => ?_))
      | exact ih0 _ _ _
      | exact chat_piece.mono _ _ _
      | exact LeO.none _
      | refine LeO.ite ?_ ?_
      | refine LeO.bind ?_ (fun _ => ?_)
theorem chat_Cut.mono : ∀ a0 a1 k, LeO (chat_Cut.f k a0 a1) (chat_Cut.f (k + 1) a0 a1) := by
  intro a0 a1 k
  have ih0 := chat_Cut.mono_l k
  unfold chat_Cut.f
  repeat' first
      | (with_reducible exact ih0 _ _ _)
      | (with_reducible exact chat_piece.mono _ _ _)
      | (with_reducible exact LeO.refl _)
      | (with_reducible exact LeO.none _)
      | (with_reducible refine LeO.ite ?_ ?_)
      | (with_reducible refine LeO.bind ?_ (fun _ => ?_))
      | exact ih0 _ _ _
      | exact chat_piece.mono _ _ _
      | exact LeO.none _
      | refine LeO.ite ?_ ?_
      | refine LeO.bind ?_ (fun _ => ?_)
set_option maxHeartbeats 8000000 in
set_option maxRecDepth 100000 in
theorem chat_Cut.calls (k : Nat) (a0 : ByteArray) (a1 : Int) (r : List ByteArray) (w : World) (h : chat_Cut.f k a0 a1 = some r) :
    Calls Try.prog 21 #[.string a0, .int .i64 a1] w fun e w' => ∃ v0_ : Value, e = .returned (v0_) ∧ Kd.R Kd.string 9 w' w.heap.size (fun _ => True) v0_ r ∧ Below w.heap.size w w' := by
  have HB := Aside0.mk (Below.refl w.heap.size w)
  have H : (chat_Cut.l0 k a0 a1 ([] : List ByteArray)) = some r := h
  clear h
  have H' := Aside0.mk H
  clear H
  go_enter Try.func21, Try.ntmps21
  go_wp2
  go_loopg [0, 5] k (fun kq v0 v5 w' => ∃ (x0_1 : ByteArray) (x5_1 : List ByteArray), v0 = .string x0_1 ∧ Aside0 (chat_Cut.l0 kq x0_1 a1 x5_1 = some r) ∧ Aside0 (kq ≤ k) ∧ Aside0 (Kd.R Kd.string 9 w' w.heap.size (fun _ => True) v5 x5_1) ∧ Aside0 (Below w.heap.size w w'))
  case atStart => exact ⟨(a0), (([] : List ByteArray)), (by first | rfl | (simp; done) | (simp [*]; done)), H', ⟨Nat.le_refl _⟩, ⟨by first | exact Kd.R_nil _ _ _ _ _ | exact Kd.N_nil _ _ _ _ _ | exact Kd.V_nil _ _ _ _ _ | exact Kd.Q_nil _ _ _ _ _ | exact Kd.S_nil _ _ _ _ _⟩, ⟨by repeat (first | (with_reducible first | exact HB.out | apply below_alloc | apply pw_below_drewN | apply below_drew1) | exact HB.out)⟩⟩
  case round =>
    clear H'
    try clear c2
    try clear p2
    obtain ⟨x0_1, x5_1, rfl, HA, HK1, HO_5, HB⟩ := hrel
    cases gk with
    | zero => exact absurd HA.out (by simp [chat_Cut.l0])
    | succ k1 =>
      have H := HA.out
      clear HA
      simp only [chat_Cut.l0] at H
      by_cases c3 : x0_1.toList = ([] : List UInt8)
      · rw [if_pos c3] at H
        have c3b0 : (x0_1.toList == ([] : List UInt8)) = true := beq_iff_eq.mpr c3
        have c3b1 : (x0_1.toList != ([] : List UInt8)) = false := bne_eq_false_iff_eq.mpr c3
        clear c3
        obtain rfl := Option.some.inj H
        go_wp2
        go_ret
        exact ⟨_, by first | rfl | (simp [errW_none, errW_some] <;> rfl) | (simp [*, errW_none, errW_some] <;> rfl), by (with_reducible repeat (first | apply Kd.R_alloc | apply Kd.R_drewN | apply Kd.R_drew)); exact HO_5.out, by repeat (first | (with_reducible first | exact HB.out | apply below_alloc | apply pw_below_drewN | apply below_drew1) | exact HB.out)⟩
      · rw [if_neg c3] at H
        have c3b0 : (x0_1.toList == ([] : List UInt8)) = false := beq_eq_false_iff_ne.mpr c3
        have c3b1 : (x0_1.toList != ([] : List UInt8)) = true := bne_iff_ne.mpr c3
        by_cases c4 : a1 ≥ 1
        · rw [if_pos c4] at H
          have c4b0 : decide (1 ≤ a1) = true := decide_eq_true c4
          clear c4
          replace H := Option.bind_eq_some_iff.mp H
          obtain ⟨t269, A50, H⟩ := H
          replace H : (if 0 ≤ t269 then (if t269 ≤ (x0_1.size : Int) then (if x5_1.length < 8796093022208 then (chat_Cut.l0 k1 (x0_1.extract (t269 : Int).toNat x0_1.size) a1 (x5_1 ++ [x0_1.extract 0 (t269 : Int).toNat])) else (none)) else (none)) else (none)) = some r := H
          have A5 := Aside0.mk A50
          clear A50
          by_cases c6 : 0 ≤ t269
          · rw [if_pos c6] at H
            have c6b0 := eq_true c6
            have c6b1 : decide (0 ≤ t269) = true := decide_eq_true c6
            clear c6
            by_cases c7 : t269 ≤ (x0_1.size : Int)
            · rw [if_pos c7] at H
              have c7b0 := eq_true c7
              have c7b1 : decide (t269 ≤ (x0_1.size : Int)) = true := decide_eq_true c7
              clear c7
              by_cases c8 : x5_1.length < 8796093022208
              · rw [if_pos c8] at H
                have LMc8 := Aside0.mk c8
                clear c8
                obtain ⟨y270, hy270⟩ : ∃ y_ : List ByteArray, y_ = (x5_1 ++ [x0_1.extract 0 (t269 : Int).toNat]) := ⟨_, rfl⟩
                replace H : (chat_Cut.l0 k1 (x0_1.extract (t269 : Int).toNat x0_1.size) a1 y270) = some r := by first | (rw [hy270]; with_reducible exact H) | (have H2_ := (Option.bind_some _ _).symm.trans H; rw [hy270]; with_reducible exact H2_) | (have H2_ := (Option.bind_some _ _).symm.trans H; with_reducible exact H2_) | with_reducible exact H | (rw [hy270]; exact H) | exact H
                have Ny270 := Aside0.mk hy270
                clear hy270
                have c9b0 := eq_true (of_decide_eq_true (by first | (with_reducible assumption) | assumption) : 0 ≤ t269)
                have c10b0 := eq_true (of_decide_eq_true (by first | (with_reducible assumption) | assumption) : t269 ≤ (x0_1.size : Int))
                have H' := Aside0.mk H
                clear H
                go_wp2_with (first | ((with_reducible refine gate_callee (f := 34) rfl ?_); refine goesL_ (some 15) rfl rfl Try.func34 (by kernel_rfl) rfl #[.string x0_1, .int .i64 a1] rfl (by (try simp only [List.map_toArray, List.map_cons, List.map_nil]); first | done | rfl | (simp only [List.length_drop, List.length_take]; rfl)) ?_; (with_reducible refine (chat_piece.calls k1 x0_1 a1 t269 _ A5.out).mono ?_); rintro e w' ⟨rfl, ⟨nd, rfl⟩⟩; refine ⟨_, rfl, ?_⟩) | ((with_reducible refine gate_builtin (b := .append) (xs := #[.tmp 16, .tmp 20]) rfl ?_); at_builtin; refine Kd.R_append Kd.string (w0 := w) w.heap.size rfl (.tmp 16) (.tmp 20) 31 9 (.string ⟨#[]⟩) 16 rfl Try.underlying31 info9 rfl (by decide) (by omega) u5 x5_1 (x0_1.extract 0 (t269 : Int).toNat) [.string (x0_1.extract 0 (t269 : Int).toNat)] (fun _ => True) (fun _ => False) rfl rfl ?aP (fun _ hk => hk.elim) ?aF ?aO ?aB ?aS ?aL ?_; (case aP => exact rfl); (case aB => exact (by repeat (first | (with_reducible first | exact HB.out | apply below_alloc | apply pw_below_drewN | apply below_drew1) | exact HB.out))); (case aF => exact (fun _ _ => trivial)); (case aO => exact (by (with_reducible repeat (first | apply Kd.R_alloc | apply Kd.R_drewN | apply Kd.R_drew)); exact HO_5.out)); (case aS => exact (below_size (by repeat (first | (with_reducible first | exact HB.out | apply below_alloc | apply pw_below_drewN | apply below_drew1) | exact HB.out)))); (case aL => have := LMc8.out; omega); intro v271 w11 ho hb hg hat; rw [← Ny270.out] at ho; have n0_ := Aside0.mk (hb); have n1_ := Aside0.mk (ho); clear HB; clear HO_5; have HB := n0_; have HO272 := n1_; clear n0_ n1_; clear ho hb hg hat))
                go_roundg k1
                case measure => have := HK1.out; omega
                case rel => exact ⟨(x0_1.extract (t269 : Int).toNat x0_1.size), (y270), (by first | rfl | (simp; done) | (simp [*]; done)), H', ⟨by have := HK1.out; omega⟩, ⟨by (with_reducible repeat (first | apply Kd.R_alloc | apply Kd.R_drewN | apply Kd.R_drew)); exact HO272.out⟩, ⟨by repeat (first | (with_reducible first | exact HB.out | apply below_alloc | apply pw_below_drewN | apply below_drew1) | exact HB.out)⟩⟩
              · rw [if_neg c8] at H
                exact absurd H (by simp)
            · rw [if_neg c7] at H
              exact absurd H (by simp)
          · rw [if_neg c6] at H
            exact absurd H (by simp)
        · rw [if_neg c4] at H
          have c4b0 : decide (1 ≤ a1) = false := decide_eq_false c4
          clear c4
          obtain rfl := Option.some.inj H
          go_wp2
          go_ret
          exact ⟨_, by first | rfl | (simp [errW_none, errW_some] <;> rfl) | (simp [*, errW_none, errW_some] <;> rfl), by (with_reducible repeat (first | apply Kd.R_alloc | apply Kd.R_drewN | apply Kd.R_drew)); exact HO_5.out, by repeat (first | (with_reducible first | exact HB.out | apply below_alloc | apply pw_below_drewN | apply below_drew1) | exact HB.out)⟩

/-! ### barrowref38_Mutes: function 12 -/
def barrowref38_Mutes.l0 : Nat → List (S46) → Int → Int → Int → Option (Bool)
  | 0, _, _, _, _ => none
  | k + 1, x0, x1, x2, x7 => if x7 < (x0.length : Int) then (if 0 ≤ x7 then (if ((rd_T46 x0 x7).f0) = x1 then (if ((rd_T46 x0 x7).f1) = x2 then (some true) else (barrowref38_Mutes.l0 k x0 x1 x2 (wrap64 (x7 + 1)))) else (barrowref38_Mutes.l0 k x0 x1 x2 (wrap64 (x7 + 1)))) else (none)) else (some false)
def barrowref38_Mutes.f (k : Nat) (l0 : List (S46)) (a1 : Int) (a2 : Int) : Option (Bool) := barrowref38_Mutes.l0 k l0 a1 a2 0
theorem barrowref38_Mutes.mono_l : ∀ k, (∀ y0 y1 y2 y3, LeO (barrowref38_Mutes.l0 k y0 y1 y2 y3) (barrowref38_Mutes.l0 (k + 1) y0 y1 y2 y3))
  | 0 => fun _ _ _ _ r h => by simp [barrowref38_Mutes.l0] at h
  | k + 1 => by
    have ih0 := barrowref38_Mutes.mono_l k
    · intro y0 y1 y2 y3
      unfold barrowref38_Mutes.l0
      repeat' first
      | (with_reducible exact ih0 _ _ _ _)
      | (with_reducible exact LeO.refl _)
      | (with_reducible exact LeO.none _)
      | (with_reducible refine LeO.ite ?_ ?_)
      | (with_reducible refine LeO.bind ?_ (fun _ => ?_))
      | exact ih0 _ _ _ _
      | exact LeO.none _
      | refine LeO.ite ?_ ?_
      | refine LeO.bind ?_ (fun _ => ?_)
theorem barrowref38_Mutes.mono : ∀ a0 a1 a2 k, LeO (barrowref38_Mutes.f k a0 a1 a2) (barrowref38_Mutes.f (k + 1) a0 a1 a2) := by
  intro a0 a1 a2 k
  have ih0 := barrowref38_Mutes.mono_l k
  unfold barrowref38_Mutes.f
  repeat' first
      | (with_reducible exact ih0 _ _ _ _)
      | (with_reducible exact LeO.refl _)
      | (with_reducible exact LeO.none _)
      | (with_reducible refine LeO.ite ?_ ?_)
      | (with_reducible refine LeO.bind ?_ (fun _ => ?_))
      | exact ih0 _ _ _ _
      | exact LeO.none _
      | refine LeO.ite ?_ ?_
      | refine LeO.bind ?_ (fun _ => ?_)
set_option maxHeartbeats 8000000 in
set_option maxRecDepth 100000 in
theorem barrowref38_Mutes.calls (k : Nat) (A0 : Option Addr) (c0 : Nat) (l0 : List (S46)) (a1 : Int) (a2 : Int) (r : Bool) (w : World) (hr0 : Kd.C k46 w A0 l0.length l0) (hc0 : l0.length ≤ c0) (h : barrowref38_Mutes.f k l0 a1 a2 = some r) :
    Calls Try.prog 12 #[.slice A0 l0.length c0, .int .i64 a1, .int .i64 a2] w fun e w' => e = .returned (.bool r) ∧ Drawn0 w w' := by
  have HR0 := Aside0.mk hr0
  have HC0 := Aside0.mk hc0
  clear hr0 hc0
  have H : (barrowref38_Mutes.l0 k l0 a1 a2 0) = some r := h
  clear h
  have H' := Aside0.mk H
  clear H
  go_enter Try.func12, Try.ntmps12
  go_wp2
  go_loopg [7] k (fun kq v7 w' => ∃ (x7_1 : Int), v7 = .int .i64 x7_1 ∧ Aside0 (barrowref38_Mutes.l0 kq l0 a1 a2 x7_1 = some r) ∧ Aside0 (kq ≤ k) ∧ Drawn0 w w')
  case atStart => exact ⟨(0), (by first | rfl | (simp; done) | (simp [*]; done)), H', ⟨Nat.le_refl _⟩, by repeat (first | exact Drawn0.refl _ | apply Drawn0.step)⟩
  case round =>
    clear H'
    try clear c1
    try clear p2
    obtain ⟨x7_1, rfl, HA, HK1, ⟨m1, rfl⟩⟩ := hrel
    cases gk with
    | zero => exact absurd HA.out (by simp [barrowref38_Mutes.l0])
    | succ k1 =>
      have H := HA.out
      clear HA
      simp only [barrowref38_Mutes.l0] at H
      by_cases c4 : x7_1 < (l0.length : Int)
      · rw [if_pos c4] at H
        have c4b0 : decide (x7_1 < (l0.length : Int)) = true := decide_eq_true c4
        clear c4
        by_cases c5 : 0 ≤ x7_1
        · rw [if_pos c5] at H
          have c5b0 : decide (0 ≤ x7_1) = true := decide_eq_true c5
          clear c5
          by_cases c6 : ((rd_T46 l0 x7_1).f0) = a1
          · rw [if_pos c6] at H
            have c6b0 : (((rd_T46 l0 x7_1).f0) == a1) = true := beq_iff_eq.mpr c6
            have c6b1 : (((rd_T46 l0 x7_1).f0) != a1) = false := bne_eq_false_iff_eq.mpr c6
            clear c6
            by_cases c7 : ((rd_T46 l0 x7_1).f1) = a2
            · rw [if_pos c7] at H
              have c7b0 : (((rd_T46 l0 x7_1).f1) == a2) = true := beq_iff_eq.mpr c7
              have c7b1 : (((rd_T46 l0 x7_1).f1) != a2) = false := bne_eq_false_iff_eq.mpr c7
              clear c7
              obtain rfl := Option.some.inj H
              have p306 : 0 ≤ (x7_1 : Int) := of_decide_eq_true (by first | (with_reducible assumption) | assumption)
              have q306 : x7_1 < (l0.length : Int) := of_decide_eq_true (by first | (with_reducible assumption) | assumption)
              obtain ⟨ad306, e306, hx306_0, hx306_1⟩ := at_T46 HR0.out x7_1 p306 q306
              cases e306
              replace p306 := eq_true p306
              replace q306 := eq_true q306
              have p307 : 0 ≤ (x7_1 : Int) := of_decide_eq_true (by first | (with_reducible assumption) | assumption)
              have q307 : x7_1 < (l0.length : Int) := of_decide_eq_true (by first | (with_reducible assumption) | assumption)
              obtain ⟨ad307, e307, hx307_0, hx307_1⟩ := at_T46 HR0.out x7_1 p307 q307
              obtain rfl : ad306 = ad307 := (by injection e307)
              replace p307 := eq_true p307
              replace q307 := eq_true q307
              go_wp2
              go_ret
              exact ⟨by first | rfl | (simp; done) | (simp [*]; done), by repeat (first | exact Drawn0.refl _ | apply Drawn0.step)⟩
            · rw [if_neg c7] at H
              have c7b0 : (((rd_T46 l0 x7_1).f1) == a2) = false := beq_eq_false_iff_ne.mpr c7
              have c7b1 : (((rd_T46 l0 x7_1).f1) != a2) = true := bne_iff_ne.mpr c7
              have H' := Aside0.mk H
              clear H
              have p306 : 0 ≤ (x7_1 : Int) := of_decide_eq_true (by first | (with_reducible assumption) | assumption)
              have q306 : x7_1 < (l0.length : Int) := of_decide_eq_true (by first | (with_reducible assumption) | assumption)
              obtain ⟨ad306, e306, hx306_0, hx306_1⟩ := at_T46 HR0.out x7_1 p306 q306
              cases e306
              replace p306 := eq_true p306
              replace q306 := eq_true q306
              have p307 : 0 ≤ (x7_1 : Int) := of_decide_eq_true (by first | (with_reducible assumption) | assumption)
              have q307 : x7_1 < (l0.length : Int) := of_decide_eq_true (by first | (with_reducible assumption) | assumption)
              obtain ⟨ad307, e307, hx307_0, hx307_1⟩ := at_T46 HR0.out x7_1 p307 q307
              obtain rfl : ad306 = ad307 := (by injection e307)
              replace p307 := eq_true p307
              replace q307 := eq_true q307
              go_wp2
              go_roundg k1
              case measure => have := HK1.out; omega
              case rel => exact ⟨(wrap64 (x7_1 + 1)), (by first | rfl | (simp; done) | (simp [*]; done)), H', ⟨by have := HK1.out; omega⟩, by repeat (first | exact Drawn0.refl _ | apply Drawn0.step)⟩
          · rw [if_neg c6] at H
            have c6b0 : (((rd_T46 l0 x7_1).f0) == a1) = false := beq_eq_false_iff_ne.mpr c6
            have c6b1 : (((rd_T46 l0 x7_1).f0) != a1) = true := bne_iff_ne.mpr c6
            have H' := Aside0.mk H
            clear H
            have p306 : 0 ≤ (x7_1 : Int) := of_decide_eq_true (by first | (with_reducible assumption) | assumption)
            have q306 : x7_1 < (l0.length : Int) := of_decide_eq_true (by first | (with_reducible assumption) | assumption)
            obtain ⟨ad306, e306, hx306_0, hx306_1⟩ := at_T46 HR0.out x7_1 p306 q306
            cases e306
            replace p306 := eq_true p306
            replace q306 := eq_true q306
            go_wp2
            go_roundg k1
            case measure => have := HK1.out; omega
            case rel => exact ⟨(wrap64 (x7_1 + 1)), (by first | rfl | (simp; done) | (simp [*]; done)), H', ⟨by have := HK1.out; omega⟩, by repeat (first | exact Drawn0.refl _ | apply Drawn0.step)⟩
        · rw [if_neg c5] at H
          exact absurd H (by simp)
      · rw [if_neg c4] at H
        have c4b0 : decide (x7_1 < (l0.length : Int)) = false := decide_eq_false c4
        clear c4
        obtain rfl := Option.some.inj H
        go_wp2
        go_ret
        exact ⟨by first | rfl | (simp; done) | (simp [*]; done), by repeat (first | exact Drawn0.refl _ | apply Drawn0.step)⟩

end Go.Proofs.Ytdpeflbdoaccbaa.XCH
