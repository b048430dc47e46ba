-- Written by xprint.py (a program of this session) for this claim
import Derived.Test.YtdpeflbdoaccbaaSL7
import Derived.Test.YtdpeflbdoaccbaaSL5
import Derived.Test.YtdpeflbdoaccbaaXCLx0
import Derived.Test.YtdpeflbdoaccbaaXCLx6
import Derived.Test.YtdpeflbdoaccbaaXCLx7
namespace Go.Proofs.Ytdpeflbdoaccbaa.XCL
open Go.Proofs.YtdpeflbdoaccbaaV Go.Proofs.YtdpeflbdoaccbaaS
open Go.RowKit Go.Proofs.YtdpeflbdoaccbaaW.PrintWords Go.Proofs.YtdpeflbdoaccbaaW.PrintLast Go.Proofs.YtdpeflbdoaccbaaW.PrintMore
attribute [local go_sem] max2_int min2_int max_two min_two max_three min_three max_four min_four   -- for this text's walks alone
set_option linter.unusedVariables false
set_option linter.unusedSimpArgs false

/-! ### chat_Words: function 19 -/
mutual
def chat_Words.l0 : Nat → (List Int) → (List ByteArray) → Int → Int → Option ((List ByteArray))
  | 0, _, _, _, _ => none
  | k + 1, t237, x3_0, x5_0, x12_0 => if x12_0 < (wrap64 ((t237.length : Int) + 1)) then (if x12_0 < (t237.length : Int) then (if 0 ≤ x12_0 then ((chat_letter.f (rd t237 x12_0)).bind fun t239 => (chat_Words.l199 k t237 x3_0 x5_0 x12_0 t239)) else (none)) else (chat_Words.l199 k t237 x3_0 x5_0 x12_0 false)) else (some x3_0)
def chat_Words.l199 : Nat → (List Int) → (List ByteArray) → Int → Int → Bool → Option ((List ByteArray))
  | 0, _, _, _, _, _ => none
  | k + 1, t237, x3_0, x5_0, x12_0, x25_199 => if x25_199 = true then (chat_Words.l0 k t237 x3_0 x5_0 (wrap64 (x12_0 + 1))) else (if x12_0 > x5_0 then (if 0 ≤ x5_0 then (if x5_0 ≤ x12_0 then (if x12_0 ≤ (t237.length : Int) then ((some ((t237.drop (x5_0).toNat).take ((x12_0).toNat - (x5_0).toNat) : List Int)).bind fun y240 => ((some (([strOfNums y240] : List ByteArray) : List ByteArray)).bind fun y244 => (if x3_0.length + y244.length < 8796093022208 then ((some (x3_0 ++ y244 : List ByteArray)).bind fun y245 => (chat_Words.l0 k t237 y245 (wrap64 (x12_0 + 1)) (wrap64 (x12_0 + 1)))) else (none)))) else (none)) else (none)) else (none)) else (chat_Words.l0 k t237 x3_0 (wrap64 (x12_0 + 1)) (wrap64 (x12_0 + 1))))
end
def chat_Words.f (k : Nat) (a0 : ByteArray) : Option ((List ByteArray)) := (chat_lowered.f k a0).bind fun t237 => (chat_Words.l0 k t237 ([] : List ByteArray) 0 0)
theorem chat_Words.mono_l : ∀ k, (∀ y0 y1 y2 y3, LeO (chat_Words.l0 k y0 y1 y2 y3) (chat_Words.l0 (k + 1) y0 y1 y2 y3)) ∧ (∀ y0 y1 y2 y3 y4, LeO (chat_Words.l199 k y0 y1 y2 y3 y4) (chat_Words.l199 (k + 1) y0 y1 y2 y3 y4))
  | 0 => ⟨fun _ _ _ _ r h => by simp [chat_Words.l0] at h, fun _ _ _ _ _ r h => by simp [chat_Words.l199] at h⟩
  | k + 1 => by
    obtain ⟨ih0, ih1⟩ := chat_Words.mono_l k
    refine ⟨?_, ?_⟩
    · intro y0 y1 y2 y3
      unfold chat_Words.l0
      repeat' first
      | (with_reducible exact ih0 _ _ _ _)
      | (with_reducible exact ih1 _ _ _ _ _)
      | (with_reducible exact chat_lowered.mono _ _)
      | (with_reducible exact LeO.refl _)
      | (with_reducible exact LeO.none _)
      | (with_reducible refine LeO.ite ?_ ?_)
      | (with_reducible refine everyOf_le (fun _ => ?_))
      | (with_reducible refine LeO.bind ?_ (fun _ => ?_))
      | exact ih0 _ _ _ _
      | exact ih1 _ _ _ _ _
      | exact chat_lowered.mono _ _
      | exact LeO.none _
      | refine LeO.ite ?_ ?_
      | refine LeO.bind ?_ (fun _ => ?_)
    · intro y0 y1 y2 y3 y4
      unfold chat_Words.l199
      repeat' first
      | (with_reducible exact ih0 _ _ _ _)
      | (with_reducible exact ih1 _ _ _ _ _)
      | (with_reducible exact chat_lowered.mono _ _)
      | (with_reducible exact LeO.refl _)
      | (with_reducible exact LeO.none _)
      | (with_reducible refine LeO.ite ?_ ?_)
      | (with_reducible refine everyOf_le (fun _ => ?_))
      | (with_reducible refine LeO.bind ?_ (fun _ => ?_))
      | exact ih0 _ _ _ _
      | exact ih1 _ _ _ _ _
      | exact chat_lowered.mono _ _
      | exact LeO.none _
      | refine LeO.ite ?_ ?_
      | refine LeO.bind ?_ (fun _ => ?_)
theorem chat_Words.mono : ∀ a0 k, LeO (chat_Words.f k a0) (chat_Words.f (k + 1) a0) := by
  intro a0 k
  obtain ⟨ih0, ih1⟩ := chat_Words.mono_l k
  unfold chat_Words.f
  repeat' first
      | (with_reducible exact ih0 _ _ _ _)
      | (with_reducible exact ih1 _ _ _ _ _)
      | (with_reducible exact chat_lowered.mono _ _)
      | (with_reducible exact LeO.refl _)
      | (with_reducible exact LeO.none _)
      | (with_reducible refine LeO.ite ?_ ?_)
      | (with_reducible refine everyOf_le (fun _ => ?_))
      | (with_reducible refine LeO.bind ?_ (fun _ => ?_))
      | exact ih0 _ _ _ _
      | exact ih1 _ _ _ _ _
      | exact chat_lowered.mono _ _
      | exact LeO.none _
      | refine LeO.ite ?_ ?_
      | refine LeO.bind ?_ (fun _ => ?_)
def chat_Words.Post (r : List ByteArray) (S : Nat → Prop) (L : List Asr) (w : World) (e : Ending) (w' : World) : Prop := ∃ (Ar1 : Option Addr) (cr1 : Nat), e = .returned (.slice Ar1 r.length cr1) ∧ SL (row Kd.string 9 (.slice Ar1 r.length cr1) r :: L) w' S ∧ Keep S w w'
set_option maxHeartbeats 8000000 in
set_option maxRecDepth 100000 in
theorem chat_Words.slcalls (k : Nat) (a0 : ByteArray) (r : List ByteArray) (S : Nat → Prop) (L : List Asr) (w : World) (hf : Fresh S w) (hs : SL (L) w S) (h : chat_Words.f k a0 = some r) :
    Calls Try.prog 19 #[.string a0] w (chat_Words.Post r S L w) := by
  have HF := Aside0.mk hf
  have HS := Aside0.mk hs
  have HK := Aside0.mk (Keep.refl S w)
  clear hf hs
  have H : ((chat_lowered.f k a0).bind fun t237 => (chat_Words.l0 k t237 ([] : List ByteArray) 0 0)) = some r := h
  clear h
  replace H := Option.bind_eq_some_iff.1 H
  obtain ⟨t237, Hc10, H⟩ := H
  try dsimp only at H
  have Hc1 := Aside0.mk Hc10
  clear Hc10
  have H' := Aside0.mk H
  clear H
  go_enter Try.func19, Try.ntmps19
  go_wp2_with (first | ((with_reducible refine gate_dst (N := 8) rfl ?_); refine goesL_ (some 8) rfl rfl Try.func29 (by kernel_rfl) rfl #[.string a0] rfl (by (try simp only [List.map_toArray, List.map_cons, List.map_nil]); first | done | rfl | (simp; done)) ?_; have hs0_ := HS.out; (with_reducible refine (chat_lowered.slcalls k _ _ _ _ _ (HF.out.keep HK.out) hs0_  Hc1.out).mono ?_); rintro e_ w2 ⟨Az3000024, cz3000024, rfl, hsr_, hkr_⟩; refine ⟨_, rfl, ?_⟩; replace HS := Aside0.mk (hsr_); replace HK := Aside0.mk (HK.out.trans hkr_); have n2_ := Aside0.mk (SL.nil_row Kd.string 9 HS.out); clear HS; have HS := n2_; clear n2_))
  try go_simp
  go_loopg [3, 5, 12] k (fun kq v3 v5 v12 w' => ∃ (x3_0 : List ByteArray) (Ax3_0 : Option Addr) (cx3_0 : Nat) (x5_0 : Int) (x12_0 : Int), v3 = .slice Ax3_0 x3_0.length cx3_0 ∧ v5 = .int .i64 x5_0 ∧ v12 = .int .i64 x12_0 ∧ Aside0 (chat_Words.l0 kq t237 x3_0 x5_0 x12_0 = some r) ∧ Aside0 (kq ≤ k) ∧ Aside0 (SL (row Kd.string 9 (.slice Ax3_0 x3_0.length cx3_0) x3_0 :: rowM 5 (.slice Az3000024 t237.length cz3000024) t237 :: L) w' S) ∧ Aside0 (Keep S w w'))
  case atStart => exact ⟨(([] : List ByteArray)), (none), (0), (0), (0), (by first | rfl | (simp; done) | (simp [*]; done)), (by first | rfl | (simp; done) | (simp [*]; done)), (by first | rfl | (simp; done) | (simp [*]; done)), H', ⟨Nat.le_refl _⟩, HS, HK⟩
  case round =>
    clear H' HS HK
    obtain ⟨x3_0, Ax3_0, cx3_0, x5_0, x12_0, rfl, rfl, rfl, HA, HQ1, HS, HK⟩ := hrel
    cases gk with
    | zero => exact absurd HA.out (by simp [chat_Words.l0])
    | succ k1 =>
      have H := HA.out
      clear HA
      simp only [chat_Words.l0] at H
      by_cases c3 : x12_0 < (wrap64 ((t237.length : Int) + 1))
      · rw [if_pos c3] at H
        have c3b0 : decide (x12_0 < (wrap64 ((t237.length : Int) + 1))) = true := decide_eq_true c3
        clear c3
        have H' := Aside0.mk H
        clear H
        try go_upto_region 7 with (fail)
        (try simp only [Act.put, sT, sZ, sS])
        go_cut [25] (fun v25 wc => ∃ (kq : Nat) (x25_199 : Bool), v25 = .bool x25_199 ∧ Aside0 (chat_Words.l199 kq t237 x3_0 x5_0 x12_0 x25_199 = some r) ∧ Aside0 (kq ≤ k1) ∧ Aside0 (SL (row Kd.string 9 (.slice Ax3_0 x3_0.length cx3_0) x3_0 :: rowM 5 (.slice Az3000024 t237.length cz3000024) t237 :: L) wc S) ∧ Aside0 (Keep S w wc))
        case first =>
          have H := H'.out
          clear H'
          by_cases c4 : x12_0 < (t237.length : Int)
          · rw [if_pos c4] at H
            have c4b0 : decide (x12_0 < (t237.length : Int)) = true := decide_eq_true c4
            clear c4
            by_cases c5 : 0 ≤ x12_0
            · rw [if_pos c5] at H
              have c5b0 : decide (0 ≤ x12_0) = true := decide_eq_true c5
              clear c5
              replace H := Option.bind_eq_some_iff.1 H
              obtain ⟨t239, Hc60, H⟩ := H
              try dsimp only at H
              have Hc6 := Aside0.mk Hc60
              clear Hc60
              have H' := Aside0.mk H
              clear H
              have pq238 : 0 ≤ (x12_0 : Int) := of_decide_eq_true (by first | (with_reducible assumption) | assumption)
              have qq238 : x12_0 < ((t237.length : Int) : Int) := of_decide_eq_true (by first | (with_reducible assumption) | assumption)
              obtain ⟨adq238, eq238, hxq238_0⟩ := Kd.at_int (rowM_c (SL.get1 HS.out)).2.2 x12_0 pq238 qq238
              cases eq238
              replace pq238 := eq_true pq238
              replace qq238 := eq_true qq238
              go_wp2_with (first | ((with_reducible refine gate_dst (N := 24) rfl ?_); (try (refine gate_guard (by rfl) ?_; dsimp only)); refine goesL_ (some 24) rfl rfl Try.func32 (by kernel_rfl) rfl #[.int .u8 (rd t237 x12_0)] rfl (by (try simp only [List.map_toArray, List.map_cons, List.map_nil]); first | done | rfl | (simp; done)) ?_; (with_reducible refine (chat_letter.calls _ _ _  Hc6.out).mono ?_); rintro e_ w7 ⟨rfl, hb_⟩; refine ⟨_, rfl, ?_⟩; replace hb_ := Drawn0.below hb_; replace HS := Aside0.mk (HS.out.below hb_); replace HK := Aside0.mk (HK.out.trans (Keep.below hb_))))
              go_meet
              case rel => exact ⟨k1, (t239), (by first | rfl | (simp; done) | (simp [*]; done)), H', ⟨by have := HQ1.out; omega⟩, HS, HK⟩
            · rw [if_neg c5] at H
              exact absurd H (by simp)
          · rw [if_neg c4] at H
            have c4b0 : decide (x12_0 < (t237.length : Int)) = false := decide_eq_false c4
            clear c4
            have H' := Aside0.mk H
            clear H
            go_wp2
            go_meet
            case rel => exact ⟨k1, (false), (by first | rfl | (simp; done) | (simp [*]; done)), H', ⟨by have := HQ1.out; omega⟩, HS, HK⟩
        case rest =>
          clear H' HS HK
          obtain ⟨kq, x25_199, rfl, HA, HQ2, HS, HK⟩ := hcut
          cases kq with
          | zero => exact absurd HA.out (by simp [chat_Words.l199])
          | succ k2 =>
            have H := HA.out
            clear HA
            simp only [chat_Words.l199] at H
            by_cases c8 : x25_199 = true
            · subst c8
              rw [if_pos rfl] at H
              have H' := Aside0.mk H
              clear H
              go_wp2
              go_roundg k2
              case measure => have := HQ1.out; have := HQ2.out; omega
              case rel => exact ⟨(x3_0), (Ax3_0), (cx3_0), (x5_0), (wrap64 (x12_0 + 1)), (by first | rfl | (simp; done) | (simp [*]; done)), (by first | rfl | (simp; done) | (simp [*]; done)), (by first | rfl | (simp; done) | (simp [*]; done)), H', ⟨by have := HQ1.out; have := HQ2.out; omega⟩, HS, HK⟩
            · replace c8 := Bool.eq_false_iff.mpr c8
              subst c8
              rw [if_neg (show ¬ (false = true) by decide)] at H
              by_cases c9 : x12_0 > x5_0
              · rw [if_pos c9] at H
                have c9b0 : decide (x5_0 < x12_0) = true := decide_eq_true c9
                clear c9
                by_cases c10 : 0 ≤ x5_0
                · rw [if_pos c10] at H
                  have c10b0 := eq_true c10
                  have c10b1 : decide (0 ≤ x5_0) = true := decide_eq_true c10
                  clear c10
                  by_cases c11 : x5_0 ≤ x12_0
                  · rw [if_pos c11] at H
                    have c11b0 := eq_true c11
                    have c11b1 : decide (x5_0 ≤ x12_0) = true := decide_eq_true c11
                    clear c11
                    by_cases c12 : x12_0 ≤ (t237.length : Int)
                    · rw [if_pos c12] at H
                      have c12b0 := eq_true c12
                      have c12b1 : decide (x12_0 ≤ (t237.length : Int)) = true := decide_eq_true c12
                      clear c12
                      replace H := Option.bind_eq_some_iff.1 H
                      obtain ⟨y240, hy2400, H⟩ := H
                      try dsimp only at H
                      have hy240 := Option.some.inj hy2400
                      clear hy2400
                      have Ny240 := Aside0.mk hy240
                      clear hy240
                      replace H := Option.bind_eq_some_iff.1 H
                      obtain ⟨y244, hy2440, H⟩ := H
                      try dsimp only at H
                      have hy244 := Option.some.inj hy2440
                      clear hy2440
                      have Ny244 := Aside0.mk hy244
                      clear hy244
                      by_cases c13 : x3_0.length + y244.length < 8796093022208
                      · rw [if_pos c13] at H
                        have LMc13 := Aside0.mk c13
                        clear c13
                        replace H := Option.bind_eq_some_iff.1 H
                        obtain ⟨y245, hy2450, H⟩ := H
                        try dsimp only at H
                        have hy245 := Option.some.inj hy2450
                        clear hy2450
                        have Ny245 := Aside0.mk hy245
                        clear hy245
                        have H' := Aside0.mk H
                        clear H
                        obtain ⟨A241, c242, hcvq243, hcs_, hcc_, hcl_⟩ := cut_mid (P := Try.prog) (Kd.int .u8) 57 5 .i64 .i64 Try.underlying57 (by kernel_rfl) rfl Az3000024 t237.length cz3000024 t237 rfl (rowM_c (SL.get1 HS.out)).2.1 x5_0 x12_0 (of_decide_eq_true (by first | (with_reducible assumption) | assumption) : (0 : Int) ≤ (x5_0 : Int)) (of_decide_eq_true (by first | (with_reducible assumption) | assumption) : (x5_0 : Int) ≤ (x12_0 : Int)) (of_decide_eq_true (by first | (with_reducible assumption) | assumption) : (x12_0 : Int) ≤ ((t237.length : Int) : Int)) y240 Ny240.out
                        have HVq243 := Aside0.mk (And.intro True.intro hcc_)
                        have HCq243 := Aside0.mk hcl_
                        clear hcs_ hcc_ hcl_
                        have hcs15 := Kd.C_string (P := Try.prog) (A := A241) (c := c242) Try.underlying57 Try.underlying5 Try.underlying9 (And.right HVq243.out _ (rowM_c (SL.get1 HS.out)).2.2)
                        go_wp2_with (first | ((with_reducible refine gate_dst (N := 35) rfl ?_); refine wpList_plain rfl (fun K_ hK_ => ?_); refine op_row (S := S) (enc := Value.string) (h1 := fun _ => rfl) 9 y244 #[.string (strOfNums y240)] 1 (by rw [← Ny244.out]; rfl) (by rw [← Ny244.out]; rfl) (by decide) (HF.out.keep HK.out) HS.out (by first | (go_simp; done) | (go_simp; rfl)) ?_; intro Az3000025 cz3000025 w16 hs_ hk_; refine hK_ _ _ ?_; clear hK_ K_; replace HS := Aside0.mk ((show SL (row Kd.string 9 (.slice Az3000025 1 cz3000025) y244 :: _) _ _ from hs_)); replace HK := Aside0.mk (HK.out.trans hk_)) | ((with_reducible refine gate_dst (N := 36) rfl ?_); refine wpList_plain rfl (fun K_ hK_ => ?_); refine op_append (S := S) (enc := Value.string) (h1 := fun _ => rfl) (⟨#[]⟩ : ByteArray) (.tmp 29) (.tmp 35) 31 9 (.string ⟨#[]⟩) 16 rfl Try.underlying31 info9 rfl (by decide) (.slice Ax3_0 x3_0.length cx3_0) rfl rfl (HF.out.keep HK.out) (SL.get1 HS.out) (SL.row_c HS.out).2.2 (by have := LMc13.out; have e_ := (SL.row_c HS.out).1; omega) y245 Ny245.out ?_; intro A246 c247 w17 hs_ hk_; refine hK_ _ _ ?_; clear hK_ K_; replace HS := Aside0.mk ((SL.back1 (show SL (row Kd.string 9 (.slice A246 y245.length c247) y245 :: _) _ _ from hs_))); replace HK := Aside0.mk (HK.out.trans hk_)))
                        replace HS := Aside0.mk (SL.tail HS.out)
                        go_roundg k2
                        case measure => have := HQ1.out; have := HQ2.out; omega
                        case rel => exact ⟨(y245), (A246), (c247), (wrap64 (x12_0 + 1)), (wrap64 (x12_0 + 1)), (by first | rfl | (simp; done) | (simp [*]; done)), (by first | rfl | (simp; done) | (simp [*]; done)), (by first | rfl | (simp; done) | (simp [*]; done)), H', ⟨by have := HQ1.out; have := HQ2.out; omega⟩, HS, HK⟩
                      · rw [if_neg c13] at H
                        exact absurd H (by simp)
                    · rw [if_neg c12] at H
                      exact absurd H (by simp)
                  · rw [if_neg c11] at H
                    exact absurd H (by simp)
                · rw [if_neg c10] at H
                  exact absurd H (by simp)
              · rw [if_neg c9] at H
                have c9b0 : decide (x5_0 < x12_0) = false := decide_eq_false c9
                clear c9
                have H' := Aside0.mk H
                clear H
                go_wp2
                go_roundg k2
                case measure => have := HQ1.out; have := HQ2.out; omega
                case rel => exact ⟨(x3_0), (Ax3_0), (cx3_0), (wrap64 (x12_0 + 1)), (wrap64 (x12_0 + 1)), (by first | rfl | (simp; done) | (simp [*]; done)), (by first | rfl | (simp; done) | (simp [*]; done)), (by first | rfl | (simp; done) | (simp [*]; done)), H', ⟨by have := HQ1.out; have := HQ2.out; omega⟩, HS, HK⟩
      · rw [if_neg c3] at H
        have c3b0 : decide (x12_0 < (wrap64 ((t237.length : Int) + 1))) = false := decide_eq_false c3
        clear c3
        obtain rfl := Option.some.inj H
        go_wp2
        go_ret
        replace HS := Aside0.mk (SL.tail (SL.get1 HS.out))
        unfold chat_Words.Post
        exact ⟨Ax3_0, cx3_0, by first | rfl | (simp; done) | (simp [*]; done) | (simp at c3b0 ⊢; first | exact c3b0 | (simp [c3b0]; done)), HS.out, HK.out⟩

/-! ### bytealg_LastIndexByteString: function 66 -/
def bytealg_LastIndexByteString.l0 : Nat → ByteArray → Int → Int → Option (Int)
  | 0, _, _, _ => none
  | k + 1, x0, x1, x5 => if x5 ≥ 0 then (if 0 ≤ x5 then (if x5 < (x0.size : Int) then (if (bt x0 x5) = x1 then (some x5) else (bytealg_LastIndexByteString.l0 k x0 x1 (wrap64 (x5 - 1)))) else (none)) else (none)) else (some (-1))
def bytealg_LastIndexByteString.f (k : Nat) (a0 : ByteArray) (a1 : Int) : Option (Int) := bytealg_LastIndexByteString.l0 k a0 a1 (wrap64 ((a0.size : Int) - 1))
theorem bytealg_LastIndexByteString.mono_l : ∀ k, (∀ y0 y1 y2, LeO (bytealg_LastIndexByteString.l0 k y0 y1 y2) (bytealg_LastIndexByteString.l0 (k + 1) y0 y1 y2))
  | 0 => fun _ _ _ r h => by simp [bytealg_LastIndexByteString.l0] at h
  | k + 1 => by
    have ih0 := bytealg_LastIndexByteString.mono_l k
    · intro y0 y1 y2
      unfold bytealg_LastIndexByteString.l0
      repeat' first
      | (with_reducible exact ih0 _ _ _)
      | (with_reducible exact LeO.refl _)
      | (with_reducible exact LeO.none _)
      | (with_reducible refine LeO.ite ?_ ?_)
      | (with_reducible refine LeO.bind ?_ (fun _ => ?_))
      | exact ih0 _ _ _
      | exact LeO.none _
      | refine LeO.ite ?_ ?_
      | refine LeO.bind ?_ (fun _ => ?_)
theorem bytealg_LastIndexByteString.mono : ∀ a0 a1 k, LeO (bytealg_LastIndexByteString.f k a0 a1) (bytealg_LastIndexByteString.f (k + 1) a0 a1) := by
  intro a0 a1 k
  have ih0 := bytealg_LastIndexByteString.mono_l k
  unfold bytealg_LastIndexByteString.f
  repeat' first
      | (with_reducible exact ih0 _ _ _)
      | (with_reducible exact LeO.refl _)
      | (with_reducible exact LeO.none _)
      | (with_reducible refine LeO.ite ?_ ?_)
      | (with_reducible refine LeO.bind ?_ (fun _ => ?_))
      | exact ih0 _ _ _
      | exact LeO.none _
      | refine LeO.ite ?_ ?_
      | refine LeO.bind ?_ (fun _ => ?_)
set_option maxHeartbeats 8000000 in
set_option maxRecDepth 100000 in
theorem bytealg_LastIndexByteString.calls (k : Nat) (a0 : ByteArray) (a1 : Int) (r : Int) (w : World) (h : bytealg_LastIndexByteString.f k a0 a1 = some r) :
    Calls Try.prog 66 #[.string a0, .int .u8 a1] w fun e w' => e = .returned (.int .i64 r) ∧ Drawn0 w w' := by
  have H : (bytealg_LastIndexByteString.l0 k a0 a1 (wrap64 ((a0.size : Int) - 1))) = some r := h
  clear h
  have H' := Aside0.mk H
  clear H
  go_enter Try.func66, Try.ntmps66
  go_wp2
  go_loopg [5] k (fun kq v5 w' => ∃ (x5_1 : Int), v5 = .int .i64 x5_1 ∧ Aside0 (bytealg_LastIndexByteString.l0 kq a0 a1 x5_1 = some r) ∧ Aside0 (kq ≤ k) ∧ Drawn0 w w')
  case atStart => exact ⟨(wrap64 ((a0.size : Int) - 1)), (by first | rfl | (simp; done) | (simp [*]; done)), H', ⟨Nat.le_refl _⟩, by repeat (first | exact Drawn0.refl _ | apply Drawn0.step)⟩
  case round =>
    clear H'
    try clear p2
    obtain ⟨x5_1, rfl, HA, HK1, ⟨m1, rfl⟩⟩ := hrel
    cases gk with
    | zero => exact absurd HA.out (by simp [bytealg_LastIndexByteString.l0])
    | succ k1 =>
      have H := HA.out
      clear HA
      simp only [bytealg_LastIndexByteString.l0] at H
      by_cases c3 : x5_1 ≥ 0
      · rw [if_pos c3] at H
        have c3b0 : decide (0 ≤ x5_1) = true := decide_eq_true c3
        clear c3
        by_cases c4 : 0 ≤ x5_1
        · rw [if_pos c4] at H
          have c4b0 : decide (0 ≤ x5_1) = true := decide_eq_true c4
          clear c4
          by_cases c5 : x5_1 < (a0.size : Int)
          · rw [if_pos c5] at H
            have c5b0 : decide (x5_1 < (a0.size : Int)) = true := decide_eq_true c5
            clear c5
            by_cases c7 : (bt a0 x5_1) = a1
            · rw [if_pos c7] at H
              have c7b0 : ((bt a0 x5_1) == a1) = true := beq_iff_eq.mpr c7
              have c7b1 : ((bt a0 x5_1) != a1) = false := bne_eq_false_iff_eq.mpr c7
              clear c7
              obtain rfl := Option.some.inj H
              have p6 : 0 ≤ (x5_1 : Int) := of_decide_eq_true (by first | (with_reducible assumption) | assumption)
              have q6 : x5_1 < (a0.size : Int) := of_decide_eq_true (by first | (with_reducible assumption) | assumption)
              have hx6 := bt_at a0 x5_1
              replace p6 := eq_true p6
              replace q6 := eq_true q6
              go_wp2
              go_ret
              exact ⟨by first | rfl | (simp; done) | (simp [*]; done), by repeat (first | exact Drawn0.refl _ | apply Drawn0.step)⟩
            · rw [if_neg c7] at H
              have c7b0 : ((bt a0 x5_1) == a1) = false := beq_eq_false_iff_ne.mpr c7
              have c7b1 : ((bt a0 x5_1) != a1) = true := bne_iff_ne.mpr c7
              have H' := Aside0.mk H
              clear H
              have p6 : 0 ≤ (x5_1 : Int) := of_decide_eq_true (by first | (with_reducible assumption) | assumption)
              have q6 : x5_1 < (a0.size : Int) := of_decide_eq_true (by first | (with_reducible assumption) | assumption)
              have hx6 := bt_at a0 x5_1
              replace p6 := eq_true p6
              replace q6 := eq_true q6
              go_wp2
              go_roundg k1
              case measure => have := HK1.out; omega
              case rel => exact ⟨(wrap64 (x5_1 - 1)), (by first | rfl | (simp; done) | (simp [*]; done)), H', ⟨by have := HK1.out; omega⟩, by repeat (first | exact Drawn0.refl _ | apply Drawn0.step)⟩
          · rw [if_neg c5] at H
            exact absurd H (by simp)
        · rw [if_neg c4] at H
          exact absurd H (by simp)
      · rw [if_neg c3] at H
        have c3b0 : decide (0 ≤ x5_1) = false := decide_eq_false c3
        clear c3
        obtain rfl := Option.some.inj H
        go_wp2
        go_ret
        exact ⟨by first | rfl | (simp; done) | (simp [*]; done), by repeat (first | exact Drawn0.refl _ | apply Drawn0.step)⟩

/-! ### strings_LastIndexByte: function 45 -/
def strings_LastIndexByte.f (k : Nat) (a0 : ByteArray) (a1 : Int) : Option (Int) := (bytealg_LastIndexByteString.f k a0 a1).bind fun t248 => (some t248)
theorem strings_LastIndexByte.mono : ∀ a0 a1 k, LeO (strings_LastIndexByte.f k a0 a1) (strings_LastIndexByte.f (k + 1) a0 a1) := by
  intro a0 a1 k
  unfold strings_LastIndexByte.f
  repeat' first
      | (with_reducible exact bytealg_LastIndexByteString.mono _ _ _)
      | (with_reducible exact LeO.refl _)
      | (with_reducible exact LeO.none _)
      | (with_reducible refine LeO.ite ?_ ?_)
      | (with_reducible refine LeO.bind ?_ (fun _ => ?_))
      | exact bytealg_LastIndexByteString.mono _ _ _
      | exact LeO.none _
      | refine LeO.ite ?_ ?_
      | refine LeO.bind ?_ (fun _ => ?_)
set_option maxHeartbeats 8000000 in
set_option maxRecDepth 100000 in
theorem strings_LastIndexByte.calls (k : Nat) (a0 : ByteArray) (a1 : Int) (r : Int) (w : World) (h : strings_LastIndexByte.f k a0 a1 = some r) :
    Calls Try.prog 45 #[.string a0, .int .u8 a1] w fun e w' => e = .returned (.int .i64 r) ∧ Drawn0 w w' := by
  have H : ((bytealg_LastIndexByteString.f k a0 a1).bind fun t248 => (some t248)) = some r := h
  clear h
  replace H := Option.bind_eq_some_iff.mp H
  obtain ⟨t248, A30, H⟩ := H
  replace H : (some t248) = some r := H
  have A3 := Aside0.mk A30
  clear A30
  obtain rfl := Option.some.inj H
  go_enter Try.func45, Try.ntmps45
  go_wp2_with (first | ((with_reducible refine gate_callee (f := 66) rfl ?_); refine goesL_ (some 7) rfl rfl Try.func66 (by kernel_rfl) rfl #[.string a0, .int .u8 a1] rfl (by (try simp only [List.map_toArray, List.map_cons, List.map_nil]); first | done | rfl | (simp only [List.length_drop, List.length_take]; rfl)) ?_; (with_reducible refine (bytealg_LastIndexByteString.calls k a0 a1 t248 _ A3.out).mono ?_); rintro e w' ⟨rfl, ⟨nd, rfl⟩⟩; refine ⟨_, rfl, ?_⟩))
  go_ret
  exact ⟨by first | rfl | (simp; done) | (simp [*]; done), by repeat (first | exact Drawn0.refl _ | apply Drawn0.step)⟩

/-! ### chat_piece: function 34 -/
def chat_piece.f (k : Nat) (a0 : ByteArray) (a1 : Int) : Option (Int) := if (a0.size : Int) ≤ a1 then (some (a0.size : Int)) else (if 0 ≤ a1 then (if a1 ≤ (a0.size : Int) then ((strings_LastIndexByte.f k (a0.extract 0 (a1 : Int).toNat) 32).bind fun t249 => (if t249 ≥ 0 then (some (wrap64 (t249 + 1))) else (some a1))) else (none)) else (none))
theorem chat_piece.mono : ∀ a0 a1 k, LeO (chat_piece.f k a0 a1) (chat_piece.f (k + 1) a0 a1) := by
  intro a0 a1 k
  unfold chat_piece.f
  repeat' first
      | (with_reducible exact strings_LastIndexByte.mono _ _ _)
      | (with_reducible exact LeO.refl _)
      | (with_reducible exact LeO.none _)
      | (with_reducible refine LeO.ite ?_ ?_)
      | (with_reducible refine LeO.bind ?_ (fun _ => ?_))
      | exact strings_LastIndexByte.mono _ _ _
      | exact LeO.none _
      | refine LeO.ite ?_ ?_
      | refine LeO.bind ?_ (fun _ => ?_)
set_option maxHeartbeats 8000000 in
set_option maxRecDepth 100000 in
theorem chat_piece.calls (k : Nat) (a0 : ByteArray) (a1 : Int) (r : Int) (w : World) (h : chat_piece.f k a0 a1 = some r) :
    Calls Try.prog 34 #[.string a0, .int .i64 a1] w fun e w' => e = .returned (.int .i64 r) ∧ Drawn0 w w' := by
  have H : (if (a0.size : Int) ≤ a1 then (some (a0.size : Int)) else (if 0 ≤ a1 then (if a1 ≤ (a0.size : Int) then ((strings_LastIndexByte.f k (a0.extract 0 (a1 : Int).toNat) 32).bind fun t249 => (if t249 ≥ 0 then (some (wrap64 (t249 + 1))) else (some a1))) else (none)) else (none))) = some r := h
  clear h
  by_cases c3 : (a0.size : Int) ≤ a1
  · rw [if_pos c3] at H
    have c3b0 : decide ((a0.size : Int) ≤ a1) = true := decide_eq_true c3
    clear c3
    obtain rfl := Option.some.inj H
    go_enter Try.func34, Try.ntmps34
    go_wp2
    go_ret
    exact ⟨by first | rfl | (simp; done) | (simp [*]; done), by repeat (first | exact Drawn0.refl _ | apply Drawn0.step)⟩
  · rw [if_neg c3] at H
    have c3b0 : decide ((a0.size : Int) ≤ a1) = false := decide_eq_false c3
    clear c3
    by_cases c4 : 0 ≤ a1
    · rw [if_pos c4] at H
      have c4b0 := eq_true c4
      have c4b1 : decide (0 ≤ a1) = true := decide_eq_true c4
      clear c4
      by_cases c5 : a1 ≤ (a0.size : Int)
      · rw [if_pos c5] at H
        have c5b0 := eq_true c5
        have c5b1 : decide (a1 ≤ (a0.size : Int)) = true := decide_eq_true c5
        clear c5
        replace H := Option.bind_eq_some_iff.mp H
        obtain ⟨t249, A60, H⟩ := H
        replace H : (if t249 ≥ 0 then (some (wrap64 (t249 + 1))) else (some a1)) = some r := H
        have A6 := Aside0.mk A60
        clear A60
        by_cases c7 : t249 ≥ 0
        · rw [if_pos c7] at H
          have c7b0 : decide (0 ≤ t249) = true := decide_eq_true c7
          clear c7
          obtain rfl := Option.some.inj H
          go_enter Try.func34, Try.ntmps34
          go_wp2_with (first | ((with_reducible refine gate_callee (f := 45) rfl ?_); refine goesL_ (some 15) rfl rfl Try.func45 (by kernel_rfl) rfl #[.string (a0.extract 0 (a1 : Int).toNat), .int .u8 32] rfl (by (try simp only [List.map_toArray, List.map_cons, List.map_nil]); first | done | rfl | (simp only [List.length_drop, List.length_take]; rfl)) ?_; (with_reducible refine (strings_LastIndexByte.calls k (a0.extract 0 (a1 : Int).toNat) 32 t249 _ A6.out).mono ?_); rintro e w' ⟨rfl, ⟨nd, rfl⟩⟩; refine ⟨_, rfl, ?_⟩))
          go_ret
          exact ⟨by first | rfl | (simp; done) | (simp [*]; done), by repeat (first | exact Drawn0.refl _ | apply Drawn0.step)⟩
        · rw [if_neg c7] at H
          have c7b0 : decide (0 ≤ t249) = false := decide_eq_false c7
          clear c7
          obtain rfl := Option.some.inj H
          go_enter Try.func34, Try.ntmps34
          go_wp2_with (first | ((with_reducible refine gate_callee (f := 45) rfl ?_); refine goesL_ (some 15) rfl rfl Try.func45 (by kernel_rfl) rfl #[.string (a0.extract 0 (a1 : Int).toNat), .int .u8 32] rfl (by (try simp only [List.map_toArray, List.map_cons, List.map_nil]); first | done | rfl | (simp only [List.length_drop, List.length_take]; rfl)) ?_; (with_reducible refine (strings_LastIndexByte.calls k (a0.extract 0 (a1 : Int).toNat) 32 t249 _ A6.out).mono ?_); rintro e w' ⟨rfl, ⟨nd, rfl⟩⟩; refine ⟨_, rfl, ?_⟩))
          go_ret
          exact ⟨by first | rfl | (simp; done) | (simp [*]; done), by repeat (first | exact Drawn0.refl _ | apply Drawn0.step)⟩
      · rw [if_neg c5] at H
        exact absurd H (by simp)
    · rw [if_neg c4] at H
      exact absurd H (by simp)

/-! ### chat_Cut: function 21 -/
def chat_Cut.l0 : Nat → ByteArray → Int → List ByteArray → Option (List ByteArray)
  | 0, _, _, _ => none
  | k + 1, x0, x1, x5 => if x0.toList = ([] : List UInt8) then (some x5) else (if x1 ≥ 1 then ((chat_piece.f k x0 x1).bind fun t250 => (if 0 ≤ t250 then (if t250 ≤ (x0.size : Int) then (if x5.length < 8796093022208 then (chat_Cut.l0 k (x0.extract (t250 : Int).toNat x0.size) x1 (x5 ++ [x0.extract 0 (t250 : Int).toNat])) else (none)) else (none)) else (none))) else (some x5))
def chat_Cut.f (k : Nat) (a0 : ByteArray) (a1 : Int) : Option (List ByteArray) := chat_Cut.l0 k a0 a1 ([] : List ByteArray)
theorem chat_Cut.mono_l : ∀ k, (∀ y0 y1 y2, LeO (chat_Cut.l0 k y0 y1 y2) (chat_Cut.l0 (k + 1) y0 y1 y2))
  | 0 => fun _ _ _ r h => by simp [chat_Cut.l0] at h
  | k + 1 => by
    have ih0 := chat_Cut.mono_l k
    · intro y0 y1 y2
      unfold chat_Cut.l0
      repeat' first
      | (with_reducible exact ih0 _ _ _)
      | (with_reducible exact chat_piece.mono _ _ _)
      | (with_reducible exact LeO.refl _)
      | (with_reducible exact LeO.none _)
      | (with_reducible refine LeO.ite ?_ ?_)
      | (with_reducible refine LeO.bind ?_ (fun _ => ?_))
      | exact ih0 _ _ _
      | exact chat_piece.mono _ _ _
      | exact LeO.none _
      | refine LeO.ite ?_ ?_
      | refine LeO.bind ?_ (fun _ => ?_)
theorem chat_Cut.mono : ∀ a0 a1 k, LeO (chat_Cut.f k a0 a1) (chat_Cut.f (k + 1) a0 a1) := by
  intro a0 a1 k
  have ih0 := chat_Cut.mono_l k
  unfold chat_Cut.f
  repeat' first
      | (with_reducible exact ih0 _ _ _)
      | (with_reducible exact chat_piece.mono _ _ _)
      | (with_reducible exact LeO.refl _)
      | (with_reducible exact LeO.none _)
      | (with_reducible refine LeO.ite ?_ ?_)
      | (with_reducible refine LeO.bind ?_ (fun _ => ?_))
      | exact ih0 _ _ _
      | exact chat_piece.mono _ _ _
      | exact LeO.none _
      | refine LeO.ite ?_ ?_
      | refine LeO.bind ?_ (fun _ => ?_)
set_option maxHeartbeats 8000000 in
set_option maxRecDepth 100000 in
theorem chat_Cut.calls (k : Nat) (a0 : ByteArray) (a1 : Int) (r : List ByteArray) (w : World) (h : chat_Cut.f k a0 a1 = some r) :
    Calls Try.prog 21 #[.string a0, .int .i64 a1] w fun e w' => ∃ v0_ : Value, e = .returned (v0_) ∧ Kd.R Kd.string 9 w' w.heap.size (fun _ => True) v0_ r ∧ Below w.heap.size w w' := by
  have HB := Aside0.mk (Below.refl w.heap.size w)
  have H : (chat_Cut.l0 k a0 a1 ([] : List ByteArray)) = some r := h
  clear h
  have H' := Aside0.mk H
  clear H
  go_enter Try.func21, Try.ntmps21
  go_wp2
  go_loopg [0, 5] k (fun kq v0 v5 w' => ∃ (x0_1 : ByteArray) (x5_1 : List ByteArray), v0 = .string x0_1 ∧ Aside0 (chat_Cut.l0 kq x0_1 a1 x5_1 = some r) ∧ Aside0 (kq ≤ k) ∧ Aside0 (Kd.R Kd.string 9 w' w.heap.size (fun _ => True) v5 x5_1) ∧ Aside0 (Below w.heap.size w w'))
  case atStart => exact ⟨(a0), (([] : List ByteArray)), (by first | rfl | (simp; done) | (simp [*]; done)), H', ⟨Nat.le_refl _⟩, ⟨by first | exact Kd.R_nil _ _ _ _ _ | exact Kd.N_nil _ _ _ _ _ | exact Kd.V_nil _ _ _ _ _ | exact Kd.Q_nil _ _ _ _ _ | exact Kd.S_nil _ _ _ _ _⟩, ⟨by repeat (first | (with_reducible first | exact HB.out | apply below_alloc | apply pw_below_drewN | apply below_drew1) | exact HB.out)⟩⟩
  case round =>
    clear H'
    try clear c2
    try clear p2
    obtain ⟨x0_1, x5_1, rfl, HA, HK1, HO_5, HB⟩ := hrel
    cases gk with
    | zero => exact absurd HA.out (by simp [chat_Cut.l0])
    | succ k1 =>
      have H := HA.out
      clear HA
      simp only [chat_Cut.l0] at H
      by_cases c3 : x0_1.toList = ([] : List UInt8)
      · rw [if_pos c3] at H
        have c3b0 : (x0_1.toList == ([] : List UInt8)) = true := beq_iff_eq.mpr c3
        have c3b1 : (x0_1.toList != ([] : List UInt8)) = false := bne_eq_false_iff_eq.mpr c3
        clear c3
        obtain rfl := Option.some.inj H
        go_wp2
        go_ret
        exact ⟨_, by first | rfl | (simp [errW_none, errW_some] <;> rfl) | (simp [*, errW_none, errW_some] <;> rfl), by (with_reducible repeat (first | apply Kd.R_alloc | apply Kd.R_drewN | apply Kd.R_drew)); exact HO_5.out, by repeat (first | (with_reducible first | exact HB.out | apply below_alloc | apply pw_below_drewN | apply below_drew1) | exact HB.out)⟩
      · rw [if_neg c3] at H
        have c3b0 : (x0_1.toList == ([] : List UInt8)) = false := beq_eq_false_iff_ne.mpr c3
        have c3b1 : (x0_1.toList != ([] : List UInt8)) = true := bne_iff_ne.mpr c3
        by_cases c4 : a1 ≥ 1
        · rw [if_pos c4] at H
          have c4b0 : decide (1 ≤ a1) = true := decide_eq_true c4
          clear c4
          replace H := Option.bind_eq_some_iff.mp H
          obtain ⟨t250, A50, H⟩ := H
          replace H : (if 0 ≤ t250 then (if t250 ≤ (x0_1.size : Int) then (if x5_1.length < 8796093022208 then (chat_Cut.l0 k1 (x0_1.extract (t250 : Int).toNat x0_1.size) a1 (x5_1 ++ [x0_1.extract 0 (t250 : Int).toNat])) else (none)) else (none)) else (none)) = some r := H
          have A5 := Aside0.mk A50
          clear A50
          by_cases c6 : 0 ≤ t250
          · rw [if_pos c6] at H
            have c6b0 := eq_true c6
            have c6b1 : decide (0 ≤ t250) = true := decide_eq_true c6
            clear c6
            by_cases c7 : t250 ≤ (x0_1.size : Int)
            · rw [if_pos c7] at H
              have c7b0 := eq_true c7
              have c7b1 : decide (t250 ≤ (x0_1.size : Int)) = true := decide_eq_true c7
              clear c7
              by_cases c8 : x5_1.length < 8796093022208
              · rw [if_pos c8] at H
                have LMc8 := Aside0.mk c8
                clear c8
                obtain ⟨y251, hy251⟩ : ∃ y_ : List ByteArray, y_ = (x5_1 ++ [x0_1.extract 0 (t250 : Int).toNat]) := ⟨_, rfl⟩
                replace H : (chat_Cut.l0 k1 (x0_1.extract (t250 : Int).toNat x0_1.size) a1 y251) = some r := by first | (rw [hy251]; with_reducible exact H) | (have H2_ := (Option.bind_some _ _).symm.trans H; rw [hy251]; with_reducible exact H2_) | (have H2_ := (Option.bind_some _ _).symm.trans H; with_reducible exact H2_) | with_reducible exact H | (rw [hy251]; exact H) | exact H
                have Ny251 := Aside0.mk hy251
                clear hy251
                have c9b0 := eq_true (of_decide_eq_true (by first | (with_reducible assumption) | assumption) : 0 ≤ t250)
                have c10b0 := eq_true (of_decide_eq_true (by first | (with_reducible assumption) | assumption) : t250 ≤ (x0_1.size : Int))
                have H' := Aside0.mk H
                clear H
                go_wp2_with (first | ((with_reducible refine gate_callee (f := 34) rfl ?_); refine goesL_ (some 15) rfl rfl Try.func34 (by kernel_rfl) rfl #[.string x0_1, .int .i64 a1] rfl (by (try simp only [List.map_toArray, List.map_cons, List.map_nil]); first | done | rfl | (simp only [List.length_drop, List.length_take]; rfl)) ?_; (with_reducible refine (chat_piece.calls k1 x0_1 a1 t250 _ A5.out).mono ?_); rintro e w' ⟨rfl, ⟨nd, rfl⟩⟩; refine ⟨_, rfl, ?_⟩) | ((with_reducible refine gate_builtin (b := .append) (xs := #[.tmp 16, .tmp 20]) rfl ?_); at_builtin; refine Kd.R_append Kd.string (w0 := w) w.heap.size rfl (.tmp 16) (.tmp 20) 31 9 (.string ⟨#[]⟩) 16 rfl Try.underlying31 info9 rfl (by decide) (by omega) u5 x5_1 (x0_1.extract 0 (t250 : Int).toNat) [.string (x0_1.extract 0 (t250 : Int).toNat)] (fun _ => True) (fun _ => False) rfl rfl ?aP (fun _ hk => hk.elim) ?aF ?aO ?aB ?aS ?aL ?_; (case aP => exact rfl); (case aB => exact (by repeat (first | (with_reducible first | exact HB.out | apply below_alloc | apply pw_below_drewN | apply below_drew1) | exact HB.out))); (case aF => exact (fun _ _ => trivial)); (case aO => exact (by (with_reducible repeat (first | apply Kd.R_alloc | apply Kd.R_drewN | apply Kd.R_drew)); exact HO_5.out)); (case aS => exact (below_size (by repeat (first | (with_reducible first | exact HB.out | apply below_alloc | apply pw_below_drewN | apply below_drew1) | exact HB.out)))); (case aL => have := LMc8.out; omega); intro v252 w11 ho hb hg hat; rw [← Ny251.out] at ho; have n0_ := Aside0.mk (hb); have n1_ := Aside0.mk (ho); clear HB; clear HO_5; have HB := n0_; have HO253 := n1_; clear n0_ n1_; clear ho hb hg hat))
                go_roundg k1
                case measure => have := HK1.out; omega
                case rel => exact ⟨(x0_1.extract (t250 : Int).toNat x0_1.size), (y251), (by first | rfl | (simp; done) | (simp [*]; done)), H', ⟨by have := HK1.out; omega⟩, ⟨by (with_reducible repeat (first | apply Kd.R_alloc | apply Kd.R_drewN | apply Kd.R_drew)); exact HO253.out⟩, ⟨by repeat (first | (with_reducible first | exact HB.out | apply below_alloc | apply pw_below_drewN | apply below_drew1) | exact HB.out)⟩⟩
              · rw [if_neg c8] at H
                exact absurd H (by simp)
            · rw [if_neg c7] at H
              exact absurd H (by simp)
          · rw [if_neg c6] at H
            exact absurd H (by simp)
        · rw [if_neg c4] at H
          have c4b0 : decide (1 ≤ a1) = false := decide_eq_false c4
          clear c4
          obtain rfl := Option.some.inj H
          go_wp2
          go_ret
          exact ⟨_, by first | rfl | (simp [errW_none, errW_some] <;> rfl) | (simp [*, errW_none, errW_some] <;> rfl), by (with_reducible repeat (first | apply Kd.R_alloc | apply Kd.R_drewN | apply Kd.R_drew)); exact HO_5.out, by repeat (first | (with_reducible first | exact HB.out | apply below_alloc | apply pw_below_drewN | apply below_drew1) | exact HB.out)⟩

end Go.Proofs.Ytdpeflbdoaccbaa.XCL
