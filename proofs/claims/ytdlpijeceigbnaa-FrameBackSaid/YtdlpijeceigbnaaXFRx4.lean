-- Written by xprint.py (a program of this session) for this claim
import Derived.Test.YtdlpijeceigbnaaXFRx0
import Derived.Test.YtdlpijeceigbnaaXFRx3
namespace Go.Proofs.Ytdlpijeceigbnaa.XFR
open Go.Proofs.YtdlpijeceigbnaaV Go.Proofs.YtdlpijeceigbnaaS
open Go.RowKit Go.Proofs.YtdlpijeceigbnaaW.PrintWords Go.Proofs.YtdlpijeceigbnaaW.PrintLast Go.Proofs.YtdlpijeceigbnaaW.PrintMore
attribute [local go_sem] max2_int min2_int max_two min_two max_three min_three max_four min_four   -- for this text's walks alone
set_option linter.unusedVariables false
set_option linter.unusedSimpArgs false

/-! ### barrowref04_Feed_Push: function 11 -/
def barrowref04_Feed_Push.l0 : Nat → Bool → (List (List Int)) → (List Int) → Option ((List (List Int)) × Int × (List Int) × Bool)
  | 0, _, _, _ => none
  | k + 1, s0_1, x6_0, y3000023_0 => (barrowref04_number.f k y3000023_0).bind fun bt291 => (if bt291.2.2.2 = 0 then (if bt291.2.2.1 = true then (if bt291.1 > (wrap64 ((y3000023_0.length : Int) - bt291.2.1)) then (some (x6_0, 0, y3000023_0, s0_1)) else ((some (([] : List Int) : List Int)).bind fun y295 => ((some (wrap64 (bt291.2.1 + bt291.1) : Int)).bind fun j296 => (if 0 ≤ bt291.2.1 then (if bt291.2.1 ≤ j296 then (if j296 ≤ (y3000023_0.length : Int) then ((some ((y3000023_0.drop (bt291.2.1).toNat).take ((j296).toNat - (bt291.2.1).toNat) : List Int)).bind fun y297 => (if y295.length + y297.length < 140737488355328 then ((some (y295 ++ y297 : List Int)).bind fun y301 => ((some (([y301] : List (List Int)) : List (List Int))).bind fun y304 => (if x6_0.length + y304.length < 5864062014805 then ((some (x6_0 ++ y304 : List (List Int))).bind fun y305 => (if 0 ≤ j296 then ((some (y3000023_0.drop (j296).toNat : List Int)).bind fun y308 => (barrowref04_Feed_Push.l0 k s0_1 y305 y308)) else (none))) else (none)))) else (none))) else (none)) else (none)) else (none))))) else (some (x6_0, 0, y3000023_0, s0_1))) else (some (x6_0, bt291.2.2.2, ([] : List Int), true)))
def barrowref04_Feed_Push.f (k : Nat) (s0_0 : List Int) (s0_1 : Bool) (l1 : List Int) : Option ((List (List Int)) × Int × (List Int) × Bool) := if s0_1 = true then (some (([] : List (List Int)), 14, s0_0, s0_1)) else ((some (([] : List Int) : List Int)).bind fun y263 => (if y263.length + s0_0.length < 140737488355328 then ((some (y263 ++ s0_0 : List Int)).bind fun y264 => (if y264.length + l1.length < 140737488355328 then ((some (y264 ++ l1 : List Int)).bind fun y267 => (barrowref04_Feed_Push.l0 k s0_1 ([] : List (List Int)) y267)) else (none))) else (none)))
theorem barrowref04_Feed_Push.mono_l : ∀ k, (∀ y0 y1 y2, LeO (barrowref04_Feed_Push.l0 k y0 y1 y2) (barrowref04_Feed_Push.l0 (k + 1) y0 y1 y2))
  | 0 => fun _ _ _ r h => by simp [barrowref04_Feed_Push.l0] at h
  | k + 1 => by
    have ih0 := barrowref04_Feed_Push.mono_l k
    · intro y0 y1 y2
      unfold barrowref04_Feed_Push.l0
      repeat' first
      | (with_reducible exact ih0 _ _ _)
      | (with_reducible exact barrowref04_number.mono _ _)
      | (with_reducible exact LeO.refl _)
      | (with_reducible exact LeO.none _)
      | (with_reducible refine LeO.ite ?_ ?_)
      | (with_reducible refine LeO.bind ?_ (fun _ => ?_))
      | exact ih0 _ _ _
      | exact barrowref04_number.mono _ _
      | exact LeO.none _
      | refine LeO.ite ?_ ?_
      | refine LeO.bind ?_ (fun _ => ?_)
theorem barrowref04_Feed_Push.mono : ∀ a0 a1 a2 k, LeO (barrowref04_Feed_Push.f k a0 a1 a2) (barrowref04_Feed_Push.f (k + 1) a0 a1 a2) := by
  intro a0 a1 a2 k
  have ih0 := barrowref04_Feed_Push.mono_l k
  unfold barrowref04_Feed_Push.f
  repeat' first
      | (with_reducible exact ih0 _ _ _)
      | (with_reducible exact barrowref04_number.mono _ _)
      | (with_reducible exact LeO.refl _)
      | (with_reducible exact LeO.none _)
      | (with_reducible refine LeO.ite ?_ ?_)
      | (with_reducible refine LeO.bind ?_ (fun _ => ?_))
      | exact ih0 _ _ _
      | exact barrowref04_number.mono _ _
      | exact LeO.none _
      | refine LeO.ite ?_ ?_
      | refine LeO.bind ?_ (fun _ => ?_)
def barrowref04_Feed_Push.Post (b0 : Nat) (r1 : List (List Int)) (r2 : Int) (r3 : List Int) (r4 : Bool) (S : Nat → Prop) (L : List Asr) (w : World) (e : Ending) (w' : World) : Prop := ∃ (Ar0 : Option Addr) (cr0 : Nat) (Ar2 : Option Addr) (cr2 : Nat), e = .returned (.tuple #[.slice Ar0 r1.length cr0, .int .i64 r2]) ∧ SL (cells b0 30 [.slice Ar2 r3.length cr2, .bool r4].toArray :: row (Kd.int .u8) 5 (.slice Ar2 r3.length cr2) r3 :: rows (inn (Kd.int .u8) 5) 1 23 (.slice Ar0 r1.length cr0) r1 :: L) w' S ∧ Keep S w w'
set_option maxHeartbeats 8000000 in
set_option maxRecDepth 100000 in
theorem barrowref04_Feed_Push.slcalls (k : Nat) (b0 : Nat) (As0_0 : Option Addr) (cs0_0 : Nat) (s0_0 : List Int) (s0_1 : Bool) (A1 : Option Addr) (c1 : Nat) (l1 : List Int) (r1 : List (List Int)) (r2 : Int) (r3 : List Int) (r4 : Bool) (S : Nat → Prop) (L : List Asr) (w : World) (hf : Fresh S w) (hs : SL (cells b0 30 [.slice As0_0 s0_0.length cs0_0, .bool s0_1].toArray :: row (Kd.int .u8) 5 (.slice As0_0 s0_0.length cs0_0) s0_0 :: L) w S) (hr1 : RO S w (fun w_ => Kd.C (Kd.int .u8) w_ A1 l1.length l1)) (hc1 : l1.length ≤ c1) (h : barrowref04_Feed_Push.f k s0_0 s0_1 l1 = some (r1, r2, r3, r4)) :
    Calls Try.prog 11 #[.pointer (some ⟨b0, 0, none⟩), .slice A1 l1.length c1] w (barrowref04_Feed_Push.Post b0 r1 r2 r3 r4 S L w) := by
  have HR1 := Aside0.mk hr1
  have HC1 := Aside0.mk hc1
  clear hr1 hc1
  have HF := Aside0.mk hf
  have HS := Aside0.mk hs
  have HK := Aside0.mk (Keep.refl S w)
  clear hf hs
  have H : (if s0_1 = true then (some (([] : List (List Int)), 14, s0_0, s0_1)) else ((some (([] : List Int) : List Int)).bind fun y263 => (if y263.length + s0_0.length < 140737488355328 then ((some (y263 ++ s0_0 : List Int)).bind fun y264 => (if y264.length + l1.length < 140737488355328 then ((some (y264 ++ l1 : List Int)).bind fun y267 => (barrowref04_Feed_Push.l0 k s0_1 ([] : List (List Int)) y267)) else (none))) else (none)))) = some (r1, r2, r3, r4) := h
  clear h
  by_cases c1 : s0_1 = true
  · subst c1
    rw [if_pos rfl] at H
    simp only [Option.some.injEq, Prod.mk.injEq] at H
    obtain ⟨rfl, rfl, rfl, rfl⟩ := H
    have hb_ := SL.at_ HS.out
    have hz0_0_0 := ((blk_cell hb_ 0).trans rfl : _ = some (.slice As0_0 s0_0.length cs0_0))
    have hz0_1_0 := ((blk_cell hb_ 1).trans rfl : _ = some (.bool true))
    clear hb_
    have n2_ := Aside0.mk (rows_nil (inn (Kd.int .u8) 5) 1 23 HS.out)
    clear HS
    have HS := n2_
    clear n2_
    go_enter Try.func11, Try.ntmps11
    go_wp2
    go_ret2
    have n2_ := Aside0.mk (SL.get2 (SL.get2 HS.out))
    clear HS
    have HS := n2_
    clear n2_
    unfold barrowref04_Feed_Push.Post
    exact ⟨none, 0, As0_0, cs0_0, by first | rfl | (simp; done) | (simp [*]; done), HS.out, HK.out⟩
  · replace c1 := Bool.eq_false_iff.mpr c1
    subst c1
    rw [if_neg (show ¬ (false = true) by decide)] at H
    replace H := Option.bind_eq_some_iff.1 H
    obtain ⟨y263, hy2630, H⟩ := H
    try dsimp only at H
    have hy263 := Option.some.inj hy2630
    clear hy2630
    have Ny263 := Aside0.mk hy263
    clear hy263
    by_cases c2 : y263.length + s0_0.length < 140737488355328
    · rw [if_pos c2] at H
      have LMc2 := Aside0.mk c2
      clear c2
      replace H := Option.bind_eq_some_iff.1 H
      obtain ⟨y264, hy2640, H⟩ := H
      try dsimp only at H
      have hy264 := Option.some.inj hy2640
      clear hy2640
      have Ny264 := Aside0.mk hy264
      clear hy264
      by_cases c3 : y264.length + l1.length < 140737488355328
      · rw [if_pos c3] at H
        have LMc3 := Aside0.mk c3
        clear c3
        replace H := Option.bind_eq_some_iff.1 H
        obtain ⟨y267, hy2670, H⟩ := H
        try dsimp only at H
        have hy267 := Option.some.inj hy2670
        clear hy2670
        have Ny267 := Aside0.mk hy267
        clear hy267
        have H' := Aside0.mk H
        clear H
        have hb_ := SL.at_ HS.out
        have hz0_0_0 := ((blk_cell hb_ 0).trans rfl : _ = some (.slice As0_0 s0_0.length cs0_0))
        have hz0_1_0 := ((blk_cell hb_ 1).trans rfl : _ = some (.bool false))
        clear hb_
        go_enter Try.func11, Try.ntmps11
        go_wp2_with (first | ((with_reducible refine gate_dst (N := 16) rfl ?_); refine wpList_plain rfl (fun K_ hK_ => ?_); refine op_row (S := S) (enc := Value.int .u8) (h1 := fun _ => rfl) 5 y263 #[] 0 (by rw [← Ny263.out]; rfl) (by rw [← Ny263.out]; rfl) (by decide) (HF.out.keep HK.out) HS.out (by first | (go_simp; done) | (go_simp; rfl)) ?_; intro Az3000023 cz3000023 w4 hs_ hk_; refine hK_ _ _ ?_; clear hK_ K_; have n1_ := Aside0.mk (HK.out.trans hk_); have n2_ := Aside0.mk ((show SL (row (Kd.int .u8) 5 (.slice Az3000023 0 cz3000023) y263 :: _) _ _ from hs_)); clear HK HS; have HK := n1_; have HS := n2_; clear n1_ n2_; try clear hz0_0_0 hz0_1_0; have hb_ := SL.at_ (SL.get1 HS.out); have hz0_0_1 := ((blk_cell hb_ 0).trans rfl : _ = some (.slice As0_0 s0_0.length cs0_0)); have hz0_1_1 := ((blk_cell hb_ 1).trans rfl : _ = some (.bool false)); clear hb_) | ((with_reducible refine gate_dst (N := 21) rfl ?_); refine wpList_plain rfl (fun K_ hK_ => ?_); refine op_append (S := S) (enc := Value.int .u8) (h1 := fun _ => rfl) 0 (.tmp 16) (.tmp 20) 23 5 (.int .u8 0) 1 rfl Try.underlying23 info5 rfl (by decide) (.slice Az3000023 0 cz3000023) rfl rfl (HF.out.keep HK.out) HS.out (SL.row_c (SL.get2 HS.out)).2.2 (by have := LMc2.out; have e_ := (SL.row_c (SL.get2 HS.out)).1; omega) y264 Ny264.out ?_; intro A265 c266 w5 hs_ hk_; refine hK_ _ _ ?_; clear hK_ K_; have n1_ := Aside0.mk (HK.out.trans hk_); have n2_ := Aside0.mk ((show SL (row (Kd.int .u8) 5 (.slice A265 y264.length c266) y264 :: _) _ _ from hs_)); clear HK HS; have HK := n1_; have HS := n2_; clear n1_ n2_; try clear hz0_0_1 hz0_1_1; have hb_ := SL.at_ (SL.get1 HS.out); have hz0_0_2 := ((blk_cell hb_ 0).trans rfl : _ = some (.slice As0_0 s0_0.length cs0_0)); have hz0_1_2 := ((blk_cell hb_ 1).trans rfl : _ = some (.bool false)); clear hb_) | ((with_reducible refine gate_dst (N := 23) rfl ?_); refine wpList_plain rfl (fun K_ hK_ => ?_); refine op_append (S := S) (enc := Value.int .u8) (h1 := fun _ => rfl) 0 (.tmp 21) (.tmp 22) 23 5 (.int .u8 0) 1 rfl Try.underlying23 info5 rfl (by decide) (.slice A265 y264.length c266) rfl rfl (HF.out.keep HK.out) HS.out (RO.at_ HR1.out HK.out) (by have := LMc3.out; omega) y267 Ny267.out ?_; intro A268 c269 w6 hs_ hk_; refine hK_ _ _ ?_; clear hK_ K_; have n1_ := Aside0.mk (HK.out.trans hk_); have n2_ := Aside0.mk ((show SL (row (Kd.int .u8) 5 (.slice A268 y267.length c269) y267 :: _) _ _ from hs_)); clear HK HS; have HK := n1_; have HS := n2_; clear n1_ n2_; try clear hz0_0_2 hz0_1_2; have hb_ := SL.at_ (SL.get1 HS.out); have hz0_0_3 := ((blk_cell hb_ 0).trans rfl : _ = some (.slice As0_0 s0_0.length cs0_0)); have hz0_1_3 := ((blk_cell hb_ 1).trans rfl : _ = some (.bool false)); clear hb_) | ((with_reducible refine gate_store (t := 23) (p := 25) (v := (.tmp 23)) rfl ?_); refine wpList_plain rfl (fun K_ hK_ => ?_); refine op_store (S := S) 23 (.tmp 25) (.tmp 23) rfl b0 0 (.slice A268 y267.length c269) [.slice A268 y267.length c269] rfl rfl rfl (by kernel_rfl) (by simp [Value.oneCell']) (SL.get1 HS.out) (by simp) ?_; intro w7 hs_ hk_; refine hK_ _ _ ?_; clear hK_ K_; have n1_ := Aside0.mk (HK.out.trans hk_); have n2_ := Aside0.mk ((SL.back1 (show SL (cells b0 30 [.slice A268 y267.length c269, .bool false].toArray :: _) _ _ from hs_))); clear HK HS; have HK := n1_; have HS := n2_; clear n1_ n2_; try clear hz0_0_3 hz0_1_3; have hb_ := SL.at_ (SL.get1 HS.out); have hz0_0_4 := ((blk_cell hb_ 0).trans rfl : _ = some (.slice A268 y267.length c269)); have hz0_1_4 := ((blk_cell hb_ 1).trans rfl : _ = some (.bool false)); clear hb_; have n2_ := Aside0.mk (rows_nil (inn (Kd.int .u8) 5) 1 23 HS.out); clear HS; have HS := n2_; clear n2_; have n2_ := Aside0.mk (rows_nil (inn (Kd.int .u8) 5) 1 23 HS.out); clear HS; have HS := n2_; clear n2_))
        have n2_ := Aside0.mk (SL.get4 (SL.get4 (SL.get4 (SL.get4 (SL.get4 HS.out)))))
        clear HS
        have HS := n2_
        clear n2_
        go_loopg [4, 6] k (fun kq v4 v6 w' => ∃ (x6_0 : List (List Int)) (Ax6_0 : Option Addr) (cx6_0 : Nat) (x4_0 : List (List Int)) (Ax4_0 : Option Addr) (cx4_0 : Nat) (y3000023_0 : List Int) (A3000023_0 : Option Addr) (c3000023_0 : Nat), v4 = .slice Ax4_0 x4_0.length cx4_0 ∧ v6 = .slice Ax6_0 x6_0.length cx6_0 ∧ Aside0 (barrowref04_Feed_Push.l0 kq false x6_0 y3000023_0 = some (r1, r2, r3, r4)) ∧ Aside0 (kq ≤ k) ∧ Aside0 (SL (rows (inn (Kd.int .u8) 5) 1 23 (.slice Ax6_0 x6_0.length cx6_0) x6_0 :: rows (inn (Kd.int .u8) 5) 1 23 (.slice Ax4_0 x4_0.length cx4_0) x4_0 :: row (Kd.int .u8) 5 (.slice A3000023_0 y3000023_0.length c3000023_0) y3000023_0 :: cells b0 30 [.slice A3000023_0 y3000023_0.length c3000023_0, .bool false].toArray :: row (Kd.int .u8) 5 (.slice As0_0 s0_0.length cs0_0) s0_0 :: L) w' S) ∧ Aside0 (Keep S w w'))
        case atStart => exact ⟨(([] : List (List Int))), (none), (0), (([] : List (List Int))), (none), (0), (y267), (A268), (c269), (by first | rfl | (simp; done) | (simp [*]; done)), (by first | rfl | (simp; done) | (simp [*]; done)), H', ⟨Nat.le_refl _⟩, HS, HK⟩
        case round =>
          clear H' HS HK
          try clear hz0_0_0 hz0_1_0
          try clear hz0_0_0 hz0_1_0
          obtain ⟨x6_0, Ax6_0, cx6_0, x4_0, Ax4_0, cx4_0, y3000023_0, A3000023_0, c3000023_0, rfl, rfl, HA, HQ1, HS, HK⟩ := hrel
          cases gk with
          | zero => exact absurd HA.out (by simp [barrowref04_Feed_Push.l0])
          | succ k1 =>
            have H := HA.out
            clear HA
            simp only [barrowref04_Feed_Push.l0] at H
            replace H := Option.bind_eq_some_iff.1 H
            obtain ⟨⟨t291, t292, t293, t294⟩, Hc80, H⟩ := H
            try dsimp only at H
            have Hc8 := Aside0.mk Hc80
            clear Hc80
            by_cases c9 : t294 = 0
            · rw [if_pos c9] at H
              have c9b0 : (t294 == 0) = true := beq_iff_eq.mpr c9
              have c9b1 : (t294 != 0) = false := bne_eq_false_iff_eq.mpr c9
              clear c9
              by_cases c10 : t293 = true
              · subst c10
                rw [if_pos rfl] at H
                by_cases c11 : t291 > (wrap64 ((y3000023_0.length : Int) - t292))
                · rw [if_pos c11] at H
                  have c11b0 : decide ((wrap64 ((y3000023_0.length : Int) - t292)) < t291) = true := decide_eq_true c11
                  clear c11
                  simp only [Option.some.injEq, Prod.mk.injEq] at H
                  obtain ⟨rfl, rfl, rfl, rfl⟩ := H
                  have hb_ := SL.at_ (SL.get3 HS.out)
                  have hz0_0_0 := ((blk_cell hb_ 0).trans rfl : _ = some (.slice A3000023_0 y3000023_0.length c3000023_0))
                  have hz0_1_0 := ((blk_cell hb_ 1).trans rfl : _ = some (.bool false))
                  clear hb_
                  go_wp2_with (first | ((with_reducible refine gate_dst (N := 31) rfl ?_); refine goesL_ (some 31) rfl rfl Try.func21 (by kernel_rfl) rfl #[.slice A3000023_0 y3000023_0.length c3000023_0] rfl (by (try simp only [List.map_toArray, List.map_cons, List.map_nil]); first | done | rfl | (simp; done)) ?_; (with_reducible refine (barrowref04_number.calls k1 _ _ _ _ _ _ _ _ (SL.row_c (SL.get2 HS.out)).2.2 (SL.row_c (SL.get2 HS.out)).2.1 Hc8.out).mono ?_); rintro e_ w12 ⟨rfl, hb_⟩; refine ⟨_, rfl, ?_⟩; replace hb_ := Drawn0.below hb_; have n1_ := Aside0.mk (HK.out.trans (Keep.below hb_)); have n2_ := Aside0.mk (HS.out.below hb_); clear HK HS; have HK := n1_; have HS := n2_; clear n1_ n2_; try clear hz0_0_0 hz0_1_0; have hb_ := SL.at_ (SL.get3 HS.out); have hz0_0_1 := ((blk_cell hb_ 0).trans rfl : _ = some (.slice A3000023_0 y3000023_0.length c3000023_0)); have hz0_1_1 := ((blk_cell hb_ 1).trans rfl : _ = some (.bool false)); clear hb_))
                  go_ret2
                  have n2_ := Aside0.mk (SL.get2 (SL.get1 (SL.tail (SL.get3 (SL.tail (SL.get1 HS.out))))))
                  clear HS
                  have HS := n2_
                  clear n2_
                  unfold barrowref04_Feed_Push.Post
                  exact ⟨Ax6_0, cx6_0, A3000023_0, c3000023_0, by first | rfl | (simp; done) | (simp [*]; done), HS.out, HK.out⟩
                · rw [if_neg c11] at H
                  have c11b0 : decide ((wrap64 ((y3000023_0.length : Int) - t292)) < t291) = false := decide_eq_false c11
                  clear c11
                  replace H := Option.bind_eq_some_iff.1 H
                  obtain ⟨y295, hy2950, H⟩ := H
                  try dsimp only at H
                  have hy295 := Option.some.inj hy2950
                  clear hy2950
                  have Ny295 := Aside0.mk hy295
                  clear hy295
                  replace H := Option.bind_eq_some_iff.1 H
                  obtain ⟨j296, hj2960, H⟩ := H
                  try dsimp only at H
                  have hj296 := Option.some.inj hj2960
                  clear hj2960
                  have hj296w : (IntKind.i64.wrap (t292 + t291)) = j296 := (i64_w _).trans hj296
                  by_cases c13 : 0 ≤ t292
                  · rw [if_pos c13] at H
                    have c13b0 := eq_true c13
                    have c13b1 : decide (0 ≤ t292) = true := decide_eq_true c13
                    clear c13
                    by_cases c14 : t292 ≤ j296
                    · rw [if_pos c14] at H
                      have c14b0 := eq_true c14
                      have c14b1 : decide (t292 ≤ j296) = true := decide_eq_true c14
                      clear c14
                      by_cases c15 : j296 ≤ (y3000023_0.length : Int)
                      · rw [if_pos c15] at H
                        have c15b0 := eq_true c15
                        have c15b1 : decide (j296 ≤ (y3000023_0.length : Int)) = true := decide_eq_true c15
                        clear c15
                        replace H := Option.bind_eq_some_iff.1 H
                        obtain ⟨y297, hy2970, H⟩ := H
                        try dsimp only at H
                        have hy297 := Option.some.inj hy2970
                        clear hy2970
                        have Ny297 := Aside0.mk hy297
                        clear hy297
                        by_cases c16 : y295.length + y297.length < 140737488355328
                        · rw [if_pos c16] at H
                          have LMc16 := Aside0.mk c16
                          clear c16
                          replace H := Option.bind_eq_some_iff.1 H
                          obtain ⟨y301, hy3010, H⟩ := H
                          try dsimp only at H
                          have hy301 := Option.some.inj hy3010
                          clear hy3010
                          have Ny301 := Aside0.mk hy301
                          clear hy301
                          replace H := Option.bind_eq_some_iff.1 H
                          obtain ⟨y304, hy3040, H⟩ := H
                          try dsimp only at H
                          have hy304 := Option.some.inj hy3040
                          clear hy3040
                          have Ny304 := Aside0.mk hy304
                          clear hy304
                          by_cases c17 : x6_0.length + y304.length < 5864062014805
                          · rw [if_pos c17] at H
                            have LMc17 := Aside0.mk c17
                            clear c17
                            replace H := Option.bind_eq_some_iff.1 H
                            obtain ⟨y305, hy3050, H⟩ := H
                            try dsimp only at H
                            have hy305 := Option.some.inj hy3050
                            clear hy3050
                            have Ny305 := Aside0.mk hy305
                            clear hy305
                            by_cases c18 : 0 ≤ j296
                            · rw [if_pos c18] at H
                              have c18b0 := eq_true c18
                              have c18b1 : decide (0 ≤ j296) = true := decide_eq_true c18
                              clear c18
                              replace H := Option.bind_eq_some_iff.1 H
                              obtain ⟨y308, hy3080, H⟩ := H
                              try dsimp only at H
                              have hy308 := Option.some.inj hy3080
                              clear hy3080
                              have Ny308 := Aside0.mk hy308
                              clear hy308
                              have H' := Aside0.mk H
                              clear H
                              have hb_ := SL.at_ (SL.get3 HS.out)
                              have hz0_0_0 := ((blk_cell hb_ 0).trans rfl : _ = some (.slice A3000023_0 y3000023_0.length c3000023_0))
                              have hz0_1_0 := ((blk_cell hb_ 1).trans rfl : _ = some (.bool false))
                              clear hb_
                              go_wp2_with (first | ((with_reducible refine gate_dst (N := 31) rfl ?_); refine goesL_ (some 31) rfl rfl Try.func21 (by kernel_rfl) rfl #[.slice A3000023_0 y3000023_0.length c3000023_0] rfl (by (try simp only [List.map_toArray, List.map_cons, List.map_nil]); first | done | rfl | (simp; done)) ?_; (with_reducible refine (barrowref04_number.calls k1 _ _ _ _ _ _ _ _ (SL.row_c (SL.get2 HS.out)).2.2 (SL.row_c (SL.get2 HS.out)).2.1 Hc8.out).mono ?_); rintro e_ w19 ⟨rfl, hb_⟩; refine ⟨_, rfl, ?_⟩; replace hb_ := Drawn0.below hb_; have n1_ := Aside0.mk (HK.out.trans (Keep.below hb_)); have n2_ := Aside0.mk (HS.out.below hb_); clear HK HS; have HK := n1_; have HS := n2_; clear n1_ n2_; try clear hz0_0_0 hz0_1_0; have hb_ := SL.at_ (SL.get3 HS.out); have hz0_0_1 := ((blk_cell hb_ 0).trans rfl : _ = some (.slice A3000023_0 y3000023_0.length c3000023_0)); have hz0_1_1 := ((blk_cell hb_ 1).trans rfl : _ = some (.bool false)); clear hb_) | ((with_reducible refine gate_dst (N := 61) rfl ?_); refine wpList_plain rfl (fun K_ hK_ => ?_); refine op_row (S := S) (enc := Value.int .u8) (h1 := fun _ => rfl) 5 y295 #[] 0 (by rw [← Ny295.out]; rfl) (by rw [← Ny295.out]; rfl) (by decide) (HF.out.keep HK.out) HS.out (by first | (go_simp; done) | (go_simp; rfl)) ?_; intro Az3000024 cz3000024 w20 hs_ hk_; refine hK_ _ _ ?_; clear hK_ K_; have n1_ := Aside0.mk (HK.out.trans hk_); have n2_ := Aside0.mk ((show SL (row (Kd.int .u8) 5 (.slice Az3000024 0 cz3000024) y295 :: _) _ _ from hs_)); clear HK HS; have HK := n1_; have HS := n2_; clear n1_ n2_; try clear hz0_0_1 hz0_1_1; have hb_ := SL.at_ (SL.get4 HS.out); have hz0_0_2 := ((blk_cell hb_ 0).trans rfl : _ = some (.slice A3000023_0 y3000023_0.length c3000023_0)); have hz0_1_2 := ((blk_cell hb_ 1).trans rfl : _ = some (.bool false)); clear hb_; obtain ⟨A298, c299, hcvq300, hcs_, hcc_, hcl_⟩ := cut_mid (P := Try.prog) (Kd.int .u8) 23 5 .i64 .i64 Try.underlying23 (by kernel_rfl) rfl A3000023_0 y3000023_0.length c3000023_0 y3000023_0 rfl (SL.row_c (SL.get3 HS.out)).2.1 t292 j296 (of_decide_eq_true (by first | (with_reducible assumption) | assumption) : (0 : Int) ≤ (t292 : Int)) (of_decide_eq_true (by first | (with_reducible assumption) | assumption) : (t292 : Int) ≤ (j296 : Int)) (of_decide_eq_true (by first | (with_reducible assumption) | assumption) : (j296 : Int) ≤ ((y3000023_0.length : Int) : Int)) y297 Ny297.out; have HVq300 := Aside0.mk (And.intro True.intro hcc_); have HCq300 := Aside0.mk hcl_; clear hcs_ hcc_ hcl_) | ((with_reducible refine gate_dst (N := 71) rfl ?_); refine wpList_plain rfl (fun K_ hK_ => ?_); refine op_append (S := S) (enc := Value.int .u8) (h1 := fun _ => rfl) 0 (.tmp 61) (.tmp 70) 23 5 (.int .u8 0) 1 rfl Try.underlying23 info5 rfl (by decide) (.slice Az3000024 0 cz3000024) rfl rfl (HF.out.keep HK.out) HS.out (And.right HVq300.out _ (SL.row_c (SL.get3 HS.out)).2.2) (by have := LMc16.out; omega) y301 Ny301.out ?_; intro A302 c303 w21 hs_ hk_; refine hK_ _ _ ?_; clear hK_ K_; have n1_ := Aside0.mk (HK.out.trans hk_); have n2_ := Aside0.mk ((show SL (row (Kd.int .u8) 5 (.slice A302 y301.length c303) y301 :: _) _ _ from hs_)); clear HK HS; have HK := n1_; have HS := n2_; clear n1_ n2_; try clear hz0_0_2 hz0_1_2; have hb_ := SL.at_ (SL.get4 HS.out); have hz0_0_3 := ((blk_cell hb_ 0).trans rfl : _ = some (.slice A3000023_0 y3000023_0.length c3000023_0)); have hz0_1_3 := ((blk_cell hb_ 1).trans rfl : _ = some (.bool false)); clear hb_) | ((with_reducible refine gate_dst (N := 72) rfl ?_); refine wpList_plain rfl (fun K_ hK_ => ?_); refine op_rowR (K := (inn (Kd.int .u8) 5)) (n := 1) (S := S) 23 y301 [.slice A302 y301.length c303] (HF.out.keep HK.out) HS.out (fun _ _ h_ => ⟨_, rfl, h_⟩) (fun _ h_ => inn_len _ h_) y304 Ny304.out (by first | (go_simp; done) | (go_simp; rfl)) ?_; intro Az3000025 cz3000025 w22 hs_ hk_; refine hK_ _ _ ?_; clear hK_ K_; have n1_ := Aside0.mk (HK.out.trans hk_); have n2_ := Aside0.mk ((show SL (rows (inn (Kd.int .u8) 5) 1 23 (.slice Az3000025 1 cz3000025) y304 :: _) _ _ from hs_)); clear HK HS; have HK := n1_; have HS := n2_; clear n1_ n2_; try clear hz0_0_3 hz0_1_3; have hb_ := SL.at_ (SL.get4 HS.out); have hz0_0_4 := ((blk_cell hb_ 0).trans rfl : _ = some (.slice A3000023_0 y3000023_0.length c3000023_0)); have hz0_1_4 := ((blk_cell hb_ 1).trans rfl : _ = some (.bool false)); clear hb_) | ((with_reducible refine gate_dst (N := 73) rfl ?_); have hs2_ := (SL.get1 HS.out); have e2_ := (rows_c (d := (Kd.slice 5 (Kd.int .u8))) reads_inn rfl (SL.tail hs2_)).1; refine wpList_plain rfl (fun K_ hK_ => ?_); refine op_appendR (S := S) (.tmp 60) (.tmp 72) 22 23 (.slice none 0 0) 24 rfl Try.underlying22 info23 rfl (by decide) (by decide) (.slice Ax6_0 x6_0.length cx6_0) rfl rfl (HF.out.keep HK.out) hs2_ (by have := LMc17.out; omega) y305 Ny305.out ?_; intro A306 c307 w23 hs_ hk_; refine hK_ _ _ ?_; clear hK_ K_; clear hs2_ e2_; have n1_ := Aside0.mk (HK.out.trans hk_); have n2_ := Aside0.mk ((show SL (rows (inn (Kd.int .u8) 5) 1 23 (.slice A306 y305.length c307) y305 :: _) _ _ from hs_)); clear HK HS; have HK := n1_; have HS := n2_; clear n1_ n2_; try clear hz0_0_4 hz0_1_4; have hb_ := SL.at_ (SL.get3 HS.out); have hz0_0_5 := ((blk_cell hb_ 0).trans rfl : _ = some (.slice A3000023_0 y3000023_0.length c3000023_0)); have hz0_1_5 := ((blk_cell hb_ 1).trans rfl : _ = some (.bool false)); clear hb_; obtain ⟨A309, c310, hcvq311, hcs_, hcc_, hcl_⟩ := cut_of (P := Try.prog) (Kd.int .u8) 23 5 .i64 .i64 Try.underlying23 (by kernel_rfl) rfl A3000023_0 y3000023_0.length c3000023_0 y3000023_0 rfl (SL.row_c (SL.get2 HS.out)).2.1 j296 (of_decide_eq_true (by first | (with_reducible assumption) | assumption) : (0 : Int) ≤ (j296 : Int)) (of_decide_eq_true (by first | (with_reducible assumption) | assumption) : (j296 : Int) ≤ ((y3000023_0.length : Int) : Int)) y308 Ny308.out; have n2_ := Aside0.mk (SL.back2 (hcs_ _ _ _ (SL.get2 HS.out))); clear HS hcs_ hcc_ hcl_; have HS := n2_; clear n2_) | ((with_reducible refine gate_store (t := 23) (p := 84) (v := (.tmp 82)) rfl ?_); refine wpList_plain rfl (fun K_ hK_ => ?_); refine op_store (S := S) 23 (.tmp 84) (.tmp 82) rfl b0 0 (.slice A309 y308.length c310) [.slice A309 y308.length c310] rfl rfl rfl (by kernel_rfl) (by simp [Value.oneCell']) (SL.get3 HS.out) (by simp) ?_; intro w24 hs_ hk_; refine hK_ _ _ ?_; clear hK_ K_; have n1_ := Aside0.mk (HK.out.trans hk_); have n2_ := Aside0.mk ((SL.back3 (show SL (cells b0 30 [.slice A309 y308.length c310, .bool false].toArray :: _) _ _ from hs_))); clear HK HS; have HK := n1_; have HS := n2_; clear n1_ n2_; try clear hz0_0_5 hz0_1_5; have hb_ := SL.at_ (SL.get3 HS.out); have hz0_0_6 := ((blk_cell hb_ 0).trans rfl : _ = some (.slice A309 y308.length c310)); have hz0_1_6 := ((blk_cell hb_ 1).trans rfl : _ = some (.bool false)); clear hb_))
                              have n2_ := Aside0.mk (SL.get4 (SL.get4 (SL.get4 (SL.get4 (SL.get4 HS.out)))))
                              clear HS
                              have HS := n2_
                              clear n2_
                              go_roundg k1
                              case measure => have := HQ1.out; omega
                              case rel => exact ⟨(y305), (A306), (c307), (x4_0), (Ax4_0), (cx4_0), (y308), (A309), (c310), (by first | rfl | (simp; done) | (simp [*]; done)), (by first | rfl | (simp; done) | (simp [*]; done)), H', ⟨by have := HQ1.out; omega⟩, HS, HK⟩
                            · rw [if_neg c18] at H
                              exact absurd H (by simp)
                          · rw [if_neg c17] at H
                            exact absurd H (by simp)
                        · rw [if_neg c16] at H
                          exact absurd H (by simp)
                      · rw [if_neg c15] at H
                        exact absurd H (by simp)
                    · rw [if_neg c14] at H
                      exact absurd H (by simp)
                  · rw [if_neg c13] at H
                    exact absurd H (by simp)
              · replace c10 := Bool.eq_false_iff.mpr c10
                subst c10
                rw [if_neg (show ¬ (false = true) by decide)] at H
                simp only [Option.some.injEq, Prod.mk.injEq] at H
                obtain ⟨rfl, rfl, rfl, rfl⟩ := H
                have hb_ := SL.at_ (SL.get3 HS.out)
                have hz0_0_0 := ((blk_cell hb_ 0).trans rfl : _ = some (.slice A3000023_0 y3000023_0.length c3000023_0))
                have hz0_1_0 := ((blk_cell hb_ 1).trans rfl : _ = some (.bool false))
                clear hb_
                go_wp2_with (first | ((with_reducible refine gate_dst (N := 31) rfl ?_); refine goesL_ (some 31) rfl rfl Try.func21 (by kernel_rfl) rfl #[.slice A3000023_0 y3000023_0.length c3000023_0] rfl (by (try simp only [List.map_toArray, List.map_cons, List.map_nil]); first | done | rfl | (simp; done)) ?_; (with_reducible refine (barrowref04_number.calls k1 _ _ _ _ _ _ _ _ (SL.row_c (SL.get2 HS.out)).2.2 (SL.row_c (SL.get2 HS.out)).2.1 Hc8.out).mono ?_); rintro e_ w25 ⟨rfl, hb_⟩; refine ⟨_, rfl, ?_⟩; replace hb_ := Drawn0.below hb_; have n1_ := Aside0.mk (HK.out.trans (Keep.below hb_)); have n2_ := Aside0.mk (HS.out.below hb_); clear HK HS; have HK := n1_; have HS := n2_; clear n1_ n2_; try clear hz0_0_0 hz0_1_0; have hb_ := SL.at_ (SL.get3 HS.out); have hz0_0_1 := ((blk_cell hb_ 0).trans rfl : _ = some (.slice A3000023_0 y3000023_0.length c3000023_0)); have hz0_1_1 := ((blk_cell hb_ 1).trans rfl : _ = some (.bool false)); clear hb_))
                go_ret2
                have n2_ := Aside0.mk (SL.get2 (SL.get1 (SL.tail (SL.get3 (SL.tail (SL.get1 HS.out))))))
                clear HS
                have HS := n2_
                clear n2_
                unfold barrowref04_Feed_Push.Post
                exact ⟨Ax6_0, cx6_0, A3000023_0, c3000023_0, by first | rfl | (simp; done) | (simp [*]; done), HS.out, HK.out⟩
            · rw [if_neg c9] at H
              have c9b0 : (t294 == 0) = false := beq_eq_false_iff_ne.mpr c9
              have c9b1 : (t294 != 0) = true := bne_iff_ne.mpr c9
              simp only [Option.some.injEq, Prod.mk.injEq] at H
              obtain ⟨rfl, rfl, rfl, rfl⟩ := H
              have hb_ := SL.at_ (SL.get3 HS.out)
              have hz0_0_0 := ((blk_cell hb_ 0).trans rfl : _ = some (.slice A3000023_0 y3000023_0.length c3000023_0))
              have hz0_1_0 := ((blk_cell hb_ 1).trans rfl : _ = some (.bool false))
              clear hb_
              go_wp2_with (first | ((with_reducible refine gate_dst (N := 31) rfl ?_); refine goesL_ (some 31) rfl rfl Try.func21 (by kernel_rfl) rfl #[.slice A3000023_0 y3000023_0.length c3000023_0] rfl (by (try simp only [List.map_toArray, List.map_cons, List.map_nil]); first | done | rfl | (simp; done)) ?_; (with_reducible refine (barrowref04_number.calls k1 _ _ _ _ _ _ _ _ (SL.row_c (SL.get2 HS.out)).2.2 (SL.row_c (SL.get2 HS.out)).2.1 Hc8.out).mono ?_); rintro e_ w26 ⟨rfl, hb_⟩; refine ⟨_, rfl, ?_⟩; replace hb_ := Drawn0.below hb_; have n1_ := Aside0.mk (HK.out.trans (Keep.below hb_)); have n2_ := Aside0.mk (HS.out.below hb_); clear HK HS; have HK := n1_; have HS := n2_; clear n1_ n2_; try clear hz0_0_0 hz0_1_0; have hb_ := SL.at_ (SL.get3 HS.out); have hz0_0_1 := ((blk_cell hb_ 0).trans rfl : _ = some (.slice A3000023_0 y3000023_0.length c3000023_0)); have hz0_1_1 := ((blk_cell hb_ 1).trans rfl : _ = some (.bool false)); clear hb_) | ((with_reducible refine gate_store (t := 4) (p := 40) (v := (.const (.bool true))) rfl ?_); refine wpList_plain rfl (fun K_ hK_ => ?_); refine op_store (S := S) 4 (.tmp 40) (.const (.bool true)) rfl b0 1 (.bool true) [.bool true] rfl rfl rfl (by kernel_rfl) (by simp [Value.oneCell']) (SL.get3 HS.out) (by simp) ?_; intro w27 hs_ hk_; refine hK_ _ _ ?_; clear hK_ K_; have n1_ := Aside0.mk (HK.out.trans hk_); have n2_ := Aside0.mk ((SL.back3 (show SL (cells b0 30 [.slice A3000023_0 y3000023_0.length c3000023_0, .bool true].toArray :: _) _ _ from hs_))); clear HK HS; have HK := n1_; have HS := n2_; clear n1_ n2_; try clear hz0_0_1 hz0_1_1; have hb_ := SL.at_ (SL.get3 HS.out); have hz0_0_2 := ((blk_cell hb_ 0).trans rfl : _ = some (.slice A3000023_0 y3000023_0.length c3000023_0)); have hz0_1_2 := ((blk_cell hb_ 1).trans rfl : _ = some (.bool true)); clear hb_) | ((with_reducible refine gate_store (t := 23) (p := 43) (v := (.const (.slice none 0 0))) rfl ?_); refine wpList_plain rfl (fun K_ hK_ => ?_); refine op_store (S := S) 23 (.tmp 43) (.const (.slice none 0 0)) rfl b0 0 (.slice none 0 0) [.slice none 0 0] rfl rfl rfl (by kernel_rfl) (by simp [Value.oneCell']) (SL.get3 HS.out) (by simp) ?_; intro w28 hs_ hk_; refine hK_ _ _ ?_; clear hK_ K_; have n1_ := Aside0.mk (HK.out.trans hk_); have n2_ := Aside0.mk ((SL.back3 (show SL (cells b0 30 [.slice none 0 0, .bool true].toArray :: _) _ _ from hs_))); clear HK HS; have HK := n1_; have HS := n2_; clear n1_ n2_; try clear hz0_0_2 hz0_1_2; have hb_ := SL.at_ (SL.get3 HS.out); have hz0_0_3 := ((blk_cell hb_ 0).trans rfl : _ = some (.slice none 0 0)); have hz0_1_3 := ((blk_cell hb_ 1).trans rfl : _ = some (.bool true)); clear hb_; have n2_ := Aside0.mk (SL.nil_row (Kd.int .u8) 5 HS.out); clear HS; have HS := n2_; clear n2_))
              go_ret2
              have n2_ := Aside0.mk (SL.get2 (SL.get1 (SL.get1 (SL.tail (SL.get3 (SL.tail (SL.get2 (SL.tail (SL.get2 HS.out)))))))))
              clear HS
              have HS := n2_
              clear n2_
              unfold barrowref04_Feed_Push.Post
              exact ⟨Ax6_0, cx6_0, none, 0, by first | rfl | (simp; done) | (simp [*]; done), HS.out, HK.out⟩
      · rw [if_neg c3] at H
        exact absurd H (by simp)
    · rw [if_neg c2] at H
      exact absurd H (by simp)

/-! ### barrowref04_Same: function 12 -/
def barrowref04_Same.l0 : Nat → List (List Int) → List (List Int) → Int → Option (Bool)
  | 0, _, _, _ => none
  | k + 1, x0, x1, x5 => if x5 < (x0.length : Int) then (if 0 ≤ x5 then (if x5 < (x1.length : Int) then (if (strOfNums (rd_L1 x0 x5)).toList = (strOfNums (rd_L1 x1 x5)).toList then (barrowref04_Same.l0 k x0 x1 (wrap64 (x5 + 1))) else (some false)) else (none)) else (none)) else (some true)
def barrowref04_Same.f (k : Nat) (l0 : List (List Int)) (l1 : List (List Int)) : Option (Bool) := if (l0.length : Int) = (l1.length : Int) then (barrowref04_Same.l0 k l0 l1 0) else (some false)
theorem barrowref04_Same.mono_l : ∀ k, (∀ y0 y1 y2, LeO (barrowref04_Same.l0 k y0 y1 y2) (barrowref04_Same.l0 (k + 1) y0 y1 y2))
  | 0 => fun _ _ _ r h => by simp [barrowref04_Same.l0] at h
  | k + 1 => by
    have ih0 := barrowref04_Same.mono_l k
    · intro y0 y1 y2
      unfold barrowref04_Same.l0
      repeat' first
      | (with_reducible exact ih0 _ _ _)
      | (with_reducible exact LeO.refl _)
      | (with_reducible exact LeO.none _)
      | (with_reducible refine LeO.ite ?_ ?_)
      | (with_reducible refine LeO.bind ?_ (fun _ => ?_))
      | exact ih0 _ _ _
      | exact LeO.none _
      | refine LeO.ite ?_ ?_
      | refine LeO.bind ?_ (fun _ => ?_)
theorem barrowref04_Same.mono : ∀ a0 a1 k, LeO (barrowref04_Same.f k a0 a1) (barrowref04_Same.f (k + 1) a0 a1) := by
  intro a0 a1 k
  have ih0 := barrowref04_Same.mono_l k
  unfold barrowref04_Same.f
  repeat' first
      | (with_reducible exact ih0 _ _ _)
      | (with_reducible exact LeO.refl _)
      | (with_reducible exact LeO.none _)
      | (with_reducible refine LeO.ite ?_ ?_)
      | (with_reducible refine LeO.bind ?_ (fun _ => ?_))
      | exact ih0 _ _ _
      | exact LeO.none _
      | refine LeO.ite ?_ ?_
      | refine LeO.bind ?_ (fun _ => ?_)
set_option maxHeartbeats 8000000 in
set_option maxRecDepth 100000 in
theorem barrowref04_Same.calls (k : Nat) (A0 : Option Addr) (c0 : Nat) (l0 : List (List Int)) (A1 : Option Addr) (c1 : Nat) (l1 : List (List Int)) (r : Bool) (w : World) (hr0 : Kd.C (Kd.slice 5 (Kd.int .u8)) w A0 l0.length l0) (hc0 : l0.length ≤ c0) (hr1 : Kd.C (Kd.slice 5 (Kd.int .u8)) w A1 l1.length l1) (hc1 : l1.length ≤ c1) (h : barrowref04_Same.f k l0 l1 = some r) :
    Calls Try.prog 12 #[.slice A0 l0.length c0, .slice A1 l1.length c1] w fun e w' => e = .returned (.bool r) ∧ Drawn0 w w' := by
  have HR0 := Aside0.mk hr0
  have HC0 := Aside0.mk hc0
  clear hr0 hc0
  have HR1 := Aside0.mk hr1
  have HC1 := Aside0.mk hc1
  clear hr1 hc1
  have H : (if (l0.length : Int) = (l1.length : Int) then (barrowref04_Same.l0 k l0 l1 0) else (some false)) = some r := h
  clear h
  by_cases c3 : (l0.length : Int) = (l1.length : Int)
  · rw [if_pos c3] at H
    have c3b0 : ((l0.length : Int) == (l1.length : Int)) = true := beq_iff_eq.mpr c3
    have c3b1 : ((l0.length : Int) != (l1.length : Int)) = false := bne_eq_false_iff_eq.mpr c3
    have c3b2 : (l0.length == l1.length) = true := by first | simpa using c3 | (simp at c3 ⊢; omega)
    clear c3
    have H' := Aside0.mk H
    clear H
    go_enter Try.func12, Try.ntmps12
    go_wp2
    repeat (go_quiet (fail); try go_wp2)
    go_loopg [5] k (fun kq v5 w' => ∃ (x5_1 : Int), v5 = .int .i64 x5_1 ∧ Aside0 (barrowref04_Same.l0 kq l0 l1 x5_1 = some r) ∧ Aside0 (kq ≤ k) ∧ Drawn0 w w')
    case atStart => exact ⟨(0), (by first | rfl | (simp; done) | (simp [*]; done)), H', ⟨Nat.le_refl _⟩, by repeat (first | exact Drawn0.refl _ | apply Drawn0.step)⟩
    case round =>
      clear H'
      try clear c1
      try clear p2
      try clear c3
      try clear c3b0
      try clear c3b1
      try clear c3b2
      obtain ⟨x5_1, rfl, HA, HK1, ⟨m1, rfl⟩⟩ := hrel
      cases gk with
      | zero => exact absurd HA.out (by simp [barrowref04_Same.l0])
      | succ k1 =>
        have H := HA.out
        clear HA
        simp only [barrowref04_Same.l0] at H
        by_cases c4 : x5_1 < (l0.length : Int)
        · rw [if_pos c4] at H
          have c4b0 : decide (x5_1 < (l0.length : Int)) = true := decide_eq_true c4
          clear c4
          by_cases c5 : 0 ≤ x5_1
          · rw [if_pos c5] at H
            have c5b0 : decide (0 ≤ x5_1) = true := decide_eq_true c5
            clear c5
            by_cases c6 : x5_1 < (l1.length : Int)
            · rw [if_pos c6] at H
              have c6b0 : decide (x5_1 < (l1.length : Int)) = true := decide_eq_true c6
              clear c6
              by_cases c7 : (strOfNums (rd_L1 l0 x5_1)).toList = (strOfNums (rd_L1 l1 x5_1)).toList
              · rw [if_pos c7] at H
                have c7b0 : ((strOfNums (rd_L1 l0 x5_1)).toList == (strOfNums (rd_L1 l1 x5_1)).toList) = true := beq_iff_eq.mpr c7
                have c7b1 : ((strOfNums (rd_L1 l0 x5_1)).toList != (strOfNums (rd_L1 l1 x5_1)).toList) = false := bne_eq_false_iff_eq.mpr c7
                clear c7
                have H' := Aside0.mk H
                clear H
                have p312 : 0 ≤ (x5_1 : Int) := of_decide_eq_true (by first | (with_reducible assumption) | assumption)
                have q312 : x5_1 < (l0.length : Int) := of_decide_eq_true (by first | (with_reducible assumption) | assumption)
                obtain ⟨ad312, A312_0, c312_0, e312, hx312_0, hl312_0, hi312_0⟩ := at_L1 HR0.out x5_1 p312 q312
                cases e312
                have HR312_0 := Aside0.mk hi312_0
                have HC312_0 := Aside0.mk hl312_0
                clear hi312_0 hl312_0
                replace p312 := eq_true p312
                replace q312 := eq_true q312
                have hcv8 := Kd.C_string (P := Try.prog) (A := A312_0) (c := c312_0) Try.underlying23 Try.underlying5 Try.underlying9 HR312_0.out
                have hcvd8 := fun n_ : Nat => Kd.C_string (P := Try.prog) (A := A312_0) (c := c312_0) Try.underlying23 Try.underlying5 Try.underlying9 (Kd.C_drewN HR312_0.out n_)
                have p313 : 0 ≤ (x5_1 : Int) := of_decide_eq_true (by first | (with_reducible assumption) | assumption)
                have q313 : x5_1 < (l1.length : Int) := of_decide_eq_true (by first | (with_reducible assumption) | assumption)
                obtain ⟨ad313, A313_0, c313_0, e313, hx313_0, hl313_0, hi313_0⟩ := at_L1 HR1.out x5_1 p313 q313
                cases e313
                have HR313_0 := Aside0.mk hi313_0
                have HC313_0 := Aside0.mk hl313_0
                clear hi313_0 hl313_0
                replace p313 := eq_true p313
                replace q313 := eq_true q313
                have hcv9 := Kd.C_string (P := Try.prog) (A := A313_0) (c := c313_0) Try.underlying23 Try.underlying5 Try.underlying9 HR313_0.out
                have hcvd9 := fun n_ : Nat => Kd.C_string (P := Try.prog) (A := A313_0) (c := c313_0) Try.underlying23 Try.underlying5 Try.underlying9 (Kd.C_drewN HR313_0.out n_)
                go_wp2
                repeat (go_quiet (fail); try go_wp2)
                go_roundg k1
                case measure => have := HK1.out; omega
                case rel => exact ⟨(wrap64 (x5_1 + 1)), (by first | rfl | (simp; done) | (simp [*]; done)), H', ⟨by have := HK1.out; omega⟩, by repeat (first | exact Drawn0.refl _ | apply Drawn0.step)⟩
              · rw [if_neg c7] at H
                have c7b0 : ((strOfNums (rd_L1 l0 x5_1)).toList == (strOfNums (rd_L1 l1 x5_1)).toList) = false := beq_eq_false_iff_ne.mpr c7
                have c7b1 : ((strOfNums (rd_L1 l0 x5_1)).toList != (strOfNums (rd_L1 l1 x5_1)).toList) = true := bne_iff_ne.mpr c7
                obtain rfl := Option.some.inj H
                have p312 : 0 ≤ (x5_1 : Int) := of_decide_eq_true (by first | (with_reducible assumption) | assumption)
                have q312 : x5_1 < (l0.length : Int) := of_decide_eq_true (by first | (with_reducible assumption) | assumption)
                obtain ⟨ad312, A312_0, c312_0, e312, hx312_0, hl312_0, hi312_0⟩ := at_L1 HR0.out x5_1 p312 q312
                cases e312
                have HR312_0 := Aside0.mk hi312_0
                have HC312_0 := Aside0.mk hl312_0
                clear hi312_0 hl312_0
                replace p312 := eq_true p312
                replace q312 := eq_true q312
                have hcv10 := Kd.C_string (P := Try.prog) (A := A312_0) (c := c312_0) Try.underlying23 Try.underlying5 Try.underlying9 HR312_0.out
                have hcvd10 := fun n_ : Nat => Kd.C_string (P := Try.prog) (A := A312_0) (c := c312_0) Try.underlying23 Try.underlying5 Try.underlying9 (Kd.C_drewN HR312_0.out n_)
                have p313 : 0 ≤ (x5_1 : Int) := of_decide_eq_true (by first | (with_reducible assumption) | assumption)
                have q313 : x5_1 < (l1.length : Int) := of_decide_eq_true (by first | (with_reducible assumption) | assumption)
                obtain ⟨ad313, A313_0, c313_0, e313, hx313_0, hl313_0, hi313_0⟩ := at_L1 HR1.out x5_1 p313 q313
                cases e313
                have HR313_0 := Aside0.mk hi313_0
                have HC313_0 := Aside0.mk hl313_0
                clear hi313_0 hl313_0
                replace p313 := eq_true p313
                replace q313 := eq_true q313
                have hcv11 := Kd.C_string (P := Try.prog) (A := A313_0) (c := c313_0) Try.underlying23 Try.underlying5 Try.underlying9 HR313_0.out
                have hcvd11 := fun n_ : Nat => Kd.C_string (P := Try.prog) (A := A313_0) (c := c313_0) Try.underlying23 Try.underlying5 Try.underlying9 (Kd.C_drewN HR313_0.out n_)
                go_wp2
                repeat (go_quiet (fail); try go_wp2)
                go_ret
                exact ⟨by first | rfl | (simp; done) | (simp [*]; done), by repeat (first | exact Drawn0.refl _ | apply Drawn0.step)⟩
            · rw [if_neg c6] at H
              exact absurd H (by simp)
          · rw [if_neg c5] at H
            exact absurd H (by simp)
        · rw [if_neg c4] at H
          have c4b0 : decide (x5_1 < (l0.length : Int)) = false := decide_eq_false c4
          clear c4
          obtain rfl := Option.some.inj H
          go_wp2
          repeat (go_quiet (fail); try go_wp2)
          go_ret
          exact ⟨by first | rfl | (simp; done) | (simp [*]; done), by repeat (first | exact Drawn0.refl _ | apply Drawn0.step)⟩
  · rw [if_neg c3] at H
    have c3b0 : ((l0.length : Int) == (l1.length : Int)) = false := beq_eq_false_iff_ne.mpr c3
    have c3b1 : ((l0.length : Int) != (l1.length : Int)) = true := bne_iff_ne.mpr c3
    have c3b2 : (l0.length == l1.length) = false := by first | simpa using c3 | (simp at c3 ⊢; omega)
    obtain rfl := Option.some.inj H
    go_enter Try.func12, Try.ntmps12
    go_wp2
    repeat (go_quiet (fail); try go_wp2)
    go_ret
    exact ⟨by first | rfl | (simp; done) | (simp [*]; done), by repeat (first | exact Drawn0.refl _ | apply Drawn0.step)⟩

/-! ### barrowref03_digits: function 29 -/
def barrowref03_digits.l0 : Nat → List Int → Int → Option (List Int)
  | 0, _, _ => none
  | k + 1, x0, x1 => if x1 ≥ 128 then (if x0.length < 140737488355328 then (barrowref03_digits.l0 k (x0 ++ [(IntKind.u64.wrap (128 + (Int.tmod x1 128))) % 256]) (IntKind.u64.wrap (Int.tdiv x1 128))) else (none)) else (if x0.length < 140737488355328 then (some (x0 ++ [(x1) % 256])) else (none))
def barrowref03_digits.f (k : Nat) (l0 : List Int) (a1 : Int) : Option (List Int) := barrowref03_digits.l0 k l0 a1
theorem barrowref03_digits.mono_l : ∀ k, (∀ y0 y1, LeO (barrowref03_digits.l0 k y0 y1) (barrowref03_digits.l0 (k + 1) y0 y1))
  | 0 => fun _ _ r h => by simp [barrowref03_digits.l0] at h
  | k + 1 => by
    have ih0 := barrowref03_digits.mono_l k
    · intro y0 y1
      unfold barrowref03_digits.l0
      repeat' first
      | (with_reducible exact ih0 _ _)
      | (with_reducible exact LeO.refl _)
      | (with_reducible exact LeO.none _)
      | (with_reducible refine LeO.ite ?_ ?_)
      | (with_reducible refine LeO.bind ?_ (fun _ => ?_))
      | exact ih0 _ _
      | exact LeO.none _
      | refine LeO.ite ?_ ?_
      | refine LeO.bind ?_ (fun _ => ?_)
theorem barrowref03_digits.mono : ∀ a0 a1 k, LeO (barrowref03_digits.f k a0 a1) (barrowref03_digits.f (k + 1) a0 a1) := by
  intro a0 a1 k
  have ih0 := barrowref03_digits.mono_l k
  unfold barrowref03_digits.f
  repeat' first
      | (with_reducible exact ih0 _ _)
      | (with_reducible exact LeO.refl _)
      | (with_reducible exact LeO.none _)
      | (with_reducible refine LeO.ite ?_ ?_)
      | (with_reducible refine LeO.bind ?_ (fun _ => ?_))
      | exact ih0 _ _
      | exact LeO.none _
      | refine LeO.ite ?_ ?_
      | refine LeO.bind ?_ (fun _ => ?_)
set_option maxHeartbeats 8000000 in
set_option maxRecDepth 100000 in
theorem barrowref03_digits.calls (k : Nat) (P0_ : Nat → Prop) (u9000_ : Value) (l0 : List Int) (a1 : Int) (r : List Int) (w0 w : World) (hB : Below w0.heap.size w0 w) (ho0 : Kd.R (Kd.int .u8) 5 w w0.heap.size P0_ u9000_ l0) (h : barrowref03_digits.f k l0 a1 = some r) :
    Calls Try.prog 29 #[u9000_, .int .u64 a1] w fun e w' => ∃ v0_ : Value, e = .returned (v0_) ∧ Kd.R (Kd.int .u8) 5 w' w0.heap.size (fun k_ => (P0_ k_ ∨ w.heap.size ≤ k_)) v0_ r ∧ Below w0.heap.size w0 w' ∧ Kept w w' (fun k_ => P0_ k_) := by
  have HO0 := Aside0.mk (show Kd.R (Kd.int .u8) 5 w w0.heap.size (fun k_ => (P0_ k_ ∨ w.heap.size ≤ k_)) u9000_ l0 from Kd.R_mono ho0 (fun k_ hk => (.inl hk)))
  have HK := Aside0.mk (Kept.refl w (fun k_ => P0_ k_))
  have HW0 := Aside0.mk hB.size
  have HB := Aside0.mk hB
  clear hB
  have H : (barrowref03_digits.l0 k l0 a1) = some r := h
  clear h
  have H' := Aside0.mk H
  clear H
  go_enter Try.func29, Try.ntmps29
  go_wp2
  go_loopg [0, 1] k (fun kq v0 v1 w' => ∃ (x0_1 : List Int) (x1_1 : Int), v1 = .int .u64 x1_1 ∧ Aside0 (barrowref03_digits.l0 kq x0_1 x1_1 = some r) ∧ Aside0 (kq ≤ k) ∧ Aside0 (Kd.R (Kd.int .u8) 5 w' w0.heap.size (fun k_ => (P0_ k_ ∨ w.heap.size ≤ k_)) v0 x0_1) ∧ Aside0 (Kept w w' (fun k_ => P0_ k_)) ∧ Aside0 (Below w0.heap.size w0 w'))
  case atStart => exact ⟨(l0), (a1), (by first | rfl | (simp; done) | (simp [*]; done)), H', ⟨Nat.le_refl _⟩, ⟨by (with_reducible repeat (first | apply Kd.R_alloc | apply Kd.R_drewN | apply Kd.R_drew)); exact HO0.out⟩, ⟨by repeat (first | (with_reducible first | exact HK.out | apply Kept.alloc | apply Kept.drewN | apply Kept.drew) | exact HK.out)⟩, ⟨by repeat (first | (with_reducible first | exact HB.out | apply below_alloc | apply pw_below_drewN | apply below_drew1) | exact HB.out)⟩⟩
  case round =>
    clear H'
    try clear c2
    try clear p2
    obtain ⟨x0_1, x1_1, rfl, HA, HK1, HO_0, HK, HB⟩ := hrel
    cases gk with
    | zero => exact absurd HA.out (by simp [barrowref03_digits.l0])
    | succ k1 =>
      have H := HA.out
      clear HA
      simp only [barrowref03_digits.l0] at H
      by_cases c3 : x1_1 ≥ 128
      · rw [if_pos c3] at H
        have c3b0 : decide (128 ≤ x1_1) = true := decide_eq_true c3
        clear c3
        by_cases c4 : x0_1.length < 140737488355328
        · rw [if_pos c4] at H
          have LMc4 := Aside0.mk c4
          clear c4
          obtain ⟨y314, hy314⟩ : ∃ y_ : List Int, y_ = (x0_1 ++ [(IntKind.u64.wrap (128 + (Int.tmod x1_1 128))) % 256]) := ⟨_, rfl⟩
          replace H : (barrowref03_digits.l0 k1 y314 (IntKind.u64.wrap (Int.tdiv x1_1 128))) = some r := by first | (rw [hy314]; with_reducible exact H) | (have H2_ := (Option.bind_some _ _).symm.trans H; rw [hy314]; with_reducible exact H2_) | (have H2_ := (Option.bind_some _ _).symm.trans H; with_reducible exact H2_) | with_reducible exact H | (rw [hy314]; exact H) | exact H
          have Ny314 := Aside0.mk hy314
          clear hy314
          have H' := Aside0.mk H
          clear H
          go_wp2_with (first | ((with_reducible refine gate_builtin (b := .append) (xs := #[.tmp 7, .tmp 12]) rfl ?_); at_builtin; refine Kd.R_append (Kd.int .u8) (w0 := w0) w0.heap.size rfl (.tmp 7) (.tmp 12) 23 5 (.int .u8 0) 1 rfl Try.underlying23 info5 rfl (by decide) (by omega) u0 x0_1 ((IntKind.u64.wrap (128 + (Int.tmod x1_1 128))) % 256) [.int .u8 ((IntKind.u64.wrap (128 + (Int.tmod x1_1 128))) % 256)] (fun k_ => (P0_ k_ ∨ w.heap.size ≤ k_)) (fun _ => False) rfl rfl ?aP (fun _ hk => hk.elim) ?aF ?aO ?aB ?aS ?aL ?_; (case aP => exact rfl); (case aB => exact (by repeat (first | (with_reducible first | exact HB.out | apply below_alloc | apply pw_below_drewN | apply below_drew1) | exact HB.out))); (case aF => exact (fun k_ hk => (.inr (Nat.le_trans (by first | exact HK.out.1 | exact (show Kept w _ (fun k_ => P0_ k_) from by repeat (first | (with_reducible first | exact HK.out | apply Kept.alloc | apply Kept.drewN | apply Kept.drew) | exact HK.out)).1) hk)))); (case aO => exact (by (with_reducible repeat (first | apply Kd.R_alloc | apply Kd.R_drewN | apply Kd.R_drew)); exact HO_0.out)); (case aS => exact (below_size (by repeat (first | (with_reducible first | exact HB.out | apply below_alloc | apply pw_below_drewN | apply below_drew1) | exact HB.out)))); (case aL => have := LMc4.out; omega); intro v315 w5 ho hb hg hat; rw [← Ny314.out] at ho; have n0_ := Aside0.mk (hb); have n1_ := Aside0.mk (Kept.of_grown (S := (fun k_ => P0_ k_)) hg (by repeat (first | (with_reducible first | exact HK.out | apply Kept.alloc | apply Kept.drewN | apply Kept.drew) | exact HK.out)) (fun k_ e_ => (HO_0.out.1 k_ e_))); have n2_ := Aside0.mk (ho); clear HB; clear HK; clear HO_0; have HB := n0_; have HK := n1_; have HO316 := n2_; clear n0_ n1_ n2_; clear ho hb hg hat))
          go_roundg k1
          case measure => have := HK1.out; omega
          case rel => exact ⟨(y314), (IntKind.u64.wrap (Int.tdiv x1_1 128)), (by first | rfl | (simp; done) | (simp [*]; done)), H', ⟨by have := HK1.out; omega⟩, ⟨by (with_reducible repeat (first | apply Kd.R_alloc | apply Kd.R_drewN | apply Kd.R_drew)); exact HO316.out⟩, ⟨by repeat (first | (with_reducible first | exact HK.out | apply Kept.alloc | apply Kept.drewN | apply Kept.drew) | exact HK.out)⟩, ⟨by repeat (first | (with_reducible first | exact HB.out | apply below_alloc | apply pw_below_drewN | apply below_drew1) | exact HB.out)⟩⟩
        · rw [if_neg c4] at H
          exact absurd H (by simp)
      · rw [if_neg c3] at H
        have c3b0 : decide (128 ≤ x1_1) = false := decide_eq_false c3
        clear c3
        by_cases c6 : x0_1.length < 140737488355328
        · rw [if_pos c6] at H
          have LMc6 := Aside0.mk c6
          clear c6
          obtain ⟨y317, hy317⟩ : ∃ y_ : List Int, y_ = (x0_1 ++ [(x1_1) % 256]) := ⟨_, rfl⟩
          replace H : (some y317) = some r := by first | (rw [hy317]; with_reducible exact H) | (have H2_ := (Option.bind_some _ _).symm.trans H; rw [hy317]; with_reducible exact H2_) | (have H2_ := (Option.bind_some _ _).symm.trans H; with_reducible exact H2_) | with_reducible exact H | (rw [hy317]; exact H) | exact H
          have Ny317 := Aside0.mk hy317
          clear hy317
          obtain rfl := Option.some.inj H
          go_wp2_with (first | ((with_reducible refine gate_builtin (b := .append) (xs := #[.tmp 16, .tmp 19]) rfl ?_); at_builtin; refine Kd.R_append (Kd.int .u8) (w0 := w0) w0.heap.size rfl (.tmp 16) (.tmp 19) 23 5 (.int .u8 0) 1 rfl Try.underlying23 info5 rfl (by decide) (by omega) u0 x0_1 ((x1_1) % 256) [.int .u8 ((x1_1) % 256)] (fun k_ => (P0_ k_ ∨ w.heap.size ≤ k_)) (fun _ => False) rfl rfl ?aP (fun _ hk => hk.elim) ?aF ?aO ?aB ?aS ?aL ?_; (case aP => exact rfl); (case aB => exact (by repeat (first | (with_reducible first | exact HB.out | apply below_alloc | apply pw_below_drewN | apply below_drew1) | exact HB.out))); (case aF => exact (fun k_ hk => (.inr (Nat.le_trans (by first | exact HK.out.1 | exact (show Kept w _ (fun k_ => P0_ k_) from by repeat (first | (with_reducible first | exact HK.out | apply Kept.alloc | apply Kept.drewN | apply Kept.drew) | exact HK.out)).1) hk)))); (case aO => exact (by (with_reducible repeat (first | apply Kd.R_alloc | apply Kd.R_drewN | apply Kd.R_drew)); exact HO_0.out)); (case aS => exact (below_size (by repeat (first | (with_reducible first | exact HB.out | apply below_alloc | apply pw_below_drewN | apply below_drew1) | exact HB.out)))); (case aL => have := LMc6.out; omega); intro v318 w7 ho hb hg hat; rw [← Ny317.out] at ho; have n0_ := Aside0.mk (hb); have n1_ := Aside0.mk (Kept.of_grown (S := (fun k_ => P0_ k_)) hg (by repeat (first | (with_reducible first | exact HK.out | apply Kept.alloc | apply Kept.drewN | apply Kept.drew) | exact HK.out)) (fun k_ e_ => (HO_0.out.1 k_ e_))); have n2_ := Aside0.mk (ho); clear HB; clear HK; clear HO_0; have HB := n0_; have HK := n1_; have HO319 := n2_; clear n0_ n1_ n2_; clear ho hb hg hat))
          go_ret
          exact ⟨_, by first | rfl | (simp [errW_none, errW_some] <;> rfl) | (simp [*, errW_none, errW_some] <;> rfl), by (with_reducible repeat (first | apply Kd.R_alloc | apply Kd.R_drewN | apply Kd.R_drew)); exact HO319.out, by repeat (first | (with_reducible first | exact HB.out | apply below_alloc | apply pw_below_drewN | apply below_drew1) | exact HB.out), by repeat (first | (with_reducible first | exact HK.out | apply Kept.alloc | apply Kept.drewN | apply Kept.drew) | exact HK.out)⟩
        · rw [if_neg c6] at H
          exact absurd H (by simp)

/-! ### barrowref03_front: function 30 -/
def barrowref03_front.f (l0 : List Int) : Option (List Int) := (some (([] : List Int) : List Int)).bind fun y320 => (if y320.length + l0.length < 140737488355328 then (some (y320 ++ l0)) else (none))
set_option maxHeartbeats 8000000 in
set_option maxRecDepth 100000 in
theorem barrowref03_front.calls (A0 : Option Addr) (c0 : Nat) (l0 : List Int) (r : List Int) (w : World) (hr0 : Kd.C (Kd.int .u8) w A0 l0.length l0) (hc0 : l0.length ≤ c0) (h : barrowref03_front.f l0 = some r) :
    Calls Try.prog 30 #[.slice A0 l0.length c0] w fun e w' => ∃ v0_ : Value, e = .returned (v0_) ∧ Kd.R (Kd.int .u8) 5 w' w.heap.size (fun _ => True) v0_ r ∧ Below w.heap.size w w' := by
  have HR0 := Aside0.mk hr0
  have HC0 := Aside0.mk hc0
  clear hr0 hc0
  have HB := Aside0.mk (Below.refl w.heap.size w)
  have H : ((some (([] : List Int) : List Int)).bind fun y320 => (if y320.length + l0.length < 140737488355328 then (some (y320 ++ l0)) else (none))) = some r := h
  clear h
  obtain ⟨y320, hy320⟩ : ∃ y_ : List Int, y_ = (([] : List Int)) := ⟨_, rfl⟩
  replace H : (if y320.length + l0.length < 140737488355328 then (some (y320 ++ l0)) else (none)) = some r := by first | (rw [hy320]; with_reducible exact H) | (have H2_ := (Option.bind_some _ _).symm.trans H; rw [hy320]; with_reducible exact H2_) | (have H2_ := (Option.bind_some _ _).symm.trans H; with_reducible exact H2_) | with_reducible exact H | (rw [hy320]; exact H) | exact H
  have Ny320 := Aside0.mk hy320
  clear hy320
  by_cases c2 : y320.length + l0.length < 140737488355328
  · rw [if_pos c2] at H
    have LMc2 := Aside0.mk c2
    clear c2
    obtain ⟨y323, hy323⟩ : ∃ y_ : List Int, y_ = (y320 ++ l0) := ⟨_, rfl⟩
    replace H : (some y323) = some r := by first | (rw [hy323]; with_reducible exact H) | (have H2_ := (Option.bind_some _ _).symm.trans H; rw [hy323]; with_reducible exact H2_) | (have H2_ := (Option.bind_some _ _).symm.trans H; with_reducible exact H2_) | with_reducible exact H | (rw [hy323]; exact H) | exact H
    have Ny323 := Aside0.mk hy323
    clear hy323
    obtain rfl := Option.some.inj H
    go_enter Try.func30, Try.ntmps30
    go_wp2_with (first | ((with_reducible refine gate_dst (N := 3) rfl ?_); refine Kd.R_lit (Kd.int .u8) _ 5 ?hg (N := 3) ?hd (xs := ([] : List Int)) (inner := []) (ok := fun _ => True) (okp := fun _ => True) ?hr ?hp (fun _ hk => hk) trivial (Below.refl _ _) (Nat.le_refl _) (by simp) ?_; (case hd => rfl); (case hg => rfl); (case hr => first | (go_simp; done) | (go_simp; rfl)); (case hp => exact (Reps.none _ _)); intro v321 w3 ho4 hb hg_ hnew_; clear hg_ hnew_; (first | rw [← Ny320.out] at ho4 | (simp only [Int.reduceToNat] at ho4; rw [← Ny320.out] at ho4)); have n0_ := Aside0.mk (Kd.R_lower ho4 (below_size (by repeat (first | (with_reducible first | exact HB.out | apply below_alloc | apply pw_below_drewN | apply below_drew1) | exact HB.out)))); have n1_ := Aside0.mk (below_step (by repeat (first | (with_reducible first | exact HB.out | apply below_alloc | apply pw_below_drewN | apply below_drew1) | exact HB.out)) hb); clear HB; have HO322 := n0_; have HB := n1_; clear n0_ n1_; clear hb ho4) | ((with_reducible refine gate_builtin (b := .append) (xs := #[.tmp 3, .tmp 4]) rfl ?_); at_builtin; refine Kd.R_append_rows (Kd.int .u8) (w0 := w) w.heap.size rfl (.tmp 3) (.tmp 4) 23 5 (.int .u8 0) 1 rfl Try.underlying23 info5 rfl (by decide) (by omega) v321 y320 l0 _ _ _ (fun _ => True) (fun _ => False) rfl rfl ?aO ?aR (fun _ _ h => h) (fun _ h => h.elim) ?aF ?aB ?aS ?aL ?_; (case aR => repeat (first | exact (Kd.C_below HR0.out HB.out) | (with_reducible refine Kd.C_alloc ?_ _) | (with_reducible refine Kd.C_drewN ?_ _) | (with_reducible refine Kd.C_drew ?_))); (case aB => exact (by repeat (first | (with_reducible first | exact HB.out | apply below_alloc | apply pw_below_drewN | apply below_drew1) | exact HB.out))); (case aF => exact (fun _ _ => trivial)); (case aO => exact (by (with_reducible repeat (first | apply Kd.R_alloc | apply Kd.R_drewN | apply Kd.R_drew)); exact HO322.out)); (case aS => exact (below_size (by repeat (first | (with_reducible first | exact HB.out | apply below_alloc | apply pw_below_drewN | apply below_drew1) | exact HB.out)))); (case aL => have := LMc2.out; omega); intro v324 w5 ho hb hg hat; rw [← Ny323.out] at ho; have n0_ := Aside0.mk (hb); have n1_ := Aside0.mk (ho); clear HB; clear HO322; have HB := n0_; have HO325 := n1_; clear n0_ n1_; clear ho hb hg hat))
    go_ret
    exact ⟨_, by first | rfl | (simp [errW_none, errW_some] <;> rfl) | (simp [*, errW_none, errW_some] <;> rfl), by (with_reducible repeat (first | apply Kd.R_alloc | apply Kd.R_drewN | apply Kd.R_drew)); exact HO325.out, by repeat (first | (with_reducible first | exact HB.out | apply below_alloc | apply pw_below_drewN | apply below_drew1) | exact HB.out)⟩
  · rw [if_neg c2] at H
    exact absurd H (by simp)

/-! ### barrowref03_Uint: function 23 -/
def barrowref03_Uint.f (k : Nat) (l0 : List Int) (a1 : Int) : Option (List Int) := (barrowref03_front.f l0).bind fun t326 => ((barrowref03_digits.f k t326 (IntKind.u64.wrap (mx a1 0))).bind fun t329 => (some t329))
theorem barrowref03_Uint.mono : ∀ a0 a1 k, LeO (barrowref03_Uint.f k a0 a1) (barrowref03_Uint.f (k + 1) a0 a1) := by
  intro a0 a1 k
  unfold barrowref03_Uint.f
  repeat' first
      | (with_reducible exact barrowref03_digits.mono _ _ _)
      | (with_reducible exact LeO.refl _)
      | (with_reducible exact LeO.none _)
      | (with_reducible refine LeO.ite ?_ ?_)
      | (with_reducible refine LeO.bind ?_ (fun _ => ?_))
      | exact barrowref03_digits.mono _ _ _
      | exact LeO.none _
      | refine LeO.ite ?_ ?_
      | refine LeO.bind ?_ (fun _ => ?_)
set_option maxHeartbeats 8000000 in
set_option maxRecDepth 100000 in
theorem barrowref03_Uint.calls (k : Nat) (A0 : Option Addr) (c0 : Nat) (l0 : List Int) (a1 : Int) (r : List Int) (w : World) (hr0 : Kd.C (Kd.int .u8) w A0 l0.length l0) (hc0 : l0.length ≤ c0) (h : barrowref03_Uint.f k l0 a1 = some r) :
    Calls Try.prog 23 #[.slice A0 l0.length c0, .int .i64 a1] w fun e w' => ∃ v0_ : Value, e = .returned (v0_) ∧ Kd.R (Kd.int .u8) 5 w' w.heap.size (fun _ => True) v0_ r ∧ Below w.heap.size w w' := by
  have HR0 := Aside0.mk hr0
  have HC0 := Aside0.mk hc0
  clear hr0 hc0
  have HB := Aside0.mk (Below.refl w.heap.size w)
  have H : ((barrowref03_front.f l0).bind fun t326 => ((barrowref03_digits.f k t326 (IntKind.u64.wrap (mx a1 0))).bind fun t329 => (some t329))) = some r := h
  clear h
  replace H := Option.bind_eq_some_iff.mp H
  obtain ⟨t326, A30, H⟩ := H
  replace H : ((barrowref03_digits.f k t326 (IntKind.u64.wrap (mx a1 0))).bind fun t329 => (some t329)) = some r := H
  have A3 := Aside0.mk A30
  clear A30
  obtain ⟨ji4, hji4⟩ : ∃ j_ : Int, (mx a1 0) = j_ := ⟨_, rfl⟩
  replace H : ((barrowref03_digits.f k t326 (IntKind.u64.wrap (ji4))).bind fun t329 => (some t329)) = some r := by first | (rw [hji4] at H; exact H) | (simp only [hji4] at H ⊢; exact H)
  (try rw [hji4] at A3)
  (try (have hji4l : 0 ≤ ji4 := by (rw [← hji4]; unfold mx; (repeat' split) <;> omega)))
  (try (have hji4m : 0 ≤ ji4 := by omega))
  have hji4_ : (if a1 < 0 then 0 else a1) = ji4 := hji4
  replace H := Option.bind_eq_some_iff.mp H
  obtain ⟨t329, A50, H⟩ := H
  replace H : (some t329) = some r := H
  have A5 := Aside0.mk A50
  clear A50
  obtain rfl := Option.some.inj H
  go_enter Try.func23, Try.ntmps23
  go_wp2_with (first | ((with_reducible refine gate_callee (f := 30) rfl ?_); refine goesL_ (some 6) rfl rfl Try.func30 (by kernel_rfl) rfl #[.slice A0 l0.length c0] rfl (by (try simp only [List.map_toArray, List.map_cons, List.map_nil]); first | done | rfl | (simp only [List.length_drop, List.length_take]; rfl)) ?_; (with_reducible refine (barrowref03_front.calls _ _ l0 t326 _ ?side1 ?side2 A3.out).mono ?_); (case side1 => repeat (first | exact HR0.out | (with_reducible refine Kd.C_alloc ?_ _) | (with_reducible refine Kd.C_drewN ?_ _) | (with_reducible refine Kd.C_drew ?_))); (case side2 => exact HC0.out); rintro e w6 ⟨v327, rfl, ho0, hb⟩; refine ⟨_, rfl, ?_⟩; have n0_ := Aside0.mk (Kd.R_lower ho0 (below_size (by repeat (first | (with_reducible first | exact HB.out | apply below_alloc | apply pw_below_drewN | apply below_drew1) | exact HB.out)))); have n1_ := Aside0.mk (below_step (by repeat (first | (with_reducible first | exact HB.out | apply below_alloc | apply pw_below_drewN | apply below_drew1) | exact HB.out)) hb); clear HB; have HO328 := n0_; have HB := n1_; clear n0_ n1_; (try clear hb); (try clear hb2); (try clear hk); (try clear hi); (try clear ho0); obtain ⟨Ao7, co7, eo7⟩ := Kd.R_slice HO328.out; subst eo7) | ((with_reducible refine gate_callee (f := 29) rfl ?_); refine goesL_ (some 10) rfl rfl Try.func29 (by kernel_rfl) rfl #[.slice Ao7 t326.length co7, .int .u64 (IntKind.u64.wrap (ji4))] rfl (by (try simp only [List.map_toArray, List.map_cons, List.map_nil]); first | done | (simp only [hji4]; rfl) | rfl | (simp only [List.length_drop, List.length_take]; rfl)) ?_; (with_reducible refine (barrowref03_digits.calls k (fun k_ => some k_ = (.slice Ao7 t326.length co7 : Value).ownBlock) (.slice Ao7 t326.length co7) t326 (IntKind.u64.wrap (ji4)) t329 w _ ?side1 ?side2 A5.out).mono ?_); (case side1 => repeat (first | (with_reducible first | exact HB.out | apply below_alloc | apply pw_below_drewN | apply below_drew1) | exact HB.out)); (case side2 => exact Kd.R_tight rfl HO328.out); rintro e w8 ⟨v330, rfl, ho0, hb, hkp⟩; refine ⟨_, rfl, ?_⟩; have n0_ := Aside0.mk (Kd.R_mono (ok' := fun k_ => True) ho0 (fun k_ hk_ => trivial)); have n1_ := Aside0.mk (hb); clear HB; clear HO328; have HO331 := n0_; have HB := n1_; clear n0_ n1_; (try clear hb); (try clear hkp); (try clear ho0)))
  go_ret
  exact ⟨_, by first | rfl | (simp [errW_none, errW_some] <;> rfl) | (simp only [← hji4]; first | rfl | (simp [errW_none, errW_some] <;> rfl)) | (simp [*, errW_none, errW_some] <;> rfl), by (with_reducible repeat (first | apply Kd.R_alloc | apply Kd.R_drewN | apply Kd.R_drew)); exact HO331.out, by repeat (first | (with_reducible first | exact HB.out | apply below_alloc | apply pw_below_drewN | apply below_drew1) | exact HB.out)⟩

/-! ### barrowref04_Wrap: function 16 -/
def barrowref04_Wrap.f (k : Nat) (l0 : List Int) : Option (List Int × Int) := if (l0.length : Int) > 4096 then (some (([] : List Int), 3)) else ((barrowref03_Uint.f k ([] : List Int) (l0.length : Int)).bind fun t332 => (if t332.length + l0.length < 140737488355328 then (some ((t332 ++ l0), 0)) else (none)))
theorem barrowref04_Wrap.mono : ∀ a0 k, LeO (barrowref04_Wrap.f k a0) (barrowref04_Wrap.f (k + 1) a0) := by
  intro a0 k
  unfold barrowref04_Wrap.f
  repeat' first
      | (with_reducible exact barrowref03_Uint.mono _ _ _)
      | (with_reducible exact LeO.refl _)
      | (with_reducible exact LeO.none _)
      | (with_reducible refine LeO.ite ?_ ?_)
      | (with_reducible refine LeO.bind ?_ (fun _ => ?_))
      | exact barrowref03_Uint.mono _ _ _
      | exact LeO.none _
      | refine LeO.ite ?_ ?_
      | refine LeO.bind ?_ (fun _ => ?_)
set_option maxHeartbeats 8000000 in
set_option maxRecDepth 100000 in
theorem barrowref04_Wrap.calls (k : Nat) (A0 : Option Addr) (c0 : Nat) (l0 : List Int) (r1 : List Int) (r2 : Int) (w : World) (hr0 : Kd.C (Kd.int .u8) w A0 l0.length l0) (hc0 : l0.length ≤ c0) (h : barrowref04_Wrap.f k l0 = some (r1, r2)) :
    Calls Try.prog 16 #[.slice A0 l0.length c0] w fun e w' => ∃ v0_ : Value, e = .returned (.tuple #[v0_, .int .i64 r2]) ∧ Kd.R (Kd.int .u8) 5 w' w.heap.size (fun _ => True) v0_ r1 ∧ Below w.heap.size w w' := by
  have HR0 := Aside0.mk hr0
  have HC0 := Aside0.mk hc0
  clear hr0 hc0
  have HB := Aside0.mk (Below.refl w.heap.size w)
  have H : (if (l0.length : Int) > 4096 then (some (([] : List Int), 3)) else ((barrowref03_Uint.f k ([] : List Int) (l0.length : Int)).bind fun t332 => (if t332.length + l0.length < 140737488355328 then (some ((t332 ++ l0), 0)) else (none)))) = some (r1, r2) := h
  clear h
  by_cases c2 : (l0.length : Int) > 4096
  · rw [if_pos c2] at H
    have c2b0 : decide (4096 < (l0.length : Int)) = true := decide_eq_true c2
    have c2b1 : decide (4096 < l0.length) = true := decide_eq_true (by omega)
    clear c2
    simp only [Option.some.injEq, Prod.mk.injEq] at H
    obtain ⟨rfl, rfl⟩ := H
    go_enter Try.func16, Try.ntmps16
    go_wp2
    go_ret2
    exact ⟨_, by first | rfl | (simp [errW_none, errW_some] <;> rfl) | (simp [*, errW_none, errW_some] <;> rfl), by first | exact Kd.R_nil _ _ _ _ _ | exact Kd.N_nil _ _ _ _ _ | exact Kd.V_nil _ _ _ _ _ | exact Kd.Q_nil _ _ _ _ _ | exact Kd.S_nil _ _ _ _ _, by repeat (first | (with_reducible first | exact HB.out | apply below_alloc | apply pw_below_drewN | apply below_drew1) | exact HB.out)⟩
  · rw [if_neg c2] at H
    have c2b0 : decide (4096 < (l0.length : Int)) = false := decide_eq_false c2
    have c2b1 : decide (4096 < l0.length) = false := decide_eq_false (by omega)
    clear c2
    replace H := Option.bind_eq_some_iff.mp H
    obtain ⟨t332, A30, H⟩ := H
    replace H : (if t332.length + l0.length < 140737488355328 then (some ((t332 ++ l0), 0)) else (none)) = some (r1, r2) := H
    have A3 := Aside0.mk A30
    clear A30
    by_cases c4 : t332.length + l0.length < 140737488355328
    · rw [if_pos c4] at H
      have LMc4 := Aside0.mk c4
      clear c4
      obtain ⟨y335, hy335⟩ : ∃ y_ : List Int, y_ = (t332 ++ l0) := ⟨_, rfl⟩
      replace H : (some (y335, 0)) = some (r1, r2) := by first | (rw [hy335]; with_reducible exact H) | (have H2_ := (Option.bind_some _ _).symm.trans H; rw [hy335]; with_reducible exact H2_) | (have H2_ := (Option.bind_some _ _).symm.trans H; with_reducible exact H2_) | with_reducible exact H | (rw [hy335]; exact H) | exact H
      have Ny335 := Aside0.mk hy335
      clear hy335
      simp only [Option.some.injEq, Prod.mk.injEq] at H
      obtain ⟨rfl, rfl⟩ := H
      go_enter Try.func16, Try.ntmps16
      go_wp2_with (first | ((with_reducible refine gate_callee (f := 23) rfl ?_); refine goesL_ (some 9) rfl rfl Try.func23 (by kernel_rfl) rfl #[.slice none 0 0, .int .i64 (l0.length : Int)] rfl (by (try simp only [List.map_toArray, List.map_cons, List.map_nil]); first | done | rfl | (simp only [List.length_drop, List.length_take]; rfl)) ?_; (refine (barrowref03_Uint.calls k _ _ ([] : List Int) (l0.length : Int) t332 _ ?side1 ?side2 A3.out).mono ?_); (case side1 => exact Kd.C_nil _ _); (case side2 => exact Nat.le_refl _); rintro e w5 ⟨v333, rfl, ho0, hb⟩; refine ⟨_, rfl, ?_⟩; have n0_ := Aside0.mk (Kd.R_lower ho0 (below_size (by repeat (first | (with_reducible first | exact HB.out | apply below_alloc | apply pw_below_drewN | apply below_drew1) | exact HB.out)))); have n1_ := Aside0.mk (below_step (by repeat (first | (with_reducible first | exact HB.out | apply below_alloc | apply pw_below_drewN | apply below_drew1) | exact HB.out)) hb); clear HB; have HO334 := n0_; have HB := n1_; clear n0_ n1_; (try clear hb); (try clear hb2); (try clear hk); (try clear hi); (try clear ho0)) | ((with_reducible refine gate_builtin (b := .append) (xs := #[.tmp 9, .tmp 10]) rfl ?_); at_builtin; refine Kd.R_append_rows (Kd.int .u8) (w0 := w) w.heap.size rfl (.tmp 9) (.tmp 10) 23 5 (.int .u8 0) 1 rfl Try.underlying23 info5 rfl (by decide) (by omega) v333 t332 l0 _ _ _ (fun _ => True) (fun _ => False) rfl rfl ?aO ?aR (fun _ _ h => h) (fun _ h => h.elim) ?aF ?aB ?aS ?aL ?_; (case aR => repeat (first | exact (Kd.C_below HR0.out HB.out) | (with_reducible refine Kd.C_alloc ?_ _) | (with_reducible refine Kd.C_drewN ?_ _) | (with_reducible refine Kd.C_drew ?_))); (case aB => exact (by repeat (first | (with_reducible first | exact HB.out | apply below_alloc | apply pw_below_drewN | apply below_drew1) | exact HB.out))); (case aF => exact (fun _ _ => trivial)); (case aO => exact (by (with_reducible repeat (first | apply Kd.R_alloc | apply Kd.R_drewN | apply Kd.R_drew)); exact HO334.out)); (case aS => exact (below_size (by repeat (first | (with_reducible first | exact HB.out | apply below_alloc | apply pw_below_drewN | apply below_drew1) | exact HB.out)))); (case aL => have := LMc4.out; omega); intro v336 w6 ho hb hg hat; rw [← Ny335.out] at ho; have n0_ := Aside0.mk (hb); have n1_ := Aside0.mk (ho); clear HB; clear HO334; have HB := n0_; have HO337 := n1_; clear n0_ n1_; clear ho hb hg hat))
      go_ret2
      exact ⟨_, by first | rfl | (simp [errW_none, errW_some] <;> rfl) | (simp [*, errW_none, errW_some] <;> rfl), by (with_reducible repeat (first | apply Kd.R_alloc | apply Kd.R_drewN | apply Kd.R_drew)); exact HO337.out, by repeat (first | (with_reducible first | exact HB.out | apply below_alloc | apply pw_below_drewN | apply below_drew1) | exact HB.out)⟩
    · rw [if_neg c4] at H
      exact absurd H (by simp)

end Go.Proofs.Ytdlpijeceigbnaa.XFR
