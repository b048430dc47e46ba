-- Written by xprint.py (a program of this session) for this claim
import Derived.Test.YtljmecjciifceaaXSGx0
import Derived.Test.YtljmecjciifceaaXSGx13
import Derived.Test.YtljmecjciifceaaXSGx15
namespace Go.Proofs.Ytljmecjciifceaa.XSG
open Go.Proofs.YtljmecjciifceaaV Go.Proofs.YtljmecjciifceaaS
open Go.RowKit Go.Proofs.YtljmecjciifceaaW.PrintWords Go.Proofs.YtljmecjciifceaaW.PrintLast Go.Proofs.YtljmecjciifceaaW.PrintMore
attribute [local go_sem] max2_int min2_int max_two min_two max_three min_three max_four min_four   -- for this text's walks alone
set_option linter.unusedVariables false
set_option linter.unusedSimpArgs false

/-! ### barrowref07_Seen: function 21 -/
def barrowref07_Seen.l0 : Nat → Int → Int → (List Bool) → Int → Int → (List (S26)) → (List (S26)) → Int → Option ((List (S26)))
  | 0, _, _, _, _, _, _, _, _ => none
  | k + 1, a0_0, a0_1, l0_2, a1_0, a1_1, t748, x8_0, x9_0 => if x9_0 < (t748.length : Int) then (if 0 ≤ x9_0 then ((barrowref07_Sees.f k a0_0 a0_1 l0_2 a1_0 a1_1 ((rd_T26 t748 x9_0).f0) ((rd_T26 t748 x9_0).f1)).bind fun t750 => (if t750 = true then ((some (([(⟨(rd_T26 t748 x9_0).f0, (rd_T26 t748 x9_0).f1⟩ : S26)] : List (S26)) : List (S26))).bind fun y752 => (if x8_0.length + y752.length < 8796093022208 then ((some (x8_0 ++ y752 : List (S26))).bind fun y753 => (barrowref07_Seen.l0 k a0_0 a0_1 l0_2 a1_0 a1_1 t748 y753 (wrap64 (x9_0 + 1)))) else (none))) else (barrowref07_Seen.l0 k a0_0 a0_1 l0_2 a1_0 a1_1 t748 x8_0 (wrap64 (x9_0 + 1))))) else (none)) else (some x8_0)
def barrowref07_Seen.f (k : Nat) (a0_0 : Int) (a0_1 : Int) (l0_2 : List Bool) (a1_0 : Int) (a1_1 : Int) (a2 : Int) : Option ((List (S26))) := (barrowref06_Around.f k a0_0 a0_1 l0_2 a1_0 a1_1 a2).bind fun t748 => (barrowref07_Seen.l0 k a0_0 a0_1 l0_2 a1_0 a1_1 t748 ([] : List (S26)) 0)
theorem barrowref07_Seen.mono_l : ∀ k, (∀ y0 y1 y2 y3 y4 y5 y6 y7, LeO (barrowref07_Seen.l0 k y0 y1 y2 y3 y4 y5 y6 y7) (barrowref07_Seen.l0 (k + 1) y0 y1 y2 y3 y4 y5 y6 y7))
  | 0 => fun _ _ _ _ _ _ _ _ r h => by simp [barrowref07_Seen.l0] at h
  | k + 1 => by
    have ih0 := barrowref07_Seen.mono_l k
    · intro y0 y1 y2 y3 y4 y5 y6 y7
      unfold barrowref07_Seen.l0
      repeat' first
      | (with_reducible exact ih0 _ _ _ _ _ _ _ _)
      | (with_reducible exact barrowref06_Around.mono _ _ _ _ _ _ _)
      | (with_reducible exact barrowref07_Sees.mono _ _ _ _ _ _ _ _)
      | (with_reducible exact LeO.refl _)
      | (with_reducible exact LeO.none _)
      | (with_reducible refine LeO.ite ?_ ?_)
      | (with_reducible refine LeO.bind ?_ (fun _ => ?_))
      | exact ih0 _ _ _ _ _ _ _ _
      | exact barrowref06_Around.mono _ _ _ _ _ _ _
      | exact barrowref07_Sees.mono _ _ _ _ _ _ _ _
      | exact LeO.none _
      | refine LeO.ite ?_ ?_
      | refine LeO.bind ?_ (fun _ => ?_)
theorem barrowref07_Seen.mono : ∀ a0 a1 a2 a3 a4 a5 k, LeO (barrowref07_Seen.f k a0 a1 a2 a3 a4 a5) (barrowref07_Seen.f (k + 1) a0 a1 a2 a3 a4 a5) := by
  intro a0 a1 a2 a3 a4 a5 k
  have ih0 := barrowref07_Seen.mono_l k
  unfold barrowref07_Seen.f
  repeat' first
      | (with_reducible exact ih0 _ _ _ _ _ _ _ _)
      | (with_reducible exact barrowref06_Around.mono _ _ _ _ _ _ _)
      | (with_reducible exact barrowref07_Sees.mono _ _ _ _ _ _ _ _)
      | (with_reducible exact LeO.refl _)
      | (with_reducible exact LeO.none _)
      | (with_reducible refine LeO.ite ?_ ?_)
      | (with_reducible refine LeO.bind ?_ (fun _ => ?_))
      | exact ih0 _ _ _ _ _ _ _ _
      | exact barrowref06_Around.mono _ _ _ _ _ _ _
      | exact barrowref07_Sees.mono _ _ _ _ _ _ _ _
      | exact LeO.none _
      | refine LeO.ite ?_ ?_
      | refine LeO.bind ?_ (fun _ => ?_)
def barrowref07_Seen.T6 : Bool × List (List Nat × List Nat) := (true, [([], []), ([], []), ([], []), ([], []), ([2, 3], [2, 3]), ([4], [4]), ([0, 1, 5], [0, 1, 5]), ([6, 6, 0, 1, 2, 3, 4, 5, 6], [6])])
def barrowref07_Seen.B6 : List Nat := [0, 0, 0, 0, 12, 28, 63, 127]
theorem barrowref07_Seen.tab6 : rtab .any (opsOf Try.f21 6) = barrowref07_Seen.T6 := by kernel_rfl
theorem barrowref07_Seen.bits6 : waitsOk barrowref07_Seen.T6.2 barrowref07_Seen.B6 = true := by kernel_rfl
def barrowref07_Seen.Post (r : List (S26)) (S : Nat → Prop) (L : List Asr) (w : World) (e : Ending) (w' : World) : Prop := ∃ (Ar1 : Option Addr) (cr1 : Nat), e = .returned (.slice Ar1 r.length cr1) ∧ SL (row k26 26 (.slice Ar1 r.length cr1) r :: L) w' S ∧ Keep S w w'
set_option maxHeartbeats 8000000 in
set_option maxRecDepth 100000 in
theorem barrowref07_Seen.slcalls (k : Nat) (a0_0 : Int) (a0_1 : Int) (A0_2 : Option Addr) (c0_2 : Nat) (l0_2 : List Bool) (a1_0 : Int) (a1_1 : Int) (a2 : Int) (r : List (S26)) (S : Nat → Prop) (L : List Asr) (w : World) (hf : Fresh S w) (hs : SL (L) w S) (hr0_2 : RO S w (fun w_ => Kd.C Kd.bool w_ A0_2 l0_2.length l0_2)) (hc0_2 : l0_2.length ≤ c0_2) (h : barrowref07_Seen.f k a0_0 a0_1 l0_2 a1_0 a1_1 a2 = some r) :
    Calls Try.prog 21 #[.agg #[.int .i64 a0_0, .int .i64 a0_1, .slice A0_2 l0_2.length c0_2], .agg #[.int .i64 a1_0, .int .i64 a1_1], .int .i64 a2] w (barrowref07_Seen.Post r S L w) := by
  have HR0_2 := Aside0.mk hr0_2
  have HC0_2 := Aside0.mk hc0_2
  clear hr0_2 hc0_2
  have HF := Aside0.mk hf
  have HS := Aside0.mk hs
  have HK := Aside0.mk (Keep.refl S w)
  clear hf hs
  have hu24 := Try.underlying24
  have hu26 := Try.underlying26
  have H : ((barrowref06_Around.f k a0_0 a0_1 l0_2 a1_0 a1_1 a2).bind fun t748 => (barrowref07_Seen.l0 k a0_0 a0_1 l0_2 a1_0 a1_1 t748 ([] : List (S26)) 0)) = some r := h
  clear h
  replace H := Option.bind_eq_some_iff.1 H
  obtain ⟨t748, Hc10, H⟩ := H
  try dsimp only at H
  have Hc1 := Aside0.mk Hc10
  clear Hc10
  have H' := Aside0.mk H
  clear H
  go_enter Try.func21, Try.ntmps21
  go_wp2_with (first | ((with_reducible refine gate_dst (N := 3) rfl ?_); refine wpList_plain rfl (fun K_ hK_ => ?_); refine op_box (S := S) (cs := #[.int .i64 a0_0, .int .i64 a0_1, .slice A0_2 l0_2.length c0_2]) (t := 24) (HF.out.keep HK.out) HS.out (by first | (go_simp; done) | (go_simp; rfl)) ?_; intro g3000118 w2 hs_ hk_; refine hK_ _ _ ?_; clear hK_ K_; replace HS := Aside0.mk (hs_); replace HK := Aside0.mk (HK.out.trans hk_)) | ((with_reducible refine gate_dst (N := 4) rfl ?_); refine wpList_plain rfl (fun K_ hK_ => ?_); refine op_box (S := S) (cs := #[.int .i64 a1_0, .int .i64 a1_1]) (t := 26) (HF.out.keep HK.out) HS.out (by first | (go_simp; done) | (go_simp; rfl)) ?_; intro g3000119 w3 hs_ hk_; refine hK_ _ _ ?_; clear hK_ K_; replace HS := Aside0.mk (hs_); replace HK := Aside0.mk (HK.out.trans hk_); have hb_ := SL.at_ HS.out; have hz3000119_0_2 := ((blk_cell hb_ 0).trans rfl : _ = some (.int .i64 a1_0)); have hz3000119_1_2 := ((blk_cell hb_ 1).trans rfl : _ = some (.int .i64 a1_1)); clear hb_; have hb_ := SL.at_ (SL.get1 HS.out); have hz3000118_0_2 := ((blk_cell hb_ 0).trans rfl : _ = some (.int .i64 a0_0)); have hz3000118_1_2 := ((blk_cell hb_ 1).trans rfl : _ = some (.int .i64 a0_1)); have hz3000118_2_2 := ((blk_cell hb_ 2).trans rfl : _ = some (.slice A0_2 l0_2.length c0_2)); clear hb_) | ((with_reducible refine gate_dst (N := 14) rfl ?_); refine goesL_ (some 14) rfl rfl Try.func39 (by kernel_rfl) rfl #[.agg #[.int .i64 a0_0, .int .i64 a0_1, .slice A0_2 l0_2.length c0_2], .agg #[.int .i64 a1_0, .int .i64 a1_1], .int .i64 a2] rfl (by (try simp only [List.map_toArray, List.map_cons, List.map_nil]); first | done | rfl | (simp; done)) ?_; have hs0_ := HS.out; (with_reducible refine (barrowref06_Around.slcalls k _ _ _ _ _ _ _ _ _ _ _ _ (HF.out.keep HK.out) hs0_ (HR0_2.out.keep HK.out) HC0_2.out Hc1.out).mono ?_); rintro e_ w4 ⟨Az3000120, cz3000120, rfl, hsr_, hkr_⟩; refine ⟨_, rfl, ?_⟩; replace HS := Aside0.mk (hsr_); replace HK := Aside0.mk (HK.out.trans hkr_); (try clear hz3000118_0_2 hz3000118_1_2 hz3000118_2_2); (try clear hz3000119_0_2 hz3000119_1_2); have n2_ := Aside0.mk (SL.nil_row k26 26 HS.out); clear HS; have HS := n2_; clear n2_))
  go_loopg [8, 9] k (fun kq v8 v9 w' => ∃ (x8_0 : List (S26)) (Ax8_0 : Option Addr) (cx8_0 : Nat) (x9_0 : Int), v8 = .slice Ax8_0 x8_0.length cx8_0 ∧ v9 = .int .i64 x9_0 ∧ Aside0 (barrowref07_Seen.l0 kq a0_0 a0_1 l0_2 a1_0 a1_1 t748 x8_0 x9_0 = some r) ∧ Aside0 (kq ≤ k) ∧ Aside0 (SL (row k26 26 (.slice Ax8_0 x8_0.length cx8_0) x8_0 :: row k26 26 (.slice Az3000120 t748.length cz3000120) t748 :: cells g3000119 26 [.int .i64 a1_0, .int .i64 a1_1].toArray :: cells g3000118 24 [.int .i64 a0_0, .int .i64 a0_1, .slice A0_2 l0_2.length c0_2].toArray :: L) w' S) ∧ Aside0 (Keep S w w'))
  case atStart => exact ⟨(([] : List (S26))), (none), (0), (0), (by first | rfl | (simp; done) | (simp [*]; done)), (by first | rfl | (simp; done) | (simp [*]; done)), H', ⟨Nat.le_refl _⟩, HS, HK⟩
  case round =>
    clear H' HS HK
    try clear hz3000118_0_0 hz3000118_1_0 hz3000118_2_0
    try clear hz3000119_0_0 hz3000119_1_0
    obtain ⟨x8_0, Ax8_0, cx8_0, x9_0, rfl, rfl, HA, HQ1, HS, HK⟩ := hrel
    cases gk with
    | zero => exact absurd HA.out (by simp [barrowref07_Seen.l0])
    | succ k1 =>
      have H := HA.out
      clear HA
      simp only [barrowref07_Seen.l0] at H
      by_cases c5 : x9_0 < (t748.length : Int)
      · rw [if_pos c5] at H
        have c5b0 : decide (x9_0 < (t748.length : Int)) = true := decide_eq_true c5
        clear c5
        by_cases c6 : 0 ≤ x9_0
        · rw [if_pos c6] at H
          have c6b0 : decide (0 ≤ x9_0) = true := decide_eq_true c6
          clear c6
          replace H := Option.bind_eq_some_iff.1 H
          obtain ⟨t750, Hc70, H⟩ := H
          try dsimp only at H
          have Hc7 := Aside0.mk Hc70
          clear Hc70
          by_cases c8 : t750 = true
          · subst c8
            rw [if_pos rfl] at H
            replace H := Option.bind_eq_some_iff.1 H
            obtain ⟨y752, hy7520, H⟩ := H
            try dsimp only at H
            have hy752 := Option.some.inj hy7520
            clear hy7520
            have Ny752 := Aside0.mk hy752
            clear hy752
            by_cases c9 : x8_0.length + y752.length < 8796093022208
            · rw [if_pos c9] at H
              have LMc9 := Aside0.mk c9
              clear c9
              replace H := Option.bind_eq_some_iff.1 H
              obtain ⟨y753, hy7530, H⟩ := H
              try dsimp only at H
              have hy753 := Option.some.inj hy7530
              clear hy7530
              have Ny753 := Aside0.mk hy753
              clear hy753
              have H' := Aside0.mk H
              clear H
              try go_wp2
              have pq749 : 0 ≤ (x9_0 : Int) := of_decide_eq_true (by first | (with_reducible assumption) | assumption)
              have qq749 : x9_0 < ((t748.length : Int) : Int) := of_decide_eq_true (by first | (with_reducible assumption) | assumption)
              obtain ⟨adq749, eq749, hxq749_0, hxq749_1⟩ := at_T26 (SL.row_c (SL.get1 HS.out)).2.2 x9_0 pq749 qq749
              cases eq749
              replace pq749 := eq_true pq749
              replace qq749 := eq_true qq749
              refine start_ (n := 8) (S := fun w' => w'.cell? ⟨g3000118, 0, none⟩ = some (.int .i64 a0_0) ∧ w'.cell? ⟨g3000118, 1, none⟩ = some (.int .i64 a0_1) ∧ w'.cell? ⟨g3000118, 2, none⟩ = some (.slice A0_2 l0_2.length c0_2) ∧ w'.cell? ⟨g3000119, 0, none⟩ = some (.int .i64 a1_0) ∧ w'.cell? ⟨g3000119, 1, none⟩ = some (.int .i64 a1_1) ∧ w'.cell? (adq749.add (x9_0.toNat * 2)) = some (.int .i64 ((rd_T26 t748 x9_0).f0)) ∧ w'.cell? ⟨(adq749.add (x9_0.toNat * 2)).block, (adq749.add (x9_0.toNat * 2)).off + 1, none⟩ = some (.int .i64 ((rd_T26 t748 x9_0).f1))) (ds := []) #[false, false, false, false, false, false, false, false] (by kernel_rfl) rfl rfl ⟨(((blk_cell (SL.at_ (SL.get3 HS.out)) 0).trans rfl)), (((blk_cell (SL.at_ (SL.get3 HS.out)) 1).trans rfl)), (((blk_cell (SL.at_ (SL.get3 HS.out)) 2).trans rfl)), (((blk_cell (SL.at_ (SL.get2 HS.out)) 0).trans rfl)), (((blk_cell (SL.at_ (SL.get2 HS.out)) 1).trans rfl)), (by obtain ⟨a_, e_, h0_, h1_⟩ := at_T26 (SL.row_c (SL.get1 HS.out)).2.2 x9_0 (of_eq_true pq749) (of_eq_true qq749); obtain rfl := Option.some.inj e_; exact h0_), (by obtain ⟨a_, e_, h0_, h1_⟩ := at_T26 (SL.row_c (SL.get1 HS.out)).2.2 x9_0 (of_eq_true pq749) (of_eq_true qq749); obtain rfl := Option.some.inj e_; exact h1_)⟩ (fun hHeld => ?_); refine with_tabW barrowref07_Seen.tab6 barrowref07_Seen.bits6 (fun HT_ HW_ => ?_)
              replace HK := Aside0.mk (Keep.drew HK.out)
              replace HS := Aside0.mk (SL.drew HS.out)
              refine pure_ (i := 2) (N := some 23) (v := ?_) (a' := ?_) #[false, false, true, false, false, false, false, false] rfl rfl (any_of HT_.out (by kernel_rfl)) (fun _ _ _ h => h) (Or.inl ⟨by rfl, ?_⟩) ?_ ?_; rotate_left; · (intro w'; go_simp; with_reducible rfl)
              rotate_left; · (simp only [Act.put, sT, sZ, sS, i64_w, i32_w]; rfl)
              refine pure_ (i := 3) (N := some 24) (v := ?_) (a' := ?_) #[false, false, true, true, false, false, false, false] rfl rfl (any_of HT_.out (by kernel_rfl)) (fun _ _ _ h => h) (Or.inl ⟨by rfl, ?_⟩) ?_ ?_; rotate_left; · (intro w'; go_simp; with_reducible rfl)
              rotate_left; · (simp only [Act.put, sT, sZ, sS, i64_w, i32_w]; rfl)
              refine pure_ (i := 4) (N := some 25) (v := ?_) (a' := ?_) #[false, false, true, true, true, false, false, false] rfl rfl (any_of HT_.out (by kernel_rfl)) (fun _ _ _ h => h) (Or.inl ⟨by rfl, ?_⟩) ?_ ?_; rotate_left; · (intro w'; go_simp; with_reducible rfl)
              rotate_left; · (simp only [Act.put, sT, sZ, sS, i64_w, i32_w]; rfl)
              refine take_ (i := 0) (N := some 21) (v := ?_) (a' := ?_) #[true, false, true, true, true, false, false, false] rfl rfl (take_ofW HT_.out HW_.out (by kernel_rfl)) (fun _ _ _ h => h) (Or.inl ⟨by rfl, ?_⟩) hHeld ?_ ?_; rotate_left
              · rintro w' ⟨s0, s1, s2, s3, s4, s5, s6⟩
                go_simp
                with_reducible rfl
              rotate_left; · (simp only [Act.put, sT, sZ, sS, i64_w, i32_w]; rfl)
              refine take_ (i := 1) (N := some 22) (v := ?_) (a' := ?_) #[true, true, true, true, true, false, false, false] rfl rfl (take_ofW HT_.out HW_.out (by kernel_rfl)) (fun _ _ _ h => h) (Or.inl ⟨by rfl, ?_⟩) hHeld ?_ ?_; rotate_left
              · rintro w' ⟨s0, s1, s2, s3, s4, s5, s6⟩
                go_simp
                with_reducible rfl
              rotate_left; · (simp only [Act.put, sT, sZ, sS, i64_w, i32_w]; rfl)
              refine take_ (i := 5) (N := some 26) (v := ?_) (a' := ?_) #[true, true, true, true, true, true, false, false] rfl rfl (take_ofW HT_.out HW_.out (by kernel_rfl)) (fun _ _ _ h => h) (Or.inl ⟨by rfl, ?_⟩) hHeld ?_ ?_; rotate_left
              · rintro w' ⟨s0, s1, s2, s3, s4, s5, s6⟩
                go_simp
                with_reducible rfl
              rotate_left; · (simp only [Act.put, sT, sZ, sS, i64_w, i32_w]; rfl)
              refine one_ (i := 6) (N := some 27) #[true, true, true, true, true, true, true, false] rfl rfl (one_of HT_.out (by kernel_rfl)) (by decide) (fun K hK => ?_)
              refine goes_ Try.func15 (by kernel_rfl) rfl #[.agg #[.int .i64 a0_0, .int .i64 a0_1, .slice A0_2 l0_2.length c0_2], .agg #[.int .i64 a1_0, .int .i64 a1_1], .agg #[.int .i64 ((rd_T26 t748 x9_0).f0), .int .i64 ((rd_T26 t748 x9_0).f1)]] (by rfl) rfl rfl (by (try simp only [List.map_toArray, List.map_cons, List.map_nil]); first | done | rfl | (simp; done)) ?_
              (with_reducible refine (barrowref07_Sees.calls k1 _ _ _ _ _ _ _ _ _ _ _ (RO.at_ HR0_2.out HK.out) HC0_2.out Hc7.out).mono ?_)
              rintro e_ w10 ⟨rfl, hb_⟩
              refine ⟨_, rfl, ?_⟩
              replace HS := Aside0.mk (HS.out.below hb_)
              replace HK := Aside0.mk (HK.out.trans (Keep.below hb_))
              refine hK.out _ _ ⟨(((blk_cell (SL.at_ (SL.get3 HS.out)) 0).trans rfl)), (((blk_cell (SL.at_ (SL.get3 HS.out)) 1).trans rfl)), (((blk_cell (SL.at_ (SL.get3 HS.out)) 2).trans rfl)), (((blk_cell (SL.at_ (SL.get2 HS.out)) 0).trans rfl)), (((blk_cell (SL.at_ (SL.get2 HS.out)) 1).trans rfl)), (by obtain ⟨a_, e_, h0_, h1_⟩ := at_T26 (SL.row_c (SL.get1 HS.out)).2.2 x9_0 (of_eq_true pq749) (of_eq_true qq749); obtain rfl := Option.some.inj e_; exact h0_), (by obtain ⟨a_, e_, h0_, h1_⟩ := at_T26 (SL.row_c (SL.get1 HS.out)).2.2 x9_0 (of_eq_true pq749) (of_eq_true qq749); obtain rfl := Option.some.inj e_; exact h1_)⟩ (fun hHeld => ?_)
              clear hK K
              refine norm_ (a' := ?_) ?_ ?_; rotate_left
              · show Act.put _ (some 27) _ = _
                simp only [Act.put, sT, sZ, sS, i64_w, i32_w]
                rfl
              refine pure_ (i := 7) (N := some 10) (v := ?_) (a' := ?_) #[true, true, true, true, true, true, true, true] rfl rfl (any_of HT_.out (by kernel_rfl)) (fun _ _ _ h => h) (Or.inl ⟨by rfl, ?_⟩) ?_ ?_; rotate_left; · (intro w'; go_simp; with_reducible rfl)
              rotate_left; · (simp only [Act.put, sT, sZ, sS, i64_w, i32_w]; rfl)
              refine done_ (done_of HT_.out (by kernel_rfl)) ?_
              have pq751 : 0 ≤ (x9_0 : Int) := of_decide_eq_true (by first | (with_reducible assumption) | assumption)
              have qq751 : x9_0 < ((t748.length : Int) : Int) := of_decide_eq_true (by first | (with_reducible assumption) | assumption)
              obtain ⟨adq751, eq751, hxq751_0, hxq751_1⟩ := at_T26 (SL.row_c (SL.get1 HS.out)).2.2 x9_0 pq751 qq751
              obtain rfl : adq749 = adq751 := (by injection eq751)
              replace pq751 := eq_true pq751
              replace qq751 := eq_true qq751
              try go_wp2_with (first | ((with_reducible refine gate_dst (N := 34) rfl ?_); refine wpList_plain rfl (fun K_ hK_ => ?_); refine op_rowF (S := S) (d := k26) ⟨fun h_ => h_⟩ 26 y752 #[.int .i64 ((rd_T26 t748 x9_0).f0), .int .i64 ((rd_T26 t748 x9_0).f1)] 1 (by rw [← Ny752.out]; exact reps_cons (k26_mkM _ 0 _ (⟨(rd_T26 t748 x9_0).f0, (rd_T26 t748 x9_0).f1⟩ : S26)) rfl (Reps.none _ _)) (by rw [← Ny752.out]; rfl) (by decide) (HF.out.keep HK.out) HS.out (by first | (go_simp; done) | (go_simp; rfl)) ?_; intro Az3000121 cz3000121 w11 hs_ hk_; refine hK_ _ _ ?_; clear hK_ K_; replace HS := Aside0.mk ((show SL (row k26 26 (.slice Az3000121 1 cz3000121) y752 :: _) _ _ from hs_)); replace HK := Aside0.mk (HK.out.trans hk_)) | ((with_reducible refine gate_dst (N := 35) rfl ?_); refine wpList_plain rfl (fun K_ hK_ => ?_); refine op_appendF (S := S) (d := k26) ⟨fun h_ => h_⟩ (.tmp 29) (.tmp 34) 32 26 (.agg #[(.int .i64 0), (.int .i64 0)]) 16 rfl Try.underlying32 info26 rfl (by decide) (by decide) (.slice Ax8_0 x8_0.length cx8_0) rfl rfl (HF.out.keep HK.out) (SL.get1 HS.out) (SL.row_c HS.out).2.2 (by have := LMc9.out; have e_ := (SL.row_c HS.out).1; omega) y753 Ny753.out ?_; intro A754 c755 w12 hs_ hk_; refine hK_ _ _ ?_; clear hK_ K_; replace HS := Aside0.mk ((SL.back1 (show SL (row k26 26 (.slice A754 y753.length c755) y753 :: _) _ _ from hs_))); replace HK := Aside0.mk (HK.out.trans hk_)))
              replace HS := Aside0.mk (SL.tail HS.out)
              go_roundg k1
              case measure => have := HQ1.out; omega
              case rel => exact ⟨(y753), (A754), (c755), (wrap64 (x9_0 + 1)), (by first | rfl | (simp; done) | (simp [*]; done)), (by first | rfl | (simp; done) | (simp [*]; done)), H', ⟨by have := HQ1.out; omega⟩, HS, HK⟩
            · rw [if_neg c9] at H
              exact absurd H (by simp)
          · replace c8 := Bool.eq_false_iff.mpr c8
            subst c8
            rw [if_neg (show ¬ (false = true) by decide)] at H
            have H' := Aside0.mk H
            clear H
            try go_wp2
            have pq749 : 0 ≤ (x9_0 : Int) := of_decide_eq_true (by first | (with_reducible assumption) | assumption)
            have qq749 : x9_0 < ((t748.length : Int) : Int) := of_decide_eq_true (by first | (with_reducible assumption) | assumption)
            obtain ⟨adq749, eq749, hxq749_0, hxq749_1⟩ := at_T26 (SL.row_c (SL.get1 HS.out)).2.2 x9_0 pq749 qq749
            cases eq749
            replace pq749 := eq_true pq749
            replace qq749 := eq_true qq749
            refine start_ (n := 8) (S := fun w' => w'.cell? ⟨g3000118, 0, none⟩ = some (.int .i64 a0_0) ∧ w'.cell? ⟨g3000118, 1, none⟩ = some (.int .i64 a0_1) ∧ w'.cell? ⟨g3000118, 2, none⟩ = some (.slice A0_2 l0_2.length c0_2) ∧ w'.cell? ⟨g3000119, 0, none⟩ = some (.int .i64 a1_0) ∧ w'.cell? ⟨g3000119, 1, none⟩ = some (.int .i64 a1_1) ∧ w'.cell? (adq749.add (x9_0.toNat * 2)) = some (.int .i64 ((rd_T26 t748 x9_0).f0)) ∧ w'.cell? ⟨(adq749.add (x9_0.toNat * 2)).block, (adq749.add (x9_0.toNat * 2)).off + 1, none⟩ = some (.int .i64 ((rd_T26 t748 x9_0).f1))) (ds := []) #[false, false, false, false, false, false, false, false] (by kernel_rfl) rfl rfl ⟨(((blk_cell (SL.at_ (SL.get3 HS.out)) 0).trans rfl)), (((blk_cell (SL.at_ (SL.get3 HS.out)) 1).trans rfl)), (((blk_cell (SL.at_ (SL.get3 HS.out)) 2).trans rfl)), (((blk_cell (SL.at_ (SL.get2 HS.out)) 0).trans rfl)), (((blk_cell (SL.at_ (SL.get2 HS.out)) 1).trans rfl)), (by obtain ⟨a_, e_, h0_, h1_⟩ := at_T26 (SL.row_c (SL.get1 HS.out)).2.2 x9_0 (of_eq_true pq749) (of_eq_true qq749); obtain rfl := Option.some.inj e_; exact h0_), (by obtain ⟨a_, e_, h0_, h1_⟩ := at_T26 (SL.row_c (SL.get1 HS.out)).2.2 x9_0 (of_eq_true pq749) (of_eq_true qq749); obtain rfl := Option.some.inj e_; exact h1_)⟩ (fun hHeld => ?_); refine with_tabW barrowref07_Seen.tab6 barrowref07_Seen.bits6 (fun HT_ HW_ => ?_)
            replace HK := Aside0.mk (Keep.drew HK.out)
            replace HS := Aside0.mk (SL.drew HS.out)
            refine pure_ (i := 2) (N := some 23) (v := ?_) (a' := ?_) #[false, false, true, false, false, false, false, false] rfl rfl (any_of HT_.out (by kernel_rfl)) (fun _ _ _ h => h) (Or.inl ⟨by rfl, ?_⟩) ?_ ?_; rotate_left; · (intro w'; go_simp; with_reducible rfl)
            rotate_left; · (simp only [Act.put, sT, sZ, sS, i64_w, i32_w]; rfl)
            refine pure_ (i := 3) (N := some 24) (v := ?_) (a' := ?_) #[false, false, true, true, false, false, false, false] rfl rfl (any_of HT_.out (by kernel_rfl)) (fun _ _ _ h => h) (Or.inl ⟨by rfl, ?_⟩) ?_ ?_; rotate_left; · (intro w'; go_simp; with_reducible rfl)
            rotate_left; · (simp only [Act.put, sT, sZ, sS, i64_w, i32_w]; rfl)
            refine pure_ (i := 4) (N := some 25) (v := ?_) (a' := ?_) #[false, false, true, true, true, false, false, false] rfl rfl (any_of HT_.out (by kernel_rfl)) (fun _ _ _ h => h) (Or.inl ⟨by rfl, ?_⟩) ?_ ?_; rotate_left; · (intro w'; go_simp; with_reducible rfl)
            rotate_left; · (simp only [Act.put, sT, sZ, sS, i64_w, i32_w]; rfl)
            refine take_ (i := 0) (N := some 21) (v := ?_) (a' := ?_) #[true, false, true, true, true, false, false, false] rfl rfl (take_ofW HT_.out HW_.out (by kernel_rfl)) (fun _ _ _ h => h) (Or.inl ⟨by rfl, ?_⟩) hHeld ?_ ?_; rotate_left
            · rintro w' ⟨s0, s1, s2, s3, s4, s5, s6⟩
              go_simp
              with_reducible rfl
            rotate_left; · (simp only [Act.put, sT, sZ, sS, i64_w, i32_w]; rfl)
            refine take_ (i := 1) (N := some 22) (v := ?_) (a' := ?_) #[true, true, true, true, true, false, false, false] rfl rfl (take_ofW HT_.out HW_.out (by kernel_rfl)) (fun _ _ _ h => h) (Or.inl ⟨by rfl, ?_⟩) hHeld ?_ ?_; rotate_left
            · rintro w' ⟨s0, s1, s2, s3, s4, s5, s6⟩
              go_simp
              with_reducible rfl
            rotate_left; · (simp only [Act.put, sT, sZ, sS, i64_w, i32_w]; rfl)
            refine take_ (i := 5) (N := some 26) (v := ?_) (a' := ?_) #[true, true, true, true, true, true, false, false] rfl rfl (take_ofW HT_.out HW_.out (by kernel_rfl)) (fun _ _ _ h => h) (Or.inl ⟨by rfl, ?_⟩) hHeld ?_ ?_; rotate_left
            · rintro w' ⟨s0, s1, s2, s3, s4, s5, s6⟩
              go_simp
              with_reducible rfl
            rotate_left; · (simp only [Act.put, sT, sZ, sS, i64_w, i32_w]; rfl)
            refine one_ (i := 6) (N := some 27) #[true, true, true, true, true, true, true, false] rfl rfl (one_of HT_.out (by kernel_rfl)) (by decide) (fun K hK => ?_)
            refine goes_ Try.func15 (by kernel_rfl) rfl #[.agg #[.int .i64 a0_0, .int .i64 a0_1, .slice A0_2 l0_2.length c0_2], .agg #[.int .i64 a1_0, .int .i64 a1_1], .agg #[.int .i64 ((rd_T26 t748 x9_0).f0), .int .i64 ((rd_T26 t748 x9_0).f1)]] (by rfl) rfl rfl (by (try simp only [List.map_toArray, List.map_cons, List.map_nil]); first | done | rfl | (simp; done)) ?_
            (with_reducible refine (barrowref07_Sees.calls k1 _ _ _ _ _ _ _ _ _ _ _ (RO.at_ HR0_2.out HK.out) HC0_2.out Hc7.out).mono ?_)
            rintro e_ w13 ⟨rfl, hb_⟩
            refine ⟨_, rfl, ?_⟩
            replace HS := Aside0.mk (HS.out.below hb_)
            replace HK := Aside0.mk (HK.out.trans (Keep.below hb_))
            refine hK.out _ _ ⟨(((blk_cell (SL.at_ (SL.get3 HS.out)) 0).trans rfl)), (((blk_cell (SL.at_ (SL.get3 HS.out)) 1).trans rfl)), (((blk_cell (SL.at_ (SL.get3 HS.out)) 2).trans rfl)), (((blk_cell (SL.at_ (SL.get2 HS.out)) 0).trans rfl)), (((blk_cell (SL.at_ (SL.get2 HS.out)) 1).trans rfl)), (by obtain ⟨a_, e_, h0_, h1_⟩ := at_T26 (SL.row_c (SL.get1 HS.out)).2.2 x9_0 (of_eq_true pq749) (of_eq_true qq749); obtain rfl := Option.some.inj e_; exact h0_), (by obtain ⟨a_, e_, h0_, h1_⟩ := at_T26 (SL.row_c (SL.get1 HS.out)).2.2 x9_0 (of_eq_true pq749) (of_eq_true qq749); obtain rfl := Option.some.inj e_; exact h1_)⟩ (fun hHeld => ?_)
            clear hK K
            refine norm_ (a' := ?_) ?_ ?_; rotate_left
            · show Act.put _ (some 27) _ = _
              simp only [Act.put, sT, sZ, sS, i64_w, i32_w]
              rfl
            refine pure_ (i := 7) (N := some 10) (v := ?_) (a' := ?_) #[true, true, true, true, true, true, true, true] rfl rfl (any_of HT_.out (by kernel_rfl)) (fun _ _ _ h => h) (Or.inl ⟨by rfl, ?_⟩) ?_ ?_; rotate_left; · (intro w'; go_simp; with_reducible rfl)
            rotate_left; · (simp only [Act.put, sT, sZ, sS, i64_w, i32_w]; rfl)
            refine done_ (done_of HT_.out (by kernel_rfl)) ?_
            try go_wp2
            go_roundg k1
            case measure => have := HQ1.out; omega
            case rel => exact ⟨(x8_0), (Ax8_0), (cx8_0), (wrap64 (x9_0 + 1)), (by first | rfl | (simp; done) | (simp [*]; done)), (by first | rfl | (simp; done) | (simp [*]; done)), H', ⟨by have := HQ1.out; omega⟩, HS, HK⟩
        · rw [if_neg c6] at H
          exact absurd H (by simp)
      · rw [if_neg c5] at H
        have c5b0 : decide (x9_0 < (t748.length : Int)) = false := decide_eq_false c5
        clear c5
        obtain rfl := Option.some.inj H
        go_wp2
        go_ret
        replace HS := Aside0.mk (SL.tail (SL.get1 (SL.tail (SL.get1 (SL.tail (SL.get1 HS.out))))))
        unfold barrowref07_Seen.Post
        exact ⟨Ax8_0, cx8_0, by first | rfl | (simp; done) | (simp [*]; done), HS.out, HK.out⟩

end Go.Proofs.Ytljmecjciifceaa.XSG
