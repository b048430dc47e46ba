-- Written by xprint.py (a program of this session) for this claim
import Derived.Test.YtoalpmfkaijomaaSL5
import Derived.Test.YtoalpmfkaijomaaXGRx0
import Derived.Test.YtoalpmfkaijomaaXGRx1
import Derived.Test.YtoalpmfkaijomaaXGRx3
import Derived.Test.YtoalpmfkaijomaaXGRx4
import Derived.Test.YtoalpmfkaijomaaXGRx7
namespace Go.Proofs.Ytoalpmfkaijomaa.XGR
open Go.Proofs.YtoalpmfkaijomaaV Go.Proofs.YtoalpmfkaijomaaS
open Go.RowKit Go.Proofs.YtoalpmfkaijomaaW.PrintWords Go.Proofs.YtoalpmfkaijomaaW.PrintLast Go.Proofs.YtoalpmfkaijomaaW.PrintMore
attribute [local go_sem] max2_int min2_int max_two min_two max_three min_three max_four min_four   -- for this text's walks alone
set_option linter.unusedVariables false
set_option linter.unusedSimpArgs false

attribute [local go_sem high] eqA23
/-! ### barrowref06_Toward: function 16 -/
def barrowref06_Toward.l0 : Nat → Int → Int → (List Bool) → Int → Int → Int → Bool → Bool → Int → Int → Int → Option (Int × Int)
  | 0, _, _, _, _, _, _, _, _, _, _, _ => none
  | k + 1, a0_0, a0_1, l0_2, a2_0, a2_1, a3, t291, t292, x11_0, x3000040_0_0, x3000040_1_0 => if x11_0 < a3 then (if t291 = true then (if t292 = true then (if (!(x3000040_0_0 == a2_0) || (!(x3000040_1_0 == a2_1))) = true then ((barrowref06_nearer.f x3000040_0_0 a2_0).bind fun t296 => ((barrowref06_nearer.f x3000040_1_0 a2_1).bind fun t297 => ((barrowref06_Wall.f a0_0 a0_1 l0_2 t296 t297).bind fun t298 => (if t298 = true then (some (x3000040_0_0, x3000040_1_0)) else (barrowref06_Toward.l0 k a0_0 a0_1 l0_2 a2_0 a2_1 a3 t291 t292 (wrap64 (x11_0 + 1)) t296 t297))))) else (some (x3000040_0_0, x3000040_1_0))) else (some (x3000040_0_0, x3000040_1_0))) else (some (x3000040_0_0, x3000040_1_0))) else (some (x3000040_0_0, x3000040_1_0))
def barrowref06_Toward.f (k : Nat) (a0_0 : Int) (a0_1 : Int) (l0_2 : List Bool) (a1_0 : Int) (a1_1 : Int) (a2_0 : Int) (a2_1 : Int) (a3 : Int) : Option (Int × Int) := (barrowref06_In.f a0_0 a0_1 l0_2 a1_0 a1_1).bind fun t291 => ((barrowref06_In.f a0_0 a0_1 l0_2 a2_0 a2_1).bind fun t292 => (barrowref06_Toward.l0 k a0_0 a0_1 l0_2 a2_0 a2_1 a3 t291 t292 0 a1_0 a1_1))
theorem barrowref06_Toward.mono_l : ∀ k, (∀ y0 y1 y2 y3 y4 y5 y6 y7 y8 y9 y10, LeO (barrowref06_Toward.l0 k y0 y1 y2 y3 y4 y5 y6 y7 y8 y9 y10) (barrowref06_Toward.l0 (k + 1) y0 y1 y2 y3 y4 y5 y6 y7 y8 y9 y10))
  | 0 => fun _ _ _ _ _ _ _ _ _ _ _ r h => by simp [barrowref06_Toward.l0] at h
  | k + 1 => by
    have ih0 := barrowref06_Toward.mono_l k
    · intro y0 y1 y2 y3 y4 y5 y6 y7 y8 y9 y10
      unfold barrowref06_Toward.l0
      repeat' first
      | (with_reducible exact ih0 _ _ _ _ _ _ _ _ _ _ _)
      | (with_reducible exact LeO.refl _)
      | (with_reducible exact LeO.none _)
      | (with_reducible refine LeO.ite ?_ ?_)
      | (with_reducible refine everyOf_le (fun _ => ?_))
      | (with_reducible refine LeO.bind ?_ (fun _ => ?_))
      | exact ih0 _ _ _ _ _ _ _ _ _ _ _
      | exact LeO.none _
      | refine LeO.ite ?_ ?_
      | refine LeO.bind ?_ (fun _ => ?_)
theorem barrowref06_Toward.mono : ∀ a0 a1 a2 a3 a4 a5 a6 a7 k, LeO (barrowref06_Toward.f k a0 a1 a2 a3 a4 a5 a6 a7) (barrowref06_Toward.f (k + 1) a0 a1 a2 a3 a4 a5 a6 a7) := by
  intro a0 a1 a2 a3 a4 a5 a6 a7 k
  have ih0 := barrowref06_Toward.mono_l k
  unfold barrowref06_Toward.f
  repeat' first
      | (with_reducible exact ih0 _ _ _ _ _ _ _ _ _ _ _)
      | (with_reducible exact LeO.refl _)
      | (with_reducible exact LeO.none _)
      | (with_reducible refine LeO.ite ?_ ?_)
      | (with_reducible refine everyOf_le (fun _ => ?_))
      | (with_reducible refine LeO.bind ?_ (fun _ => ?_))
      | exact ih0 _ _ _ _ _ _ _ _ _ _ _
      | exact LeO.none _
      | refine LeO.ite ?_ ?_
      | refine LeO.bind ?_ (fun _ => ?_)
def barrowref06_Toward.T6 : Bool × List (List Nat × List Nat) := (true, [([], []), ([0], [0]), ([], []), ([2], [2]), ([1, 3], [1, 3]), ([], []), ([5], [5]), ([], []), ([7], [7]), ([6, 8, 4], [6, 8]), ([4, 9], [4, 9]), ([], []), ([11, 10, 9, 0, 1, 2, 3, 4, 5, 6, 7, 8, 9, 10, 11], [10, 11])])
def barrowref06_Toward.B6 : List Nat := [0, 1, 0, 4, 15, 0, 32, 0, 128, 511, 1023, 0, 4095]
theorem barrowref06_Toward.tab6 : rtab .any (opsOf Try.f16 6) = barrowref06_Toward.T6 := by kernel_rfl
theorem barrowref06_Toward.bits6 : waitsOk barrowref06_Toward.T6.2 barrowref06_Toward.B6 = true := by kernel_rfl
def barrowref06_Toward.Post (r1 : Int) (r2 : Int) (S : Nat → Prop) (L : List Asr) (w : World) (e : Ending) (w' : World) : Prop := e = .returned (.agg #[.int .i64 r1, .int .i64 r2]) ∧ SL (L) w' S ∧ Keep S w w'
set_option maxHeartbeats 8000000 in
set_option maxRecDepth 100000 in
theorem barrowref06_Toward.slcalls (k : Nat) (a0_0 : Int) (a0_1 : Int) (A0_2 : Option Addr) (c0_2 : Nat) (l0_2 : List Bool) (a1_0 : Int) (a1_1 : Int) (a2_0 : Int) (a2_1 : Int) (a3 : Int) (r1 : Int) (r2 : Int) (S : Nat → Prop) (L : List Asr) (w : World) (hf : Fresh S w) (hs : SL (L) w S) (hr0_2 : RO S w (fun w_ => Kd.C Kd.bool w_ A0_2 l0_2.length l0_2)) (hc0_2 : l0_2.length ≤ c0_2) (h : barrowref06_Toward.f k a0_0 a0_1 l0_2 a1_0 a1_1 a2_0 a2_1 a3 = some (r1, r2)) :
    Calls Try.prog 16 #[.agg #[.int .i64 a0_0, .int .i64 a0_1, .slice A0_2 l0_2.length c0_2], .agg #[.int .i64 a1_0, .int .i64 a1_1], .agg #[.int .i64 a2_0, .int .i64 a2_1], .int .i64 a3] w (barrowref06_Toward.Post r1 r2 S L w) := by
  have HR0_2 := Aside0.mk hr0_2
  have HC0_2 := Aside0.mk hc0_2
  clear hr0_2 hc0_2
  have HF := Aside0.mk hf
  have HS := Aside0.mk hs
  have HK := Aside0.mk (Keep.refl S w)
  clear hf hs
  have hu23 := Try.underlying23
  have hu29 := Try.underlying29
  have H : ((barrowref06_In.f a0_0 a0_1 l0_2 a1_0 a1_1).bind fun t291 => ((barrowref06_In.f a0_0 a0_1 l0_2 a2_0 a2_1).bind fun t292 => (barrowref06_Toward.l0 k a0_0 a0_1 l0_2 a2_0 a2_1 a3 t291 t292 0 a1_0 a1_1))) = some (r1, r2) := h
  clear h
  replace H := Option.bind_eq_some_iff.1 H
  obtain ⟨t291, Hc10, H⟩ := H
  try dsimp only at H
  have Hc1 := Aside0.mk Hc10
  clear Hc10
  replace H := Option.bind_eq_some_iff.1 H
  obtain ⟨t292, Hc20, H⟩ := H
  try dsimp only at H
  have Hc2 := Aside0.mk Hc20
  clear Hc20
  have H' := Aside0.mk H
  clear H
  go_enter Try.func16, Try.ntmps16
  go_wp2_with (first | ((with_reducible refine gate_dst (N := 4) rfl ?_); refine wpList_plain rfl (fun K_ hK_ => ?_); refine op_box (S := S) (cs := #[.int .i64 a0_0, .int .i64 a0_1, .slice A0_2 l0_2.length c0_2]) (t := 29) (HF.out.keep HK.out) HS.out (by first | (go_simp; done) | (go_simp; rfl)) ?_; intro g3000039 w3 hs_ hk_; refine hK_ _ _ ?_; clear hK_ K_; replace HS := Aside0.mk (hs_); replace HK := Aside0.mk (HK.out.trans hk_)) | ((with_reducible refine gate_dst (N := 5) rfl ?_); refine wpList_plain rfl (fun K_ hK_ => ?_); refine op_box (S := S) (cs := #[.int .i64 a1_0, .int .i64 a1_1]) (t := 23) (HF.out.keep HK.out) HS.out (by first | (go_simp; done) | (go_simp; rfl)) ?_; intro g3000040 w4 hs_ hk_; refine hK_ _ _ ?_; clear hK_ K_; replace HS := Aside0.mk (hs_); replace HK := Aside0.mk (HK.out.trans hk_)) | ((with_reducible refine gate_dst (N := 6) rfl ?_); refine wpList_plain rfl (fun K_ hK_ => ?_); refine op_box (S := S) (cs := #[.int .i64 a2_0, .int .i64 a2_1]) (t := 23) (HF.out.keep HK.out) HS.out (by first | (go_simp; done) | (go_simp; rfl)) ?_; intro g3000041 w5 hs_ hk_; refine hK_ _ _ ?_; clear hK_ K_; replace HS := Aside0.mk (hs_); replace HK := Aside0.mk (HK.out.trans hk_)) | ((with_reducible refine gate_dst (N := 8) rfl ?_); refine wpList_plain rfl (fun K_ hK_ => ?_); refine op_box (S := S) (cs := #[.int .i64 0, .int .i64 0]) (t := 23) (HF.out.keep HK.out) HS.out (by first | (go_simp; done) | (go_simp; rfl)) ?_; intro g3000042 w6 hs_ hk_; refine hK_ _ _ ?_; clear hK_ K_; replace HS := Aside0.mk (hs_); replace HK := Aside0.mk (HK.out.trans hk_); have hb_ := SL.at_ (SL.get2 HS.out); have hz3000040_0_4 := ((blk_cell hb_ 0).trans rfl : _ = some (.int .i64 a1_0)); have hz3000040_1_4 := ((blk_cell hb_ 1).trans rfl : _ = some (.int .i64 a1_1)); clear hb_; have hb_ := SL.at_ (SL.get3 HS.out); have hz3000039_0_4 := ((blk_cell hb_ 0).trans rfl : _ = some (.int .i64 a0_0)); have hz3000039_1_4 := ((blk_cell hb_ 1).trans rfl : _ = some (.int .i64 a0_1)); have hz3000039_2_4 := ((blk_cell hb_ 2).trans rfl : _ = some (.slice A0_2 l0_2.length c0_2)); clear hb_) | ((with_reducible refine gate_dst (N := 16) rfl ?_); refine goesL_ (some 16) rfl rfl Try.func29 (by kernel_rfl) rfl #[.agg #[.int .i64 a0_0, .int .i64 a0_1, .slice A0_2 l0_2.length c0_2], .agg #[.int .i64 a1_0, .int .i64 a1_1]] rfl (by (try simp only [List.map_toArray, List.map_cons, List.map_nil]); first | done | rfl | (simp; done)) ?_; (with_reducible refine (barrowref06_In.calls _ _ _ _ _ _ _ _ _ (RO.at_ HR0_2.out HK.out) HC0_2.out Hc1.out).mono ?_); rintro e_ w7 ⟨rfl, hb_⟩; refine ⟨_, rfl, ?_⟩; replace HS := Aside0.mk (HS.out.below hb_); replace HK := Aside0.mk (HK.out.trans (Keep.below hb_)); (try clear hz3000039_0_4 hz3000039_1_4 hz3000039_2_4); (try clear hz3000040_0_4 hz3000040_1_4); have hb_ := SL.at_ (SL.get1 HS.out); have hz3000041_0_5 := ((blk_cell hb_ 0).trans rfl : _ = some (.int .i64 a2_0)); have hz3000041_1_5 := ((blk_cell hb_ 1).trans rfl : _ = some (.int .i64 a2_1)); clear hb_; have hb_ := SL.at_ (SL.get3 HS.out); have hz3000039_0_5 := ((blk_cell hb_ 0).trans rfl : _ = some (.int .i64 a0_0)); have hz3000039_1_5 := ((blk_cell hb_ 1).trans rfl : _ = some (.int .i64 a0_1)); have hz3000039_2_5 := ((blk_cell hb_ 2).trans rfl : _ = some (.slice A0_2 l0_2.length c0_2)); clear hb_) | ((with_reducible refine gate_dst (N := 19) rfl ?_); refine goesL_ (some 19) rfl rfl Try.func29 (by kernel_rfl) rfl #[.agg #[.int .i64 a0_0, .int .i64 a0_1, .slice A0_2 l0_2.length c0_2], .agg #[.int .i64 a2_0, .int .i64 a2_1]] rfl (by (try simp only [List.map_toArray, List.map_cons, List.map_nil]); first | done | rfl | (simp; done)) ?_; (with_reducible refine (barrowref06_In.calls _ _ _ _ _ _ _ _ _ (RO.at_ HR0_2.out HK.out) HC0_2.out Hc2.out).mono ?_); rintro e_ w8 ⟨rfl, hb_⟩; refine ⟨_, rfl, ?_⟩; replace HS := Aside0.mk (HS.out.below hb_); replace HK := Aside0.mk (HK.out.trans (Keep.below hb_)); (try clear hz3000039_0_5 hz3000039_1_5 hz3000039_2_5); (try clear hz3000041_0_5 hz3000041_1_5)))
  try go_simp
  go_loopg [11] k (fun kq v11 w' => ∃ (x3000040_0_0 : Int) (x3000040_1_0 : Int) (x11_0 : Int), v11 = .int .i64 x11_0 ∧ Aside0 (barrowref06_Toward.l0 kq a0_0 a0_1 l0_2 a2_0 a2_1 a3 t291 t292 x11_0 x3000040_0_0 x3000040_1_0 = some (r1, r2)) ∧ Aside0 (kq ≤ k) ∧ Aside0 (SL (cells g3000042 23 [.int .i64 0, .int .i64 0].toArray :: cells g3000041 23 [.int .i64 a2_0, .int .i64 a2_1].toArray :: cells g3000040 23 [.int .i64 x3000040_0_0, .int .i64 x3000040_1_0].toArray :: cells g3000039 29 [.int .i64 a0_0, .int .i64 a0_1, .slice A0_2 l0_2.length c0_2].toArray :: L) w' S) ∧ Aside0 (Keep S w w'))
  case atStart => exact ⟨(a1_0), (a1_1), (0), (by first | rfl | (simp; done) | (simp [*]; done)), H', ⟨Nat.le_refl _⟩, HS, HK⟩
  case round =>
    clear H' HS HK
    try clear hz3000039_0_0 hz3000039_1_0 hz3000039_2_0
    try clear hz3000040_0_0 hz3000040_1_0
    try clear hz3000039_0_0 hz3000039_1_0 hz3000039_2_0
    try clear hz3000041_0_0 hz3000041_1_0
    obtain ⟨x3000040_0_0, x3000040_1_0, x11_0, rfl, HA, HQ1, HS, HK⟩ := hrel
    cases gk with
    | zero => exact absurd HA.out (by simp [barrowref06_Toward.l0])
    | succ k1 =>
      have H := HA.out
      clear HA
      simp only [barrowref06_Toward.l0] at H
      by_cases c9 : x11_0 < a3
      · rw [if_pos c9] at H
        have c9b0 : decide (x11_0 < a3) = true := decide_eq_true c9
        clear c9
        by_cases c10 : t291 = true
        · subst c10
          rw [if_pos rfl] at H
          by_cases c11 : t292 = true
          · subst c11
            rw [if_pos rfl] at H
            by_cases c12 : (!(x3000040_0_0 == a2_0) || (!(x3000040_1_0 == a2_1))) = true
            · rw [if_pos c12] at H
              have c12b0 : (!(x3000040_0_0 == a2_0) || (!(x3000040_1_0 == a2_1))) = true := c12
              clear c12
              replace H := Option.bind_eq_some_iff.1 H
              obtain ⟨t296, Hc130, H⟩ := H
              try dsimp only at H
              have Hc13 := Aside0.mk Hc130
              clear Hc130
              replace H := Option.bind_eq_some_iff.1 H
              obtain ⟨t297, Hc140, H⟩ := H
              try dsimp only at H
              have Hc14 := Aside0.mk Hc140
              clear Hc140
              replace H := Option.bind_eq_some_iff.1 H
              obtain ⟨t298, Hc150, H⟩ := H
              try dsimp only at H
              have Hc15 := Aside0.mk Hc150
              clear Hc150
              have H' := Aside0.mk H
              clear H
              have hb_ := SL.at_ (SL.get1 HS.out)
              have hz3000041_0_0 := ((blk_cell hb_ 0).trans rfl : _ = some (.int .i64 a2_0))
              have hz3000041_1_0 := ((blk_cell hb_ 1).trans rfl : _ = some (.int .i64 a2_1))
              clear hb_
              have hb_ := SL.at_ (SL.get2 HS.out)
              have hz3000040_0_0 := ((blk_cell hb_ 0).trans rfl : _ = some (.int .i64 x3000040_0_0))
              have hz3000040_1_0 := ((blk_cell hb_ 1).trans rfl : _ = some (.int .i64 x3000040_1_0))
              clear hb_
              try go_wp2
              refine start_ (n := 13) (S := fun w' => w'.cell? ⟨g3000040, 0, none⟩ = some (.int .i64 x3000040_0_0) ∧ w'.cell? ⟨g3000041, 0, none⟩ = some (.int .i64 a2_0) ∧ w'.cell? ⟨g3000040, 1, none⟩ = some (.int .i64 x3000040_1_0) ∧ w'.cell? ⟨g3000041, 1, none⟩ = some (.int .i64 a2_1)) (ds := []) #[false, false, false, false, false, false, false, false, false, false, false, false, false] (by kernel_rfl) rfl rfl ⟨(((blk_cell (SL.at_ (SL.get2 HS.out)) 0).trans rfl)), (((blk_cell (SL.at_ (SL.get1 HS.out)) 0).trans rfl)), (((blk_cell (SL.at_ (SL.get2 HS.out)) 1).trans rfl)), (((blk_cell (SL.at_ (SL.get1 HS.out)) 1).trans rfl))⟩ (fun hHeld => ?_); refine with_tabW barrowref06_Toward.tab6 barrowref06_Toward.bits6 (fun HT_ HW_ => ?_)
              replace HK := Aside0.mk (Keep.drew HK.out)
              replace HS := Aside0.mk (SL.drew HS.out)
              refine pure_ (i := 0) (N := some 36) (v := ?_) (a' := ?_) #[true, false, false, false, false, false, false, false, false, false, false, false, false] rfl rfl (any_of HT_.out (by kernel_rfl)) (fun _ _ _ h => h) (Or.inl ⟨by rfl, ?_⟩) ?_ ?_; rotate_left; · (intro w'; go_simp; with_reducible rfl)
              rotate_left; · (simp only [Act.put, sT, sZ, sS, i64_w, i32_w]; rfl)
              refine pure_ (i := 2) (N := some 38) (v := ?_) (a' := ?_) #[true, false, true, false, false, false, false, false, false, false, false, false, false] rfl rfl (any_of HT_.out (by kernel_rfl)) (fun _ _ _ h => h) (Or.inl ⟨by rfl, ?_⟩) ?_ ?_; rotate_left; · (intro w'; go_simp; with_reducible rfl)
              rotate_left; · (simp only [Act.put, sT, sZ, sS, i64_w, i32_w]; rfl)
              refine pure_ (i := 5) (N := some 41) (v := ?_) (a' := ?_) #[true, false, true, false, false, true, false, false, false, false, false, false, false] rfl rfl (any_of HT_.out (by kernel_rfl)) (fun _ _ _ h => h) (Or.inl ⟨by rfl, ?_⟩) ?_ ?_; rotate_left; · (intro w'; go_simp; with_reducible rfl)
              rotate_left; · (simp only [Act.put, sT, sZ, sS, i64_w, i32_w]; rfl)
              refine pure_ (i := 7) (N := some 43) (v := ?_) (a' := ?_) #[true, false, true, false, false, true, false, true, false, false, false, false, false] rfl rfl (any_of HT_.out (by kernel_rfl)) (fun _ _ _ h => h) (Or.inl ⟨by rfl, ?_⟩) ?_ ?_; rotate_left; · (intro w'; go_simp; with_reducible rfl)
              rotate_left; · (simp only [Act.put, sT, sZ, sS, i64_w, i32_w]; rfl)
              refine take_ (i := 1) (N := some 37) (v := ?_) (a' := ?_) #[true, true, true, false, false, true, false, true, false, false, false, false, false] rfl rfl (take_ofW HT_.out HW_.out (by kernel_rfl)) (fun _ _ _ h => h) (Or.inl ⟨by rfl, ?_⟩) hHeld ?_ ?_; rotate_left
              · rintro w' ⟨s0, s1, s2, s3⟩
                go_simp
                with_reducible rfl
              rotate_left; · (simp only [Act.put, sT, sZ, sS, i64_w, i32_w]; rfl)
              refine take_ (i := 3) (N := some 39) (v := ?_) (a' := ?_) #[true, true, true, true, false, true, false, true, false, false, false, false, false] rfl rfl (take_ofW HT_.out HW_.out (by kernel_rfl)) (fun _ _ _ h => h) (Or.inl ⟨by rfl, ?_⟩) hHeld ?_ ?_; rotate_left
              · rintro w' ⟨s0, s1, s2, s3⟩
                go_simp
                with_reducible rfl
              rotate_left; · (simp only [Act.put, sT, sZ, sS, i64_w, i32_w]; rfl)
              refine take_ (i := 6) (N := some 42) (v := ?_) (a' := ?_) #[true, true, true, true, false, true, true, true, false, false, false, false, false] rfl rfl (take_ofW HT_.out HW_.out (by kernel_rfl)) (fun _ _ _ h => h) (Or.inl ⟨by rfl, ?_⟩) hHeld ?_ ?_; rotate_left
              · rintro w' ⟨s0, s1, s2, s3⟩
                go_simp
                with_reducible rfl
              rotate_left; · (simp only [Act.put, sT, sZ, sS, i64_w, i32_w]; rfl)
              refine take_ (i := 8) (N := some 44) (v := ?_) (a' := ?_) #[true, true, true, true, false, true, true, true, true, false, false, false, false] rfl rfl (take_ofW HT_.out HW_.out (by kernel_rfl)) (fun _ _ _ h => h) (Or.inl ⟨by rfl, ?_⟩) hHeld ?_ ?_; rotate_left
              · rintro w' ⟨s0, s1, s2, s3⟩
                go_simp
                with_reducible rfl
              rotate_left; · (simp only [Act.put, sT, sZ, sS, i64_w, i32_w]; rfl)
              refine join_ (σ := Nat) 1 #[true, true, true, true, true, true, true, true, true, true, true, true, false] (fun s_ => [(40, .int .i64 t296), (45, .int .i64 t297), (46, .agg #[.int .i64 t296, .int .i64 t297]), (12, .pointer (some ⟨s_, 0, none⟩))]) (fun s_ w_ => Keep S w w_ ∧ SL (cells s_ 23 [.int .i64 0, .int .i64 0].toArray :: cells g3000042 23 [.int .i64 0, .int .i64 0].toArray :: cells g3000041 23 [.int .i64 a2_0, .int .i64 a2_1].toArray :: cells g3000040 23 [.int .i64 x3000040_0_0, .int .i64 x3000040_1_0].toArray :: cells g3000039 29 [.int .i64 a0_0, .int .i64 a0_1, .slice A0_2 l0_2.length c0_2].toArray :: L) w_ S) ?_ ?_; rotate_left
              · intro hCont
                refine two_ (i := 4) (j := 11) (Ni := some 40) (Nj := some 12) #[true, true, true, true, true, true, true, true, true, false, false, false, false] #[true, true, true, true, false, true, true, true, true, false, false, true, false] rfl rfl rfl rfl (two_of HT_.out (by kernel_rfl)) (by decide) (by decide) (fun K hK => ?_) (fun K hK => ?_)
                · skip
                  refine goes_ Try.func30 (by kernel_rfl) rfl #[.int .i64 x3000040_0_0, .int .i64 a2_0] (by rfl) rfl rfl (by (try simp only [List.map_toArray, List.map_cons, List.map_nil]); first | done | rfl | (simp; done)) ?_
                  (with_reducible refine (barrowref06_nearer.calls _ _ _ _  Hc13.out).mono ?_)
                  rintro e_ w22 ⟨rfl, hb_⟩
                  refine ⟨_, rfl, ?_⟩
                  replace hb_ := Drawn0.below hb_
                  replace HS := Aside0.mk (HS.out.below hb_)
                  replace HK := Aside0.mk (HK.out.trans (Keep.below hb_))
                  refine hK.out _ _ ⟨(((blk_cell (SL.at_ (SL.get2 HS.out)) 0).trans rfl)), (((blk_cell (SL.at_ (SL.get1 HS.out)) 0).trans rfl)), (((blk_cell (SL.at_ (SL.get2 HS.out)) 1).trans rfl)), (((blk_cell (SL.at_ (SL.get1 HS.out)) 1).trans rfl))⟩ (fun hHeld => ?_)
                  clear hK K
                  refine norm_ (a' := ?_) ?_ ?_; rotate_left
                  · show Act.put _ (some 40) _ = _
                    simp only [Act.put, sT, sZ, sS, i64_w, i32_w]
                    rfl
                  refine two_ (i := 9) (j := 11) (Ni := some 45) (Nj := some 12) #[true, true, true, true, true, true, true, true, true, true, false, false, false] #[true, true, true, true, true, true, true, true, true, false, false, true, false] rfl rfl rfl rfl (two_of HT_.out (by kernel_rfl)) (by decide) (by decide) (fun K hK => ?_) (fun K hK => ?_)
                  · skip
                    refine goes_ Try.func30 (by kernel_rfl) rfl #[.int .i64 x3000040_1_0, .int .i64 a2_1] (by rfl) rfl rfl (by (try simp only [List.map_toArray, List.map_cons, List.map_nil]); first | done | rfl | (simp; done)) ?_
                    (with_reducible refine (barrowref06_nearer.calls _ _ _ _  Hc14.out).mono ?_)
                    rintro e_ w23 ⟨rfl, hb_⟩
                    refine ⟨_, rfl, ?_⟩
                    replace hb_ := Drawn0.below hb_
                    replace HS := Aside0.mk (HS.out.below hb_)
                    replace HK := Aside0.mk (HK.out.trans (Keep.below hb_))
                    refine hK.out _ _ ⟨(((blk_cell (SL.at_ (SL.get2 HS.out)) 0).trans rfl)), (((blk_cell (SL.at_ (SL.get1 HS.out)) 0).trans rfl)), (((blk_cell (SL.at_ (SL.get2 HS.out)) 1).trans rfl)), (((blk_cell (SL.at_ (SL.get1 HS.out)) 1).trans rfl))⟩ (fun hHeld => ?_)
                    clear hK K
                    refine norm_ (a' := ?_) ?_ ?_; rotate_left
                    · show Act.put _ (some 45) _ = _
                      simp only [Act.put, sT, sZ, sS, i64_w, i32_w]
                      rfl
                    refine pure_ (i := 10) (N := some 46) (v := ?_) (a' := ?_) #[true, true, true, true, true, true, true, true, true, true, true, false, false] rfl rfl (any_of HT_.out (by kernel_rfl)) (fun _ _ _ h => h) (Or.inl ⟨by rfl, ?_⟩) ?_ ?_; rotate_left; · (intro w'; go_simp; with_reducible rfl)
                    rotate_left; · (simp only [Act.put, sT, sZ, sS, i64_w, i32_w]; rfl)
                    refine one_ (i := 11) (N := some 12) #[true, true, true, true, true, true, true, true, true, true, true, true, false] rfl rfl (one_of HT_.out (by kernel_rfl)) (by decide) (fun K hK => ?_)
                    refine st_of (by rfl) ?_
                    refine op_box (S := S) (cs := #[.int .i64 0, .int .i64 0]) (t := 23) (HF.out.keep HK.out) HS.out (by first | (go_simp; done) | (go_simp; rfl)) ?_
                    intro g3000043 w24 hs_ hk_
                    replace HS := Aside0.mk (hs_)
                    replace HK := Aside0.mk (HK.out.trans hk_)
                    refine hK.out _ _ ⟨(((blk_cell (SL.at_ (SL.get3 HS.out)) 0).trans rfl)), (((blk_cell (SL.at_ (SL.get2 HS.out)) 0).trans rfl)), (((blk_cell (SL.at_ (SL.get3 HS.out)) 1).trans rfl)), (((blk_cell (SL.at_ (SL.get2 HS.out)) 1).trans rfl))⟩ (fun hHeld => ?_)
                    clear hK K
                    refine norm_ (a' := ?_) ?_ ?_; rotate_left
                    · show Act.put _ (some 12) _ = _
                      simp only [Act.put, sT, sZ, sS, i64_w, i32_w]
                      rfl
                    exact norm_ (by simp only [putAll, Act.put, sT, sZ, sS]) (hCont g3000043 _ ⟨HK.out, HS.out⟩)
                  · skip
                    refine st_of (by rfl) ?_
                    refine op_box (S := S) (cs := #[.int .i64 0, .int .i64 0]) (t := 23) (HF.out.keep HK.out) HS.out (by first | (go_simp; done) | (go_simp; rfl)) ?_
                    intro g3000043 w25 hs_ hk_
                    replace HS := Aside0.mk (hs_)
                    replace HK := Aside0.mk (HK.out.trans hk_)
                    refine hK.out _ _ ⟨(((blk_cell (SL.at_ (SL.get3 HS.out)) 0).trans rfl)), (((blk_cell (SL.at_ (SL.get2 HS.out)) 0).trans rfl)), (((blk_cell (SL.at_ (SL.get3 HS.out)) 1).trans rfl)), (((blk_cell (SL.at_ (SL.get2 HS.out)) 1).trans rfl))⟩ (fun hHeld => ?_)
                    clear hK K
                    refine norm_ (a' := ?_) ?_ ?_; rotate_left
                    · show Act.put _ (some 12) _ = _
                      simp only [Act.put, sT, sZ, sS, i64_w, i32_w]
                      rfl
                    refine one_ (i := 9) (N := some 45) #[true, true, true, true, true, true, true, true, true, true, false, true, false] rfl rfl (one_of HT_.out (by kernel_rfl)) (by decide) (fun K hK => ?_)
                    replace HS := Aside0.mk (SL.get4 (SL.get4 (SL.get4 (SL.get4 HS.out))))
                    refine goes_ Try.func30 (by kernel_rfl) rfl #[.int .i64 x3000040_1_0, .int .i64 a2_1] (by rfl) rfl rfl (by (try simp only [List.map_toArray, List.map_cons, List.map_nil]); first | done | rfl | (simp; done)) ?_
                    (with_reducible refine (barrowref06_nearer.calls _ _ _ _  Hc14.out).mono ?_)
                    rintro e_ w26 ⟨rfl, hb_⟩
                    refine ⟨_, rfl, ?_⟩
                    replace hb_ := Drawn0.below hb_
                    replace HS := Aside0.mk (HS.out.below hb_)
                    replace HK := Aside0.mk (HK.out.trans (Keep.below hb_))
                    refine hK.out _ _ ⟨(((blk_cell (SL.at_ (SL.get2 HS.out)) 0).trans rfl)), (((blk_cell (SL.at_ (SL.get1 HS.out)) 0).trans rfl)), (((blk_cell (SL.at_ (SL.get2 HS.out)) 1).trans rfl)), (((blk_cell (SL.at_ (SL.get1 HS.out)) 1).trans rfl))⟩ (fun hHeld => ?_)
                    clear hK K
                    refine norm_ (a' := ?_) ?_ ?_; rotate_left
                    · show Act.put _ (some 45) _ = _
                      simp only [Act.put, sT, sZ, sS, i64_w, i32_w]
                      rfl
                    refine pure_ (i := 10) (N := some 46) (v := ?_) (a' := ?_) #[true, true, true, true, true, true, true, true, true, true, true, true, false] rfl rfl (any_of HT_.out (by kernel_rfl)) (fun _ _ _ h => h) (Or.inl ⟨by rfl, ?_⟩) ?_ ?_; rotate_left; · (intro w'; go_simp; with_reducible rfl)
                    rotate_left; · (simp only [Act.put, sT, sZ, sS, i64_w, i32_w]; rfl)
                    exact norm_ (by simp only [putAll, Act.put, sT, sZ, sS]) (hCont g3000043 _ ⟨HK.out, (SL.get4 (SL.get3 (SL.get3 (SL.get3 (SL.get3 HS.out)))))⟩)
                · skip
                  refine st_of (by rfl) ?_
                  refine op_box (S := S) (cs := #[.int .i64 0, .int .i64 0]) (t := 23) (HF.out.keep HK.out) HS.out (by first | (go_simp; done) | (go_simp; rfl)) ?_
                  intro g3000043 w27 hs_ hk_
                  replace HS := Aside0.mk (hs_)
                  replace HK := Aside0.mk (HK.out.trans hk_)
                  refine hK.out _ _ ⟨(((blk_cell (SL.at_ (SL.get3 HS.out)) 0).trans rfl)), (((blk_cell (SL.at_ (SL.get2 HS.out)) 0).trans rfl)), (((blk_cell (SL.at_ (SL.get3 HS.out)) 1).trans rfl)), (((blk_cell (SL.at_ (SL.get2 HS.out)) 1).trans rfl))⟩ (fun hHeld => ?_)
                  clear hK K
                  refine norm_ (a' := ?_) ?_ ?_; rotate_left
                  · show Act.put _ (some 12) _ = _
                    simp only [Act.put, sT, sZ, sS, i64_w, i32_w]
                    rfl
                  refine one_ (i := 4) (N := some 40) #[true, true, true, true, true, true, true, true, true, false, false, true, false] rfl rfl (one_of HT_.out (by kernel_rfl)) (by decide) (fun K hK => ?_)
                  replace HS := Aside0.mk (SL.get4 (SL.get4 (SL.get4 (SL.get4 HS.out))))
                  refine goes_ Try.func30 (by kernel_rfl) rfl #[.int .i64 x3000040_0_0, .int .i64 a2_0] (by rfl) rfl rfl (by (try simp only [List.map_toArray, List.map_cons, List.map_nil]); first | done | rfl | (simp; done)) ?_
                  (with_reducible refine (barrowref06_nearer.calls _ _ _ _  Hc13.out).mono ?_)
                  rintro e_ w28 ⟨rfl, hb_⟩
                  refine ⟨_, rfl, ?_⟩
                  replace hb_ := Drawn0.below hb_
                  replace HS := Aside0.mk (HS.out.below hb_)
                  replace HK := Aside0.mk (HK.out.trans (Keep.below hb_))
                  refine hK.out _ _ ⟨(((blk_cell (SL.at_ (SL.get2 HS.out)) 0).trans rfl)), (((blk_cell (SL.at_ (SL.get1 HS.out)) 0).trans rfl)), (((blk_cell (SL.at_ (SL.get2 HS.out)) 1).trans rfl)), (((blk_cell (SL.at_ (SL.get1 HS.out)) 1).trans rfl))⟩ (fun hHeld => ?_)
                  clear hK K
                  refine norm_ (a' := ?_) ?_ ?_; rotate_left
                  · show Act.put _ (some 40) _ = _
                    simp only [Act.put, sT, sZ, sS, i64_w, i32_w]
                    rfl
                  refine one_ (i := 9) (N := some 45) #[true, true, true, true, true, true, true, true, true, true, false, true, false] rfl rfl (one_of HT_.out (by kernel_rfl)) (by decide) (fun K hK => ?_)
                  refine goes_ Try.func30 (by kernel_rfl) rfl #[.int .i64 x3000040_1_0, .int .i64 a2_1] (by rfl) rfl rfl (by (try simp only [List.map_toArray, List.map_cons, List.map_nil]); first | done | rfl | (simp; done)) ?_
                  (with_reducible refine (barrowref06_nearer.calls _ _ _ _  Hc14.out).mono ?_)
                  rintro e_ w29 ⟨rfl, hb_⟩
                  refine ⟨_, rfl, ?_⟩
                  replace hb_ := Drawn0.below hb_
                  replace HS := Aside0.mk (HS.out.below hb_)
                  replace HK := Aside0.mk (HK.out.trans (Keep.below hb_))
                  refine hK.out _ _ ⟨(((blk_cell (SL.at_ (SL.get2 HS.out)) 0).trans rfl)), (((blk_cell (SL.at_ (SL.get1 HS.out)) 0).trans rfl)), (((blk_cell (SL.at_ (SL.get2 HS.out)) 1).trans rfl)), (((blk_cell (SL.at_ (SL.get1 HS.out)) 1).trans rfl))⟩ (fun hHeld => ?_)
                  clear hK K
                  refine norm_ (a' := ?_) ?_ ?_; rotate_left
                  · show Act.put _ (some 45) _ = _
                    simp only [Act.put, sT, sZ, sS, i64_w, i32_w]
                    rfl
                  refine pure_ (i := 10) (N := some 46) (v := ?_) (a' := ?_) #[true, true, true, true, true, true, true, true, true, true, true, true, false] rfl rfl (any_of HT_.out (by kernel_rfl)) (fun _ _ _ h => h) (Or.inl ⟨by rfl, ?_⟩) ?_ ?_; rotate_left; · (intro w'; go_simp; with_reducible rfl)
                  rotate_left; · (simp only [Act.put, sT, sZ, sS, i64_w, i32_w]; rfl)
                  exact norm_ (by simp only [putAll, Act.put, sT, sZ, sS]) (hCont g3000043 _ ⟨HK.out, (SL.get4 (SL.get3 (SL.get3 (SL.get3 (SL.get3 HS.out)))))⟩)
              rintro g3000043 w21 ⟨hk_, hs_⟩
              clear HK HS
              have HK := Aside0.mk hk_
              have HS := Aside0.mk hs_
              clear hk_ hs_
              have hHeld := (⟨(((blk_cell (SL.at_ (SL.get3 HS.out)) 0).trans rfl)), (((blk_cell (SL.at_ (SL.get2 HS.out)) 0).trans rfl)), (((blk_cell (SL.at_ (SL.get3 HS.out)) 1).trans rfl)), (((blk_cell (SL.at_ (SL.get2 HS.out)) 1).trans rfl))⟩ : w21.cell? ⟨g3000040, 0, none⟩ = some (.int .i64 x3000040_0_0) ∧ w21.cell? ⟨g3000041, 0, none⟩ = some (.int .i64 a2_0) ∧ w21.cell? ⟨g3000040, 1, none⟩ = some (.int .i64 x3000040_1_0) ∧ w21.cell? ⟨g3000041, 1, none⟩ = some (.int .i64 a2_1))
              refine norm_ (a' := ?_) ?_ ?_; rotate_left; · (simp only [putAll, Act.put, sT, sZ, sS]; rfl)
              refine one_ (i := 12) (N := none) #[true, true, true, true, true, true, true, true, true, true, true, true, true] rfl rfl (one_of HT_.out (by kernel_rfl)) (by decide) (fun K hK => ?_)
              refine st_of (by rfl) ?_
              refine op_store (S := S) 23 (.tmp 12) (.tmp 46) rfl g3000043 0 (.agg #[.int .i64 t296, .int .i64 t297]) [.int .i64 t296, .int .i64 t297] rfl rfl rfl (by kernel_rfl) (by simp [Value.oneCell']) HS.out (by simp) ?_
              intro w19 hs_ hk_
              replace HS := Aside0.mk ((show SL (cells g3000043 23 [.int .i64 t296, .int .i64 t297].toArray :: _) _ _ from hs_))
              replace HK := Aside0.mk (HK.out.trans hk_)
              refine hK.out _ _ ⟨(((blk_cell (SL.at_ (SL.get3 HS.out)) 0).trans rfl)), (((blk_cell (SL.at_ (SL.get2 HS.out)) 0).trans rfl)), (((blk_cell (SL.at_ (SL.get3 HS.out)) 1).trans rfl)), (((blk_cell (SL.at_ (SL.get2 HS.out)) 1).trans rfl))⟩ (fun hHeld => ?_)
              clear hK K
              refine done_ (done_of HT_.out (by kernel_rfl)) ?_
              have hb_ := SL.at_ HS.out
              have hz3000043_0_5 := ((blk_cell hb_ 0).trans rfl : _ = some (.int .i64 t296))
              have hz3000043_1_5 := ((blk_cell hb_ 1).trans rfl : _ = some (.int .i64 t297))
              clear hb_
              have hb_ := SL.at_ (SL.get4 HS.out)
              have hz3000039_0_5 := ((blk_cell hb_ 0).trans rfl : _ = some (.int .i64 a0_0))
              have hz3000039_1_5 := ((blk_cell hb_ 1).trans rfl : _ = some (.int .i64 a0_1))
              have hz3000039_2_5 := ((blk_cell hb_ 2).trans rfl : _ = some (.slice A0_2 l0_2.length c0_2))
              clear hb_
              try go_wp2_with (first | ((with_reducible refine gate_dst (N := 49) rfl ?_); refine goesL_ (some 49) rfl rfl Try.func31 (by kernel_rfl) rfl #[.agg #[.int .i64 a0_0, .int .i64 a0_1, .slice A0_2 l0_2.length c0_2], .agg #[.int .i64 t296, .int .i64 t297]] rfl (by (try simp only [List.map_toArray, List.map_cons, List.map_nil]); first | done | rfl | (simp; done)) ?_; (with_reducible refine (barrowref06_Wall.calls _ _ _ _ _ _ _ _ _ (RO.at_ HR0_2.out HK.out) HC0_2.out Hc15.out).mono ?_); rintro e_ w20 ⟨rfl, hb_⟩; refine ⟨_, rfl, ?_⟩; replace HS := Aside0.mk (HS.out.below hb_); replace HK := Aside0.mk (HK.out.trans (Keep.below hb_)); (try clear hz3000039_0_5 hz3000039_1_5 hz3000039_2_5); (try clear hz3000043_0_5 hz3000043_1_5); refine stop_ ?_; intro G_ hG_))
              have H := H'.out
              clear H'
              by_cases c30 : t298 = true
              · subst c30
                rw [if_pos rfl] at H
                simp only [Option.some.injEq, Prod.mk.injEq] at H
                obtain ⟨rfl, rfl⟩ := H
                have hb_ := SL.at_ (SL.get3 HS.out)
                have hz3000040_0_0 := ((blk_cell hb_ 0).trans rfl : _ = some (.int .i64 x3000040_0_0))
                have hz3000040_1_0 := ((blk_cell hb_ 1).trans rfl : _ = some (.int .i64 x3000040_1_0))
                clear hb_
                refine hG_.out ?_
                go_wp2_with (first | ((with_reducible refine gate_store (t := 23) (p := 8) (v := (.tmp 51)) rfl ?_); refine wpList_plain rfl (fun K_ hK_ => ?_); refine op_store (S := S) 23 (.tmp 8) (.tmp 51) rfl g3000042 0 (.agg #[.int .i64 x3000040_0_0, .int .i64 x3000040_1_0]) [.int .i64 x3000040_0_0, .int .i64 x3000040_1_0] rfl rfl rfl (by kernel_rfl) (by simp [Value.oneCell']) (SL.get1 HS.out) (by simp) ?_; intro w31 hs_ hk_; refine hK_ _ _ ?_; clear hK_ K_; replace HS := Aside0.mk ((SL.back1 (show SL (cells g3000042 23 [.int .i64 x3000040_0_0, .int .i64 x3000040_1_0].toArray :: _) _ _ from hs_))); replace HK := Aside0.mk (HK.out.trans hk_); (try clear hz3000040_0_0 hz3000040_1_0)))
                refine bodyPost_ret (results_single (by exact rfl) (.cell g3000042 23 #[.int .i64 x3000040_0_0, .int .i64 x3000040_1_0] (0, 0) _ rfl (SL.at_ (SL.get1 HS.out)) Try.underlying23 rfl (by kernel_rfl) .nil)) rfl ?_
                replace HS := Aside0.mk (SL.tail (SL.tail (SL.tail (SL.tail (SL.tail HS.out)))))
                unfold barrowref06_Toward.Post
                exact ⟨by first | rfl | (simp; done) | (simp [*]; done) | (simp at c12b0 ⊢; first | exact c12b0 | (simp [c12b0]; done)), HS.out, HK.out⟩
              · replace c30 := Bool.eq_false_iff.mpr c30
                subst c30
                rw [if_neg (show ¬ (false = true) by decide)] at H
                have H' := Aside0.mk H
                clear H
                have hb_ := SL.at_ HS.out
                have hz3000043_0_0 := ((blk_cell hb_ 0).trans rfl : _ = some (.int .i64 t296))
                have hz3000043_1_0 := ((blk_cell hb_ 1).trans rfl : _ = some (.int .i64 t297))
                clear hb_
                refine hG_.out ?_
                go_wp2_with (first | ((with_reducible refine gate_store (t := 23) (p := 5) (v := (.tmp 52)) rfl ?_); refine wpList_plain rfl (fun K_ hK_ => ?_); refine op_store (S := S) 23 (.tmp 5) (.tmp 52) rfl g3000040 0 (.agg #[.int .i64 t296, .int .i64 t297]) [.int .i64 t296, .int .i64 t297] rfl rfl rfl (by kernel_rfl) (by simp [Value.oneCell']) (SL.get3 HS.out) (by simp) ?_; intro w32 hs_ hk_; refine hK_ _ _ ?_; clear hK_ K_; replace HS := Aside0.mk ((SL.back3 (show SL (cells g3000040 23 [.int .i64 t296, .int .i64 t297].toArray :: _) _ _ from hs_))); replace HK := Aside0.mk (HK.out.trans hk_); (try clear hz3000043_0_0 hz3000043_1_0)))
                replace HS := Aside0.mk (SL.tail HS.out)
                go_roundg k1
                case measure => have := HQ1.out; omega
                case rel => exact ⟨(t296), (t297), (wrap64 (x11_0 + 1)), (by first | rfl | (simp; done) | (simp [*]; done)), H', ⟨by have := HQ1.out; omega⟩, HS, HK⟩
            · rw [if_neg c12] at H
              have c12b0 : (!(x3000040_0_0 == a2_0) || (!(x3000040_1_0 == a2_1))) = false := by simpa using c12
              clear c12
              simp only [Option.some.injEq, Prod.mk.injEq] at H
              obtain ⟨rfl, rfl⟩ := H
              have hb_ := SL.at_ (SL.get1 HS.out)
              have hz3000041_0_0 := ((blk_cell hb_ 0).trans rfl : _ = some (.int .i64 a2_0))
              have hz3000041_1_0 := ((blk_cell hb_ 1).trans rfl : _ = some (.int .i64 a2_1))
              clear hb_
              have hb_ := SL.at_ (SL.get2 HS.out)
              have hz3000040_0_0 := ((blk_cell hb_ 0).trans rfl : _ = some (.int .i64 x3000040_0_0))
              have hz3000040_1_0 := ((blk_cell hb_ 1).trans rfl : _ = some (.int .i64 x3000040_1_0))
              clear hb_
              go_wp2_with (first | ((with_reducible refine gate_store (t := 23) (p := 8) (v := (.tmp 53)) rfl ?_); refine wpList_plain rfl (fun K_ hK_ => ?_); refine op_store (S := S) 23 (.tmp 8) (.tmp 53) rfl g3000042 0 (.agg #[.int .i64 x3000040_0_0, .int .i64 x3000040_1_0]) [.int .i64 x3000040_0_0, .int .i64 x3000040_1_0] rfl rfl rfl (by kernel_rfl) (by simp [Value.oneCell']) HS.out (by simp) ?_; intro w33 hs_ hk_; refine hK_ _ _ ?_; clear hK_ K_; replace HS := Aside0.mk ((show SL (cells g3000042 23 [.int .i64 x3000040_0_0, .int .i64 x3000040_1_0].toArray :: _) _ _ from hs_)); replace HK := Aside0.mk (HK.out.trans hk_); (try clear hz3000040_0_0 hz3000040_1_0); (try clear hz3000041_0_0 hz3000041_1_0)))
              refine bodyPost_ret (results_single (by exact rfl) (.cell g3000042 23 #[.int .i64 x3000040_0_0, .int .i64 x3000040_1_0] (0, 0) _ rfl (SL.at_ HS.out) Try.underlying23 rfl (by kernel_rfl) .nil)) rfl ?_
              replace HS := Aside0.mk (SL.tail (SL.tail (SL.tail (SL.tail HS.out))))
              unfold barrowref06_Toward.Post
              exact ⟨by first | rfl | (simp; done) | (simp [*]; done) | (simp at c12b0 ⊢; first | exact c12b0 | (simp [c12b0]; done)), HS.out, HK.out⟩
          · replace c11 := Bool.eq_false_iff.mpr c11
            subst c11
            rw [if_neg (show ¬ (false = true) by decide)] at H
            simp only [Option.some.injEq, Prod.mk.injEq] at H
            obtain ⟨rfl, rfl⟩ := H
            have hb_ := SL.at_ (SL.get2 HS.out)
            have hz3000040_0_0 := ((blk_cell hb_ 0).trans rfl : _ = some (.int .i64 x3000040_0_0))
            have hz3000040_1_0 := ((blk_cell hb_ 1).trans rfl : _ = some (.int .i64 x3000040_1_0))
            clear hb_
            go_wp2_with (first | ((with_reducible refine gate_store (t := 23) (p := 8) (v := (.tmp 53)) rfl ?_); refine wpList_plain rfl (fun K_ hK_ => ?_); refine op_store (S := S) 23 (.tmp 8) (.tmp 53) rfl g3000042 0 (.agg #[.int .i64 x3000040_0_0, .int .i64 x3000040_1_0]) [.int .i64 x3000040_0_0, .int .i64 x3000040_1_0] rfl rfl rfl (by kernel_rfl) (by simp [Value.oneCell']) HS.out (by simp) ?_; intro w34 hs_ hk_; refine hK_ _ _ ?_; clear hK_ K_; replace HS := Aside0.mk ((show SL (cells g3000042 23 [.int .i64 x3000040_0_0, .int .i64 x3000040_1_0].toArray :: _) _ _ from hs_)); replace HK := Aside0.mk (HK.out.trans hk_); (try clear hz3000040_0_0 hz3000040_1_0)))
            refine bodyPost_ret (results_single (by exact rfl) (.cell g3000042 23 #[.int .i64 x3000040_0_0, .int .i64 x3000040_1_0] (0, 0) _ rfl (SL.at_ HS.out) Try.underlying23 rfl (by kernel_rfl) .nil)) rfl ?_
            replace HS := Aside0.mk (SL.tail (SL.tail (SL.tail (SL.tail HS.out))))
            unfold barrowref06_Toward.Post
            exact ⟨by first | rfl | (simp; done) | (simp [*]; done) | (simp at c9b0 ⊢; first | exact c9b0 | (simp [c9b0]; done)), HS.out, HK.out⟩
        · replace c10 := Bool.eq_false_iff.mpr c10
          subst c10
          rw [if_neg (show ¬ (false = true) by decide)] at H
          simp only [Option.some.injEq, Prod.mk.injEq] at H
          obtain ⟨rfl, rfl⟩ := H
          have hb_ := SL.at_ (SL.get2 HS.out)
          have hz3000040_0_0 := ((blk_cell hb_ 0).trans rfl : _ = some (.int .i64 x3000040_0_0))
          have hz3000040_1_0 := ((blk_cell hb_ 1).trans rfl : _ = some (.int .i64 x3000040_1_0))
          clear hb_
          go_wp2_with (first | ((with_reducible refine gate_store (t := 23) (p := 8) (v := (.tmp 53)) rfl ?_); refine wpList_plain rfl (fun K_ hK_ => ?_); refine op_store (S := S) 23 (.tmp 8) (.tmp 53) rfl g3000042 0 (.agg #[.int .i64 x3000040_0_0, .int .i64 x3000040_1_0]) [.int .i64 x3000040_0_0, .int .i64 x3000040_1_0] rfl rfl rfl (by kernel_rfl) (by simp [Value.oneCell']) HS.out (by simp) ?_; intro w35 hs_ hk_; refine hK_ _ _ ?_; clear hK_ K_; replace HS := Aside0.mk ((show SL (cells g3000042 23 [.int .i64 x3000040_0_0, .int .i64 x3000040_1_0].toArray :: _) _ _ from hs_)); replace HK := Aside0.mk (HK.out.trans hk_); (try clear hz3000040_0_0 hz3000040_1_0)))
          refine bodyPost_ret (results_single (by exact rfl) (.cell g3000042 23 #[.int .i64 x3000040_0_0, .int .i64 x3000040_1_0] (0, 0) _ rfl (SL.at_ HS.out) Try.underlying23 rfl (by kernel_rfl) .nil)) rfl ?_
          replace HS := Aside0.mk (SL.tail (SL.tail (SL.tail (SL.tail HS.out))))
          unfold barrowref06_Toward.Post
          exact ⟨by first | rfl | (simp; done) | (simp [*]; done) | (simp at c9b0 ⊢; first | exact c9b0 | (simp [c9b0]; done)), HS.out, HK.out⟩
      · rw [if_neg c9] at H
        have c9b0 : decide (x11_0 < a3) = false := decide_eq_false c9
        clear c9
        simp only [Option.some.injEq, Prod.mk.injEq] at H
        obtain ⟨rfl, rfl⟩ := H
        have hb_ := SL.at_ (SL.get2 HS.out)
        have hz3000040_0_0 := ((blk_cell hb_ 0).trans rfl : _ = some (.int .i64 x3000040_0_0))
        have hz3000040_1_0 := ((blk_cell hb_ 1).trans rfl : _ = some (.int .i64 x3000040_1_0))
        clear hb_
        go_wp2_with (first | ((with_reducible refine gate_store (t := 23) (p := 8) (v := (.tmp 53)) rfl ?_); refine wpList_plain rfl (fun K_ hK_ => ?_); refine op_store (S := S) 23 (.tmp 8) (.tmp 53) rfl g3000042 0 (.agg #[.int .i64 x3000040_0_0, .int .i64 x3000040_1_0]) [.int .i64 x3000040_0_0, .int .i64 x3000040_1_0] rfl rfl rfl (by kernel_rfl) (by simp [Value.oneCell']) HS.out (by simp) ?_; intro w36 hs_ hk_; refine hK_ _ _ ?_; clear hK_ K_; replace HS := Aside0.mk ((show SL (cells g3000042 23 [.int .i64 x3000040_0_0, .int .i64 x3000040_1_0].toArray :: _) _ _ from hs_)); replace HK := Aside0.mk (HK.out.trans hk_); (try clear hz3000040_0_0 hz3000040_1_0)))
        refine bodyPost_ret (results_single (by exact rfl) (.cell g3000042 23 #[.int .i64 x3000040_0_0, .int .i64 x3000040_1_0] (0, 0) _ rfl (SL.at_ HS.out) Try.underlying23 rfl (by kernel_rfl) .nil)) rfl ?_
        replace HS := Aside0.mk (SL.tail (SL.tail (SL.tail (SL.tail HS.out))))
        unfold barrowref06_Toward.Post
        exact ⟨by first | rfl | (simp; done) | (simp [*]; done) | (simp at c9b0 ⊢; first | exact c9b0 | (simp [c9b0]; done)), HS.out, HK.out⟩
theorem barrowref06_Toward.calls (k : Nat) (a0_0 : Int) (a0_1 : Int) (A0_2 : Option Addr) (c0_2 : Nat) (l0_2 : List Bool) (a1_0 : Int) (a1_1 : Int) (a2_0 : Int) (a2_1 : Int) (a3 : Int) (r1 : Int) (r2 : Int) (w : World) (hr0_2 : Kd.C Kd.bool w A0_2 l0_2.length l0_2) (hc0_2 : l0_2.length ≤ c0_2) (h : barrowref06_Toward.f k a0_0 a0_1 l0_2 a1_0 a1_1 a2_0 a2_1 a3 = some (r1, r2)) :
    Calls Try.prog 16 #[.agg #[.int .i64 a0_0, .int .i64 a0_1, .slice A0_2 l0_2.length c0_2], .agg #[.int .i64 a1_0, .int .i64 a1_1], .agg #[.int .i64 a2_0, .int .i64 a2_1], .int .i64 a3] w fun e w' => e = .returned (.agg #[.int .i64 r1, .int .i64 r2]) ∧ Below w.heap.size w w' :=
  (barrowref06_Toward.slcalls k a0_0 a0_1 A0_2 c0_2 l0_2 a1_0 a1_1 a2_0 a2_1 a3 r1 r2 (news w) [] w (fresh_news w) trivial (RO.top hr0_2) hc0_2 h).mono fun _ _ h => ⟨h.1, h.2.2.to_below⟩

-- NOT PRINTED: function 4 (barrowlaw06_GridWalks)

-- NOT PRINTED: function 5 (barrowlaw06_GridAlike)

/-! ### grid_Wall: function 18 -/
def grid_Wall.f (a0_0 : Int) (a0_1 : Int) (l0_2 : List Bool) (a1_0 : Int) (a1_1 : Int) : Option (Bool) := (grid_In.f a0_0 a0_1 l0_2 a1_0 a1_1).bind fun t308 => (if t308 = true then ((grid_wall.f a0_0 a0_1 l0_2 a1_0 a1_1).bind fun t309 => (some t309)) else (some true))
def grid_Wall.Post (r : Bool) (S : Nat → Prop) (L : List Asr) (w : World) (e : Ending) (w' : World) : Prop := e = .returned (.bool r) ∧ SL (L) w' S ∧ Keep S w w'
set_option maxHeartbeats 8000000 in
set_option maxRecDepth 100000 in
theorem grid_Wall.slcalls (a0_0 : Int) (a0_1 : Int) (A0_2 : Option Addr) (c0_2 : Nat) (l0_2 : List Bool) (a1_0 : Int) (a1_1 : Int) (r : Bool) (S : Nat → Prop) (L : List Asr) (w : World) (hf : Fresh S w) (hs : SL (L) w S) (hr0_2 : RO S w (fun w_ => Kd.C Kd.bool w_ A0_2 l0_2.length l0_2)) (hc0_2 : l0_2.length ≤ c0_2) (h : grid_Wall.f a0_0 a0_1 l0_2 a1_0 a1_1 = some r) :
    Calls Try.prog 18 #[.agg #[.int .i64 a0_0, .int .i64 a0_1, .slice A0_2 l0_2.length c0_2], .agg #[.int .i64 a1_0, .int .i64 a1_1]] w (grid_Wall.Post r S L w) := by
  have HR0_2 := Aside0.mk hr0_2
  have HC0_2 := Aside0.mk hc0_2
  clear hr0_2 hc0_2
  have HF := Aside0.mk hf
  have HS := Aside0.mk hs
  have HK := Aside0.mk (Keep.refl S w)
  clear hf hs
  have hu23 := Try.underlying23
  have hu29 := Try.underlying29
  have H : ((grid_In.f a0_0 a0_1 l0_2 a1_0 a1_1).bind fun t308 => (if t308 = true then ((grid_wall.f a0_0 a0_1 l0_2 a1_0 a1_1).bind fun t309 => (some t309)) else (some true))) = some r := h
  clear h
  replace H := Option.bind_eq_some_iff.1 H
  obtain ⟨t308, Hc10, H⟩ := H
  try dsimp only at H
  have Hc1 := Aside0.mk Hc10
  clear Hc10
  have H' := Aside0.mk H
  clear H
  go_enter Try.func18, Try.ntmps18
  go_wp2_with (first | ((with_reducible refine gate_dst (N := 2) rfl ?_); refine wpList_plain rfl (fun K_ hK_ => ?_); refine op_box (S := S) (cs := #[.int .i64 a0_0, .int .i64 a0_1, .slice A0_2 l0_2.length c0_2]) (t := 29) (HF.out.keep HK.out) HS.out (by first | (go_simp; done) | (go_simp; rfl)) ?_; intro g3000049 w2 hs_ hk_; refine hK_ _ _ ?_; clear hK_ K_; replace HS := Aside0.mk (hs_); replace HK := Aside0.mk (HK.out.trans hk_)) | ((with_reducible refine gate_dst (N := 3) rfl ?_); refine wpList_plain rfl (fun K_ hK_ => ?_); refine op_box (S := S) (cs := #[.int .i64 a1_0, .int .i64 a1_1]) (t := 23) (HF.out.keep HK.out) HS.out (by first | (go_simp; done) | (go_simp; rfl)) ?_; intro g3000050 w3 hs_ hk_; refine hK_ _ _ ?_; clear hK_ K_; replace HS := Aside0.mk (hs_); replace HK := Aside0.mk (HK.out.trans hk_); have hb_ := SL.at_ HS.out; have hz3000050_0_2 := ((blk_cell hb_ 0).trans rfl : _ = some (.int .i64 a1_0)); have hz3000050_1_2 := ((blk_cell hb_ 1).trans rfl : _ = some (.int .i64 a1_1)); clear hb_; have hb_ := SL.at_ (SL.get1 HS.out); have hz3000049_0_2 := ((blk_cell hb_ 0).trans rfl : _ = some (.int .i64 a0_0)); have hz3000049_1_2 := ((blk_cell hb_ 1).trans rfl : _ = some (.int .i64 a0_1)); have hz3000049_2_2 := ((blk_cell hb_ 2).trans rfl : _ = some (.slice A0_2 l0_2.length c0_2)); clear hb_) | ((with_reducible refine gate_dst (N := 7) rfl ?_); refine goesL_ (some 7) rfl rfl Try.func17 (by kernel_rfl) rfl #[.agg #[.int .i64 a0_0, .int .i64 a0_1, .slice A0_2 l0_2.length c0_2], .agg #[.int .i64 a1_0, .int .i64 a1_1]] rfl (by (try simp only [List.map_toArray, List.map_cons, List.map_nil]); first | done | rfl | (simp; done)) ?_; (with_reducible refine (grid_In.calls _ _ _ _ _ _ _ _ _ (RO.at_ HR0_2.out HK.out) HC0_2.out Hc1.out).mono ?_); rintro e_ w4 ⟨rfl, hb_⟩; refine ⟨_, rfl, ?_⟩; replace HS := Aside0.mk (HS.out.below hb_); replace HK := Aside0.mk (HK.out.trans (Keep.below hb_)); (try clear hz3000049_0_2 hz3000049_1_2 hz3000049_2_2); (try clear hz3000050_0_2 hz3000050_1_2); refine stop_ ?_; intro G_ hG_))
  have H := H'.out
  clear H'
  by_cases c5 : t308 = true
  · subst c5
    rw [if_pos rfl] at H
    replace H := Option.bind_eq_some_iff.1 H
    obtain ⟨t309, Hc60, H⟩ := H
    try dsimp only at H
    have Hc6 := Aside0.mk Hc60
    clear Hc60
    obtain rfl := Option.some.inj H
    have hb_ := SL.at_ HS.out
    have hz3000050_0_0 := ((blk_cell hb_ 0).trans rfl : _ = some (.int .i64 a1_0))
    have hz3000050_1_0 := ((blk_cell hb_ 1).trans rfl : _ = some (.int .i64 a1_1))
    clear hb_
    have hb_ := SL.at_ (SL.get1 HS.out)
    have hz3000049_0_0 := ((blk_cell hb_ 0).trans rfl : _ = some (.int .i64 a0_0))
    have hz3000049_1_0 := ((blk_cell hb_ 1).trans rfl : _ = some (.int .i64 a0_1))
    have hz3000049_2_0 := ((blk_cell hb_ 2).trans rfl : _ = some (.slice A0_2 l0_2.length c0_2))
    clear hb_
    refine hG_.out ?_
    go_wp2_with (first | ((with_reducible refine gate_dst (N := 12) rfl ?_); (try (refine gate_guard (by rfl) ?_; dsimp only)); refine goesL_ (some 12) rfl rfl Try.func28 (by kernel_rfl) rfl #[.agg #[.int .i64 a0_0, .int .i64 a0_1, .slice A0_2 l0_2.length c0_2], .agg #[.int .i64 a1_0, .int .i64 a1_1]] rfl (by (try simp only [List.map_toArray, List.map_cons, List.map_nil]); first | done | rfl | (simp; done)) ?_; (with_reducible refine (grid_wall.calls _ _ _ _ _ _ _ _ _ (RO.at_ HR0_2.out HK.out) HC0_2.out Hc6.out).mono ?_); rintro e_ w7 ⟨rfl, hb_⟩; refine ⟨_, rfl, ?_⟩; replace HS := Aside0.mk (HS.out.below hb_); replace HK := Aside0.mk (HK.out.trans (Keep.below hb_)); (try clear hz3000049_0_0 hz3000049_1_0 hz3000049_2_0); (try clear hz3000050_0_0 hz3000050_1_0)))
    go_ret
    replace HS := Aside0.mk (SL.tail (SL.tail HS.out))
    unfold grid_Wall.Post
    exact ⟨by first | rfl | (simp; done) | (simp [*]; done), HS.out, HK.out⟩
  · replace c5 := Bool.eq_false_iff.mpr c5
    subst c5
    rw [if_neg (show ¬ (false = true) by decide)] at H
    obtain rfl := Option.some.inj H
    refine hG_.out ?_
    go_wp2
    go_ret
    replace HS := Aside0.mk (SL.tail (SL.tail HS.out))
    unfold grid_Wall.Post
    exact ⟨by first | rfl | (simp; done) | (simp [*]; done), HS.out, HK.out⟩
theorem grid_Wall.calls (a0_0 : Int) (a0_1 : Int) (A0_2 : Option Addr) (c0_2 : Nat) (l0_2 : List Bool) (a1_0 : Int) (a1_1 : Int) (r : Bool) (w : World) (hr0_2 : Kd.C Kd.bool w A0_2 l0_2.length l0_2) (hc0_2 : l0_2.length ≤ c0_2) (h : grid_Wall.f a0_0 a0_1 l0_2 a1_0 a1_1 = some r) :
    Calls Try.prog 18 #[.agg #[.int .i64 a0_0, .int .i64 a0_1, .slice A0_2 l0_2.length c0_2], .agg #[.int .i64 a1_0, .int .i64 a1_1]] w fun e w' => e = .returned (.bool r) ∧ Below w.heap.size w w' :=
  (grid_Wall.slcalls a0_0 a0_1 A0_2 c0_2 l0_2 a1_0 a1_1 r (news w) [] w (fresh_news w) trivial (RO.top hr0_2) hc0_2 h).mono fun _ _ h => ⟨h.1, h.2.2.to_below⟩

-- NOT PRINTED: function 6 (barrowlaw06_GridNearer)

end Go.Proofs.Ytoalpmfkaijomaa.XGR
