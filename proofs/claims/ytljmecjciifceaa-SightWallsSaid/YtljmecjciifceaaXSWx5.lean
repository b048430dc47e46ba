-- Written by xprint.py (a program of this session) for this claim
import Derived.Test.YtljmecjciifceaaSL5
import Derived.Test.YtljmecjciifceaaXSWx0
import Derived.Test.YtljmecjciifceaaXSWx4
namespace Go.Proofs.Ytljmecjciifceaa.XSW
open Go.Proofs.YtljmecjciifceaaV Go.Proofs.YtljmecjciifceaaS
open Go.RowKit Go.Proofs.YtljmecjciifceaaW.PrintWords Go.Proofs.YtljmecjciifceaaW.PrintLast Go.Proofs.YtljmecjciifceaaW.PrintMore
attribute [local go_sem] max2_int min2_int max_two min_two max_three min_three max_four min_four   -- for this text's walks alone
set_option linter.unusedVariables false
set_option linter.unusedSimpArgs false

/-! ### sight_First_1_i1: function 26 -/
def sight_First_1_i1.f (k : Nat) (a0_0 : Int) (a0_1 : Int) (s1_0 : Int) (s1_1 : Int) (s1_2 : Int) (s1_3 : Int) (s2_0 : Int) (s2_1 : Int) (lo2_2 : List Bool) (s3_0 : Bool) (s4_0 : Int) (s4_1 : Int) (s5_0 : Int) (s5_1 : Int) : Option (Bool × Int × Int × Int × Int × Int × Int × Bool × Int × Int × Int × Int) := (sight_lane_walls_1_i1.f a0_0 a0_1 s1_0 s1_1 s1_2 s1_3 s2_0 s2_1 lo2_2).bind fun bt189 => (if bt189.1 = true then (if s3_0 = true then ((grid_Square.f k s4_0 s4_1 a0_0 a0_1).bind fun t196 => ((grid_Square.f k s4_0 s4_1 s5_0 s5_1).bind fun t197 => (if t196 < t197 then (some (true, bt189.2.1, bt189.2.2.1, bt189.2.2.2.1, bt189.2.2.2.2.1, bt189.2.2.2.2.2.1, bt189.2.2.2.2.2.2, true, s4_0, s4_1, a0_0, a0_1)) else (some (true, bt189.2.1, bt189.2.2.1, bt189.2.2.2.1, bt189.2.2.2.2.1, bt189.2.2.2.2.2.1, bt189.2.2.2.2.2.2, s3_0, s4_0, s4_1, s5_0, s5_1))))) else (some (true, bt189.2.1, bt189.2.2.1, bt189.2.2.2.1, bt189.2.2.2.2.1, bt189.2.2.2.2.2.1, bt189.2.2.2.2.2.2, true, s4_0, s4_1, a0_0, a0_1))) else (some (true, bt189.2.1, bt189.2.2.1, bt189.2.2.2.1, bt189.2.2.2.2.1, bt189.2.2.2.2.2.1, bt189.2.2.2.2.2.2, s3_0, s4_0, s4_1, s5_0, s5_1)))
theorem sight_First_1_i1.mono : ∀ a0 a1 a2 a3 a4 a5 a6 a7 a8 a9 a10 a11 a12 a13 k, LeO (sight_First_1_i1.f k a0 a1 a2 a3 a4 a5 a6 a7 a8 a9 a10 a11 a12 a13) (sight_First_1_i1.f (k + 1) a0 a1 a2 a3 a4 a5 a6 a7 a8 a9 a10 a11 a12 a13) := by
  intro a0 a1 a2 a3 a4 a5 a6 a7 a8 a9 a10 a11 a12 a13 k
  unfold sight_First_1_i1.f
  repeat' first
      | (with_reducible exact grid_Square.mono _ _ _ _ _)
      | (with_reducible exact LeO.refl _)
      | (with_reducible exact LeO.none _)
      | (with_reducible refine LeO.ite ?_ ?_)
      | (with_reducible refine everyOf_le (fun _ => ?_))
      | (with_reducible refine LeO.bind ?_ (fun _ => ?_))
      | exact grid_Square.mono _ _ _ _ _
      | exact LeO.none _
      | refine LeO.ite ?_ ?_
      | refine LeO.bind ?_ (fun _ => ?_)
def sight_First_1_i1.T1 : Bool × List (List Nat × List Nat) := (true, [([], []), ([], []), ([0, 1], [0, 1]), ([2, 2], [2]), ([3], [3]), ([4, 3], [3, 4]), ([5, 3, 3], [3, 5]), ([6], [6]), ([6], [6]), ([7, 8, 6, 6], [6, 7, 8]), ([6], [6]), ([6], [6]), ([10, 11, 9, 6], [6, 10, 11]), ([9, 12, 6], [6, 9, 12]), ([6, 13, 3], [3, 6, 13]), ([3, 14], [3, 14])])
def sight_First_1_i1.B1 : List Nat := [0, 0, 3, 7, 15, 31, 63, 127, 127, 511, 127, 127, 4095, 8191, 16383, 32767]
theorem sight_First_1_i1.tab1 : rtab .any (opsOf Try.f26 1) = sight_First_1_i1.T1 := by kernel_rfl
theorem sight_First_1_i1.bits1 : waitsOk sight_First_1_i1.T1.2 sight_First_1_i1.B1 = true := by kernel_rfl
def sight_First_1_i1.Post (b0 : Nat) (b1 : Nat) (b2 : Nat) (Ao2_2 : Option Addr) (co2_2 : Nat) (lo2_2 : List Bool) (b3 : Nat) (b4 : Nat) (b5 : Nat) (r1 : Bool) (r2 : Int) (r3 : Int) (r4 : Int) (r5 : Int) (r6 : Int) (r7 : Int) (r8 : Bool) (r9 : Int) (r10 : Int) (r11 : Int) (r12 : Int) (S : Nat → Prop) (L : List Asr) (w : World) (e : Ending) (w' : World) : Prop := e = .returned (.bool r1) ∧ SL (cells b0 46 [.func (.func 40) #[] #[.pointer (some ⟨b1, 0, none⟩), .pointer (some ⟨b2, 0, none⟩)]].toArray :: cells b1 43 [.int .i64 r2, .int .i64 r3, .int .i64 r4, .int .i64 r5].toArray :: cells b2 24 [.int .i64 r6, .int .i64 r7, .slice Ao2_2 lo2_2.length co2_2].toArray :: cells b3 4 [.bool r8].toArray :: cells b4 26 [.int .i64 r9, .int .i64 r10].toArray :: cells b5 26 [.int .i64 r11, .int .i64 r12].toArray :: L) w' S ∧ Keep S w w'
set_option maxHeartbeats 8000000 in
set_option maxRecDepth 100000 in
theorem sight_First_1_i1.slcalls (k : Nat) (a0_0 : Int) (a0_1 : Int) (b0 : Nat) (b1 : Nat) (s1_0 : Int) (s1_1 : Int) (s1_2 : Int) (s1_3 : Int) (b2 : Nat) (s2_0 : Int) (s2_1 : Int) (Ao2_2 : Option Addr) (co2_2 : Nat) (lo2_2 : List Bool) (b3 : Nat) (s3_0 : Bool) (b4 : Nat) (s4_0 : Int) (s4_1 : Int) (b5 : Nat) (s5_0 : Int) (s5_1 : Int) (r1 : Bool) (r2 : Int) (r3 : Int) (r4 : Int) (r5 : Int) (r6 : Int) (r7 : Int) (r8 : Bool) (r9 : Int) (r10 : Int) (r11 : Int) (r12 : Int) (S : Nat → Prop) (L : List Asr) (w : World) (hf : Fresh S w) (hs : SL (cells b0 46 [.func (.func 40) #[] #[.pointer (some ⟨b1, 0, none⟩), .pointer (some ⟨b2, 0, none⟩)]].toArray :: cells b1 43 [.int .i64 s1_0, .int .i64 s1_1, .int .i64 s1_2, .int .i64 s1_3].toArray :: cells b2 24 [.int .i64 s2_0, .int .i64 s2_1, .slice Ao2_2 lo2_2.length co2_2].toArray :: cells b3 4 [.bool s3_0].toArray :: cells b4 26 [.int .i64 s4_0, .int .i64 s4_1].toArray :: cells b5 26 [.int .i64 s5_0, .int .i64 s5_1].toArray :: L) w S) (hro2_2 : RO S w (fun w_ => Kd.C Kd.bool w_ Ao2_2 lo2_2.length lo2_2)) (hco2_2 : lo2_2.length ≤ co2_2) (h : sight_First_1_i1.f k a0_0 a0_1 s1_0 s1_1 s1_2 s1_3 s2_0 s2_1 lo2_2 s3_0 s4_0 s4_1 s5_0 s5_1 = some (r1, r2, r3, r4, r5, r6, r7, r8, r9, r10, r11, r12)) :
    Calls Try.prog 26 #[.agg #[.int .i64 a0_0, .int .i64 a0_1], .pointer (some ⟨b0, 0, none⟩), .pointer (some ⟨b3, 0, none⟩), .pointer (some ⟨b4, 0, none⟩), .pointer (some ⟨b5, 0, none⟩)] w (sight_First_1_i1.Post b0 b1 b2 Ao2_2 co2_2 lo2_2 b3 b4 b5 r1 r2 r3 r4 r5 r6 r7 r8 r9 r10 r11 r12 S L w) := by
  have HRo2_2 := Aside0.mk hro2_2
  have HCo2_2 := Aside0.mk hco2_2
  clear hro2_2 hco2_2
  have HF := Aside0.mk hf
  have HS := Aside0.mk hs
  have HK := Aside0.mk (Keep.refl S w)
  clear hf hs
  have hu26 := Try.underlying26
  have H : ((sight_lane_walls_1_i1.f a0_0 a0_1 s1_0 s1_1 s1_2 s1_3 s2_0 s2_1 lo2_2).bind fun bt189 => (if bt189.1 = true then (if s3_0 = true then ((grid_Square.f k s4_0 s4_1 a0_0 a0_1).bind fun t196 => ((grid_Square.f k s4_0 s4_1 s5_0 s5_1).bind fun t197 => (if t196 < t197 then (some (true, bt189.2.1, bt189.2.2.1, bt189.2.2.2.1, bt189.2.2.2.2.1, bt189.2.2.2.2.2.1, bt189.2.2.2.2.2.2, true, s4_0, s4_1, a0_0, a0_1)) else (some (true, bt189.2.1, bt189.2.2.1, bt189.2.2.2.1, bt189.2.2.2.2.1, bt189.2.2.2.2.2.1, bt189.2.2.2.2.2.2, s3_0, s4_0, s4_1, s5_0, s5_1))))) else (some (true, bt189.2.1, bt189.2.2.1, bt189.2.2.2.1, bt189.2.2.2.2.1, bt189.2.2.2.2.2.1, bt189.2.2.2.2.2.2, true, s4_0, s4_1, a0_0, a0_1))) else (some (true, bt189.2.1, bt189.2.2.1, bt189.2.2.2.1, bt189.2.2.2.2.1, bt189.2.2.2.2.2.1, bt189.2.2.2.2.2.2, s3_0, s4_0, s4_1, s5_0, s5_1)))) = some (r1, r2, r3, r4, r5, r6, r7, r8, r9, r10, r11, r12) := h
  clear h
  replace H := Option.bind_eq_some_iff.1 H
  obtain ⟨⟨t189, t190, t191, t192, t193, t194, t195⟩, Hc10, H⟩ := H
  try dsimp only at H
  have Hc1 := Aside0.mk Hc10
  clear Hc10
  by_cases c2 : t189 = true
  · subst c2
    rw [if_pos rfl] at H
    by_cases c3 : s3_0 = true
    · subst c3
      rw [if_pos rfl] at H
      replace H := Option.bind_eq_some_iff.1 H
      obtain ⟨t196, Hc40, H⟩ := H
      try dsimp only at H
      have Hc4 := Aside0.mk Hc40
      clear Hc40
      replace H := Option.bind_eq_some_iff.1 H
      obtain ⟨t197, Hc50, H⟩ := H
      try dsimp only at H
      have Hc5 := Aside0.mk Hc50
      clear Hc50
      have H' := Aside0.mk H
      clear H
      go_enter Try.func26, Try.ntmps26
      try go_wp2_with (first | ((with_reducible refine gate_dst (N := 5) rfl ?_); refine wpList_plain rfl (fun K_ hK_ => ?_); refine op_box (S := S) (cs := #[.int .i64 a0_0, .int .i64 a0_1]) (t := 26) (HF.out.keep HK.out) HS.out (by first | (go_simp; done) | (go_simp; rfl)) ?_; intro g3000024 w6 hs_ hk_; refine hK_ _ _ ?_; clear hK_ K_; replace HS := Aside0.mk (hs_); replace HK := Aside0.mk (HK.out.trans hk_)))
      refine start_ (n := 16) (S := fun w' => w'.cell? ⟨b0, 0, none⟩ = some (.func (.func 40) #[] #[.pointer (some ⟨b1, 0, none⟩), .pointer (some ⟨b2, 0, none⟩)]) ∧ w'.cell? ⟨g3000024, 0, none⟩ = some (.int .i64 a0_0) ∧ w'.cell? ⟨g3000024, 1, none⟩ = some (.int .i64 a0_1) ∧ w'.cell? ⟨b3, 0, none⟩ = some (.bool true) ∧ w'.cell? ⟨b4, 0, none⟩ = some (.int .i64 s4_0) ∧ w'.cell? ⟨b4, 1, none⟩ = some (.int .i64 s4_1) ∧ w'.cell? ⟨b5, 0, none⟩ = some (.int .i64 s5_0) ∧ w'.cell? ⟨b5, 1, none⟩ = some (.int .i64 s5_1)) (ds := []) #[false, false, false, false, false, false, false, false, false, false, false, false, false, false, false, false] (by kernel_rfl) rfl rfl ⟨(((blk_cell (SL.at_ (SL.get1 HS.out)) 0).trans rfl)), (((blk_cell (SL.at_ HS.out) 0).trans rfl)), (((blk_cell (SL.at_ HS.out) 1).trans rfl)), (((blk_cell (SL.at_ (SL.get4 HS.out)) 0).trans rfl)), (((blk_cell (SL.at_ (SL.get5 HS.out)) 0).trans rfl)), (((blk_cell (SL.at_ (SL.get5 HS.out)) 1).trans rfl)), (((blk_cell (SL.at_ (SL.get6 HS.out)) 0).trans rfl)), (((blk_cell (SL.at_ (SL.get6 HS.out)) 1).trans rfl))⟩ (fun hHeld => ?_); refine with_tabW sight_First_1_i1.tab1 sight_First_1_i1.bits1 (fun HT_ HW_ => ?_)
      replace HK := Aside0.mk (Keep.drew HK.out)
      replace HS := Aside0.mk (SL.drew HS.out)
      refine take_ (i := 0) (N := some 7) (v := ?_) (a' := ?_) #[true, false, false, false, false, false, false, false, false, false, false, false, false, false, false, false] rfl rfl (take_ofW HT_.out HW_.out (by kernel_rfl)) (fun _ _ _ h => h) (Or.inl ⟨by rfl, ?_⟩) hHeld ?_ ?_; rotate_left
      · rintro w' ⟨s0, s1, s2, s3, s4, s5, s6, s7⟩
        go_simp
        with_reducible rfl
      rotate_left; · (simp only [Act.put, sT, sZ, sS, i64_w, i32_w]; rfl)
      refine take_ (i := 1) (N := some 8) (v := ?_) (a' := ?_) #[true, true, false, false, false, false, false, false, false, false, false, false, false, false, false, false] rfl rfl (take_ofW HT_.out HW_.out (by kernel_rfl)) (fun _ _ _ h => h) (Or.inl ⟨by rfl, ?_⟩) hHeld ?_ ?_; rotate_left
      · rintro w' ⟨s0, s1, s2, s3, s4, s5, s6, s7⟩
        go_simp
        with_reducible rfl
      rotate_left; · (simp only [Act.put, sT, sZ, sS, i64_w, i32_w]; rfl)
      refine one_ (i := 2) (N := some 9) #[true, true, true, false, false, false, false, false, false, false, false, false, false, false, false, false] rfl rfl (one_of HT_.out (by kernel_rfl)) (by decide) (fun K hK => ?_)
      refine goesc_ Try.func40 (by kernel_rfl) rfl #[.agg #[.int .i64 a0_0, .int .i64 a0_1], .pointer (some ⟨b1, 0, none⟩), .pointer (some ⟨b2, 0, none⟩)] (by rfl) rfl rfl (by with_unfolding_all rfl) (by (try simp only [List.map_toArray, List.map_cons, List.map_nil]); first | done | rfl | (simp; done)) ?_
      have hs0_ := (SL.get3 (SL.get3 HS.out))
      (with_reducible refine (sight_lane_walls_1_i1.slcalls _ _ _ _ _ _ _ _ _ _ _ _ _ _ _ _ _ _ _ _ _ _ _ (HF.out.keep HK.out) hs0_ (HRo2_2.out.keep HK.out) HCo2_2.out Hc1.out).mono ?_)
      rintro e_ w7 ⟨rfl, hsr_, hkr_⟩
      refine ⟨_, rfl, ?_⟩
      replace HS := Aside0.mk (hsr_)
      replace HK := Aside0.mk (HK.out.trans hkr_)
      refine hK.out _ _ ⟨(((blk_cell (SL.at_ (SL.get3 HS.out)) 0).trans rfl)), (((blk_cell (SL.at_ (SL.get2 HS.out)) 0).trans rfl)), (((blk_cell (SL.at_ (SL.get2 HS.out)) 1).trans rfl)), (((blk_cell (SL.at_ (SL.get4 HS.out)) 0).trans rfl)), (((blk_cell (SL.at_ (SL.get5 HS.out)) 0).trans rfl)), (((blk_cell (SL.at_ (SL.get5 HS.out)) 1).trans rfl)), (((blk_cell (SL.at_ (SL.get6 HS.out)) 0).trans rfl)), (((blk_cell (SL.at_ (SL.get6 HS.out)) 1).trans rfl))⟩ (fun hHeld => ?_)
      clear hK K
      refine norm_ (a' := ?_) ?_ ?_; rotate_left
      · show Act.put _ (some 9) _ = _
        simp only [Act.put, sT, sZ, sS, i64_w, i32_w]
        rfl
      refine pure_ (i := 3) (N := some 10) (v := ?_) (a' := ?_) #[true, true, true, true, false, false, false, false, false, false, false, false, false, false, false, false] rfl rfl (any_of HT_.out (by kernel_rfl)) (fun _ _ _ h => h) (Or.inl ⟨by rfl, ?_⟩) ?_ ?_; rotate_left; · (intro w'; go_simp; with_reducible rfl)
      rotate_left; · (simp only [Act.put, sT, sZ, sS, i64_w, i32_w]; rfl)
      refine take_ (i := 4) (N := some 11) (v := ?_) (a' := ?_) #[true, true, true, true, true, false, false, false, false, false, false, false, false, false, false, false] rfl rfl (take_ofW HT_.out HW_.out (by kernel_rfl)) (fun _ _ _ h => h) (Or.inl ⟨by rfl, ?_⟩) hHeld ?_ ?_; rotate_left
      · rintro w' ⟨s0, s1, s2, s3, s4, s5, s6, s7⟩
        go_simp
        with_reducible rfl
      rotate_left; · (simp only [Act.put, sT, sZ, sS, i64_w, i32_w]; rfl)
      refine pure_ (i := 5) (N := some 12) (v := ?_) (a' := ?_) #[true, true, true, true, true, true, false, false, false, false, false, false, false, false, false, false] rfl rfl (any_of HT_.out (by kernel_rfl)) (fun _ _ _ h => h) (Or.inl ⟨by rfl, ?_⟩) ?_ ?_; rotate_left; · (intro w'; go_simp; with_reducible rfl)
      rotate_left; · (simp only [Act.put, sT, sZ, sS, i64_w, i32_w]; rfl)
      refine pure_ (i := 6) (N := some 13) (v := ?_) (a' := ?_) #[true, true, true, true, true, true, true, false, false, false, false, false, false, false, false, false] rfl rfl (any_of HT_.out (by kernel_rfl)) (fun _ _ _ h => h) (Or.inl ⟨by rfl, ?_⟩) ?_ ?_; rotate_left; · (intro w'; go_simp; with_reducible rfl)
      rotate_left; · (simp only [Act.put, sT, sZ, sS, i64_w, i32_w]; rfl)
      refine take_ (i := 7) (N := some 14) (v := ?_) (a' := ?_) #[true, true, true, true, true, true, true, true, false, false, false, false, false, false, false, false] rfl rfl (take_ofW HT_.out HW_.out (by kernel_rfl)) (fun _ _ _ h => h) (Or.inl ⟨by rfl, ?_⟩) hHeld ?_ ?_; rotate_left
      · rintro w' ⟨s0, s1, s2, s3, s4, s5, s6, s7⟩
        go_simp
        with_reducible rfl
      rotate_left; · (simp only [Act.put, sT, sZ, sS, i64_w, i32_w]; rfl)
      refine take_ (i := 8) (N := some 15) (v := ?_) (a' := ?_) #[true, true, true, true, true, true, true, true, true, false, false, false, false, false, false, false] rfl rfl (take_ofW HT_.out HW_.out (by kernel_rfl)) (fun _ _ _ h => h) (Or.inl ⟨by rfl, ?_⟩) hHeld ?_ ?_; rotate_left
      · rintro w' ⟨s0, s1, s2, s3, s4, s5, s6, s7⟩
        go_simp
        with_reducible rfl
      rotate_left; · (simp only [Act.put, sT, sZ, sS, i64_w, i32_w]; rfl)
      refine take_ (i := 10) (N := some 17) (v := ?_) (a' := ?_) #[true, true, true, true, true, true, true, true, true, false, true, false, false, false, false, false] rfl rfl (take_ofW HT_.out HW_.out (by kernel_rfl)) (fun _ _ _ h => h) (Or.inl ⟨by rfl, ?_⟩) hHeld ?_ ?_; rotate_left
      · rintro w' ⟨s0, s1, s2, s3, s4, s5, s6, s7⟩
        go_simp
        with_reducible rfl
      rotate_left; · (simp only [Act.put, sT, sZ, sS, i64_w, i32_w]; rfl)
      refine take_ (i := 11) (N := some 18) (v := ?_) (a' := ?_) #[true, true, true, true, true, true, true, true, true, false, true, true, false, false, false, false] rfl rfl (take_ofW HT_.out HW_.out (by kernel_rfl)) (fun _ _ _ h => h) (Or.inl ⟨by rfl, ?_⟩) hHeld ?_ ?_; rotate_left
      · rintro w' ⟨s0, s1, s2, s3, s4, s5, s6, s7⟩
        go_simp
        with_reducible rfl
      rotate_left; · (simp only [Act.put, sT, sZ, sS, i64_w, i32_w]; rfl)
      refine one_ (i := 9) (N := some 16) #[true, true, true, true, true, true, true, true, true, true, true, true, false, false, false, false] rfl rfl (one_of HT_.out (by kernel_rfl)) (by decide) (fun K hK => ?_)
      refine goes_ Try.func27 (by kernel_rfl) rfl #[.agg #[.int .i64 s4_0, .int .i64 s4_1], .agg #[.int .i64 a0_0, .int .i64 a0_1]] (by rfl) rfl rfl (by (try simp only [List.map_toArray, List.map_cons, List.map_nil]); first | done | rfl | (simp; done)) ?_
      (with_reducible refine (grid_Square.calls k _ _ _ _ _ _  Hc4.out).mono ?_)
      rintro e_ w8 ⟨rfl, hb_⟩
      refine ⟨_, rfl, ?_⟩
      replace HS := Aside0.mk (HS.out.below hb_)
      replace HK := Aside0.mk (HK.out.trans (Keep.below hb_))
      refine hK.out _ _ ⟨(((blk_cell (SL.at_ (SL.get3 HS.out)) 0).trans rfl)), (((blk_cell (SL.at_ (SL.get2 HS.out)) 0).trans rfl)), (((blk_cell (SL.at_ (SL.get2 HS.out)) 1).trans rfl)), (((blk_cell (SL.at_ (SL.get4 HS.out)) 0).trans rfl)), (((blk_cell (SL.at_ (SL.get5 HS.out)) 0).trans rfl)), (((blk_cell (SL.at_ (SL.get5 HS.out)) 1).trans rfl)), (((blk_cell (SL.at_ (SL.get6 HS.out)) 0).trans rfl)), (((blk_cell (SL.at_ (SL.get6 HS.out)) 1).trans rfl))⟩ (fun hHeld => ?_)
      clear hK K
      refine norm_ (a' := ?_) ?_ ?_; rotate_left
      · show Act.put _ (some 16) _ = _
        simp only [Act.put, sT, sZ, sS, i64_w, i32_w]
        rfl
      refine one_ (i := 12) (N := some 19) #[true, true, true, true, true, true, true, true, true, true, true, true, true, false, false, false] rfl rfl (one_of HT_.out (by kernel_rfl)) (by decide) (fun K hK => ?_)
      refine goes_ Try.func27 (by kernel_rfl) rfl #[.agg #[.int .i64 s4_0, .int .i64 s4_1], .agg #[.int .i64 s5_0, .int .i64 s5_1]] (by rfl) rfl rfl (by (try simp only [List.map_toArray, List.map_cons, List.map_nil]); first | done | rfl | (simp; done)) ?_
      (with_reducible refine (grid_Square.calls k _ _ _ _ _ _  Hc5.out).mono ?_)
      rintro e_ w9 ⟨rfl, hb_⟩
      refine ⟨_, rfl, ?_⟩
      replace HS := Aside0.mk (HS.out.below hb_)
      replace HK := Aside0.mk (HK.out.trans (Keep.below hb_))
      refine hK.out _ _ ⟨(((blk_cell (SL.at_ (SL.get3 HS.out)) 0).trans rfl)), (((blk_cell (SL.at_ (SL.get2 HS.out)) 0).trans rfl)), (((blk_cell (SL.at_ (SL.get2 HS.out)) 1).trans rfl)), (((blk_cell (SL.at_ (SL.get4 HS.out)) 0).trans rfl)), (((blk_cell (SL.at_ (SL.get5 HS.out)) 0).trans rfl)), (((blk_cell (SL.at_ (SL.get5 HS.out)) 1).trans rfl)), (((blk_cell (SL.at_ (SL.get6 HS.out)) 0).trans rfl)), (((blk_cell (SL.at_ (SL.get6 HS.out)) 1).trans rfl))⟩ (fun hHeld => ?_)
      clear hK K
      refine norm_ (a' := ?_) ?_ ?_; rotate_left
      · show Act.put _ (some 19) _ = _
        simp only [Act.put, sT, sZ, sS, i64_w, i32_w]
        rfl
      refine pure_ (i := 13) (N := some 20) (v := ?_) (a' := ?_) #[true, true, true, true, true, true, true, true, true, true, true, true, true, true, false, false] rfl rfl (any_of HT_.out (by kernel_rfl)) (fun _ _ _ h => h) (Or.inl ⟨by rfl, ?_⟩) ?_ ?_; rotate_left; · (intro w'; go_simp; with_reducible rfl)
      rotate_left; · (simp only [Act.put, sT, sZ, sS, i64_w, i32_w]; rfl)
      refine pure_ (i := 14) (N := some 21) (v := ?_) (a' := ?_) #[true, true, true, true, true, true, true, true, true, true, true, true, true, true, true, false] rfl rfl (any_of HT_.out (by kernel_rfl)) (fun _ _ _ h => h) (Or.inl ⟨by rfl, ?_⟩) ?_ ?_; rotate_left; · (intro w'; go_simp; with_reducible rfl)
      rotate_left; · (simp only [Act.put, sT, sZ, sS, i64_w, i32_w]; rfl)
      refine pure_ (i := 15) (N := some 22) (v := ?_) (a' := ?_) #[true, true, true, true, true, true, true, true, true, true, true, true, true, true, true, true] rfl rfl (any_of HT_.out (by kernel_rfl)) (fun _ _ _ h => h) (Or.inl ⟨by rfl, ?_⟩) ?_ ?_; rotate_left; · (intro w'; go_simp; with_reducible rfl)
      rotate_left; · (simp only [Act.put, sT, sZ, sS, i64_w, i32_w]; rfl)
      refine done_ (done_of HT_.out (by kernel_rfl)) ?_
      have H := H'.out
      clear H'
      by_cases c10 : t196 < t197
      · rw [if_pos c10] at H
        have c10b0 : decide (t196 < t197) = true := decide_eq_true c10
        clear c10
        simp only [Option.some.injEq, Prod.mk.injEq] at H
        obtain ⟨rfl, rfl, rfl, rfl, rfl, rfl, rfl, rfl, rfl, rfl, rfl, rfl⟩ := H
        have hb_ := SL.at_ (SL.get2 HS.out)
        have hz3000024_0_0 := ((blk_cell hb_ 0).trans rfl : _ = some (.int .i64 a0_0))
        have hz3000024_1_0 := ((blk_cell hb_ 1).trans rfl : _ = some (.int .i64 a0_1))
        clear hb_
        try simp only [c10b0]
        go_wp2_with (first | ((with_reducible refine gate_store (t := 26) (p := 4) (v := (.tmp 23)) rfl ?_); refine wpList_plain rfl (fun K_ hK_ => ?_); refine op_store (S := S) 26 (.tmp 4) (.tmp 23) rfl b5 0 (.agg #[.int .i64 a0_0, .int .i64 a0_1]) [.int .i64 a0_0, .int .i64 a0_1] rfl rfl rfl (by kernel_rfl) (by simp [Value.oneCell']) (SL.get6 HS.out) (by simp) ?_; intro w11 hs_ hk_; refine hK_ _ _ ?_; clear hK_ K_; replace HS := Aside0.mk ((SL.back6 (show SL (cells b5 26 [.int .i64 a0_0, .int .i64 a0_1].toArray :: _) _ _ from hs_))); replace HK := Aside0.mk (HK.out.trans hk_); (try clear hz3000024_0_0 hz3000024_1_0)) | ((with_reducible refine gate_store (t := 4) (p := 2) (v := (.const (.bool true))) rfl ?_); refine wpList_plain rfl (fun K_ hK_ => ?_); refine op_store (S := S) 4 (.tmp 2) (.const (.bool true)) rfl b3 0 (.bool true) [.bool true] rfl rfl rfl (by kernel_rfl) (by simp [Value.oneCell']) (SL.get4 HS.out) (by simp) ?_; intro w12 hs_ hk_; refine hK_ _ _ ?_; clear hK_ K_; replace HS := Aside0.mk ((SL.back4 (show SL (cells b3 4 [.bool true].toArray :: _) _ _ from hs_))); replace HK := Aside0.mk (HK.out.trans hk_)))
        go_ret
        replace HS := Aside0.mk (SL.get5 (SL.get4 (SL.get4 (SL.get5 (SL.get5 (SL.get5 (SL.tail (SL.get2 HS.out))))))))
        unfold sight_First_1_i1.Post
        exact ⟨by first | rfl | (simp; done) | (simp [*]; done) | (simp at c10b0 ⊢; first | exact c10b0 | (simp [c10b0]; done)), HS.out, HK.out⟩
      · rw [if_neg c10] at H
        have c10b0 : decide (t196 < t197) = false := decide_eq_false c10
        clear c10
        simp only [Option.some.injEq, Prod.mk.injEq] at H
        obtain ⟨rfl, rfl, rfl, rfl, rfl, rfl, rfl, rfl, rfl, rfl, rfl, rfl⟩ := H
        try simp only [c10b0]
        go_wp2
        go_ret
        replace HS := Aside0.mk (SL.get5 (SL.get4 (SL.get4 (SL.get5 (SL.get5 (SL.get5 (SL.tail (SL.get2 HS.out))))))))
        unfold sight_First_1_i1.Post
        exact ⟨by first | rfl | (simp; done) | (simp [*]; done) | (simp at c10b0 ⊢; first | exact c10b0 | (simp [c10b0]; done)), HS.out, HK.out⟩
    · replace c3 := Bool.eq_false_iff.mpr c3
      subst c3
      rw [if_neg (show ¬ (false = true) by decide)] at H
      simp only [Option.some.injEq, Prod.mk.injEq] at H
      obtain ⟨rfl, rfl, rfl, rfl, rfl, rfl, rfl, rfl, rfl, rfl, rfl, rfl⟩ := H
      go_enter Try.func26, Try.ntmps26
      try go_wp2_with (first | ((with_reducible refine gate_dst (N := 5) rfl ?_); refine wpList_plain rfl (fun K_ hK_ => ?_); refine op_box (S := S) (cs := #[.int .i64 a0_0, .int .i64 a0_1]) (t := 26) (HF.out.keep HK.out) HS.out (by first | (go_simp; done) | (go_simp; rfl)) ?_; intro g3000024 w13 hs_ hk_; refine hK_ _ _ ?_; clear hK_ K_; replace HS := Aside0.mk (hs_); replace HK := Aside0.mk (HK.out.trans hk_)))
      refine start_ (n := 16) (S := fun w' => w'.cell? ⟨b0, 0, none⟩ = some (.func (.func 40) #[] #[.pointer (some ⟨b1, 0, none⟩), .pointer (some ⟨b2, 0, none⟩)]) ∧ w'.cell? ⟨g3000024, 0, none⟩ = some (.int .i64 a0_0) ∧ w'.cell? ⟨g3000024, 1, none⟩ = some (.int .i64 a0_1) ∧ w'.cell? ⟨b3, 0, none⟩ = some (.bool false)) (ds := []) #[false, false, false, false, false, false, false, false, false, false, false, false, false, false, false, false] (by kernel_rfl) rfl rfl ⟨(((blk_cell (SL.at_ (SL.get1 HS.out)) 0).trans rfl)), (((blk_cell (SL.at_ HS.out) 0).trans rfl)), (((blk_cell (SL.at_ HS.out) 1).trans rfl)), (((blk_cell (SL.at_ (SL.get4 HS.out)) 0).trans rfl))⟩ (fun hHeld => ?_); refine with_tabW sight_First_1_i1.tab1 sight_First_1_i1.bits1 (fun HT_ HW_ => ?_)
      replace HK := Aside0.mk (Keep.drew HK.out)
      replace HS := Aside0.mk (SL.drew HS.out)
      refine take_ (i := 0) (N := some 7) (v := ?_) (a' := ?_) #[true, false, false, false, false, false, false, false, false, false, false, false, false, false, false, false] rfl rfl (take_ofW HT_.out HW_.out (by kernel_rfl)) (fun _ _ _ h => h) (Or.inl ⟨by rfl, ?_⟩) hHeld ?_ ?_; rotate_left
      · rintro w' ⟨s0, s1, s2, s3⟩
        go_simp
        with_reducible rfl
      rotate_left; · (simp only [Act.put, sT, sZ, sS, i64_w, i32_w]; rfl)
      refine take_ (i := 1) (N := some 8) (v := ?_) (a' := ?_) #[true, true, false, false, false, false, false, false, false, false, false, false, false, false, false, false] rfl rfl (take_ofW HT_.out HW_.out (by kernel_rfl)) (fun _ _ _ h => h) (Or.inl ⟨by rfl, ?_⟩) hHeld ?_ ?_; rotate_left
      · rintro w' ⟨s0, s1, s2, s3⟩
        go_simp
        with_reducible rfl
      rotate_left; · (simp only [Act.put, sT, sZ, sS, i64_w, i32_w]; rfl)
      refine one_ (i := 2) (N := some 9) #[true, true, true, false, false, false, false, false, false, false, false, false, false, false, false, false] rfl rfl (one_of HT_.out (by kernel_rfl)) (by decide) (fun K hK => ?_)
      refine goesc_ Try.func40 (by kernel_rfl) rfl #[.agg #[.int .i64 a0_0, .int .i64 a0_1], .pointer (some ⟨b1, 0, none⟩), .pointer (some ⟨b2, 0, none⟩)] (by rfl) rfl rfl (by with_unfolding_all rfl) (by (try simp only [List.map_toArray, List.map_cons, List.map_nil]); first | done | rfl | (simp; done)) ?_
      have hs0_ := (SL.get3 (SL.get3 HS.out))
      (with_reducible refine (sight_lane_walls_1_i1.slcalls _ _ _ _ _ _ _ _ _ _ _ _ _ _ _ _ _ _ _ _ _ _ _ (HF.out.keep HK.out) hs0_ (HRo2_2.out.keep HK.out) HCo2_2.out Hc1.out).mono ?_)
      rintro e_ w14 ⟨rfl, hsr_, hkr_⟩
      refine ⟨_, rfl, ?_⟩
      replace HS := Aside0.mk (hsr_)
      replace HK := Aside0.mk (HK.out.trans hkr_)
      refine hK.out _ _ ⟨(((blk_cell (SL.at_ (SL.get3 HS.out)) 0).trans rfl)), (((blk_cell (SL.at_ (SL.get2 HS.out)) 0).trans rfl)), (((blk_cell (SL.at_ (SL.get2 HS.out)) 1).trans rfl)), (((blk_cell (SL.at_ (SL.get4 HS.out)) 0).trans rfl))⟩ (fun hHeld => ?_)
      clear hK K
      refine norm_ (a' := ?_) ?_ ?_; rotate_left
      · show Act.put _ (some 9) _ = _
        simp only [Act.put, sT, sZ, sS, i64_w, i32_w]
        rfl
      refine pure_ (i := 3) (N := some 10) (v := ?_) (a' := ?_) #[true, true, true, true, false, false, false, false, false, false, false, false, false, false, false, false] rfl rfl (any_of HT_.out (by kernel_rfl)) (fun _ _ _ h => h) (Or.inl ⟨by rfl, ?_⟩) ?_ ?_; rotate_left; · (intro w'; go_simp; with_reducible rfl)
      rotate_left; · (simp only [Act.put, sT, sZ, sS, i64_w, i32_w]; rfl)
      refine take_ (i := 4) (N := some 11) (v := ?_) (a' := ?_) #[true, true, true, true, true, false, false, false, false, false, false, false, false, false, false, false] rfl rfl (take_ofW HT_.out HW_.out (by kernel_rfl)) (fun _ _ _ h => h) (Or.inl ⟨by rfl, ?_⟩) hHeld ?_ ?_; rotate_left
      · rintro w' ⟨s0, s1, s2, s3⟩
        go_simp
        with_reducible rfl
      rotate_left; · (simp only [Act.put, sT, sZ, sS, i64_w, i32_w]; rfl)
      refine pure_ (i := 5) (N := some 12) (v := ?_) (a' := ?_) #[true, true, true, true, true, true, false, false, false, false, false, false, false, false, false, false] rfl rfl (any_of HT_.out (by kernel_rfl)) (fun _ _ _ h => h) (Or.inl ⟨by rfl, ?_⟩) ?_ ?_; rotate_left; · (intro w'; go_simp; with_reducible rfl)
      rotate_left; · (simp only [Act.put, sT, sZ, sS, i64_w, i32_w]; rfl)
      refine pure_ (i := 6) (N := some 13) (v := ?_) (a' := ?_) #[true, true, true, true, true, true, true, false, false, false, false, false, false, false, false, false] rfl rfl (any_of HT_.out (by kernel_rfl)) (fun _ _ _ h => h) (Or.inl ⟨by rfl, ?_⟩) ?_ ?_; rotate_left; · (intro w'; go_simp; with_reducible rfl)
      rotate_left; · (simp only [Act.put, sT, sZ, sS, i64_w, i32_w]; rfl)
      refine pure_ (i := 7) (N := some 14) (v := undef) (a' := ?_) #[true, true, true, true, true, true, true, true, false, false, false, false, false, false, false, false] rfl rfl (any_of HT_.out (by kernel_rfl)) (fun _ _ _ h => h) (Or.inr ⟨by rfl, rfl⟩) ?_ ?_; rotate_left; · (simp only [Act.put, sT, sZ, sS, i64_w, i32_w]; rfl)
      refine pure_ (i := 8) (N := some 15) (v := undef) (a' := ?_) #[true, true, true, true, true, true, true, true, true, false, false, false, false, false, false, false] rfl rfl (any_of HT_.out (by kernel_rfl)) (fun _ _ _ h => h) (Or.inr ⟨by rfl, rfl⟩) ?_ ?_; rotate_left; · (simp only [Act.put, sT, sZ, sS, i64_w, i32_w]; rfl)
      refine pure_ (i := 9) (N := some 16) (v := undef) (a' := ?_) #[true, true, true, true, true, true, true, true, true, true, false, false, false, false, false, false] rfl rfl (any_of HT_.out (by kernel_rfl)) (fun _ _ _ h => h) (Or.inr ⟨by rfl, rfl⟩) ?_ ?_; rotate_left; · (simp only [Act.put, sT, sZ, sS, i64_w, i32_w]; rfl)
      refine pure_ (i := 10) (N := some 17) (v := undef) (a' := ?_) #[true, true, true, true, true, true, true, true, true, true, true, false, false, false, false, false] rfl rfl (any_of HT_.out (by kernel_rfl)) (fun _ _ _ h => h) (Or.inr ⟨by rfl, rfl⟩) ?_ ?_; rotate_left; · (simp only [Act.put, sT, sZ, sS, i64_w, i32_w]; rfl)
      refine pure_ (i := 11) (N := some 18) (v := undef) (a' := ?_) #[true, true, true, true, true, true, true, true, true, true, true, true, false, false, false, false] rfl rfl (any_of HT_.out (by kernel_rfl)) (fun _ _ _ h => h) (Or.inr ⟨by rfl, rfl⟩) ?_ ?_; rotate_left; · (simp only [Act.put, sT, sZ, sS, i64_w, i32_w]; rfl)
      refine pure_ (i := 12) (N := some 19) (v := undef) (a' := ?_) #[true, true, true, true, true, true, true, true, true, true, true, true, true, false, false, false] rfl rfl (any_of HT_.out (by kernel_rfl)) (fun _ _ _ h => h) (Or.inr ⟨by rfl, rfl⟩) ?_ ?_; rotate_left; · (simp only [Act.put, sT, sZ, sS, i64_w, i32_w]; rfl)
      refine pure_ (i := 13) (N := some 20) (v := undef) (a' := ?_) #[true, true, true, true, true, true, true, true, true, true, true, true, true, true, false, false] rfl rfl (any_of HT_.out (by kernel_rfl)) (fun _ _ _ h => h) (Or.inr ⟨by rfl, rfl⟩) ?_ ?_; rotate_left; · (simp only [Act.put, sT, sZ, sS, i64_w, i32_w]; rfl)
      refine pure_ (i := 14) (N := some 21) (v := ?_) (a' := ?_) #[true, true, true, true, true, true, true, true, true, true, true, true, true, true, true, false] rfl rfl (any_of HT_.out (by kernel_rfl)) (fun _ _ _ h => h) (Or.inl ⟨by rfl, ?_⟩) ?_ ?_; rotate_left; · (intro w'; go_simp; with_reducible rfl)
      rotate_left; · (simp only [Act.put, sT, sZ, sS, i64_w, i32_w]; rfl)
      refine pure_ (i := 15) (N := some 22) (v := ?_) (a' := ?_) #[true, true, true, true, true, true, true, true, true, true, true, true, true, true, true, true] rfl rfl (any_of HT_.out (by kernel_rfl)) (fun _ _ _ h => h) (Or.inl ⟨by rfl, ?_⟩) ?_ ?_; rotate_left; · (intro w'; go_simp; with_reducible rfl)
      rotate_left; · (simp only [Act.put, sT, sZ, sS, i64_w, i32_w]; rfl)
      refine done_ (done_of HT_.out (by kernel_rfl)) ?_
      have hb_ := SL.at_ (SL.get2 HS.out)
      have hz3000024_0_3 := ((blk_cell hb_ 0).trans rfl : _ = some (.int .i64 a0_0))
      have hz3000024_1_3 := ((blk_cell hb_ 1).trans rfl : _ = some (.int .i64 a0_1))
      clear hb_
      try go_wp2_with (first | ((with_reducible refine gate_store (t := 26) (p := 4) (v := (.tmp 23)) rfl ?_); refine wpList_plain rfl (fun K_ hK_ => ?_); refine op_store (S := S) 26 (.tmp 4) (.tmp 23) rfl b5 0 (.agg #[.int .i64 a0_0, .int .i64 a0_1]) [.int .i64 a0_0, .int .i64 a0_1] rfl rfl rfl (by kernel_rfl) (by simp [Value.oneCell']) (SL.get6 HS.out) (by simp) ?_; intro w15 hs_ hk_; refine hK_ _ _ ?_; clear hK_ K_; replace HS := Aside0.mk ((SL.back6 (show SL (cells b5 26 [.int .i64 a0_0, .int .i64 a0_1].toArray :: _) _ _ from hs_))); replace HK := Aside0.mk (HK.out.trans hk_); (try clear hz3000024_0_3 hz3000024_1_3)) | ((with_reducible refine gate_store (t := 4) (p := 2) (v := (.const (.bool true))) rfl ?_); refine wpList_plain rfl (fun K_ hK_ => ?_); refine op_store (S := S) 4 (.tmp 2) (.const (.bool true)) rfl b3 0 (.bool true) [.bool true] rfl rfl rfl (by kernel_rfl) (by simp [Value.oneCell']) (SL.get4 HS.out) (by simp) ?_; intro w16 hs_ hk_; refine hK_ _ _ ?_; clear hK_ K_; replace HS := Aside0.mk ((SL.back4 (show SL (cells b3 4 [.bool true].toArray :: _) _ _ from hs_))); replace HK := Aside0.mk (HK.out.trans hk_)))
      go_ret
      replace HS := Aside0.mk (SL.get5 (SL.get4 (SL.get4 (SL.get5 (SL.get5 (SL.get5 (SL.tail (SL.get2 HS.out))))))))
      unfold sight_First_1_i1.Post
      exact ⟨by first | rfl | (simp; done) | (simp [*]; done), HS.out, HK.out⟩
  · replace c2 := Bool.eq_false_iff.mpr c2
    subst c2
    rw [if_neg (show ¬ (false = true) by decide)] at H
    simp only [Option.some.injEq, Prod.mk.injEq] at H
    obtain ⟨rfl, rfl, rfl, rfl, rfl, rfl, rfl, rfl, rfl, rfl, rfl, rfl⟩ := H
    go_enter Try.func26, Try.ntmps26
    try go_wp2_with (first | ((with_reducible refine gate_dst (N := 5) rfl ?_); refine wpList_plain rfl (fun K_ hK_ => ?_); refine op_box (S := S) (cs := #[.int .i64 a0_0, .int .i64 a0_1]) (t := 26) (HF.out.keep HK.out) HS.out (by first | (go_simp; done) | (go_simp; rfl)) ?_; intro g3000024 w17 hs_ hk_; refine hK_ _ _ ?_; clear hK_ K_; replace HS := Aside0.mk (hs_); replace HK := Aside0.mk (HK.out.trans hk_)))
    refine start_ (n := 16) (S := fun w' => w'.cell? ⟨b0, 0, none⟩ = some (.func (.func 40) #[] #[.pointer (some ⟨b1, 0, none⟩), .pointer (some ⟨b2, 0, none⟩)]) ∧ w'.cell? ⟨g3000024, 0, none⟩ = some (.int .i64 a0_0) ∧ w'.cell? ⟨g3000024, 1, none⟩ = some (.int .i64 a0_1)) (ds := []) #[false, false, false, false, false, false, false, false, false, false, false, false, false, false, false, false] (by kernel_rfl) rfl rfl ⟨(((blk_cell (SL.at_ (SL.get1 HS.out)) 0).trans rfl)), (((blk_cell (SL.at_ HS.out) 0).trans rfl)), (((blk_cell (SL.at_ HS.out) 1).trans rfl))⟩ (fun hHeld => ?_); refine with_tabW sight_First_1_i1.tab1 sight_First_1_i1.bits1 (fun HT_ HW_ => ?_)
    replace HK := Aside0.mk (Keep.drew HK.out)
    replace HS := Aside0.mk (SL.drew HS.out)
    refine take_ (i := 0) (N := some 7) (v := ?_) (a' := ?_) #[true, false, false, false, false, false, false, false, false, false, false, false, false, false, false, false] rfl rfl (take_ofW HT_.out HW_.out (by kernel_rfl)) (fun _ _ _ h => h) (Or.inl ⟨by rfl, ?_⟩) hHeld ?_ ?_; rotate_left
    · rintro w' ⟨s0, s1, s2⟩
      go_simp
      with_reducible rfl
    rotate_left; · (simp only [Act.put, sT, sZ, sS, i64_w, i32_w]; rfl)
    refine take_ (i := 1) (N := some 8) (v := ?_) (a' := ?_) #[true, true, false, false, false, false, false, false, false, false, false, false, false, false, false, false] rfl rfl (take_ofW HT_.out HW_.out (by kernel_rfl)) (fun _ _ _ h => h) (Or.inl ⟨by rfl, ?_⟩) hHeld ?_ ?_; rotate_left
    · rintro w' ⟨s0, s1, s2⟩
      go_simp
      with_reducible rfl
    rotate_left; · (simp only [Act.put, sT, sZ, sS, i64_w, i32_w]; rfl)
    refine one_ (i := 2) (N := some 9) #[true, true, true, false, false, false, false, false, false, false, false, false, false, false, false, false] rfl rfl (one_of HT_.out (by kernel_rfl)) (by decide) (fun K hK => ?_)
    refine goesc_ Try.func40 (by kernel_rfl) rfl #[.agg #[.int .i64 a0_0, .int .i64 a0_1], .pointer (some ⟨b1, 0, none⟩), .pointer (some ⟨b2, 0, none⟩)] (by rfl) rfl rfl (by with_unfolding_all rfl) (by (try simp only [List.map_toArray, List.map_cons, List.map_nil]); first | done | rfl | (simp; done)) ?_
    have hs0_ := (SL.get3 (SL.get3 HS.out))
    (with_reducible refine (sight_lane_walls_1_i1.slcalls _ _ _ _ _ _ _ _ _ _ _ _ _ _ _ _ _ _ _ _ _ _ _ (HF.out.keep HK.out) hs0_ (HRo2_2.out.keep HK.out) HCo2_2.out Hc1.out).mono ?_)
    rintro e_ w18 ⟨rfl, hsr_, hkr_⟩
    refine ⟨_, rfl, ?_⟩
    replace HS := Aside0.mk (hsr_)
    replace HK := Aside0.mk (HK.out.trans hkr_)
    refine hK.out _ _ ⟨(((blk_cell (SL.at_ (SL.get3 HS.out)) 0).trans rfl)), (((blk_cell (SL.at_ (SL.get2 HS.out)) 0).trans rfl)), (((blk_cell (SL.at_ (SL.get2 HS.out)) 1).trans rfl))⟩ (fun hHeld => ?_)
    clear hK K
    refine norm_ (a' := ?_) ?_ ?_; rotate_left
    · show Act.put _ (some 9) _ = _
      simp only [Act.put, sT, sZ, sS, i64_w, i32_w]
      rfl
    refine pure_ (i := 3) (N := some 10) (v := ?_) (a' := ?_) #[true, true, true, true, false, false, false, false, false, false, false, false, false, false, false, false] rfl rfl (any_of HT_.out (by kernel_rfl)) (fun _ _ _ h => h) (Or.inl ⟨by rfl, ?_⟩) ?_ ?_; rotate_left; · (intro w'; go_simp; with_reducible rfl)
    rotate_left; · (simp only [Act.put, sT, sZ, sS, i64_w, i32_w]; rfl)
    refine pure_ (i := 4) (N := some 11) (v := undef) (a' := ?_) #[true, true, true, true, true, false, false, false, false, false, false, false, false, false, false, false] rfl rfl (any_of HT_.out (by kernel_rfl)) (fun _ _ _ h => h) (Or.inr ⟨by rfl, rfl⟩) ?_ ?_; rotate_left; · (simp only [Act.put, sT, sZ, sS, i64_w, i32_w]; rfl)
    refine pure_ (i := 5) (N := some 12) (v := undef) (a' := ?_) #[true, true, true, true, true, true, false, false, false, false, false, false, false, false, false, false] rfl rfl (any_of HT_.out (by kernel_rfl)) (fun _ _ _ h => h) (Or.inr ⟨by rfl, rfl⟩) ?_ ?_; rotate_left; · (simp only [Act.put, sT, sZ, sS, i64_w, i32_w]; rfl)
    refine pure_ (i := 6) (N := some 13) (v := undef) (a' := ?_) #[true, true, true, true, true, true, true, false, false, false, false, false, false, false, false, false] rfl rfl (any_of HT_.out (by kernel_rfl)) (fun _ _ _ h => h) (Or.inr ⟨by rfl, rfl⟩) ?_ ?_; rotate_left; · (simp only [Act.put, sT, sZ, sS, i64_w, i32_w]; rfl)
    refine pure_ (i := 7) (N := some 14) (v := undef) (a' := ?_) #[true, true, true, true, true, true, true, true, false, false, false, false, false, false, false, false] rfl rfl (any_of HT_.out (by kernel_rfl)) (fun _ _ _ h => h) (Or.inr ⟨by rfl, rfl⟩) ?_ ?_; rotate_left; · (simp only [Act.put, sT, sZ, sS, i64_w, i32_w]; rfl)
    refine pure_ (i := 8) (N := some 15) (v := undef) (a' := ?_) #[true, true, true, true, true, true, true, true, true, false, false, false, false, false, false, false] rfl rfl (any_of HT_.out (by kernel_rfl)) (fun _ _ _ h => h) (Or.inr ⟨by rfl, rfl⟩) ?_ ?_; rotate_left; · (simp only [Act.put, sT, sZ, sS, i64_w, i32_w]; rfl)
    refine pure_ (i := 9) (N := some 16) (v := undef) (a' := ?_) #[true, true, true, true, true, true, true, true, true, true, false, false, false, false, false, false] rfl rfl (any_of HT_.out (by kernel_rfl)) (fun _ _ _ h => h) (Or.inr ⟨by rfl, rfl⟩) ?_ ?_; rotate_left; · (simp only [Act.put, sT, sZ, sS, i64_w, i32_w]; rfl)
    refine pure_ (i := 10) (N := some 17) (v := undef) (a' := ?_) #[true, true, true, true, true, true, true, true, true, true, true, false, false, false, false, false] rfl rfl (any_of HT_.out (by kernel_rfl)) (fun _ _ _ h => h) (Or.inr ⟨by rfl, rfl⟩) ?_ ?_; rotate_left; · (simp only [Act.put, sT, sZ, sS, i64_w, i32_w]; rfl)
    refine pure_ (i := 11) (N := some 18) (v := undef) (a' := ?_) #[true, true, true, true, true, true, true, true, true, true, true, true, false, false, false, false] rfl rfl (any_of HT_.out (by kernel_rfl)) (fun _ _ _ h => h) (Or.inr ⟨by rfl, rfl⟩) ?_ ?_; rotate_left; · (simp only [Act.put, sT, sZ, sS, i64_w, i32_w]; rfl)
    refine pure_ (i := 12) (N := some 19) (v := undef) (a' := ?_) #[true, true, true, true, true, true, true, true, true, true, true, true, true, false, false, false] rfl rfl (any_of HT_.out (by kernel_rfl)) (fun _ _ _ h => h) (Or.inr ⟨by rfl, rfl⟩) ?_ ?_; rotate_left; · (simp only [Act.put, sT, sZ, sS, i64_w, i32_w]; rfl)
    refine pure_ (i := 13) (N := some 20) (v := undef) (a' := ?_) #[true, true, true, true, true, true, true, true, true, true, true, true, true, true, false, false] rfl rfl (any_of HT_.out (by kernel_rfl)) (fun _ _ _ h => h) (Or.inr ⟨by rfl, rfl⟩) ?_ ?_; rotate_left; · (simp only [Act.put, sT, sZ, sS, i64_w, i32_w]; rfl)
    refine pure_ (i := 14) (N := some 21) (v := undef) (a' := ?_) #[true, true, true, true, true, true, true, true, true, true, true, true, true, true, true, false] rfl rfl (any_of HT_.out (by kernel_rfl)) (fun _ _ _ h => h) (Or.inr ⟨by rfl, rfl⟩) ?_ ?_; rotate_left; · (simp only [Act.put, sT, sZ, sS, i64_w, i32_w]; rfl)
    refine pure_ (i := 15) (N := some 22) (v := ?_) (a' := ?_) #[true, true, true, true, true, true, true, true, true, true, true, true, true, true, true, true] rfl rfl (any_of HT_.out (by kernel_rfl)) (fun _ _ _ h => h) (Or.inl ⟨by rfl, ?_⟩) ?_ ?_; rotate_left; · (intro w'; go_simp; with_reducible rfl)
    rotate_left; · (simp only [Act.put, sT, sZ, sS, i64_w, i32_w]; rfl)
    refine done_ (done_of HT_.out (by kernel_rfl)) ?_
    try go_wp2
    go_ret
    replace HS := Aside0.mk (SL.get5 (SL.get4 (SL.get4 (SL.get5 (SL.get5 (SL.get5 (SL.tail (SL.get2 HS.out))))))))
    unfold sight_First_1_i1.Post
    exact ⟨by first | rfl | (simp; done) | (simp [*]; done), HS.out, HK.out⟩

end Go.Proofs.Ytljmecjciifceaa.XSW
