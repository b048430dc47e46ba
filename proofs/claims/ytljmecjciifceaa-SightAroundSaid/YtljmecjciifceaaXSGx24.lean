-- Written by xprint.py (a program of this session) for this claim
import Derived.Test.YtljmecjciifceaaXSGx0
import Derived.Test.YtljmecjciifceaaXSGx7
import Derived.Test.YtljmecjciifceaaXSGx14
import Derived.Test.YtljmecjciifceaaXSGx16
import Derived.Test.YtljmecjciifceaaXSGx18
import Derived.Test.YtljmecjciifceaaXSGx19
namespace Go.Proofs.Ytljmecjciifceaa.XSG
open Go.Proofs.YtljmecjciifceaaV Go.Proofs.YtljmecjciifceaaS
open Go.RowKit Go.Proofs.YtljmecjciifceaaW.PrintWords Go.Proofs.YtljmecjciifceaaW.PrintLast Go.Proofs.YtljmecjciifceaaW.PrintMore
attribute [local go_sem] max2_int min2_int max_two min_two max_three min_three max_four min_four   -- for this text's walks alone
set_option linter.unusedVariables false
set_option linter.unusedSimpArgs false

/-! ### barrowlaw07_SightAround: function 6 -/
def barrowlaw07_SightAround.f (k : Nat) (a0_0 : Int) (a0_1 : Int) (l0_2 : List Bool) (a1_0 : Int) (a1_1 : Int) (a2 : Int) : Option (Bool) := (barrowlaw07_small.f k).bind fun t760 => ((barrowlaw06_Few.f a0_0 a0_1 l0_2).bind fun t761 => (if t760 = true then (if t761 = true then (if (l0_2.length : Int) > 200 then (some true) else ((sight_Seen.f k a0_0 a0_1 l0_2 a1_0 a1_1 a2).bind fun t762 => ((barrowref07_Seen.f k a0_0 a0_1 l0_2 a1_0 a1_1 a2).bind fun t763 => ((barrowref06_Same.f k t762 t763).bind fun t764 => (some t764))))) else (some true)) else (none)))
theorem barrowlaw07_SightAround.mono : ∀ a0 a1 a2 a3 a4 a5 k, LeO (barrowlaw07_SightAround.f k a0 a1 a2 a3 a4 a5) (barrowlaw07_SightAround.f (k + 1) a0 a1 a2 a3 a4 a5) := by
  intro a0 a1 a2 a3 a4 a5 k
  unfold barrowlaw07_SightAround.f
  repeat' first
      | (with_reducible exact barrowlaw07_small.mono _)
      | (with_reducible exact barrowref06_Same.mono _ _ _)
      | (with_reducible exact barrowref07_Seen.mono _ _ _ _ _ _ _)
      | (with_reducible exact sight_Seen.mono _ _ _ _ _ _ _)
      | (with_reducible exact LeO.refl _)
      | (with_reducible exact LeO.none _)
      | (with_reducible refine LeO.ite ?_ ?_)
      | (with_reducible refine LeO.bind ?_ (fun _ => ?_))
      | exact barrowlaw07_small.mono _
      | exact barrowref06_Same.mono _ _ _
      | exact barrowref07_Seen.mono _ _ _ _ _ _ _
      | exact sight_Seen.mono _ _ _ _ _ _ _
      | exact LeO.none _
      | refine LeO.ite ?_ ?_
      | refine LeO.bind ?_ (fun _ => ?_)
def barrowlaw07_SightAround.T3 : Bool × List (List Nat × List Nat) := (true, [([], []), ([0], [0]), ([1], [1]), ([2, 1], [1, 2]), ([3, 1, 1], [1, 3]), ([4], [4]), ([5, 4], [4, 5]), ([6, 4], [4, 6]), ([7, 4], [4, 7]), ([4, 8, 1], [1, 4, 8]), ([9, 4, 1], [1, 9]), ([10], [10]), ([10], [10]), ([10], [10]), ([11, 12, 13, 10, 10], [10, 11, 12, 13]), ([10], [10]), ([10], [10]), ([10], [10]), ([15, 16, 17, 14, 10], [10, 15, 16, 17]), ([14, 18, 18, 10], [10, 14, 18]), ([10, 19, 1], [1, 10, 19]), ([1, 20], [1, 20]), ([21, 19, 0, 1, 2, 3, 4, 5, 6, 7, 8, 9, 10, 11, 12, 13, 14, 15, 16, 17, 18, 19, 20, 21], [21])])
def barrowlaw07_SightAround.B3 : List Nat := [0, 1, 3, 7, 15, 31, 63, 127, 255, 511, 1023, 2047, 2047, 2047, 16383, 2047, 2047, 2047, 262143, 524287, 1048575, 2097151, 4194303]
theorem barrowlaw07_SightAround.tab3 : rtab .any (opsOf Try.f6 3) = barrowlaw07_SightAround.T3 := by kernel_rfl
theorem barrowlaw07_SightAround.bits3 : waitsOk barrowlaw07_SightAround.T3.2 barrowlaw07_SightAround.B3 = true := by kernel_rfl
def barrowlaw07_SightAround.Post (r : Bool) (S : Nat → Prop) (L : List Asr) (w : World) (e : Ending) (w' : World) : Prop := e = .returned (.bool r) ∧ SL (L) w' S ∧ Keep S w w'
set_option maxHeartbeats 8000000 in
set_option maxRecDepth 100000 in
theorem barrowlaw07_SightAround.slcalls (k : Nat) (a0_0 : Int) (a0_1 : Int) (A0_2 : Option Addr) (c0_2 : Nat) (l0_2 : List Bool) (a1_0 : Int) (a1_1 : Int) (a2 : Int) (r : Bool) (S : Nat → Prop) (L : List Asr) (w : World) (hf : Fresh S w) (hs : SL (L) w S) (hr0_2 : RO S w (fun w_ => Kd.C Kd.bool w_ A0_2 l0_2.length l0_2)) (hc0_2 : l0_2.length ≤ c0_2) (h : barrowlaw07_SightAround.f k a0_0 a0_1 l0_2 a1_0 a1_1 a2 = some r) :
    Calls Try.prog 6 #[.agg #[.int .i64 a0_0, .int .i64 a0_1, .slice A0_2 l0_2.length c0_2], .agg #[.int .i64 a1_0, .int .i64 a1_1], .int .i64 a2] w (barrowlaw07_SightAround.Post r S L w) := by
  have HR0_2 := Aside0.mk hr0_2
  have HC0_2 := Aside0.mk hc0_2
  clear hr0_2 hc0_2
  have HF := Aside0.mk hf
  have HS := Aside0.mk hs
  have HK := Aside0.mk (Keep.refl S w)
  clear hf hs
  have hu24 := Try.underlying24
  have hu26 := Try.underlying26
  have H : ((barrowlaw07_small.f k).bind fun t760 => ((barrowlaw06_Few.f a0_0 a0_1 l0_2).bind fun t761 => (if t760 = true then (if t761 = true then (if (l0_2.length : Int) > 200 then (some true) else ((sight_Seen.f k a0_0 a0_1 l0_2 a1_0 a1_1 a2).bind fun t762 => ((barrowref07_Seen.f k a0_0 a0_1 l0_2 a1_0 a1_1 a2).bind fun t763 => ((barrowref06_Same.f k t762 t763).bind fun t764 => (some t764))))) else (some true)) else (none)))) = some r := h
  clear h
  replace H := Option.bind_eq_some_iff.1 H
  obtain ⟨t760, Hc10, H⟩ := H
  try dsimp only at H
  have Hc1 := Aside0.mk Hc10
  clear Hc10
  replace H := Option.bind_eq_some_iff.1 H
  obtain ⟨t761, Hc20, H⟩ := H
  try dsimp only at H
  have Hc2 := Aside0.mk Hc20
  clear Hc20
  by_cases c3 : t760 = true
  · subst c3
    rw [if_pos rfl] at H
    by_cases c4 : t761 = true
    · subst c4
      rw [if_pos rfl] at H
      by_cases c5 : (l0_2.length : Int) > 200
      · rw [if_pos c5] at H
        have c5b0 : decide (200 < (l0_2.length : Int)) = true := decide_eq_true c5
        have c5b1 : decide (200 < l0_2.length) = true := decide_eq_true (by omega)
        clear c5
        obtain rfl := Option.some.inj H
        go_enter Try.func6, Try.ntmps6
        try go_wp2_with (first | ((with_reducible refine gate_dst (N := 3) rfl ?_); refine wpList_plain rfl (fun K_ hK_ => ?_); refine op_box (S := S) (cs := #[.int .i64 a0_0, .int .i64 a0_1, .slice A0_2 l0_2.length c0_2]) (t := 24) (HF.out.keep HK.out) HS.out (by first | (go_simp; done) | (go_simp; rfl)) ?_; intro g3000122 w6 hs_ hk_; refine hK_ _ _ ?_; clear hK_ K_; replace HS := Aside0.mk (hs_); replace HK := Aside0.mk (HK.out.trans hk_)) | ((with_reducible refine gate_dst (N := 4) rfl ?_); refine wpList_plain rfl (fun K_ hK_ => ?_); refine op_box (S := S) (cs := #[.int .i64 a1_0, .int .i64 a1_1]) (t := 26) (HF.out.keep HK.out) HS.out (by first | (go_simp; done) | (go_simp; rfl)) ?_; intro g3000123 w7 hs_ hk_; refine hK_ _ _ ?_; clear hK_ K_; replace HS := Aside0.mk (hs_); replace HK := Aside0.mk (HK.out.trans hk_)) | ((with_reducible refine gate_dst (N := 9) rfl ?_); refine goesL_ (some 9) rfl rfl Try.func7 (by kernel_rfl) rfl #[] rfl (by (try simp only [List.map_toArray, List.map_cons, List.map_nil]); first | done | rfl | (simp; done)) ?_; (with_reducible refine (barrowlaw07_small.calls k _ _  Hc1.out).mono ?_); rintro e_ w8 ⟨rfl, hb_⟩; refine ⟨_, rfl, ?_⟩; replace HS := Aside0.mk (HS.out.below hb_); replace HK := Aside0.mk (HK.out.trans (Keep.below hb_)); have hb_ := SL.at_ (SL.get1 HS.out); have hz3000122_0_3 := ((blk_cell hb_ 0).trans rfl : _ = some (.int .i64 a0_0)); have hz3000122_1_3 := ((blk_cell hb_ 1).trans rfl : _ = some (.int .i64 a0_1)); have hz3000122_2_3 := ((blk_cell hb_ 2).trans rfl : _ = some (.slice A0_2 l0_2.length c0_2)); clear hb_) | ((with_reducible refine gate_dst (N := 11) rfl ?_); refine goesL_ (some 11) rfl rfl Try.func8 (by kernel_rfl) rfl #[.agg #[.int .i64 a0_0, .int .i64 a0_1, .slice A0_2 l0_2.length c0_2]] rfl (by (try simp only [List.map_toArray, List.map_cons, List.map_nil]); first | done | rfl | (simp; done)) ?_; (with_reducible refine (barrowlaw06_Few.calls _ _ _ _ _ _ _ (RO.at_ HR0_2.out HK.out) HC0_2.out Hc2.out).mono ?_); rintro e_ w9 ⟨rfl, hb_⟩; refine ⟨_, rfl, ?_⟩; replace HS := Aside0.mk (HS.out.below hb_); replace HK := Aside0.mk (HK.out.trans (Keep.below hb_)); (try clear hz3000122_0_3 hz3000122_1_3 hz3000122_2_3)))
        refine start_ (n := 23) (S := fun w' => w'.cell? ⟨g3000122, 2, none⟩ = some (.slice A0_2 l0_2.length c0_2)) (ds := []) #[false, false, false, false, false, false, false, false, false, false, false, false, false, false, false, false, false, false, false, false, false, false, false] (by kernel_rfl) rfl rfl ((((blk_cell (SL.at_ (SL.get1 HS.out)) 2).trans rfl))) (fun hHeld => ?_); refine with_tabW barrowlaw07_SightAround.tab3 barrowlaw07_SightAround.bits3 (fun HT_ HW_ => ?_)
        replace HK := Aside0.mk (Keep.drew HK.out)
        replace HS := Aside0.mk (SL.drew HS.out)
        refine pure_ (i := 0) (N := some 12) (v := ?_) (a' := ?_) #[true, false, false, false, false, false, false, false, false, false, false, false, false, false, false, false, false, false, false, false, false, false, false] rfl rfl (any_of HT_.out (by kernel_rfl)) (fun _ _ _ h => h) (Or.inl ⟨by rfl, ?_⟩) ?_ ?_; rotate_left; · (intro w'; go_simp; with_reducible rfl)
        rotate_left; · (simp only [Act.put, sT, sZ, sS, i64_w, i32_w]; rfl)
        refine pure_ (i := 1) (N := some 13) (v := ?_) (a' := ?_) #[true, true, false, false, false, false, false, false, false, false, false, false, false, false, false, false, false, false, false, false, false, false, false] rfl rfl (any_of HT_.out (by kernel_rfl)) (fun _ _ _ h => h) (Or.inl ⟨by rfl, ?_⟩) ?_ ?_; rotate_left; · (intro w'; go_simp; with_reducible rfl)
        rotate_left; · (simp only [Act.put, sT, sZ, sS, i64_w, i32_w]; rfl)
        refine pure_ (i := 2) (N := some 14) (v := ?_) (a' := ?_) #[true, true, true, false, false, false, false, false, false, false, false, false, false, false, false, false, false, false, false, false, false, false, false] rfl rfl (any_of HT_.out (by kernel_rfl)) (fun _ _ _ h => h) (Or.inl ⟨by rfl, ?_⟩) ?_ ?_; rotate_left; · (intro w'; go_simp; with_reducible rfl)
        rotate_left; · (simp only [Act.put, sT, sZ, sS, i64_w, i32_w]; rfl)
        refine pure_ (i := 3) (N := some 15) (v := ?_) (a' := ?_) #[true, true, true, true, false, false, false, false, false, false, false, false, false, false, false, false, false, false, false, false, false, false, false] rfl rfl (any_of HT_.out (by kernel_rfl)) (fun _ _ _ h => h) (Or.inl ⟨by rfl, ?_⟩) ?_ ?_; rotate_left; · (intro w'; go_simp; with_reducible rfl)
        rotate_left; · (simp only [Act.put, sT, sZ, sS, i64_w, i32_w]; rfl)
        refine pure_ (i := 4) (N := some 16) (v := ?_) (a' := ?_) #[true, true, true, true, true, false, false, false, false, false, false, false, false, false, false, false, false, false, false, false, false, false, false] rfl rfl (any_of HT_.out (by kernel_rfl)) (fun _ _ _ h => h) (Or.inl ⟨by rfl, ?_⟩) ?_ ?_; rotate_left; · (intro w'; go_simp; with_reducible rfl)
        rotate_left; · (simp only [Act.put, sT, sZ, sS, i64_w, i32_w]; rfl)
        refine pure_ (i := 5) (N := some 17) (v := ?_) (a' := ?_) #[true, true, true, true, true, true, false, false, false, false, false, false, false, false, false, false, false, false, false, false, false, false, false] rfl rfl (any_of HT_.out (by kernel_rfl)) (fun _ _ _ h => h) (Or.inl ⟨by rfl, ?_⟩) ?_ ?_; rotate_left; · (intro w'; go_simp; with_reducible rfl)
        rotate_left; · (simp only [Act.put, sT, sZ, sS, i64_w, i32_w]; rfl)
        refine take_ (i := 6) (N := some 18) (v := ?_) (a' := ?_) #[true, true, true, true, true, true, true, false, false, false, false, false, false, false, false, false, false, false, false, false, false, false, false] rfl rfl (take_ofW HT_.out HW_.out (by kernel_rfl)) (fun _ _ _ h => h) (Or.inl ⟨by rfl, ?_⟩) hHeld ?_ ?_; rotate_left
        · intro w' s0
          go_simp
          with_reducible rfl
        rotate_left; · (simp only [Act.put, sT, sZ, sS, i64_w, i32_w]; rfl)
        refine pure_ (i := 7) (N := some 19) (v := ?_) (a' := ?_) #[true, true, true, true, true, true, true, true, false, false, false, false, false, false, false, false, false, false, false, false, false, false, false] rfl rfl (any_of HT_.out (by kernel_rfl)) (fun _ _ _ h => h) (Or.inl ⟨by rfl, ?_⟩) ?_ ?_; rotate_left; · (intro w'; go_simp; with_reducible rfl)
        rotate_left; · (simp only [Act.put, sT, sZ, sS, i64_w, i32_w]; rfl)
        refine pure_ (i := 8) (N := some 20) (v := ?_) (a' := ?_) #[true, true, true, true, true, true, true, true, true, false, false, false, false, false, false, false, false, false, false, false, false, false, false] rfl rfl (any_of HT_.out (by kernel_rfl)) (fun _ _ _ h => h) (Or.inl ⟨by rfl, ?_⟩) ?_ ?_; rotate_left; · (intro w'; go_simp; with_reducible rfl)
        rotate_left; · (simp only [Act.put, sT, sZ, sS, i64_w, i32_w]; rfl)
        refine pure_ (i := 9) (N := some 21) (v := ?_) (a' := ?_) #[true, true, true, true, true, true, true, true, true, true, false, false, false, false, false, false, false, false, false, false, false, false, false] rfl rfl (any_of HT_.out (by kernel_rfl)) (fun _ _ _ h => h) (Or.inl ⟨by rfl, ?_⟩) ?_ ?_; rotate_left; · (intro w'; go_simp; with_reducible rfl)
        rotate_left; · (simp only [Act.put, sT, sZ, sS, i64_w, i32_w]; rfl)
        refine pure_ (i := 10) (N := some 22) (v := ?_) (a' := ?_) #[true, true, true, true, true, true, true, true, true, true, true, false, false, false, false, false, false, false, false, false, false, false, false] rfl rfl (any_of HT_.out (by kernel_rfl)) (fun _ _ _ h => h) (Or.inl ⟨by rfl, ?_⟩) ?_ ?_; rotate_left; · (intro w'; go_simp; with_reducible rfl)
        rotate_left; · (simp only [Act.put, sT, sZ, sS, i64_w, i32_w]; rfl)
        refine pure_ (i := 11) (N := some 23) (v := undef) (a' := ?_) #[true, true, true, true, true, true, true, true, true, true, true, true, false, false, false, false, false, false, false, false, false, false, false] rfl rfl (any_of HT_.out (by kernel_rfl)) (fun _ _ _ h => h) (Or.inr ⟨by rfl, rfl⟩) ?_ ?_; rotate_left; · (simp only [Act.put, sT, sZ, sS, i64_w, i32_w]; rfl)
        refine pure_ (i := 12) (N := some 24) (v := undef) (a' := ?_) #[true, true, true, true, true, true, true, true, true, true, true, true, true, false, false, false, false, false, false, false, false, false, false] rfl rfl (any_of HT_.out (by kernel_rfl)) (fun _ _ _ h => h) (Or.inr ⟨by rfl, rfl⟩) ?_ ?_; rotate_left; · (simp only [Act.put, sT, sZ, sS, i64_w, i32_w]; rfl)
        refine pure_ (i := 13) (N := some 25) (v := undef) (a' := ?_) #[true, true, true, true, true, true, true, true, true, true, true, true, true, true, false, false, false, false, false, false, false, false, false] rfl rfl (any_of HT_.out (by kernel_rfl)) (fun _ _ _ h => h) (Or.inr ⟨by rfl, rfl⟩) ?_ ?_; rotate_left; · (simp only [Act.put, sT, sZ, sS, i64_w, i32_w]; rfl)
        refine pure_ (i := 14) (N := some 26) (v := undef) (a' := ?_) #[true, true, true, true, true, true, true, true, true, true, true, true, true, true, true, false, false, false, false, false, false, false, false] rfl rfl (any_of HT_.out (by kernel_rfl)) (fun _ _ _ h => h) (Or.inr ⟨by rfl, rfl⟩) ?_ ?_; rotate_left; · (simp only [Act.put, sT, sZ, sS, i64_w, i32_w]; rfl)
        refine pure_ (i := 15) (N := some 27) (v := undef) (a' := ?_) #[true, true, true, true, true, true, true, true, true, true, true, true, true, true, true, true, false, false, false, false, false, false, false] rfl rfl (any_of HT_.out (by kernel_rfl)) (fun _ _ _ h => h) (Or.inr ⟨by rfl, rfl⟩) ?_ ?_; rotate_left; · (simp only [Act.put, sT, sZ, sS, i64_w, i32_w]; rfl)
        refine pure_ (i := 16) (N := some 28) (v := undef) (a' := ?_) #[true, true, true, true, true, true, true, true, true, true, true, true, true, true, true, true, true, false, false, false, false, false, false] rfl rfl (any_of HT_.out (by kernel_rfl)) (fun _ _ _ h => h) (Or.inr ⟨by rfl, rfl⟩) ?_ ?_; rotate_left; · (simp only [Act.put, sT, sZ, sS, i64_w, i32_w]; rfl)
        refine pure_ (i := 17) (N := some 29) (v := undef) (a' := ?_) #[true, true, true, true, true, true, true, true, true, true, true, true, true, true, true, true, true, true, false, false, false, false, false] rfl rfl (any_of HT_.out (by kernel_rfl)) (fun _ _ _ h => h) (Or.inr ⟨by rfl, rfl⟩) ?_ ?_; rotate_left; · (simp only [Act.put, sT, sZ, sS, i64_w, i32_w]; rfl)
        refine pure_ (i := 18) (N := some 30) (v := undef) (a' := ?_) #[true, true, true, true, true, true, true, true, true, true, true, true, true, true, true, true, true, true, true, false, false, false, false] rfl rfl (any_of HT_.out (by kernel_rfl)) (fun _ _ _ h => h) (Or.inr ⟨by rfl, rfl⟩) ?_ ?_; rotate_left; · (simp only [Act.put, sT, sZ, sS, i64_w, i32_w]; rfl)
        refine pure_ (i := 19) (N := some 31) (v := undef) (a' := ?_) #[true, true, true, true, true, true, true, true, true, true, true, true, true, true, true, true, true, true, true, true, false, false, false] rfl rfl (any_of HT_.out (by kernel_rfl)) (fun _ _ _ h => h) (Or.inr ⟨by rfl, rfl⟩) ?_ ?_; rotate_left; · (simp only [Act.put, sT, sZ, sS, i64_w, i32_w]; rfl)
        refine pure_ (i := 20) (N := some 32) (v := ?_) (a' := ?_) #[true, true, true, true, true, true, true, true, true, true, true, true, true, true, true, true, true, true, true, true, true, false, false] rfl rfl (any_of HT_.out (by kernel_rfl)) (fun _ _ _ h => h) (Or.inl ⟨by rfl, ?_⟩) ?_ ?_; rotate_left; · (intro w'; go_simp; with_reducible rfl)
        rotate_left; · (simp only [Act.put, sT, sZ, sS, i64_w, i32_w]; rfl)
        refine pure_ (i := 21) (N := some 33) (v := ?_) (a' := ?_) #[true, true, true, true, true, true, true, true, true, true, true, true, true, true, true, true, true, true, true, true, true, true, false] rfl rfl (any_of HT_.out (by kernel_rfl)) (fun _ _ _ h => h) (Or.inl ⟨by rfl, ?_⟩) ?_ ?_; rotate_left; · (intro w'; go_simp; with_reducible rfl)
        rotate_left; · (simp only [Act.put, sT, sZ, sS, i64_w, i32_w]; rfl)
        refine pure_ (i := 22) (N := some 6) (v := ?_) (a' := ?_) #[true, true, true, true, true, true, true, true, true, true, true, true, true, true, true, true, true, true, true, true, true, true, true] rfl rfl (any_of HT_.out (by kernel_rfl)) (fun _ _ _ h => h) (Or.inl ⟨by rfl, ?_⟩) ?_ ?_; rotate_left; · (intro w'; go_simp; with_reducible rfl)
        rotate_left; · (simp only [Act.put, sT, sZ, sS, i64_w, i32_w]; rfl)
        refine done_ (done_of HT_.out (by kernel_rfl)) ?_
        try go_wp2
        go_ret
        replace HS := Aside0.mk (SL.tail (SL.tail HS.out))
        unfold barrowlaw07_SightAround.Post
        exact ⟨by first | rfl | (simp; done) | (simp [*]; done), HS.out, HK.out⟩
      · rw [if_neg c5] at H
        have c5b0 : decide (200 < (l0_2.length : Int)) = false := decide_eq_false c5
        have c5b1 : decide (200 < l0_2.length) = false := decide_eq_false (by omega)
        clear c5
        replace H := Option.bind_eq_some_iff.1 H
        obtain ⟨t762, Hc100, H⟩ := H
        try dsimp only at H
        have Hc10 := Aside0.mk Hc100
        clear Hc100
        replace H := Option.bind_eq_some_iff.1 H
        obtain ⟨t763, Hc110, H⟩ := H
        try dsimp only at H
        have Hc11 := Aside0.mk Hc110
        clear Hc110
        replace H := Option.bind_eq_some_iff.1 H
        obtain ⟨t764, Hc120, H⟩ := H
        try dsimp only at H
        have Hc12 := Aside0.mk Hc120
        clear Hc120
        obtain rfl := Option.some.inj H
        go_enter Try.func6, Try.ntmps6
        try go_wp2_with (first | ((with_reducible refine gate_dst (N := 3) rfl ?_); refine wpList_plain rfl (fun K_ hK_ => ?_); refine op_box (S := S) (cs := #[.int .i64 a0_0, .int .i64 a0_1, .slice A0_2 l0_2.length c0_2]) (t := 24) (HF.out.keep HK.out) HS.out (by first | (go_simp; done) | (go_simp; rfl)) ?_; intro g3000122 w13 hs_ hk_; refine hK_ _ _ ?_; clear hK_ K_; replace HS := Aside0.mk (hs_); replace HK := Aside0.mk (HK.out.trans hk_)) | ((with_reducible refine gate_dst (N := 4) rfl ?_); refine wpList_plain rfl (fun K_ hK_ => ?_); refine op_box (S := S) (cs := #[.int .i64 a1_0, .int .i64 a1_1]) (t := 26) (HF.out.keep HK.out) HS.out (by first | (go_simp; done) | (go_simp; rfl)) ?_; intro g3000123 w14 hs_ hk_; refine hK_ _ _ ?_; clear hK_ K_; replace HS := Aside0.mk (hs_); replace HK := Aside0.mk (HK.out.trans hk_)) | ((with_reducible refine gate_dst (N := 9) rfl ?_); refine goesL_ (some 9) rfl rfl Try.func7 (by kernel_rfl) rfl #[] rfl (by (try simp only [List.map_toArray, List.map_cons, List.map_nil]); first | done | rfl | (simp; done)) ?_; (with_reducible refine (barrowlaw07_small.calls k _ _  Hc1.out).mono ?_); rintro e_ w15 ⟨rfl, hb_⟩; refine ⟨_, rfl, ?_⟩; replace HS := Aside0.mk (HS.out.below hb_); replace HK := Aside0.mk (HK.out.trans (Keep.below hb_)); have hb_ := SL.at_ (SL.get1 HS.out); have hz3000122_0_3 := ((blk_cell hb_ 0).trans rfl : _ = some (.int .i64 a0_0)); have hz3000122_1_3 := ((blk_cell hb_ 1).trans rfl : _ = some (.int .i64 a0_1)); have hz3000122_2_3 := ((blk_cell hb_ 2).trans rfl : _ = some (.slice A0_2 l0_2.length c0_2)); clear hb_) | ((with_reducible refine gate_dst (N := 11) rfl ?_); refine goesL_ (some 11) rfl rfl Try.func8 (by kernel_rfl) rfl #[.agg #[.int .i64 a0_0, .int .i64 a0_1, .slice A0_2 l0_2.length c0_2]] rfl (by (try simp only [List.map_toArray, List.map_cons, List.map_nil]); first | done | rfl | (simp; done)) ?_; (with_reducible refine (barrowlaw06_Few.calls _ _ _ _ _ _ _ (RO.at_ HR0_2.out HK.out) HC0_2.out Hc2.out).mono ?_); rintro e_ w16 ⟨rfl, hb_⟩; refine ⟨_, rfl, ?_⟩; replace HS := Aside0.mk (HS.out.below hb_); replace HK := Aside0.mk (HK.out.trans (Keep.below hb_)); (try clear hz3000122_0_3 hz3000122_1_3 hz3000122_2_3)))
        refine start_ (n := 23) (S := fun w' => w'.cell? ⟨g3000122, 2, none⟩ = some (.slice A0_2 l0_2.length c0_2) ∧ w'.cell? ⟨g3000122, 0, none⟩ = some (.int .i64 a0_0) ∧ w'.cell? ⟨g3000122, 1, none⟩ = some (.int .i64 a0_1) ∧ w'.cell? ⟨g3000123, 0, none⟩ = some (.int .i64 a1_0) ∧ w'.cell? ⟨g3000123, 1, none⟩ = some (.int .i64 a1_1)) (ds := []) #[false, false, false, false, false, false, false, false, false, false, false, false, false, false, false, false, false, false, false, false, false, false, false] (by kernel_rfl) rfl rfl ⟨(((blk_cell (SL.at_ (SL.get1 HS.out)) 2).trans rfl)), (((blk_cell (SL.at_ (SL.get1 HS.out)) 0).trans rfl)), (((blk_cell (SL.at_ (SL.get1 HS.out)) 1).trans rfl)), (((blk_cell (SL.at_ HS.out) 0).trans rfl)), (((blk_cell (SL.at_ HS.out) 1).trans rfl))⟩ (fun hHeld => ?_); refine with_tabW barrowlaw07_SightAround.tab3 barrowlaw07_SightAround.bits3 (fun HT_ HW_ => ?_)
        replace HK := Aside0.mk (Keep.drew HK.out)
        replace HS := Aside0.mk (SL.drew HS.out)
        refine pure_ (i := 0) (N := some 12) (v := ?_) (a' := ?_) #[true, false, false, false, false, false, false, false, false, false, false, false, false, false, false, false, false, false, false, false, false, false, false] rfl rfl (any_of HT_.out (by kernel_rfl)) (fun _ _ _ h => h) (Or.inl ⟨by rfl, ?_⟩) ?_ ?_; rotate_left; · (intro w'; go_simp; with_reducible rfl)
        rotate_left; · (simp only [Act.put, sT, sZ, sS, i64_w, i32_w]; rfl)
        refine pure_ (i := 1) (N := some 13) (v := ?_) (a' := ?_) #[true, true, false, false, false, false, false, false, false, false, false, false, false, false, false, false, false, false, false, false, false, false, false] rfl rfl (any_of HT_.out (by kernel_rfl)) (fun _ _ _ h => h) (Or.inl ⟨by rfl, ?_⟩) ?_ ?_; rotate_left; · (intro w'; go_simp; with_reducible rfl)
        rotate_left; · (simp only [Act.put, sT, sZ, sS, i64_w, i32_w]; rfl)
        refine pure_ (i := 2) (N := some 14) (v := ?_) (a' := ?_) #[true, true, true, false, false, false, false, false, false, false, false, false, false, false, false, false, false, false, false, false, false, false, false] rfl rfl (any_of HT_.out (by kernel_rfl)) (fun _ _ _ h => h) (Or.inl ⟨by rfl, ?_⟩) ?_ ?_; rotate_left; · (intro w'; go_simp; with_reducible rfl)
        rotate_left; · (simp only [Act.put, sT, sZ, sS, i64_w, i32_w]; rfl)
        refine pure_ (i := 3) (N := some 15) (v := ?_) (a' := ?_) #[true, true, true, true, false, false, false, false, false, false, false, false, false, false, false, false, false, false, false, false, false, false, false] rfl rfl (any_of HT_.out (by kernel_rfl)) (fun _ _ _ h => h) (Or.inl ⟨by rfl, ?_⟩) ?_ ?_; rotate_left; · (intro w'; go_simp; with_reducible rfl)
        rotate_left; · (simp only [Act.put, sT, sZ, sS, i64_w, i32_w]; rfl)
        refine pure_ (i := 4) (N := some 16) (v := ?_) (a' := ?_) #[true, true, true, true, true, false, false, false, false, false, false, false, false, false, false, false, false, false, false, false, false, false, false] rfl rfl (any_of HT_.out (by kernel_rfl)) (fun _ _ _ h => h) (Or.inl ⟨by rfl, ?_⟩) ?_ ?_; rotate_left; · (intro w'; go_simp; with_reducible rfl)
        rotate_left; · (simp only [Act.put, sT, sZ, sS, i64_w, i32_w]; rfl)
        refine pure_ (i := 5) (N := some 17) (v := ?_) (a' := ?_) #[true, true, true, true, true, true, false, false, false, false, false, false, false, false, false, false, false, false, false, false, false, false, false] rfl rfl (any_of HT_.out (by kernel_rfl)) (fun _ _ _ h => h) (Or.inl ⟨by rfl, ?_⟩) ?_ ?_; rotate_left; · (intro w'; go_simp; with_reducible rfl)
        rotate_left; · (simp only [Act.put, sT, sZ, sS, i64_w, i32_w]; rfl)
        refine take_ (i := 6) (N := some 18) (v := ?_) (a' := ?_) #[true, true, true, true, true, true, true, false, false, false, false, false, false, false, false, false, false, false, false, false, false, false, false] rfl rfl (take_ofW HT_.out HW_.out (by kernel_rfl)) (fun _ _ _ h => h) (Or.inl ⟨by rfl, ?_⟩) hHeld ?_ ?_; rotate_left
        · rintro w' ⟨s0, s1, s2, s3, s4⟩
          go_simp
          with_reducible rfl
        rotate_left; · (simp only [Act.put, sT, sZ, sS, i64_w, i32_w]; rfl)
        refine pure_ (i := 7) (N := some 19) (v := ?_) (a' := ?_) #[true, true, true, true, true, true, true, true, false, false, false, false, false, false, false, false, false, false, false, false, false, false, false] rfl rfl (any_of HT_.out (by kernel_rfl)) (fun _ _ _ h => h) (Or.inl ⟨by rfl, ?_⟩) ?_ ?_; rotate_left; · (intro w'; go_simp; with_reducible rfl)
        rotate_left; · (simp only [Act.put, sT, sZ, sS, i64_w, i32_w]; rfl)
        refine pure_ (i := 8) (N := some 20) (v := ?_) (a' := ?_) #[true, true, true, true, true, true, true, true, true, false, false, false, false, false, false, false, false, false, false, false, false, false, false] rfl rfl (any_of HT_.out (by kernel_rfl)) (fun _ _ _ h => h) (Or.inl ⟨by rfl, ?_⟩) ?_ ?_; rotate_left; · (intro w'; go_simp; with_reducible rfl)
        rotate_left; · (simp only [Act.put, sT, sZ, sS, i64_w, i32_w]; rfl)
        refine pure_ (i := 9) (N := some 21) (v := ?_) (a' := ?_) #[true, true, true, true, true, true, true, true, true, true, false, false, false, false, false, false, false, false, false, false, false, false, false] rfl rfl (any_of HT_.out (by kernel_rfl)) (fun _ _ _ h => h) (Or.inl ⟨by rfl, ?_⟩) ?_ ?_; rotate_left; · (intro w'; go_simp; with_reducible rfl)
        rotate_left; · (simp only [Act.put, sT, sZ, sS, i64_w, i32_w]; rfl)
        refine pure_ (i := 10) (N := some 22) (v := ?_) (a' := ?_) #[true, true, true, true, true, true, true, true, true, true, true, false, false, false, false, false, false, false, false, false, false, false, false] rfl rfl (any_of HT_.out (by kernel_rfl)) (fun _ _ _ h => h) (Or.inl ⟨by rfl, ?_⟩) ?_ ?_; rotate_left; · (intro w'; go_simp; with_reducible rfl)
        rotate_left; · (simp only [Act.put, sT, sZ, sS, i64_w, i32_w]; rfl)
        refine pure_ (i := 13) (N := some 25) (v := ?_) (a' := ?_) #[true, true, true, true, true, true, true, true, true, true, true, false, false, true, false, false, false, false, false, false, false, false, false] rfl rfl (any_of HT_.out (by kernel_rfl)) (fun _ _ _ h => h) (Or.inl ⟨by rfl, ?_⟩) ?_ ?_; rotate_left; · (intro w'; go_simp; with_reducible rfl)
        rotate_left; · (simp only [Act.put, sT, sZ, sS, i64_w, i32_w]; rfl)
        refine pure_ (i := 17) (N := some 29) (v := ?_) (a' := ?_) #[true, true, true, true, true, true, true, true, true, true, true, false, false, true, false, false, false, true, false, false, false, false, false] rfl rfl (any_of HT_.out (by kernel_rfl)) (fun _ _ _ h => h) (Or.inl ⟨by rfl, ?_⟩) ?_ ?_; rotate_left; · (intro w'; go_simp; with_reducible rfl)
        rotate_left; · (simp only [Act.put, sT, sZ, sS, i64_w, i32_w]; rfl)
        refine take_ (i := 11) (N := some 23) (v := ?_) (a' := ?_) #[true, true, true, true, true, true, true, true, true, true, true, true, false, true, false, false, false, true, false, false, false, false, false] rfl rfl (take_ofW HT_.out HW_.out (by kernel_rfl)) (fun _ _ _ h => h) (Or.inl ⟨by rfl, ?_⟩) hHeld ?_ ?_; rotate_left
        · rintro w' ⟨s0, s1, s2, s3, s4⟩
          go_simp
          with_reducible rfl
        rotate_left; · (simp only [Act.put, sT, sZ, sS, i64_w, i32_w]; rfl)
        refine take_ (i := 12) (N := some 24) (v := ?_) (a' := ?_) #[true, true, true, true, true, true, true, true, true, true, true, true, true, true, false, false, false, true, false, false, false, false, false] rfl rfl (take_ofW HT_.out HW_.out (by kernel_rfl)) (fun _ _ _ h => h) (Or.inl ⟨by rfl, ?_⟩) hHeld ?_ ?_; rotate_left
        · rintro w' ⟨s0, s1, s2, s3, s4⟩
          go_simp
          with_reducible rfl
        rotate_left; · (simp only [Act.put, sT, sZ, sS, i64_w, i32_w]; rfl)
        refine take_ (i := 15) (N := some 27) (v := ?_) (a' := ?_) #[true, true, true, true, true, true, true, true, true, true, true, true, true, true, false, true, false, true, false, false, false, false, false] rfl rfl (take_ofW HT_.out HW_.out (by kernel_rfl)) (fun _ _ _ h => h) (Or.inl ⟨by rfl, ?_⟩) hHeld ?_ ?_; rotate_left
        · rintro w' ⟨s0, s1, s2, s3, s4⟩
          go_simp
          with_reducible rfl
        rotate_left; · (simp only [Act.put, sT, sZ, sS, i64_w, i32_w]; rfl)
        refine take_ (i := 16) (N := some 28) (v := ?_) (a' := ?_) #[true, true, true, true, true, true, true, true, true, true, true, true, true, true, false, true, true, true, false, false, false, false, false] rfl rfl (take_ofW HT_.out HW_.out (by kernel_rfl)) (fun _ _ _ h => h) (Or.inl ⟨by rfl, ?_⟩) hHeld ?_ ?_; rotate_left
        · rintro w' ⟨s0, s1, s2, s3, s4⟩
          go_simp
          with_reducible rfl
        rotate_left; · (simp only [Act.put, sT, sZ, sS, i64_w, i32_w]; rfl)
        refine one_ (i := 14) (N := some 26) #[true, true, true, true, true, true, true, true, true, true, true, true, true, true, true, true, true, true, false, false, false, false, false] rfl rfl (one_of HT_.out (by kernel_rfl)) (by decide) (fun K hK => ?_)
        refine goes_ Try.func20 (by kernel_rfl) rfl #[.agg #[.int .i64 a0_0, .int .i64 a0_1, .slice A0_2 l0_2.length c0_2], .agg #[.int .i64 a1_0, .int .i64 a1_1], .int .i64 a2] (by rfl) rfl rfl (by (try simp only [List.map_toArray, List.map_cons, List.map_nil]); first | done | rfl | (simp; done)) ?_
        have hs0_ := HS.out
        (with_reducible refine (sight_Seen.slcalls k _ _ _ _ _ _ _ _ _ _ _ _ (HF.out.keep HK.out) hs0_ (HR0_2.out.keep HK.out) HC0_2.out Hc10.out).mono ?_)
        rintro e_ w17 ⟨Az3000124, cz3000124, rfl, hsr_, hkr_⟩
        refine ⟨_, rfl, ?_⟩
        replace HS := Aside0.mk (hsr_)
        replace HK := Aside0.mk (HK.out.trans hkr_)
        refine hK.out _ _ ⟨(((blk_cell (SL.at_ (SL.get2 HS.out)) 2).trans rfl)), (((blk_cell (SL.at_ (SL.get2 HS.out)) 0).trans rfl)), (((blk_cell (SL.at_ (SL.get2 HS.out)) 1).trans rfl)), (((blk_cell (SL.at_ (SL.get1 HS.out)) 0).trans rfl)), (((blk_cell (SL.at_ (SL.get1 HS.out)) 1).trans rfl))⟩ (fun hHeld => ?_)
        clear hK K
        refine norm_ (a' := ?_) ?_ ?_; rotate_left
        · show Act.put _ (some 26) _ = _
          simp only [Act.put, sT, sZ, sS, i64_w, i32_w]
          rfl
        refine one_ (i := 18) (N := some 30) #[true, true, true, true, true, true, true, true, true, true, true, true, true, true, true, true, true, true, true, false, false, false, false] rfl rfl (one_of HT_.out (by kernel_rfl)) (by decide) (fun K hK => ?_)
        refine goes_ Try.func21 (by kernel_rfl) rfl #[.agg #[.int .i64 a0_0, .int .i64 a0_1, .slice A0_2 l0_2.length c0_2], .agg #[.int .i64 a1_0, .int .i64 a1_1], .int .i64 a2] (by rfl) rfl rfl (by (try simp only [List.map_toArray, List.map_cons, List.map_nil]); first | done | rfl | (simp; done)) ?_
        have hs0_ := HS.out
        (with_reducible refine (barrowref07_Seen.slcalls k _ _ _ _ _ _ _ _ _ _ _ _ (HF.out.keep HK.out) hs0_ (HR0_2.out.keep HK.out) HC0_2.out Hc11.out).mono ?_)
        rintro e_ w18 ⟨Az3000125, cz3000125, rfl, hsr_, hkr_⟩
        refine ⟨_, rfl, ?_⟩
        replace HS := Aside0.mk (hsr_)
        replace HK := Aside0.mk (HK.out.trans hkr_)
        refine hK.out _ _ ⟨(((blk_cell (SL.at_ (SL.get3 HS.out)) 2).trans rfl)), (((blk_cell (SL.at_ (SL.get3 HS.out)) 0).trans rfl)), (((blk_cell (SL.at_ (SL.get3 HS.out)) 1).trans rfl)), (((blk_cell (SL.at_ (SL.get2 HS.out)) 0).trans rfl)), (((blk_cell (SL.at_ (SL.get2 HS.out)) 1).trans rfl))⟩ (fun hHeld => ?_)
        clear hK K
        refine norm_ (a' := ?_) ?_ ?_; rotate_left
        · show Act.put _ (some 30) _ = _
          simp only [Act.put, sT, sZ, sS, i64_w, i32_w]
          rfl
        refine one_ (i := 19) (N := some 31) #[true, true, true, true, true, true, true, true, true, true, true, true, true, true, true, true, true, true, true, true, false, false, false] rfl rfl (one_of HT_.out (by kernel_rfl)) (by decide) (fun K hK => ?_)
        refine goes_ Try.func11 (by kernel_rfl) rfl #[.slice Az3000124 t762.length cz3000124, .slice Az3000125 t763.length cz3000125] (by rfl) rfl rfl (by (try simp only [List.map_toArray, List.map_cons, List.map_nil]); first | done | rfl | (simp; done)) ?_
        (with_reducible refine (barrowref06_Same.calls k _ _ _ _ _ _ _ _ (SL.row_c (SL.get1 HS.out)).2.2 (SL.row_c (SL.get1 HS.out)).2.1 (SL.row_c HS.out).2.2 (SL.row_c HS.out).2.1 Hc12.out).mono ?_)
        rintro e_ w19 ⟨rfl, hb_⟩
        refine ⟨_, rfl, ?_⟩
        replace hb_ := Drawn0.below hb_
        replace HS := Aside0.mk (HS.out.below hb_)
        replace HK := Aside0.mk (HK.out.trans (Keep.below hb_))
        refine hK.out _ _ ⟨(((blk_cell (SL.at_ (SL.get3 HS.out)) 2).trans rfl)), (((blk_cell (SL.at_ (SL.get3 HS.out)) 0).trans rfl)), (((blk_cell (SL.at_ (SL.get3 HS.out)) 1).trans rfl)), (((blk_cell (SL.at_ (SL.get2 HS.out)) 0).trans rfl)), (((blk_cell (SL.at_ (SL.get2 HS.out)) 1).trans rfl))⟩ (fun hHeld => ?_)
        clear hK K
        refine norm_ (a' := ?_) ?_ ?_; rotate_left
        · show Act.put _ (some 31) _ = _
          simp only [Act.put, sT, sZ, sS, i64_w, i32_w]
          rfl
        refine pure_ (i := 20) (N := some 32) (v := ?_) (a' := ?_) #[true, true, true, true, true, true, true, true, true, true, true, true, true, true, true, true, true, true, true, true, true, false, false] rfl rfl (any_of HT_.out (by kernel_rfl)) (fun _ _ _ h => h) (Or.inl ⟨by rfl, ?_⟩) ?_ ?_; rotate_left; · (intro w'; go_simp; with_reducible rfl)
        rotate_left; · (simp only [Act.put, sT, sZ, sS, i64_w, i32_w]; rfl)
        refine pure_ (i := 21) (N := some 33) (v := ?_) (a' := ?_) #[true, true, true, true, true, true, true, true, true, true, true, true, true, true, true, true, true, true, true, true, true, true, false] rfl rfl (any_of HT_.out (by kernel_rfl)) (fun _ _ _ h => h) (Or.inl ⟨by rfl, ?_⟩) ?_ ?_; rotate_left; · (intro w'; go_simp; with_reducible rfl)
        rotate_left; · (simp only [Act.put, sT, sZ, sS, i64_w, i32_w]; rfl)
        refine pure_ (i := 22) (N := some 6) (v := ?_) (a' := ?_) #[true, true, true, true, true, true, true, true, true, true, true, true, true, true, true, true, true, true, true, true, true, true, true] rfl rfl (any_of HT_.out (by kernel_rfl)) (fun _ _ _ h => h) (Or.inl ⟨by rfl, ?_⟩) ?_ ?_; rotate_left; · (intro w'; go_simp; with_reducible rfl)
        rotate_left; · (simp only [Act.put, sT, sZ, sS, i64_w, i32_w]; rfl)
        refine done_ (done_of HT_.out (by kernel_rfl)) ?_
        try go_wp2
        go_ret
        replace HS := Aside0.mk (SL.tail (SL.tail (SL.tail (SL.tail HS.out))))
        unfold barrowlaw07_SightAround.Post
        exact ⟨by first | rfl | (simp; done) | (simp [*]; done), HS.out, HK.out⟩
    · replace c4 := Bool.eq_false_iff.mpr c4
      subst c4
      rw [if_neg (show ¬ (false = true) by decide)] at H
      obtain rfl := Option.some.inj H
      go_enter Try.func6, Try.ntmps6
      try go_wp2_with (first | ((with_reducible refine gate_dst (N := 3) rfl ?_); refine wpList_plain rfl (fun K_ hK_ => ?_); refine op_box (S := S) (cs := #[.int .i64 a0_0, .int .i64 a0_1, .slice A0_2 l0_2.length c0_2]) (t := 24) (HF.out.keep HK.out) HS.out (by first | (go_simp; done) | (go_simp; rfl)) ?_; intro g3000122 w20 hs_ hk_; refine hK_ _ _ ?_; clear hK_ K_; replace HS := Aside0.mk (hs_); replace HK := Aside0.mk (HK.out.trans hk_)) | ((with_reducible refine gate_dst (N := 4) rfl ?_); refine wpList_plain rfl (fun K_ hK_ => ?_); refine op_box (S := S) (cs := #[.int .i64 a1_0, .int .i64 a1_1]) (t := 26) (HF.out.keep HK.out) HS.out (by first | (go_simp; done) | (go_simp; rfl)) ?_; intro g3000123 w21 hs_ hk_; refine hK_ _ _ ?_; clear hK_ K_; replace HS := Aside0.mk (hs_); replace HK := Aside0.mk (HK.out.trans hk_)) | ((with_reducible refine gate_dst (N := 9) rfl ?_); refine goesL_ (some 9) rfl rfl Try.func7 (by kernel_rfl) rfl #[] rfl (by (try simp only [List.map_toArray, List.map_cons, List.map_nil]); first | done | rfl | (simp; done)) ?_; (with_reducible refine (barrowlaw07_small.calls k _ _  Hc1.out).mono ?_); rintro e_ w22 ⟨rfl, hb_⟩; refine ⟨_, rfl, ?_⟩; replace HS := Aside0.mk (HS.out.below hb_); replace HK := Aside0.mk (HK.out.trans (Keep.below hb_)); have hb_ := SL.at_ (SL.get1 HS.out); have hz3000122_0_3 := ((blk_cell hb_ 0).trans rfl : _ = some (.int .i64 a0_0)); have hz3000122_1_3 := ((blk_cell hb_ 1).trans rfl : _ = some (.int .i64 a0_1)); have hz3000122_2_3 := ((blk_cell hb_ 2).trans rfl : _ = some (.slice A0_2 l0_2.length c0_2)); clear hb_) | ((with_reducible refine gate_dst (N := 11) rfl ?_); refine goesL_ (some 11) rfl rfl Try.func8 (by kernel_rfl) rfl #[.agg #[.int .i64 a0_0, .int .i64 a0_1, .slice A0_2 l0_2.length c0_2]] rfl (by (try simp only [List.map_toArray, List.map_cons, List.map_nil]); first | done | rfl | (simp; done)) ?_; (with_reducible refine (barrowlaw06_Few.calls _ _ _ _ _ _ _ (RO.at_ HR0_2.out HK.out) HC0_2.out Hc2.out).mono ?_); rintro e_ w23 ⟨rfl, hb_⟩; refine ⟨_, rfl, ?_⟩; replace HS := Aside0.mk (HS.out.below hb_); replace HK := Aside0.mk (HK.out.trans (Keep.below hb_)); (try clear hz3000122_0_3 hz3000122_1_3 hz3000122_2_3)))
      refine start_ (n := 23) (S := fun w' => True) (ds := []) #[false, false, false, false, false, false, false, false, false, false, false, false, false, false, false, false, false, false, false, false, false, false, false] (by kernel_rfl) rfl rfl trivial (fun hHeld => ?_); refine with_tabW barrowlaw07_SightAround.tab3 barrowlaw07_SightAround.bits3 (fun HT_ HW_ => ?_)
      replace HK := Aside0.mk (Keep.drew HK.out)
      replace HS := Aside0.mk (SL.drew HS.out)
      refine pure_ (i := 0) (N := some 12) (v := ?_) (a' := ?_) #[true, false, false, false, false, false, false, false, false, false, false, false, false, false, false, false, false, false, false, false, false, false, false] rfl rfl (any_of HT_.out (by kernel_rfl)) (fun _ _ _ h => h) (Or.inl ⟨by rfl, ?_⟩) ?_ ?_; rotate_left; · (intro w'; go_simp; with_reducible rfl)
      rotate_left; · (simp only [Act.put, sT, sZ, sS, i64_w, i32_w]; rfl)
      refine pure_ (i := 1) (N := some 13) (v := ?_) (a' := ?_) #[true, true, false, false, false, false, false, false, false, false, false, false, false, false, false, false, false, false, false, false, false, false, false] rfl rfl (any_of HT_.out (by kernel_rfl)) (fun _ _ _ h => h) (Or.inl ⟨by rfl, ?_⟩) ?_ ?_; rotate_left; · (intro w'; go_simp; with_reducible rfl)
      rotate_left; · (simp only [Act.put, sT, sZ, sS, i64_w, i32_w]; rfl)
      refine pure_ (i := 2) (N := some 14) (v := ?_) (a' := ?_) #[true, true, true, false, false, false, false, false, false, false, false, false, false, false, false, false, false, false, false, false, false, false, false] rfl rfl (any_of HT_.out (by kernel_rfl)) (fun _ _ _ h => h) (Or.inl ⟨by rfl, ?_⟩) ?_ ?_; rotate_left; · (intro w'; go_simp; with_reducible rfl)
      rotate_left; · (simp only [Act.put, sT, sZ, sS, i64_w, i32_w]; rfl)
      refine pure_ (i := 3) (N := some 15) (v := ?_) (a' := ?_) #[true, true, true, true, false, false, false, false, false, false, false, false, false, false, false, false, false, false, false, false, false, false, false] rfl rfl (any_of HT_.out (by kernel_rfl)) (fun _ _ _ h => h) (Or.inl ⟨by rfl, ?_⟩) ?_ ?_; rotate_left; · (intro w'; go_simp; with_reducible rfl)
      rotate_left; · (simp only [Act.put, sT, sZ, sS, i64_w, i32_w]; rfl)
      refine pure_ (i := 4) (N := some 16) (v := ?_) (a' := ?_) #[true, true, true, true, true, false, false, false, false, false, false, false, false, false, false, false, false, false, false, false, false, false, false] rfl rfl (any_of HT_.out (by kernel_rfl)) (fun _ _ _ h => h) (Or.inl ⟨by rfl, ?_⟩) ?_ ?_; rotate_left; · (intro w'; go_simp; with_reducible rfl)
      rotate_left; · (simp only [Act.put, sT, sZ, sS, i64_w, i32_w]; rfl)
      refine pure_ (i := 5) (N := some 17) (v := undef) (a' := ?_) #[true, true, true, true, true, true, false, false, false, false, false, false, false, false, false, false, false, false, false, false, false, false, false] rfl rfl (any_of HT_.out (by kernel_rfl)) (fun _ _ _ h => h) (Or.inr ⟨by rfl, rfl⟩) ?_ ?_; rotate_left; · (simp only [Act.put, sT, sZ, sS, i64_w, i32_w]; rfl)
      refine pure_ (i := 6) (N := some 18) (v := undef) (a' := ?_) #[true, true, true, true, true, true, true, false, false, false, false, false, false, false, false, false, false, false, false, false, false, false, false] rfl rfl (any_of HT_.out (by kernel_rfl)) (fun _ _ _ h => h) (Or.inr ⟨by rfl, rfl⟩) ?_ ?_; rotate_left; · (simp only [Act.put, sT, sZ, sS, i64_w, i32_w]; rfl)
      refine pure_ (i := 7) (N := some 19) (v := undef) (a' := ?_) #[true, true, true, true, true, true, true, true, false, false, false, false, false, false, false, false, false, false, false, false, false, false, false] rfl rfl (any_of HT_.out (by kernel_rfl)) (fun _ _ _ h => h) (Or.inr ⟨by rfl, rfl⟩) ?_ ?_; rotate_left; · (simp only [Act.put, sT, sZ, sS, i64_w, i32_w]; rfl)
      refine pure_ (i := 8) (N := some 20) (v := undef) (a' := ?_) #[true, true, true, true, true, true, true, true, true, false, false, false, false, false, false, false, false, false, false, false, false, false, false] rfl rfl (any_of HT_.out (by kernel_rfl)) (fun _ _ _ h => h) (Or.inr ⟨by rfl, rfl⟩) ?_ ?_; rotate_left; · (simp only [Act.put, sT, sZ, sS, i64_w, i32_w]; rfl)
      refine pure_ (i := 9) (N := some 21) (v := ?_) (a' := ?_) #[true, true, true, true, true, true, true, true, true, true, false, false, false, false, false, false, false, false, false, false, false, false, false] rfl rfl (any_of HT_.out (by kernel_rfl)) (fun _ _ _ h => h) (Or.inl ⟨by rfl, ?_⟩) ?_ ?_; rotate_left; · (intro w'; go_simp; with_reducible rfl)
      rotate_left; · (simp only [Act.put, sT, sZ, sS, i64_w, i32_w]; rfl)
      refine pure_ (i := 10) (N := some 22) (v := ?_) (a' := ?_) #[true, true, true, true, true, true, true, true, true, true, true, false, false, false, false, false, false, false, false, false, false, false, false] rfl rfl (any_of HT_.out (by kernel_rfl)) (fun _ _ _ h => h) (Or.inl ⟨by rfl, ?_⟩) ?_ ?_; rotate_left; · (intro w'; go_simp; with_reducible rfl)
      rotate_left; · (simp only [Act.put, sT, sZ, sS, i64_w, i32_w]; rfl)
      refine pure_ (i := 11) (N := some 23) (v := undef) (a' := ?_) #[true, true, true, true, true, true, true, true, true, true, true, true, false, false, false, false, false, false, false, false, false, false, false] rfl rfl (any_of HT_.out (by kernel_rfl)) (fun _ _ _ h => h) (Or.inr ⟨by rfl, rfl⟩) ?_ ?_; rotate_left; · (simp only [Act.put, sT, sZ, sS, i64_w, i32_w]; rfl)
      refine pure_ (i := 12) (N := some 24) (v := undef) (a' := ?_) #[true, true, true, true, true, true, true, true, true, true, true, true, true, false, false, false, false, false, false, false, false, false, false] rfl rfl (any_of HT_.out (by kernel_rfl)) (fun _ _ _ h => h) (Or.inr ⟨by rfl, rfl⟩) ?_ ?_; rotate_left; · (simp only [Act.put, sT, sZ, sS, i64_w, i32_w]; rfl)
      refine pure_ (i := 13) (N := some 25) (v := undef) (a' := ?_) #[true, true, true, true, true, true, true, true, true, true, true, true, true, true, false, false, false, false, false, false, false, false, false] rfl rfl (any_of HT_.out (by kernel_rfl)) (fun _ _ _ h => h) (Or.inr ⟨by rfl, rfl⟩) ?_ ?_; rotate_left; · (simp only [Act.put, sT, sZ, sS, i64_w, i32_w]; rfl)
      refine pure_ (i := 14) (N := some 26) (v := undef) (a' := ?_) #[true, true, true, true, true, true, true, true, true, true, true, true, true, true, true, false, false, false, false, false, false, false, false] rfl rfl (any_of HT_.out (by kernel_rfl)) (fun _ _ _ h => h) (Or.inr ⟨by rfl, rfl⟩) ?_ ?_; rotate_left; · (simp only [Act.put, sT, sZ, sS, i64_w, i32_w]; rfl)
      refine pure_ (i := 15) (N := some 27) (v := undef) (a' := ?_) #[true, true, true, true, true, true, true, true, true, true, true, true, true, true, true, true, false, false, false, false, false, false, false] rfl rfl (any_of HT_.out (by kernel_rfl)) (fun _ _ _ h => h) (Or.inr ⟨by rfl, rfl⟩) ?_ ?_; rotate_left; · (simp only [Act.put, sT, sZ, sS, i64_w, i32_w]; rfl)
      refine pure_ (i := 16) (N := some 28) (v := undef) (a' := ?_) #[true, true, true, true, true, true, true, true, true, true, true, true, true, true, true, true, true, false, false, false, false, false, false] rfl rfl (any_of HT_.out (by kernel_rfl)) (fun _ _ _ h => h) (Or.inr ⟨by rfl, rfl⟩) ?_ ?_; rotate_left; · (simp only [Act.put, sT, sZ, sS, i64_w, i32_w]; rfl)
      refine pure_ (i := 17) (N := some 29) (v := undef) (a' := ?_) #[true, true, true, true, true, true, true, true, true, true, true, true, true, true, true, true, true, true, false, false, false, false, false] rfl rfl (any_of HT_.out (by kernel_rfl)) (fun _ _ _ h => h) (Or.inr ⟨by rfl, rfl⟩) ?_ ?_; rotate_left; · (simp only [Act.put, sT, sZ, sS, i64_w, i32_w]; rfl)
      refine pure_ (i := 18) (N := some 30) (v := undef) (a' := ?_) #[true, true, true, true, true, true, true, true, true, true, true, true, true, true, true, true, true, true, true, false, false, false, false] rfl rfl (any_of HT_.out (by kernel_rfl)) (fun _ _ _ h => h) (Or.inr ⟨by rfl, rfl⟩) ?_ ?_; rotate_left; · (simp only [Act.put, sT, sZ, sS, i64_w, i32_w]; rfl)
      refine pure_ (i := 19) (N := some 31) (v := undef) (a' := ?_) #[true, true, true, true, true, true, true, true, true, true, true, true, true, true, true, true, true, true, true, true, false, false, false] rfl rfl (any_of HT_.out (by kernel_rfl)) (fun _ _ _ h => h) (Or.inr ⟨by rfl, rfl⟩) ?_ ?_; rotate_left; · (simp only [Act.put, sT, sZ, sS, i64_w, i32_w]; rfl)
      refine pure_ (i := 20) (N := some 32) (v := ?_) (a' := ?_) #[true, true, true, true, true, true, true, true, true, true, true, true, true, true, true, true, true, true, true, true, true, false, false] rfl rfl (any_of HT_.out (by kernel_rfl)) (fun _ _ _ h => h) (Or.inl ⟨by rfl, ?_⟩) ?_ ?_; rotate_left; · (intro w'; go_simp; with_reducible rfl)
      rotate_left; · (simp only [Act.put, sT, sZ, sS, i64_w, i32_w]; rfl)
      refine pure_ (i := 21) (N := some 33) (v := ?_) (a' := ?_) #[true, true, true, true, true, true, true, true, true, true, true, true, true, true, true, true, true, true, true, true, true, true, false] rfl rfl (any_of HT_.out (by kernel_rfl)) (fun _ _ _ h => h) (Or.inl ⟨by rfl, ?_⟩) ?_ ?_; rotate_left; · (intro w'; go_simp; with_reducible rfl)
      rotate_left; · (simp only [Act.put, sT, sZ, sS, i64_w, i32_w]; rfl)
      refine pure_ (i := 22) (N := some 6) (v := ?_) (a' := ?_) #[true, true, true, true, true, true, true, true, true, true, true, true, true, true, true, true, true, true, true, true, true, true, true] rfl rfl (any_of HT_.out (by kernel_rfl)) (fun _ _ _ h => h) (Or.inl ⟨by rfl, ?_⟩) ?_ ?_; rotate_left; · (intro w'; go_simp; with_reducible rfl)
      rotate_left; · (simp only [Act.put, sT, sZ, sS, i64_w, i32_w]; rfl)
      refine done_ (done_of HT_.out (by kernel_rfl)) ?_
      try go_wp2
      go_ret
      replace HS := Aside0.mk (SL.tail (SL.tail HS.out))
      unfold barrowlaw07_SightAround.Post
      exact ⟨by first | rfl | (simp; done) | (simp [*]; done), HS.out, HK.out⟩
  · replace c3 := Bool.eq_false_iff.mpr c3
    subst c3
    rw [if_neg (show ¬ (false = true) by decide)] at H
    exact absurd H (by simp)
theorem barrowlaw07_SightAround.calls (k : Nat) (a0_0 : Int) (a0_1 : Int) (A0_2 : Option Addr) (c0_2 : Nat) (l0_2 : List Bool) (a1_0 : Int) (a1_1 : Int) (a2 : Int) (r : Bool) (w : World) (hr0_2 : Kd.C Kd.bool w A0_2 l0_2.length l0_2) (hc0_2 : l0_2.length ≤ c0_2) (h : barrowlaw07_SightAround.f k a0_0 a0_1 l0_2 a1_0 a1_1 a2 = some r) :
    Calls Try.prog 6 #[.agg #[.int .i64 a0_0, .int .i64 a0_1, .slice A0_2 l0_2.length c0_2], .agg #[.int .i64 a1_0, .int .i64 a1_1], .int .i64 a2] w fun e w' => e = .returned (.bool r) ∧ Below w.heap.size w w' :=
  (barrowlaw07_SightAround.slcalls k a0_0 a0_1 A0_2 c0_2 l0_2 a1_0 a1_1 a2 r (news w) [] w (fresh_news w) trivial (RO.top hr0_2) hc0_2 h).mono fun _ _ h => ⟨h.1, h.2.2.to_below⟩

/-- THE ONE PURE STATEMENT of barrowlaw07_SightAround. -/
def barrowlaw07_SightAround.Pure : Prop := ∀ (a0_0 : Int) (a0_1 : Int) (l0_2 : List Bool) (a1_0 : Int) (a1_1 : Int) (a2 : Int), ((Lit.int .i64 a0_0).wf = true) → ((Lit.int .i64 a0_1).wf = true) → (l0_2.length ≤ maxLen ∧ l0_2.length * 1 ≤ 140737488351232 ∧ ∀ x765_ ∈ l0_2, True) → ((Lit.int .i64 a1_0).wf = true) → ((Lit.int .i64 a1_1).wf = true) → ((Lit.int .i64 a2).wf = true) → ∃ k, barrowlaw07_SightAround.f k a0_0 a0_1 l0_2 a1_0 a1_1 a2 = some true

end Go.Proofs.Ytljmecjciifceaa.XSG
