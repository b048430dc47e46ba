-- Written by xprint.py (a program of this session) for this claim
import Derived.Test.YtiadhonhjnbliaaSq
import Derived.Test.YtiadhonhjnbliaaSL5
import Derived.Test.YtiadhonhjnbliaaXZTx0
import Derived.Test.YtiadhonhjnbliaaXZTx4
import Derived.Test.YtiadhonhjnbliaaXZTx5
import Derived.Test.YtiadhonhjnbliaaXZTx6
namespace Go.Proofs.Ytiadhonhjnbliaa.XZT
open Go.Proofs.YtiadhonhjnbliaaV Go.Proofs.YtiadhonhjnbliaaS
open Go.RowKit Go.Proofs.YtiadhonhjnbliaaW.PrintWords Go.Proofs.YtiadhonhjnbliaaW.PrintLast Go.Proofs.YtiadhonhjnbliaaW.PrintMore
attribute [local go_sem] max2_int min2_int max_two min_two max_three min_three max_four min_four   -- for this text's walks alone
set_option linter.unusedVariables false
set_option linter.unusedSimpArgs false

/-! ### area_In: function 24 -/
def area_In.f (k : Nat) (a0_0 : Int) (a0_1 : Int) (a0_2 : Int) (a0_3 : Int) (a0_4 : Int) (a0_5 : Int) (a0_6 : Int) (a1_0 : Int) (a1_1 : Int) : Option (Bool) := (area_Right.f a0_0 a0_1 a0_2 a0_3 a0_4 a0_5 a0_6).bind fun t189 => (if t189 = true then ((area_near.f a1_0 a1_1).bind fun t190 => (if t190 = true then ((area_less.f a1_0 a1_1 a0_1 a0_2).bind fun bt191 => ((area_less.f a0_3 a0_4 a0_1 a0_2).bind fun bt193 => (if a0_0 = 1 then ((grid_Near.f k a0_1 a0_2 a1_0 a1_1 a0_5).bind fun t195 => (some t195)) else (if a0_0 = 2 then ((grid_Near.f k a0_1 a0_2 a1_0 a1_1 a0_6).bind fun t196 => (if t196 = true then (if a0_5 = 0 then (some true) else ((grid_Near.f k a0_1 a0_2 a1_0 a1_1 a0_5).bind fun t197 => (if t197 = true then (some false) else (some true)))) else (some false))) else (if a0_0 = 3 then ((area_box.f a1_0 a0_1 a0_3).bind fun t198 => (if t198 = true then ((area_box.f a1_1 a0_2 a0_4).bind fun t199 => (some t199)) else (some false))) else (if a0_0 = 4 then ((grid_Near.f k a0_1 a0_2 a1_0 a1_1 a0_5).bind fun t200 => (if t200 = true then ((area_cone.f bt191.1 bt191.2 bt193.1 bt193.2).bind fun t201 => (some t201)) else (some false))) else ((area_beam.f bt191.1 bt191.2 bt193.1 bt193.2 a0_5).bind fun t202 => (some t202)))))))) else (some false))) else (some false))
theorem area_In.mono : ∀ a0 a1 a2 a3 a4 a5 a6 a7 a8 k, LeO (area_In.f k a0 a1 a2 a3 a4 a5 a6 a7 a8) (area_In.f (k + 1) a0 a1 a2 a3 a4 a5 a6 a7 a8) := by
 intro a0 a1 a2 a3 a4 a5 a6 a7 a8 k
 unfold area_In.f
 repeat' first
   | (with_reducible exact grid_Near.mono _ _ _ _ _ _)
   | (with_reducible exact LeO.refl _)
   | (with_reducible exact LeO.none _)
   | (with_reducible refine LeO.ite ?_ ?_)
   | (with_reducible refine everyOf_le (fun _ => ?_))
   | (with_reducible refine LeO.bind ?_ (fun _ => ?_))
   | exact grid_Near.mono _ _ _ _ _ _
   | exact LeO.none _
   | refine LeO.ite ?_ ?_
   | refine LeO.bind ?_ (fun _ => ?_)
def area_In.T3 : Bool × List (List Nat × List Nat) := (true, [([], []), ([], []), ([1], [1]), ([0, 2], [0, 2]), ([], []), ([4], [4]), ([], []), ([6], [6]), ([5, 7, 3], [5, 7]), ([], []), ([], []), ([9, 3, 8, 0, 1, 2, 3, 9, 10], [3, 9]), ([10, 8, 11, 0, 1, 2, 3, 4, 5, 6, 7, 8, 9, 10, 11], [8, 10])])
def area_In.B3 : List Nat := [0, 0, 2, 7, 0, 16, 0, 64, 255, 0, 0, 2047, 4095]
theorem area_In.tab3 : rtab .any (opsOf Try.f24 3) = area_In.T3 := by kernel_rfl
theorem area_In.bits3 : waitsOk area_In.T3.2 area_In.B3 = true := by kernel_rfl
def area_In.Post (r : Bool) (S : Nat → Prop) (L : List Asr) (w : World) (e : Ending) (w' : World) : Prop := e = .returned (.bool r) ∧ SL (L) w' S ∧ Keep S w w'
set_option maxHeartbeats 8000000 in
set_option maxRecDepth 100000 in
theorem area_In.slcalls (k : Nat) (a0_0 : Int) (a0_1 : Int) (a0_2 : Int) (a0_3 : Int) (a0_4 : Int) (a0_5 : Int) (a0_6 : Int) (a1_0 : Int) (a1_1 : Int) (r : Bool) (S : Nat → Prop) (L : List Asr) (w : World) (hf : Fresh S w) (hs : SL (L) w S) (h : area_In.f k a0_0 a0_1 a0_2 a0_3 a0_4 a0_5 a0_6 a1_0 a1_1 = some r) :
  Calls Try.prog 24 #[.agg #[.int .i64 a0_0, .int .i64 a0_1, .int .i64 a0_2, .int .i64 a0_3, .int .i64 a0_4, .int .i64 a0_5, .int .i64 a0_6], .agg #[.int .i64 a1_0, .int .i64 a1_1]] w (area_In.Post r S L w) := by
 have HF := Aside0.mk hf
 have HS := Aside0.mk hs
 have HK := Aside0.mk (Keep.refl S w)
 clear hf hs
 have hu31 := Try.underlying31
 have hu33 := Try.underlying33
 have H : ((area_Right.f a0_0 a0_1 a0_2 a0_3 a0_4 a0_5 a0_6).bind fun t189 => (if t189 = true then ((area_near.f a1_0 a1_1).bind fun t190 => (if t190 = true then ((area_less.f a1_0 a1_1 a0_1 a0_2).bind fun bt191 => ((area_less.f a0_3 a0_4 a0_1 a0_2).bind fun bt193 => (if a0_0 = 1 then ((grid_Near.f k a0_1 a0_2 a1_0 a1_1 a0_5).bind fun t195 => (some t195)) else (if a0_0 = 2 then ((grid_Near.f k a0_1 a0_2 a1_0 a1_1 a0_6).bind fun t196 => (if t196 = true then (if a0_5 = 0 then (some true) else ((grid_Near.f k a0_1 a0_2 a1_0 a1_1 a0_5).bind fun t197 => (if t197 = true then (some false) else (some true)))) else (some false))) else (if a0_0 = 3 then ((area_box.f a1_0 a0_1 a0_3).bind fun t198 => (if t198 = true then ((area_box.f a1_1 a0_2 a0_4).bind fun t199 => (some t199)) else (some false))) else (if a0_0 = 4 then ((grid_Near.f k a0_1 a0_2 a1_0 a1_1 a0_5).bind fun t200 => (if t200 = true then ((area_cone.f bt191.1 bt191.2 bt193.1 bt193.2).bind fun t201 => (some t201)) else (some false))) else ((area_beam.f bt191.1 bt191.2 bt193.1 bt193.2 a0_5).bind fun t202 => (some t202)))))))) else (some false))) else (some false))) = some r := h
 clear h
 replace H := Option.bind_eq_some_iff.1 H
 obtain ⟨t189, Hc10, H⟩ := H
 try dsimp only at H
 have Hc1 := Aside0.mk Hc10
 clear Hc10
 have H' := Aside0.mk H
 clear H
 go_enter Try.func24, Try.ntmps24
 go_wp2_with (first | ((with_reducible refine gate_dst (N := 2) rfl ?_); refine wpList_plain rfl (fun K_ hK_ => ?_); refine op_box (S := S) (cs := #[.int .i64 a0_0, .int .i64 a0_1, .int .i64 a0_2, .int .i64 a0_3, .int .i64 a0_4, .int .i64 a0_5, .int .i64 a0_6]) (t := 33) (HF.out.keep HK.out) HS.out (by first | (go_simp; done) | (go_simp; rfl)) ?_; intro g3000007 w2 hs_ hk_; refine hK_ _ _ ?_; clear hK_ K_; replace HS := Aside0.mk (hs_); replace HK := Aside0.mk (HK.out.trans hk_)) | ((with_reducible refine gate_dst (N := 3) rfl ?_); refine wpList_plain rfl (fun K_ hK_ => ?_); refine op_box (S := S) (cs := #[.int .i64 a1_0, .int .i64 a1_1]) (t := 31) (HF.out.keep HK.out) HS.out (by first | (go_simp; done) | (go_simp; rfl)) ?_; intro g3000008 w3 hs_ hk_; refine hK_ _ _ ?_; clear hK_ K_; replace HS := Aside0.mk (hs_); replace HK := Aside0.mk (HK.out.trans hk_); have hb_ := SL.at_ (SL.get1 HS.out); have hz3000007_0_2 := ((blk_cell hb_ 0).trans rfl : _ = some (.int .i64 a0_0)); have hz3000007_1_2 := ((blk_cell hb_ 1).trans rfl : _ = some (.int .i64 a0_1)); have hz3000007_2_2 := ((blk_cell hb_ 2).trans rfl : _ = some (.int .i64 a0_2)); have hz3000007_3_2 := ((blk_cell hb_ 3).trans rfl : _ = some (.int .i64 a0_3)); have hz3000007_4_2 := ((blk_cell hb_ 4).trans rfl : _ = some (.int .i64 a0_4)); have hz3000007_5_2 := ((blk_cell hb_ 5).trans rfl : _ = some (.int .i64 a0_5)); have hz3000007_6_2 := ((blk_cell hb_ 6).trans rfl : _ = some (.int .i64 a0_6)); clear hb_) | ((with_reducible refine gate_dst (N := 8) rfl ?_); refine goesL_ (some 8) rfl rfl Try.func37 (by kernel_rfl) rfl #[.agg #[.int .i64 a0_0, .int .i64 a0_1, .int .i64 a0_2, .int .i64 a0_3, .int .i64 a0_4, .int .i64 a0_5, .int .i64 a0_6]] rfl (by (try simp only [List.map_toArray, List.map_cons, List.map_nil]); first | done | rfl | (simp; done)) ?_; (with_reducible refine (area_Right.calls _ _ _ _ _ _ _ _ _  Hc1.out).mono ?_); rintro e_ w4 ⟨rfl, hb_⟩; refine ⟨_, rfl, ?_⟩; replace HS := Aside0.mk (HS.out.below hb_); replace HK := Aside0.mk (HK.out.trans (Keep.below hb_)); (try clear hz3000007_0_2 hz3000007_1_2 hz3000007_2_2 hz3000007_3_2 hz3000007_4_2 hz3000007_5_2 hz3000007_6_2); refine stop_ ?_; intro G_ hG_))
 have H := H'.out
 clear H'
 by_cases c5 : t189 = true
 ·subst c5
  rw [if_pos rfl] at H
  replace H := Option.bind_eq_some_iff.1 H
  obtain ⟨t190, Hc60, H⟩ := H
  try dsimp only at H
  have Hc6 := Aside0.mk Hc60
  clear Hc60
  by_cases c7 : t190 = true
  ·subst c7
   rw [if_pos rfl] at H
   replace H := Option.bind_eq_some_iff.1 H
   obtain ⟨⟨t191, t192⟩, Hc80, H⟩ := H
   try dsimp only at H
   have Hc8 := Aside0.mk Hc80
   clear Hc80
   replace H := Option.bind_eq_some_iff.1 H
   obtain ⟨⟨t193, t194⟩, Hc90, H⟩ := H
   try dsimp only at H
   have Hc9 := Aside0.mk Hc90
   clear Hc90
   have H' := Aside0.mk H
   clear H
   have hb_ := SL.at_ HS.out
   have hz3000008_0_0 := ((blk_cell hb_ 0).trans rfl : _ = some (.int .i64 a1_0))
   have hz3000008_1_0 := ((blk_cell hb_ 1).trans rfl : _ = some (.int .i64 a1_1))
   clear hb_
   refine hG_.out ?_
   try go_wp2_with (first | ((with_reducible refine gate_dst (N := 12) rfl ?_); (try (refine gate_guard (by rfl) ?_; dsimp only)); refine goesL_ (some 12) rfl rfl Try.func40 (by kernel_rfl) rfl #[.agg #[.int .i64 a1_0, .int .i64 a1_1]] rfl (by (try simp only [List.map_toArray, List.map_cons, List.map_nil]); first | done | rfl | (simp; done)) ?_; (with_reducible refine (area_near.calls _ _ _ _  Hc6.out).mono ?_); rintro e_ w10 ⟨rfl, hb_⟩; refine ⟨_, rfl, ?_⟩; replace HS := Aside0.mk (HS.out.below hb_); replace HK := Aside0.mk (HK.out.trans (Keep.below hb_)); (try clear hz3000008_0_0 hz3000008_1_0)))
   refine start_ (n := 13) (S := fun w' => w'.cell? ⟨g3000008, 0, none⟩ = some (.int .i64 a1_0) ∧ w'.cell? ⟨g3000008, 1, none⟩ = some (.int .i64 a1_1) ∧ w'.cell? ⟨g3000007, 1, none⟩ = some (.int .i64 a0_1) ∧ w'.cell? ⟨g3000007, 2, none⟩ = some (.int .i64 a0_2) ∧ w'.cell? ⟨g3000007, 3, none⟩ = some (.int .i64 a0_3) ∧ w'.cell? ⟨g3000007, 4, none⟩ = some (.int .i64 a0_4)) (ds := []) #[O,O,O,O,O,O,O,O,O,O,O,O,O] (by kernel_rfl) rfl rfl ⟨bc HS.out 0 rfl, bc HS.out 1 rfl, bc (SL.get1 HS.out) 1 rfl, bc (SL.get1 HS.out) 2 rfl, bc (SL.get1 HS.out) 3 rfl, bc (SL.get1 HS.out) 4 rfl⟩ (fun hHeld => ?_); refine with_tabW area_In.tab3 area_In.bits3 (fun HT_ HW_ => ?_)
   replace HK := Aside0.mk (Keep.drew HK.out)
   replace HS := Aside0.mk (SL.drew HS.out)
   refine pure_ (i := 1) (N := some 16) (v := ?_) (a' := ?_) #[O,I,O,O,O,O,O,O,O,O,O,O,O] rfl rfl (any_of HT_.out (by kernel_rfl)) (fun _ _ _ h => h) (Or.inl ⟨by rfl, ?_⟩) ?_ ?_; rotate_left; · (intro w'; go_simp; with_reducible rfl)
   rotate_left; · (simp only [Act.put, sT, sZ, sS, i64_w, i32_w]; rfl)
   refine pure_ (i := 4) (N := some 19) (v := ?_) (a' := ?_) #[O,I,O,O,I,O,O,O,O,O,O,O,O] rfl rfl (any_of HT_.out (by kernel_rfl)) (fun _ _ _ h => h) (Or.inl ⟨by rfl, ?_⟩) ?_ ?_; rotate_left; · (intro w'; go_simp; with_reducible rfl)
   rotate_left; · (simp only [Act.put, sT, sZ, sS, i64_w, i32_w]; rfl)
   refine pure_ (i := 6) (N := some 21) (v := ?_) (a' := ?_) #[O,I,O,O,I,O,I,O,O,O,O,O,O] rfl rfl (any_of HT_.out (by kernel_rfl)) (fun _ _ _ h => h) (Or.inl ⟨by rfl, ?_⟩) ?_ ?_; rotate_left; · (intro w'; go_simp; with_reducible rfl)
   rotate_left; · (simp only [Act.put, sT, sZ, sS, i64_w, i32_w]; rfl)
   refine take_ (i := 0) (N := some 15) (v := ?_) (a' := ?_) #[I,I,O,O,I,O,I,O,O,O,O,O,O] rfl rfl (take_ofW HT_.out HW_.out (by kernel_rfl)) (fun _ _ _ h => h) (Or.inl ⟨by rfl, ?_⟩) hHeld ?_ ?_; rotate_left
   ·rintro w' ⟨s0, s1, s2, s3, s4, s5⟩
    go_simp
    with_reducible rfl
   rotate_left; · (simp only [Act.put, sT, sZ, sS, i64_w, i32_w]; rfl)
   refine take_ (i := 2) (N := some 17) (v := ?_) (a' := ?_) #[I,I,I,O,I,O,I,O,O,O,O,O,O] rfl rfl (take_ofW HT_.out HW_.out (by kernel_rfl)) (fun _ _ _ h => h) (Or.inl ⟨by rfl, ?_⟩) hHeld ?_ ?_; rotate_left
   ·rintro w' ⟨s0, s1, s2, s3, s4, s5⟩
    go_simp
    with_reducible rfl
   rotate_left; · (simp only [Act.put, sT, sZ, sS, i64_w, i32_w]; rfl)
   refine take_ (i := 5) (N := some 20) (v := ?_) (a' := ?_) #[I,I,I,O,I,I,I,O,O,O,O,O,O] rfl rfl (take_ofW HT_.out HW_.out (by kernel_rfl)) (fun _ _ _ h => h) (Or.inl ⟨by rfl, ?_⟩) hHeld ?_ ?_; rotate_left
   ·rintro w' ⟨s0, s1, s2, s3, s4, s5⟩
    go_simp
    with_reducible rfl
   rotate_left; · (simp only [Act.put, sT, sZ, sS, i64_w, i32_w]; rfl)
   refine take_ (i := 7) (N := some 22) (v := ?_) (a' := ?_) #[I,I,I,O,I,I,I,I,O,O,O,O,O] rfl rfl (take_ofW HT_.out HW_.out (by kernel_rfl)) (fun _ _ _ h => h) (Or.inl ⟨by rfl, ?_⟩) hHeld ?_ ?_; rotate_left
   ·rintro w' ⟨s0, s1, s2, s3, s4, s5⟩
    go_simp
    with_reducible rfl
   rotate_left; · (simp only [Act.put, sT, sZ, sS, i64_w, i32_w]; rfl)
   refine join_ (σ := Nat × Nat) 2 #[I,I,I,I,I,I,I,I,I,I,I,O,O] (fun s_ => [(18, .agg #[.int .i64 t191, .int .i64 t192]), (23, .agg #[.int .i64 t193, .int .i64 t194]), (5, .pointer (some ⟨s_.1, 0, none⟩)), (6, .pointer (some ⟨s_.2, 0, none⟩))]) (fun s_ w_ => Keep S w w_ ∧ SL (cells s_.1 31 [.int .i64 0, .int .i64 0].toArray :: cells s_.2 31 [.int .i64 0, .int .i64 0].toArray :: cells g3000008 31 [.int .i64 a1_0, .int .i64 a1_1].toArray :: cells g3000007 33 [.int .i64 a0_0, .int .i64 a0_1, .int .i64 a0_2, .int .i64 a0_3, .int .i64 a0_4, .int .i64 a0_5, .int .i64 a0_6].toArray :: L) w_ S) ?_ ?_; rotate_left
   ·intro hCont
    refine three_ (i := 3) (j := 9) (k := 10) (Ni := some 18) (Nj := some 5) (Nk := some 6) #[I,I,I,I,I,I,I,I,O,O,O,O,O] #[I,I,I,O,I,I,I,I,O,I,O,O,O] #[I,I,I,O,I,I,I,I,O,O,I,O,O] rfl rfl rfl rfl rfl rfl (three_of HT_.out (by kernel_rfl)) (by decide) (by decide) (by decide) (fun K hK => ?_) (fun K hK => ?_) (fun K hK => ?_)
    ·skip
     refine goes_ Try.func41 (by kernel_rfl) rfl #[.agg #[.int .i64 a1_0, .int .i64 a1_1], .agg #[.int .i64 a0_1, .int .i64 a0_2]] (by rfl) rfl rfl (by (try simp only [List.map_toArray, List.map_cons, List.map_nil]); first | done | rfl | (simp; done)) ?_
     (with_reducible refine (area_less.calls _ _ _ _ _ _ _  Hc8.out).mono ?_)
     rintro e_ w18 ⟨rfl, hb_⟩
     refine ⟨_, rfl, ?_⟩
     replace HS := Aside0.mk (HS.out.below hb_)
     replace HK := Aside0.mk (HK.out.trans (Keep.below hb_))
     refine hK.out _ _ ⟨bc HS.out 0 rfl, bc HS.out 1 rfl, bc (SL.get1 HS.out) 1 rfl, bc (SL.get1 HS.out) 2 rfl, bc (SL.get1 HS.out) 3 rfl, bc (SL.get1 HS.out) 4 rfl⟩ (fun hHeld => ?_)
     clear hK K
     refine norm_ (a' := ?_) ?_ ?_; rotate_left
     ·show Act.put _ (some 18) _ = _
      simp only [Act.put, sT, sZ, sS, i64_w, i32_w]
      rfl
     refine three_ (i := 8) (j := 9) (k := 10) (Ni := some 23) (Nj := some 5) (Nk := some 6) #[I,I,I,I,I,I,I,I,I,O,O,O,O] #[I,I,I,I,I,I,I,I,O,I,O,O,O] #[I,I,I,I,I,I,I,I,O,O,I,O,O] rfl rfl rfl rfl rfl rfl (three_of HT_.out (by kernel_rfl)) (by decide) (by decide) (by decide) (fun K hK => ?_) (fun K hK => ?_) (fun K hK => ?_)
     ·skip
      refine goes_ Try.func41 (by kernel_rfl) rfl #[.agg #[.int .i64 a0_3, .int .i64 a0_4], .agg #[.int .i64 a0_1, .int .i64 a0_2]] (by rfl) rfl rfl (by (try simp only [List.map_toArray, List.map_cons, List.map_nil]); first | done | rfl | (simp; done)) ?_
      (with_reducible refine (area_less.calls _ _ _ _ _ _ _  Hc9.out).mono ?_)
      rintro e_ w19 ⟨rfl, hb_⟩
      refine ⟨_, rfl, ?_⟩
      replace HS := Aside0.mk (HS.out.below hb_)
      replace HK := Aside0.mk (HK.out.trans (Keep.below hb_))
      refine hK.out _ _ ⟨bc HS.out 0 rfl, bc HS.out 1 rfl, bc (SL.get1 HS.out) 1 rfl, bc (SL.get1 HS.out) 2 rfl, bc (SL.get1 HS.out) 3 rfl, bc (SL.get1 HS.out) 4 rfl⟩ (fun hHeld => ?_)
      clear hK K
      refine norm_ (a' := ?_) ?_ ?_; rotate_left
      ·show Act.put _ (some 23) _ = _
       simp only [Act.put, sT, sZ, sS, i64_w, i32_w]
       rfl
      refine two_ (i := 9) (j := 10) (Ni := some 5) (Nj := some 6) #[I,I,I,I,I,I,I,I,I,I,O,O,O] #[I,I,I,I,I,I,I,I,I,O,I,O,O] rfl rfl rfl rfl (two_of HT_.out (by kernel_rfl)) (by decide) (by decide) (fun K hK => ?_) (fun K hK => ?_)
      ·skip
       refine st_of (by rfl) ?_
       refine op_box (S := S) (cs := #[.int .i64 0, .int .i64 0]) (t := 31) (HF.out.keep HK.out) HS.out (by first | (go_simp; done) | (go_simp; rfl)) ?_
       intro g3000009 w20 hs_ hk_
       replace HS := Aside0.mk (hs_)
       replace HK := Aside0.mk (HK.out.trans hk_)
       refine hK.out _ _ ⟨bc (SL.get1 HS.out) 0 rfl, bc (SL.get1 HS.out) 1 rfl, bc (SL.get2 HS.out) 1 rfl, bc (SL.get2 HS.out) 2 rfl, bc (SL.get2 HS.out) 3 rfl, bc (SL.get2 HS.out) 4 rfl⟩ (fun hHeld => ?_)
       clear hK K
       refine norm_ (a' := ?_) ?_ ?_; rotate_left
       ·show Act.put _ (some 5) _ = _
        simp only [Act.put, sT, sZ, sS, i64_w, i32_w]
        rfl
       refine one_ (i := 10) (N := some 6) #[I,I,I,I,I,I,I,I,I,I,I,O,O] rfl rfl (one_of HT_.out (by kernel_rfl)) (by decide) (fun K hK => ?_)
       replace HS := Aside0.mk (SL.get2 (SL.get2 HS.out))
       refine st_of (by rfl) ?_
       refine op_box (S := S) (cs := #[.int .i64 0, .int .i64 0]) (t := 31) (HF.out.keep HK.out) HS.out (by first | (go_simp; done) | (go_simp; rfl)) ?_
       intro g3000010 w21 hs_ hk_
       replace HS := Aside0.mk (hs_)
       replace HK := Aside0.mk (HK.out.trans hk_)
       refine hK.out _ _ ⟨bc (SL.get1 HS.out) 0 rfl, bc (SL.get1 HS.out) 1 rfl, bc (SL.get2 HS.out) 1 rfl, bc (SL.get2 HS.out) 2 rfl, bc (SL.get2 HS.out) 3 rfl, bc (SL.get2 HS.out) 4 rfl⟩ (fun hHeld => ?_)
       clear hK K
       refine norm_ (a' := ?_) ?_ ?_; rotate_left
       ·show Act.put _ (some 6) _ = _
        simp only [Act.put, sT, sZ, sS, i64_w, i32_w]
        rfl
       exact norm_ (by simp only [putAll, Act.put, sT, sZ, sS]) (hCont (g3000009, g3000010) _ ⟨HK.out, (SL.get3 (SL.get2 (SL.get2 (SL.get2 HS.out))))⟩)
      ·skip
       refine st_of (by rfl) ?_
       refine op_box (S := S) (cs := #[.int .i64 0, .int .i64 0]) (t := 31) (HF.out.keep HK.out) HS.out (by first | (go_simp; done) | (go_simp; rfl)) ?_
       intro g3000010 w22 hs_ hk_
       replace HS := Aside0.mk (hs_)
       replace HK := Aside0.mk (HK.out.trans hk_)
       refine hK.out _ _ ⟨bc (SL.get1 HS.out) 0 rfl, bc (SL.get1 HS.out) 1 rfl, bc (SL.get2 HS.out) 1 rfl, bc (SL.get2 HS.out) 2 rfl, bc (SL.get2 HS.out) 3 rfl, bc (SL.get2 HS.out) 4 rfl⟩ (fun hHeld => ?_)
       clear hK K
       refine norm_ (a' := ?_) ?_ ?_; rotate_left
       ·show Act.put _ (some 6) _ = _
        simp only [Act.put, sT, sZ, sS, i64_w, i32_w]
        rfl
       refine one_ (i := 9) (N := some 5) #[I,I,I,I,I,I,I,I,I,I,I,O,O] rfl rfl (one_of HT_.out (by kernel_rfl)) (by decide) (fun K hK => ?_)
       replace HS := Aside0.mk (SL.get2 (SL.get2 HS.out))
       refine st_of (by rfl) ?_
       refine op_box (S := S) (cs := #[.int .i64 0, .int .i64 0]) (t := 31) (HF.out.keep HK.out) HS.out (by first | (go_simp; done) | (go_simp; rfl)) ?_
       intro g3000009 w23 hs_ hk_
       replace HS := Aside0.mk (hs_)
       replace HK := Aside0.mk (HK.out.trans hk_)
       refine hK.out _ _ ⟨bc (SL.get1 HS.out) 0 rfl, bc (SL.get1 HS.out) 1 rfl, bc (SL.get2 HS.out) 1 rfl, bc (SL.get2 HS.out) 2 rfl, bc (SL.get2 HS.out) 3 rfl, bc (SL.get2 HS.out) 4 rfl⟩ (fun hHeld => ?_)
       clear hK K
       refine norm_ (a' := ?_) ?_ ?_; rotate_left
       ·show Act.put _ (some 5) _ = _
        simp only [Act.put, sT, sZ, sS, i64_w, i32_w]
        rfl
       exact norm_ (by simp only [putAll, Act.put, sT, sZ, sS]) (hCont (g3000009, g3000010) _ ⟨HK.out, (SL.get3 (SL.get3 (SL.get2 (SL.get2 HS.out))))⟩)
     ·skip
      refine st_of (by rfl) ?_
      refine op_box (S := S) (cs := #[.int .i64 0, .int .i64 0]) (t := 31) (HF.out.keep HK.out) HS.out (by first | (go_simp; done) | (go_simp; rfl)) ?_
      intro g3000009 w24 hs_ hk_
      replace HS := Aside0.mk (hs_)
      replace HK := Aside0.mk (HK.out.trans hk_)
      refine hK.out _ _ ⟨bc (SL.get1 HS.out) 0 rfl, bc (SL.get1 HS.out) 1 rfl, bc (SL.get2 HS.out) 1 rfl, bc (SL.get2 HS.out) 2 rfl, bc (SL.get2 HS.out) 3 rfl, bc (SL.get2 HS.out) 4 rfl⟩ (fun hHeld => ?_)
      clear hK K
      refine norm_ (a' := ?_) ?_ ?_; rotate_left
      ·show Act.put _ (some 5) _ = _
       simp only [Act.put, sT, sZ, sS, i64_w, i32_w]
       rfl
      refine two_ (i := 8) (j := 10) (Ni := some 23) (Nj := some 6) #[I,I,I,I,I,I,I,I,I,I,O,O,O] #[I,I,I,I,I,I,I,I,O,I,I,O,O] rfl rfl rfl rfl (two_of HT_.out (by kernel_rfl)) (by decide) (by decide) (fun K hK => ?_) (fun K hK => ?_)
      ·skip
       replace HS := Aside0.mk (SL.get2 (SL.get2 HS.out))
       refine goes_ Try.func41 (by kernel_rfl) rfl #[.agg #[.int .i64 a0_3, .int .i64 a0_4], .agg #[.int .i64 a0_1, .int .i64 a0_2]] (by rfl) rfl rfl (by (try simp only [List.map_toArray, List.map_cons, List.map_nil]); first | done | rfl | (simp; done)) ?_
       (with_reducible refine (area_less.calls _ _ _ _ _ _ _  Hc9.out).mono ?_)
       rintro e_ w25 ⟨rfl, hb_⟩
       refine ⟨_, rfl, ?_⟩
       replace HS := Aside0.mk (HS.out.below hb_)
       replace HK := Aside0.mk (HK.out.trans (Keep.below hb_))
       refine hK.out _ _ ⟨bc HS.out 0 rfl, bc HS.out 1 rfl, bc (SL.get1 HS.out) 1 rfl, bc (SL.get1 HS.out) 2 rfl, bc (SL.get1 HS.out) 3 rfl, bc (SL.get1 HS.out) 4 rfl⟩ (fun hHeld => ?_)
       clear hK K
       refine norm_ (a' := ?_) ?_ ?_; rotate_left
       ·show Act.put _ (some 23) _ = _
        simp only [Act.put, sT, sZ, sS, i64_w, i32_w]
        rfl
       refine one_ (i := 10) (N := some 6) #[I,I,I,I,I,I,I,I,I,I,I,O,O] rfl rfl (one_of HT_.out (by kernel_rfl)) (by decide) (fun K hK => ?_)
       refine st_of (by rfl) ?_
       refine op_box (S := S) (cs := #[.int .i64 0, .int .i64 0]) (t := 31) (HF.out.keep HK.out) HS.out (by first | (go_simp; done) | (go_simp; rfl)) ?_
       intro g3000010 w26 hs_ hk_
       replace HS := Aside0.mk (hs_)
       replace HK := Aside0.mk (HK.out.trans hk_)
       refine hK.out _ _ ⟨bc (SL.get1 HS.out) 0 rfl, bc (SL.get1 HS.out) 1 rfl, bc (SL.get2 HS.out) 1 rfl, bc (SL.get2 HS.out) 2 rfl, bc (SL.get2 HS.out) 3 rfl, bc (SL.get2 HS.out) 4 rfl⟩ (fun hHeld => ?_)
       clear hK K
       refine norm_ (a' := ?_) ?_ ?_; rotate_left
       ·show Act.put _ (some 6) _ = _
        simp only [Act.put, sT, sZ, sS, i64_w, i32_w]
        rfl
       exact norm_ (by simp only [putAll, Act.put, sT, sZ, sS]) (hCont (g3000009, g3000010) _ ⟨HK.out, (SL.get3 (SL.get2 (SL.get2 (SL.get2 HS.out))))⟩)
      ·skip
       replace HS := Aside0.mk (SL.get2 (SL.get2 HS.out))
       refine st_of (by rfl) ?_
       refine op_box (S := S) (cs := #[.int .i64 0, .int .i64 0]) (t := 31) (HF.out.keep HK.out) HS.out (by first | (go_simp; done) | (go_simp; rfl)) ?_
       intro g3000010 w27 hs_ hk_
       replace HS := Aside0.mk (hs_)
       replace HK := Aside0.mk (HK.out.trans hk_)
       refine hK.out _ _ ⟨bc (SL.get1 HS.out) 0 rfl, bc (SL.get1 HS.out) 1 rfl, bc (SL.get2 HS.out) 1 rfl, bc (SL.get2 HS.out) 2 rfl, bc (SL.get2 HS.out) 3 rfl, bc (SL.get2 HS.out) 4 rfl⟩ (fun hHeld => ?_)
       clear hK K
       refine norm_ (a' := ?_) ?_ ?_; rotate_left
       ·show Act.put _ (some 6) _ = _
        simp only [Act.put, sT, sZ, sS, i64_w, i32_w]
        rfl
       refine one_ (i := 8) (N := some 23) #[I,I,I,I,I,I,I,I,I,I,I,O,O] rfl rfl (one_of HT_.out (by kernel_rfl)) (by decide) (fun K hK => ?_)
       replace HS := Aside0.mk (SL.get3 (SL.get3 (SL.get3 HS.out)))
       refine goes_ Try.func41 (by kernel_rfl) rfl #[.agg #[.int .i64 a0_3, .int .i64 a0_4], .agg #[.int .i64 a0_1, .int .i64 a0_2]] (by rfl) rfl rfl (by (try simp only [List.map_toArray, List.map_cons, List.map_nil]); first | done | rfl | (simp; done)) ?_
       (with_reducible refine (area_less.calls _ _ _ _ _ _ _  Hc9.out).mono ?_)
       rintro e_ w28 ⟨rfl, hb_⟩
       refine ⟨_, rfl, ?_⟩
       replace HS := Aside0.mk (HS.out.below hb_)
       replace HK := Aside0.mk (HK.out.trans (Keep.below hb_))
       refine hK.out _ _ ⟨bc HS.out 0 rfl, bc HS.out 1 rfl, bc (SL.get1 HS.out) 1 rfl, bc (SL.get1 HS.out) 2 rfl, bc (SL.get1 HS.out) 3 rfl, bc (SL.get1 HS.out) 4 rfl⟩ (fun hHeld => ?_)
       clear hK K
       refine norm_ (a' := ?_) ?_ ?_; rotate_left
       ·show Act.put _ (some 23) _ = _
        simp only [Act.put, sT, sZ, sS, i64_w, i32_w]
        rfl
       exact norm_ (by simp only [putAll, Act.put, sT, sZ, sS]) (hCont (g3000009, g3000010) _ ⟨HK.out, (SL.get3 (SL.get3 (SL.get1 (SL.get1 HS.out))))⟩)
     ·skip
      refine st_of (by rfl) ?_
      refine op_box (S := S) (cs := #[.int .i64 0, .int .i64 0]) (t := 31) (HF.out.keep HK.out) HS.out (by first | (go_simp; done) | (go_simp; rfl)) ?_
      intro g3000010 w29 hs_ hk_
      replace HS := Aside0.mk (hs_)
      replace HK := Aside0.mk (HK.out.trans hk_)
      refine hK.out _ _ ⟨bc (SL.get1 HS.out) 0 rfl, bc (SL.get1 HS.out) 1 rfl, bc (SL.get2 HS.out) 1 rfl, bc (SL.get2 HS.out) 2 rfl, bc (SL.get2 HS.out) 3 rfl, bc (SL.get2 HS.out) 4 rfl⟩ (fun hHeld => ?_)
      clear hK K
      refine norm_ (a' := ?_) ?_ ?_; rotate_left
      ·show Act.put _ (some 6) _ = _
       simp only [Act.put, sT, sZ, sS, i64_w, i32_w]
       rfl
      refine two_ (i := 8) (j := 9) (Ni := some 23) (Nj := some 5) #[I,I,I,I,I,I,I,I,I,O,I,O,O] #[I,I,I,I,I,I,I,I,O,I,I,O,O] rfl rfl rfl rfl (two_of HT_.out (by kernel_rfl)) (by decide) (by decide) (fun K hK => ?_) (fun K hK => ?_)
      ·skip
       replace HS := Aside0.mk (SL.get2 (SL.get2 HS.out))
       refine goes_ Try.func41 (by kernel_rfl) rfl #[.agg #[.int .i64 a0_3, .int .i64 a0_4], .agg #[.int .i64 a0_1, .int .i64 a0_2]] (by rfl) rfl rfl (by (try simp only [List.map_toArray, List.map_cons, List.map_nil]); first | done | rfl | (simp; done)) ?_
       (with_reducible refine (area_less.calls _ _ _ _ _ _ _  Hc9.out).mono ?_)
       rintro e_ w30 ⟨rfl, hb_⟩
       refine ⟨_, rfl, ?_⟩
       replace HS := Aside0.mk (HS.out.below hb_)
       replace HK := Aside0.mk (HK.out.trans (Keep.below hb_))
       refine hK.out _ _ ⟨bc HS.out 0 rfl, bc HS.out 1 rfl, bc (SL.get1 HS.out) 1 rfl, bc (SL.get1 HS.out) 2 rfl, bc (SL.get1 HS.out) 3 rfl, bc (SL.get1 HS.out) 4 rfl⟩ (fun hHeld => ?_)
       clear hK K
       refine norm_ (a' := ?_) ?_ ?_; rotate_left
       ·show Act.put _ (some 23) _ = _
        simp only [Act.put, sT, sZ, sS, i64_w, i32_w]
        rfl
       refine one_ (i := 9) (N := some 5) #[I,I,I,I,I,I,I,I,I,I,I,O,O] rfl rfl (one_of HT_.out (by kernel_rfl)) (by decide) (fun K hK => ?_)
       refine st_of (by rfl) ?_
       refine op_box (S := S) (cs := #[.int .i64 0, .int .i64 0]) (t := 31) (HF.out.keep HK.out) HS.out (by first | (go_simp; done) | (go_simp; rfl)) ?_
       intro g3000009 w31 hs_ hk_
       replace HS := Aside0.mk (hs_)
       replace HK := Aside0.mk (HK.out.trans hk_)
       refine hK.out _ _ ⟨bc (SL.get1 HS.out) 0 rfl, bc (SL.get1 HS.out) 1 rfl, bc (SL.get2 HS.out) 1 rfl, bc (SL.get2 HS.out) 2 rfl, bc (SL.get2 HS.out) 3 rfl, bc (SL.get2 HS.out) 4 rfl⟩ (fun hHeld => ?_)
       clear hK K
       refine norm_ (a' := ?_) ?_ ?_; rotate_left
       ·show Act.put _ (some 5) _ = _
        simp only [Act.put, sT, sZ, sS, i64_w, i32_w]
        rfl
       exact norm_ (by simp only [putAll, Act.put, sT, sZ, sS]) (hCont (g3000009, g3000010) _ ⟨HK.out, (SL.get3 (SL.get3 (SL.get2 (SL.get2 HS.out))))⟩)
      ·skip
       replace HS := Aside0.mk (SL.get2 (SL.get2 HS.out))
       refine st_of (by rfl) ?_
       refine op_box (S := S) (cs := #[.int .i64 0, .int .i64 0]) (t := 31) (HF.out.keep HK.out) HS.out (by first | (go_simp; done) | (go_simp; rfl)) ?_
       intro g3000009 w32 hs_ hk_
       replace HS := Aside0.mk (hs_)
       replace HK := Aside0.mk (HK.out.trans hk_)
       refine hK.out _ _ ⟨bc (SL.get1 HS.out) 0 rfl, bc (SL.get1 HS.out) 1 rfl, bc (SL.get2 HS.out) 1 rfl, bc (SL.get2 HS.out) 2 rfl, bc (SL.get2 HS.out) 3 rfl, bc (SL.get2 HS.out) 4 rfl⟩ (fun hHeld => ?_)
       clear hK K
       refine norm_ (a' := ?_) ?_ ?_; rotate_left
       ·show Act.put _ (some 5) _ = _
        simp only [Act.put, sT, sZ, sS, i64_w, i32_w]
        rfl
       refine one_ (i := 8) (N := some 23) #[I,I,I,I,I,I,I,I,I,I,I,O,O] rfl rfl (one_of HT_.out (by kernel_rfl)) (by decide) (fun K hK => ?_)
       replace HS := Aside0.mk (SL.get3 (SL.get3 (SL.get3 HS.out)))
       refine goes_ Try.func41 (by kernel_rfl) rfl #[.agg #[.int .i64 a0_3, .int .i64 a0_4], .agg #[.int .i64 a0_1, .int .i64 a0_2]] (by rfl) rfl rfl (by (try simp only [List.map_toArray, List.map_cons, List.map_nil]); first | done | rfl | (simp; done)) ?_
       (with_reducible refine (area_less.calls _ _ _ _ _ _ _  Hc9.out).mono ?_)
       rintro e_ w33 ⟨rfl, hb_⟩
       refine ⟨_, rfl, ?_⟩
       replace HS := Aside0.mk (HS.out.below hb_)
       replace HK := Aside0.mk (HK.out.trans (Keep.below hb_))
       refine hK.out _ _ ⟨bc HS.out 0 rfl, bc HS.out 1 rfl, bc (SL.get1 HS.out) 1 rfl, bc (SL.get1 HS.out) 2 rfl, bc (SL.get1 HS.out) 3 rfl, bc (SL.get1 HS.out) 4 rfl⟩ (fun hHeld => ?_)
       clear hK K
       refine norm_ (a' := ?_) ?_ ?_; rotate_left
       ·show Act.put _ (some 23) _ = _
        simp only [Act.put, sT, sZ, sS, i64_w, i32_w]
        rfl
       exact norm_ (by simp only [putAll, Act.put, sT, sZ, sS]) (hCont (g3000009, g3000010) _ ⟨HK.out, (SL.get3 (SL.get2 (SL.get1 (SL.get1 HS.out))))⟩)
    ·skip
     refine st_of (by rfl) ?_
     refine op_box (S := S) (cs := #[.int .i64 0, .int .i64 0]) (t := 31) (HF.out.keep HK.out) HS.out (by first | (go_simp; done) | (go_simp; rfl)) ?_
     intro g3000009 w34 hs_ hk_
     replace HS := Aside0.mk (hs_)
     replace HK := Aside0.mk (HK.out.trans hk_)
     refine hK.out _ _ ⟨bc (SL.get1 HS.out) 0 rfl, bc (SL.get1 HS.out) 1 rfl, bc (SL.get2 HS.out) 1 rfl, bc (SL.get2 HS.out) 2 rfl, bc (SL.get2 HS.out) 3 rfl, bc (SL.get2 HS.out) 4 rfl⟩ (fun hHeld => ?_)
     clear hK K
     refine norm_ (a' := ?_) ?_ ?_; rotate_left
     ·show Act.put _ (some 5) _ = _
      simp only [Act.put, sT, sZ, sS, i64_w, i32_w]
      rfl
     refine two_ (i := 3) (j := 10) (Ni := some 18) (Nj := some 6) #[I,I,I,I,I,I,I,I,O,I,O,O,O] #[I,I,I,O,I,I,I,I,O,I,I,O,O] rfl rfl rfl rfl (two_of HT_.out (by kernel_rfl)) (by decide) (by decide) (fun K hK => ?_) (fun K hK => ?_)
     ·skip
      replace HS := Aside0.mk (SL.get2 (SL.get2 HS.out))
      refine goes_ Try.func41 (by kernel_rfl) rfl #[.agg #[.int .i64 a1_0, .int .i64 a1_1], .agg #[.int .i64 a0_1, .int .i64 a0_2]] (by rfl) rfl rfl (by (try simp only [List.map_toArray, List.map_cons, List.map_nil]); first | done | rfl | (simp; done)) ?_
      (with_reducible refine (area_less.calls _ _ _ _ _ _ _  Hc8.out).mono ?_)
      rintro e_ w35 ⟨rfl, hb_⟩
      refine ⟨_, rfl, ?_⟩
      replace HS := Aside0.mk (HS.out.below hb_)
      replace HK := Aside0.mk (HK.out.trans (Keep.below hb_))
      refine hK.out _ _ ⟨bc HS.out 0 rfl, bc HS.out 1 rfl, bc (SL.get1 HS.out) 1 rfl, bc (SL.get1 HS.out) 2 rfl, bc (SL.get1 HS.out) 3 rfl, bc (SL.get1 HS.out) 4 rfl⟩ (fun hHeld => ?_)
      clear hK K
      refine norm_ (a' := ?_) ?_ ?_; rotate_left
      ·show Act.put _ (some 18) _ = _
       simp only [Act.put, sT, sZ, sS, i64_w, i32_w]
       rfl
      refine two_ (i := 8) (j := 10) (Ni := some 23) (Nj := some 6) #[I,I,I,I,I,I,I,I,I,I,O,O,O] #[I,I,I,I,I,I,I,I,O,I,I,O,O] rfl rfl rfl rfl (two_of HT_.out (by kernel_rfl)) (by decide) (by decide) (fun K hK => ?_) (fun K hK => ?_)
      ·skip
       refine goes_ Try.func41 (by kernel_rfl) rfl #[.agg #[.int .i64 a0_3, .int .i64 a0_4], .agg #[.int .i64 a0_1, .int .i64 a0_2]] (by rfl) rfl rfl (by (try simp only [List.map_toArray, List.map_cons, List.map_nil]); first | done | rfl | (simp; done)) ?_
       (with_reducible refine (area_less.calls _ _ _ _ _ _ _  Hc9.out).mono ?_)
       rintro e_ w36 ⟨rfl, hb_⟩
       refine ⟨_, rfl, ?_⟩
       replace HS := Aside0.mk (HS.out.below hb_)
       replace HK := Aside0.mk (HK.out.trans (Keep.below hb_))
       refine hK.out _ _ ⟨bc HS.out 0 rfl, bc HS.out 1 rfl, bc (SL.get1 HS.out) 1 rfl, bc (SL.get1 HS.out) 2 rfl, bc (SL.get1 HS.out) 3 rfl, bc (SL.get1 HS.out) 4 rfl⟩ (fun hHeld => ?_)
       clear hK K
       refine norm_ (a' := ?_) ?_ ?_; rotate_left
       ·show Act.put _ (some 23) _ = _
        simp only [Act.put, sT, sZ, sS, i64_w, i32_w]
        rfl
       refine one_ (i := 10) (N := some 6) #[I,I,I,I,I,I,I,I,I,I,I,O,O] rfl rfl (one_of HT_.out (by kernel_rfl)) (by decide) (fun K hK => ?_)
       refine st_of (by rfl) ?_
       refine op_box (S := S) (cs := #[.int .i64 0, .int .i64 0]) (t := 31) (HF.out.keep HK.out) HS.out (by first | (go_simp; done) | (go_simp; rfl)) ?_
       intro g3000010 w37 hs_ hk_
       replace HS := Aside0.mk (hs_)
       replace HK := Aside0.mk (HK.out.trans hk_)
       refine hK.out _ _ ⟨bc (SL.get1 HS.out) 0 rfl, bc (SL.get1 HS.out) 1 rfl, bc (SL.get2 HS.out) 1 rfl, bc (SL.get2 HS.out) 2 rfl, bc (SL.get2 HS.out) 3 rfl, bc (SL.get2 HS.out) 4 rfl⟩ (fun hHeld => ?_)
       clear hK K
       refine norm_ (a' := ?_) ?_ ?_; rotate_left
       ·show Act.put _ (some 6) _ = _
        simp only [Act.put, sT, sZ, sS, i64_w, i32_w]
        rfl
       exact norm_ (by simp only [putAll, Act.put, sT, sZ, sS]) (hCont (g3000009, g3000010) _ ⟨HK.out, (SL.get3 (SL.get2 (SL.get2 (SL.get2 HS.out))))⟩)
      ·skip
       refine st_of (by rfl) ?_
       refine op_box (S := S) (cs := #[.int .i64 0, .int .i64 0]) (t := 31) (HF.out.keep HK.out) HS.out (by first | (go_simp; done) | (go_simp; rfl)) ?_
       intro g3000010 w38 hs_ hk_
       replace HS := Aside0.mk (hs_)
       replace HK := Aside0.mk (HK.out.trans hk_)
       refine hK.out _ _ ⟨bc (SL.get1 HS.out) 0 rfl, bc (SL.get1 HS.out) 1 rfl, bc (SL.get2 HS.out) 1 rfl, bc (SL.get2 HS.out) 2 rfl, bc (SL.get2 HS.out) 3 rfl, bc (SL.get2 HS.out) 4 rfl⟩ (fun hHeld => ?_)
       clear hK K
       refine norm_ (a' := ?_) ?_ ?_; rotate_left
       ·show Act.put _ (some 6) _ = _
        simp only [Act.put, sT, sZ, sS, i64_w, i32_w]
        rfl
       refine one_ (i := 8) (N := some 23) #[I,I,I,I,I,I,I,I,I,I,I,O,O] rfl rfl (one_of HT_.out (by kernel_rfl)) (by decide) (fun K hK => ?_)
       replace HS := Aside0.mk (SL.get3 (SL.get3 (SL.get3 HS.out)))
       refine goes_ Try.func41 (by kernel_rfl) rfl #[.agg #[.int .i64 a0_3, .int .i64 a0_4], .agg #[.int .i64 a0_1, .int .i64 a0_2]] (by rfl) rfl rfl (by (try simp only [List.map_toArray, List.map_cons, List.map_nil]); first | done | rfl | (simp; done)) ?_
       (with_reducible refine (area_less.calls _ _ _ _ _ _ _  Hc9.out).mono ?_)
       rintro e_ w39 ⟨rfl, hb_⟩
       refine ⟨_, rfl, ?_⟩
       replace HS := Aside0.mk (HS.out.below hb_)
       replace HK := Aside0.mk (HK.out.trans (Keep.below hb_))
       refine hK.out _ _ ⟨bc HS.out 0 rfl, bc HS.out 1 rfl, bc (SL.get1 HS.out) 1 rfl, bc (SL.get1 HS.out) 2 rfl, bc (SL.get1 HS.out) 3 rfl, bc (SL.get1 HS.out) 4 rfl⟩ (fun hHeld => ?_)
       clear hK K
       refine norm_ (a' := ?_) ?_ ?_; rotate_left
       ·show Act.put _ (some 23) _ = _
        simp only [Act.put, sT, sZ, sS, i64_w, i32_w]
        rfl
       exact norm_ (by simp only [putAll, Act.put, sT, sZ, sS]) (hCont (g3000009, g3000010) _ ⟨HK.out, (SL.get3 (SL.get3 (SL.get1 (SL.get1 HS.out))))⟩)
     ·skip
      replace HS := Aside0.mk (SL.get2 (SL.get2 HS.out))
      refine st_of (by rfl) ?_
      refine op_box (S := S) (cs := #[.int .i64 0, .int .i64 0]) (t := 31) (HF.out.keep HK.out) HS.out (by first | (go_simp; done) | (go_simp; rfl)) ?_
      intro g3000010 w40 hs_ hk_
      replace HS := Aside0.mk (hs_)
      replace HK := Aside0.mk (HK.out.trans hk_)
      refine hK.out _ _ ⟨bc (SL.get1 HS.out) 0 rfl, bc (SL.get1 HS.out) 1 rfl, bc (SL.get2 HS.out) 1 rfl, bc (SL.get2 HS.out) 2 rfl, bc (SL.get2 HS.out) 3 rfl, bc (SL.get2 HS.out) 4 rfl⟩ (fun hHeld => ?_)
      clear hK K
      refine norm_ (a' := ?_) ?_ ?_; rotate_left
      ·show Act.put _ (some 6) _ = _
       simp only [Act.put, sT, sZ, sS, i64_w, i32_w]
       rfl
      refine one_ (i := 3) (N := some 18) #[I,I,I,I,I,I,I,I,O,I,I,O,O] rfl rfl (one_of HT_.out (by kernel_rfl)) (by decide) (fun K hK => ?_)
      replace HS := Aside0.mk (SL.get3 (SL.get3 (SL.get3 HS.out)))
      refine goes_ Try.func41 (by kernel_rfl) rfl #[.agg #[.int .i64 a1_0, .int .i64 a1_1], .agg #[.int .i64 a0_1, .int .i64 a0_2]] (by rfl) rfl rfl (by (try simp only [List.map_toArray, List.map_cons, List.map_nil]); first | done | rfl | (simp; done)) ?_
      (with_reducible refine (area_less.calls _ _ _ _ _ _ _  Hc8.out).mono ?_)
      rintro e_ w41 ⟨rfl, hb_⟩
      refine ⟨_, rfl, ?_⟩
      replace HS := Aside0.mk (HS.out.below hb_)
      replace HK := Aside0.mk (HK.out.trans (Keep.below hb_))
      refine hK.out _ _ ⟨bc HS.out 0 rfl, bc HS.out 1 rfl, bc (SL.get1 HS.out) 1 rfl, bc (SL.get1 HS.out) 2 rfl, bc (SL.get1 HS.out) 3 rfl, bc (SL.get1 HS.out) 4 rfl⟩ (fun hHeld => ?_)
      clear hK K
      refine norm_ (a' := ?_) ?_ ?_; rotate_left
      ·show Act.put _ (some 18) _ = _
       simp only [Act.put, sT, sZ, sS, i64_w, i32_w]
       rfl
      refine one_ (i := 8) (N := some 23) #[I,I,I,I,I,I,I,I,I,I,I,O,O] rfl rfl (one_of HT_.out (by kernel_rfl)) (by decide) (fun K hK => ?_)
      refine goes_ Try.func41 (by kernel_rfl) rfl #[.agg #[.int .i64 a0_3, .int .i64 a0_4], .agg #[.int .i64 a0_1, .int .i64 a0_2]] (by rfl) rfl rfl (by (try simp only [List.map_toArray, List.map_cons, List.map_nil]); first | done | rfl | (simp; done)) ?_
      (with_reducible refine (area_less.calls _ _ _ _ _ _ _  Hc9.out).mono ?_)
      rintro e_ w42 ⟨rfl, hb_⟩
      refine ⟨_, rfl, ?_⟩
      replace HS := Aside0.mk (HS.out.below hb_)
      replace HK := Aside0.mk (HK.out.trans (Keep.below hb_))
      refine hK.out _ _ ⟨bc HS.out 0 rfl, bc HS.out 1 rfl, bc (SL.get1 HS.out) 1 rfl, bc (SL.get1 HS.out) 2 rfl, bc (SL.get1 HS.out) 3 rfl, bc (SL.get1 HS.out) 4 rfl⟩ (fun hHeld => ?_)
      clear hK K
      refine norm_ (a' := ?_) ?_ ?_; rotate_left
      ·show Act.put _ (some 23) _ = _
       simp only [Act.put, sT, sZ, sS, i64_w, i32_w]
       rfl
      exact norm_ (by simp only [putAll, Act.put, sT, sZ, sS]) (hCont (g3000009, g3000010) _ ⟨HK.out, (SL.get3 (SL.get3 (SL.get1 (SL.get1 HS.out))))⟩)
    ·skip
     refine st_of (by rfl) ?_
     refine op_box (S := S) (cs := #[.int .i64 0, .int .i64 0]) (t := 31) (HF.out.keep HK.out) HS.out (by first | (go_simp; done) | (go_simp; rfl)) ?_
     intro g3000010 w43 hs_ hk_
     replace HS := Aside0.mk (hs_)
     replace HK := Aside0.mk (HK.out.trans hk_)
     refine hK.out _ _ ⟨bc (SL.get1 HS.out) 0 rfl, bc (SL.get1 HS.out) 1 rfl, bc (SL.get2 HS.out) 1 rfl, bc (SL.get2 HS.out) 2 rfl, bc (SL.get2 HS.out) 3 rfl, bc (SL.get2 HS.out) 4 rfl⟩ (fun hHeld => ?_)
     clear hK K
     refine norm_ (a' := ?_) ?_ ?_; rotate_left
     ·show Act.put _ (some 6) _ = _
      simp only [Act.put, sT, sZ, sS, i64_w, i32_w]
      rfl
     refine two_ (i := 3) (j := 9) (Ni := some 18) (Nj := some 5) #[I,I,I,I,I,I,I,I,O,O,I,O,O] #[I,I,I,O,I,I,I,I,O,I,I,O,O] rfl rfl rfl rfl (two_of HT_.out (by kernel_rfl)) (by decide) (by decide) (fun K hK => ?_) (fun K hK => ?_)
     ·skip
      replace HS := Aside0.mk (SL.get2 (SL.get2 HS.out))
      refine goes_ Try.func41 (by kernel_rfl) rfl #[.agg #[.int .i64 a1_0, .int .i64 a1_1], .agg #[.int .i64 a0_1, .int .i64 a0_2]] (by rfl) rfl rfl (by (try simp only [List.map_toArray, List.map_cons, List.map_nil]); first | done | rfl | (simp; done)) ?_
      (with_reducible refine (area_less.calls _ _ _ _ _ _ _  Hc8.out).mono ?_)
      rintro e_ w44 ⟨rfl, hb_⟩
      refine ⟨_, rfl, ?_⟩
      replace HS := Aside0.mk (HS.out.below hb_)
      replace HK := Aside0.mk (HK.out.trans (Keep.below hb_))
      refine hK.out _ _ ⟨bc HS.out 0 rfl, bc HS.out 1 rfl, bc (SL.get1 HS.out) 1 rfl, bc (SL.get1 HS.out) 2 rfl, bc (SL.get1 HS.out) 3 rfl, bc (SL.get1 HS.out) 4 rfl⟩ (fun hHeld => ?_)
      clear hK K
      refine norm_ (a' := ?_) ?_ ?_; rotate_left
      ·show Act.put _ (some 18) _ = _
       simp only [Act.put, sT, sZ, sS, i64_w, i32_w]
       rfl
      refine two_ (i := 8) (j := 9) (Ni := some 23) (Nj := some 5) #[I,I,I,I,I,I,I,I,I,O,I,O,O] #[I,I,I,I,I,I,I,I,O,I,I,O,O] rfl rfl rfl rfl (two_of HT_.out (by kernel_rfl)) (by decide) (by decide) (fun K hK => ?_) (fun K hK => ?_)
      ·skip
       refine goes_ Try.func41 (by kernel_rfl) rfl #[.agg #[.int .i64 a0_3, .int .i64 a0_4], .agg #[.int .i64 a0_1, .int .i64 a0_2]] (by rfl) rfl rfl (by (try simp only [List.map_toArray, List.map_cons, List.map_nil]); first | done | rfl | (simp; done)) ?_
       (with_reducible refine (area_less.calls _ _ _ _ _ _ _  Hc9.out).mono ?_)
       rintro e_ w45 ⟨rfl, hb_⟩
       refine ⟨_, rfl, ?_⟩
       replace HS := Aside0.mk (HS.out.below hb_)
       replace HK := Aside0.mk (HK.out.trans (Keep.below hb_))
       refine hK.out _ _ ⟨bc HS.out 0 rfl, bc HS.out 1 rfl, bc (SL.get1 HS.out) 1 rfl, bc (SL.get1 HS.out) 2 rfl, bc (SL.get1 HS.out) 3 rfl, bc (SL.get1 HS.out) 4 rfl⟩ (fun hHeld => ?_)
       clear hK K
       refine norm_ (a' := ?_) ?_ ?_; rotate_left
       ·show Act.put _ (some 23) _ = _
        simp only [Act.put, sT, sZ, sS, i64_w, i32_w]
        rfl
       refine one_ (i := 9) (N := some 5) #[I,I,I,I,I,I,I,I,I,I,I,O,O] rfl rfl (one_of HT_.out (by kernel_rfl)) (by decide) (fun K hK => ?_)
       refine st_of (by rfl) ?_
       refine op_box (S := S) (cs := #[.int .i64 0, .int .i64 0]) (t := 31) (HF.out.keep HK.out) HS.out (by first | (go_simp; done) | (go_simp; rfl)) ?_
       intro g3000009 w46 hs_ hk_
       replace HS := Aside0.mk (hs_)
       replace HK := Aside0.mk (HK.out.trans hk_)
       refine hK.out _ _ ⟨bc (SL.get1 HS.out) 0 rfl, bc (SL.get1 HS.out) 1 rfl, bc (SL.get2 HS.out) 1 rfl, bc (SL.get2 HS.out) 2 rfl, bc (SL.get2 HS.out) 3 rfl, bc (SL.get2 HS.out) 4 rfl⟩ (fun hHeld => ?_)
       clear hK K
       refine norm_ (a' := ?_) ?_ ?_; rotate_left
       ·show Act.put _ (some 5) _ = _
        simp only [Act.put, sT, sZ, sS, i64_w, i32_w]
        rfl
       exact norm_ (by simp only [putAll, Act.put, sT, sZ, sS]) (hCont (g3000009, g3000010) _ ⟨HK.out, (SL.get3 (SL.get3 (SL.get2 (SL.get2 HS.out))))⟩)
      ·skip
       refine st_of (by rfl) ?_
       refine op_box (S := S) (cs := #[.int .i64 0, .int .i64 0]) (t := 31) (HF.out.keep HK.out) HS.out (by first | (go_simp; done) | (go_simp; rfl)) ?_
       intro g3000009 w47 hs_ hk_
       replace HS := Aside0.mk (hs_)
       replace HK := Aside0.mk (HK.out.trans hk_)
       refine hK.out _ _ ⟨bc (SL.get1 HS.out) 0 rfl, bc (SL.get1 HS.out) 1 rfl, bc (SL.get2 HS.out) 1 rfl, bc (SL.get2 HS.out) 2 rfl, bc (SL.get2 HS.out) 3 rfl, bc (SL.get2 HS.out) 4 rfl⟩ (fun hHeld => ?_)
       clear hK K
       refine norm_ (a' := ?_) ?_ ?_; rotate_left
       ·show Act.put _ (some 5) _ = _
        simp only [Act.put, sT, sZ, sS, i64_w, i32_w]
        rfl
       refine one_ (i := 8) (N := some 23) #[I,I,I,I,I,I,I,I,I,I,I,O,O] rfl rfl (one_of HT_.out (by kernel_rfl)) (by decide) (fun K hK => ?_)
       replace HS := Aside0.mk (SL.get3 (SL.get3 (SL.get3 HS.out)))
       refine goes_ Try.func41 (by kernel_rfl) rfl #[.agg #[.int .i64 a0_3, .int .i64 a0_4], .agg #[.int .i64 a0_1, .int .i64 a0_2]] (by rfl) rfl rfl (by (try simp only [List.map_toArray, List.map_cons, List.map_nil]); first | done | rfl | (simp; done)) ?_
       (with_reducible refine (area_less.calls _ _ _ _ _ _ _  Hc9.out).mono ?_)
       rintro e_ w48 ⟨rfl, hb_⟩
       refine ⟨_, rfl, ?_⟩
       replace HS := Aside0.mk (HS.out.below hb_)
       replace HK := Aside0.mk (HK.out.trans (Keep.below hb_))
       refine hK.out _ _ ⟨bc HS.out 0 rfl, bc HS.out 1 rfl, bc (SL.get1 HS.out) 1 rfl, bc (SL.get1 HS.out) 2 rfl, bc (SL.get1 HS.out) 3 rfl, bc (SL.get1 HS.out) 4 rfl⟩ (fun hHeld => ?_)
       clear hK K
       refine norm_ (a' := ?_) ?_ ?_; rotate_left
       ·show Act.put _ (some 23) _ = _
        simp only [Act.put, sT, sZ, sS, i64_w, i32_w]
        rfl
       exact norm_ (by simp only [putAll, Act.put, sT, sZ, sS]) (hCont (g3000009, g3000010) _ ⟨HK.out, (SL.get3 (SL.get2 (SL.get1 (SL.get1 HS.out))))⟩)
     ·skip
      replace HS := Aside0.mk (SL.get2 (SL.get2 HS.out))
      refine st_of (by rfl) ?_
      refine op_box (S := S) (cs := #[.int .i64 0, .int .i64 0]) (t := 31) (HF.out.keep HK.out) HS.out (by first | (go_simp; done) | (go_simp; rfl)) ?_
      intro g3000009 w49 hs_ hk_
      replace HS := Aside0.mk (hs_)
      replace HK := Aside0.mk (HK.out.trans hk_)
      refine hK.out _ _ ⟨bc (SL.get1 HS.out) 0 rfl, bc (SL.get1 HS.out) 1 rfl, bc (SL.get2 HS.out) 1 rfl, bc (SL.get2 HS.out) 2 rfl, bc (SL.get2 HS.out) 3 rfl, bc (SL.get2 HS.out) 4 rfl⟩ (fun hHeld => ?_)
      clear hK K
      refine norm_ (a' := ?_) ?_ ?_; rotate_left
      ·show Act.put _ (some 5) _ = _
       simp only [Act.put, sT, sZ, sS, i64_w, i32_w]
       rfl
      refine one_ (i := 3) (N := some 18) #[I,I,I,I,I,I,I,I,O,I,I,O,O] rfl rfl (one_of HT_.out (by kernel_rfl)) (by decide) (fun K hK => ?_)
      replace HS := Aside0.mk (SL.get3 (SL.get3 (SL.get3 HS.out)))
      refine goes_ Try.func41 (by kernel_rfl) rfl #[.agg #[.int .i64 a1_0, .int .i64 a1_1], .agg #[.int .i64 a0_1, .int .i64 a0_2]] (by rfl) rfl rfl (by (try simp only [List.map_toArray, List.map_cons, List.map_nil]); first | done | rfl | (simp; done)) ?_
      (with_reducible refine (area_less.calls _ _ _ _ _ _ _  Hc8.out).mono ?_)
      rintro e_ w50 ⟨rfl, hb_⟩
      refine ⟨_, rfl, ?_⟩
      replace HS := Aside0.mk (HS.out.below hb_)
      replace HK := Aside0.mk (HK.out.trans (Keep.below hb_))
      refine hK.out _ _ ⟨bc HS.out 0 rfl, bc HS.out 1 rfl, bc (SL.get1 HS.out) 1 rfl, bc (SL.get1 HS.out) 2 rfl, bc (SL.get1 HS.out) 3 rfl, bc (SL.get1 HS.out) 4 rfl⟩ (fun hHeld => ?_)
      clear hK K
      refine norm_ (a' := ?_) ?_ ?_; rotate_left
      ·show Act.put _ (some 18) _ = _
       simp only [Act.put, sT, sZ, sS, i64_w, i32_w]
       rfl
      refine one_ (i := 8) (N := some 23) #[I,I,I,I,I,I,I,I,I,I,I,O,O] rfl rfl (one_of HT_.out (by kernel_rfl)) (by decide) (fun K hK => ?_)
      refine goes_ Try.func41 (by kernel_rfl) rfl #[.agg #[.int .i64 a0_3, .int .i64 a0_4], .agg #[.int .i64 a0_1, .int .i64 a0_2]] (by rfl) rfl rfl (by (try simp only [List.map_toArray, List.map_cons, List.map_nil]); first | done | rfl | (simp; done)) ?_
      (with_reducible refine (area_less.calls _ _ _ _ _ _ _  Hc9.out).mono ?_)
      rintro e_ w51 ⟨rfl, hb_⟩
      refine ⟨_, rfl, ?_⟩
      replace HS := Aside0.mk (HS.out.below hb_)
      replace HK := Aside0.mk (HK.out.trans (Keep.below hb_))
      refine hK.out _ _ ⟨bc HS.out 0 rfl, bc HS.out 1 rfl, bc (SL.get1 HS.out) 1 rfl, bc (SL.get1 HS.out) 2 rfl, bc (SL.get1 HS.out) 3 rfl, bc (SL.get1 HS.out) 4 rfl⟩ (fun hHeld => ?_)
      clear hK K
      refine norm_ (a' := ?_) ?_ ?_; rotate_left
      ·show Act.put _ (some 23) _ = _
       simp only [Act.put, sT, sZ, sS, i64_w, i32_w]
       rfl
      exact norm_ (by simp only [putAll, Act.put, sT, sZ, sS]) (hCont (g3000009, g3000010) _ ⟨HK.out, (SL.get3 (SL.get2 (SL.get1 (SL.get1 HS.out))))⟩)
   rintro ⟨g3000009, g3000010⟩ w17 ⟨hk_, hs_⟩
   clear HK HS
   have HK := Aside0.mk hk_
   have HS := Aside0.mk hs_
   clear hk_ hs_
   have hHeld := (⟨bc (SL.get2 HS.out) 0 rfl, bc (SL.get2 HS.out) 1 rfl, bc (SL.get3 HS.out) 1 rfl, bc (SL.get3 HS.out) 2 rfl, bc (SL.get3 HS.out) 3 rfl, bc (SL.get3 HS.out) 4 rfl⟩ : w17.cell? ⟨g3000008, 0, none⟩ = some (.int .i64 a1_0) ∧ w17.cell? ⟨g3000008, 1, none⟩ = some (.int .i64 a1_1) ∧ w17.cell? ⟨g3000007, 1, none⟩ = some (.int .i64 a0_1) ∧ w17.cell? ⟨g3000007, 2, none⟩ = some (.int .i64 a0_2) ∧ w17.cell? ⟨g3000007, 3, none⟩ = some (.int .i64 a0_3) ∧ w17.cell? ⟨g3000007, 4, none⟩ = some (.int .i64 a0_4))
   replace HS := Aside0.mk (SL.get3 (SL.get2 (SL.get3 (SL.get3 HS.out))))
   refine norm_ (a' := ?_) ?_ ?_; rotate_left; · (simp only [putAll, Act.put, sT, sZ, sS]; rfl)
   refine one_ (i := 11) (N := none) #[I,I,I,I,I,I,I,I,I,I,I,I,O] rfl rfl (one_of HT_.out (by kernel_rfl)) (by decide) (fun K hK => ?_)
   refine st_of (by rfl) ?_
   refine op_store (S := S) 31 (.tmp 5) (.tmp 18) rfl g3000009 0 (.agg #[.int .i64 t191, .int .i64 t192]) [.int .i64 t191, .int .i64 t192] rfl rfl rfl (by kernel_rfl) (by simp [Value.oneCell']) (SL.get1 HS.out) (by simp) ?_
   intro w15 hs_ hk_
   replace HS := Aside0.mk ((SL.back1 (show SL (cells g3000009 31 [.int .i64 t191, .int .i64 t192].toArray :: _) _ _ from hs_)))
   replace HK := Aside0.mk (HK.out.trans hk_)
   refine hK.out _ _ ⟨bc (SL.get2 HS.out) 0 rfl, bc (SL.get2 HS.out) 1 rfl, bc (SL.get3 HS.out) 1 rfl, bc (SL.get3 HS.out) 2 rfl, bc (SL.get3 HS.out) 3 rfl, bc (SL.get3 HS.out) 4 rfl⟩ (fun hHeld => ?_)
   clear hK K
   refine one_ (i := 12) (N := none) #[I,I,I,I,I,I,I,I,I,I,I,I,I] rfl rfl (one_of HT_.out (by kernel_rfl)) (by decide) (fun K hK => ?_)
   refine st_of (by rfl) ?_
   refine op_store (S := S) 31 (.tmp 6) (.tmp 23) rfl g3000010 0 (.agg #[.int .i64 t193, .int .i64 t194]) [.int .i64 t193, .int .i64 t194] rfl rfl rfl (by kernel_rfl) (by simp [Value.oneCell']) HS.out (by simp) ?_
   intro w16 hs_ hk_
   replace HS := Aside0.mk ((show SL (cells g3000010 31 [.int .i64 t193, .int .i64 t194].toArray :: _) _ _ from hs_))
   replace HK := Aside0.mk (HK.out.trans hk_)
   refine hK.out _ _ ⟨bc (SL.get2 HS.out) 0 rfl, bc (SL.get2 HS.out) 1 rfl, bc (SL.get3 HS.out) 1 rfl, bc (SL.get3 HS.out) 2 rfl, bc (SL.get3 HS.out) 3 rfl, bc (SL.get3 HS.out) 4 rfl⟩ (fun hHeld => ?_)
   clear hK K
   refine done_ (done_of HT_.out (by kernel_rfl)) ?_
   have hb_ := SL.at_ (SL.get3 HS.out)
   have hz3000007_0_8 := ((blk_cell hb_ 0).trans rfl : _ = some (.int .i64 a0_0))
   have hz3000007_1_8 := ((blk_cell hb_ 1).trans rfl : _ = some (.int .i64 a0_1))
   have hz3000007_2_8 := ((blk_cell hb_ 2).trans rfl : _ = some (.int .i64 a0_2))
   have hz3000007_3_8 := ((blk_cell hb_ 3).trans rfl : _ = some (.int .i64 a0_3))
   have hz3000007_4_8 := ((blk_cell hb_ 4).trans rfl : _ = some (.int .i64 a0_4))
   have hz3000007_5_8 := ((blk_cell hb_ 5).trans rfl : _ = some (.int .i64 a0_5))
   have hz3000007_6_8 := ((blk_cell hb_ 6).trans rfl : _ = some (.int .i64 a0_6))
   clear hb_
   have H := H'.out
   clear H'
   by_cases c52 : a0_0 = 1
   ·rw [if_pos c52] at H
    have c52b0 : (a0_0 == 1) = true := beq_iff_eq.mpr c52
    have c52b1 : (a0_0 != 1) = false := bne_eq_false_iff_eq.mpr c52
    clear c52
    replace H := Option.bind_eq_some_iff.1 H
    obtain ⟨t195, Hc530, H⟩ := H
    try dsimp only at H
    have Hc53 := Aside0.mk Hc530
    clear Hc530
    obtain rfl := Option.some.inj H
    have hb_ := SL.at_ (SL.get2 HS.out)
    have hz3000008_0_0 := ((blk_cell hb_ 0).trans rfl : _ = some (.int .i64 a1_0))
    have hz3000008_1_0 := ((blk_cell hb_ 1).trans rfl : _ = some (.int .i64 a1_1))
    clear hb_
    have hb_ := SL.at_ (SL.get3 HS.out)
    have hz3000007_0_0 := ((blk_cell hb_ 0).trans rfl : _ = some (.int .i64 a0_0))
    have hz3000007_1_0 := ((blk_cell hb_ 1).trans rfl : _ = some (.int .i64 a0_1))
    have hz3000007_2_0 := ((blk_cell hb_ 2).trans rfl : _ = some (.int .i64 a0_2))
    have hz3000007_3_0 := ((blk_cell hb_ 3).trans rfl : _ = some (.int .i64 a0_3))
    have hz3000007_4_0 := ((blk_cell hb_ 4).trans rfl : _ = some (.int .i64 a0_4))
    have hz3000007_5_0 := ((blk_cell hb_ 5).trans rfl : _ = some (.int .i64 a0_5))
    have hz3000007_6_0 := ((blk_cell hb_ 6).trans rfl : _ = some (.int .i64 a0_6))
    clear hb_
    try simp only [c52b0, c52b1]
    go_wp2_with (first | ((with_reducible refine gate_dst (N := 33) rfl ?_); refine goesL_ (some 33) rfl rfl Try.func42 (by kernel_rfl) rfl #[.agg #[.int .i64 a0_1, .int .i64 a0_2], .agg #[.int .i64 a1_0, .int .i64 a1_1], .int .i64 a0_5] rfl (by (try simp only [List.map_toArray, List.map_cons, List.map_nil]); first | done | rfl | (simp; done)) ?_; (with_reducible refine (grid_Near.calls k _ _ _ _ _ _ _  Hc53.out).mono ?_); rintro e_ w54 ⟨rfl, hb_⟩; refine ⟨_, rfl, ?_⟩; replace HS := Aside0.mk (HS.out.below hb_); replace HK := Aside0.mk (HK.out.trans (Keep.below hb_)); (try clear hz3000007_0_0 hz3000007_1_0 hz3000007_2_0 hz3000007_3_0 hz3000007_4_0 hz3000007_5_0 hz3000007_6_0); (try clear hz3000008_0_0 hz3000008_1_0)))
    go_ret
    replace HS := Aside0.mk (SL.tail (SL.tail (SL.tail (SL.tail HS.out))))
    unfold area_In.Post
    exact ⟨by first | rfl | (simp; done) | (simp [*]; done) | (simp at c52b0 ⊢; first | exact c52b0 | (simp [c52b0]; done)), HS.out, HK.out⟩
   ·rw [if_neg c52] at H
    have c52b0 : (a0_0 == 1) = false := beq_eq_false_iff_ne.mpr c52
    have c52b1 : (a0_0 != 1) = true := bne_iff_ne.mpr c52
    by_cases c55 : a0_0 = 2
    ·rw [if_pos c55] at H
     have c55b0 : (a0_0 == 2) = true := beq_iff_eq.mpr c55
     have c55b1 : (a0_0 != 2) = false := bne_eq_false_iff_eq.mpr c55
     clear c55
     replace H := Option.bind_eq_some_iff.1 H
     obtain ⟨t196, Hc560, H⟩ := H
     try dsimp only at H
     have Hc56 := Aside0.mk Hc560
     clear Hc560
     by_cases c57 : t196 = true
     ·subst c57
      rw [if_pos rfl] at H
      by_cases c58 : a0_5 = 0
      ·rw [if_pos c58] at H
       have c58b0 : (a0_5 == 0) = true := beq_iff_eq.mpr c58
       have c58b1 : (a0_5 != 0) = false := bne_eq_false_iff_eq.mpr c58
       clear c58
       obtain rfl := Option.some.inj H
       have hb_ := SL.at_ (SL.get2 HS.out)
       have hz3000008_0_0 := ((blk_cell hb_ 0).trans rfl : _ = some (.int .i64 a1_0))
       have hz3000008_1_0 := ((blk_cell hb_ 1).trans rfl : _ = some (.int .i64 a1_1))
       clear hb_
       have hb_ := SL.at_ (SL.get3 HS.out)
       have hz3000007_0_0 := ((blk_cell hb_ 0).trans rfl : _ = some (.int .i64 a0_0))
       have hz3000007_1_0 := ((blk_cell hb_ 1).trans rfl : _ = some (.int .i64 a0_1))
       have hz3000007_2_0 := ((blk_cell hb_ 2).trans rfl : _ = some (.int .i64 a0_2))
       have hz3000007_3_0 := ((blk_cell hb_ 3).trans rfl : _ = some (.int .i64 a0_3))
       have hz3000007_4_0 := ((blk_cell hb_ 4).trans rfl : _ = some (.int .i64 a0_4))
       have hz3000007_5_0 := ((blk_cell hb_ 5).trans rfl : _ = some (.int .i64 a0_5))
       have hz3000007_6_0 := ((blk_cell hb_ 6).trans rfl : _ = some (.int .i64 a0_6))
       clear hb_
       try simp only [c52b0, c52b1, c55b0, c55b1, c58b0, c58b1]
       go_wp2_with (first | ((with_reducible refine gate_dst (N := 41) rfl ?_); refine goesL_ (some 41) rfl rfl Try.func42 (by kernel_rfl) rfl #[.agg #[.int .i64 a0_1, .int .i64 a0_2], .agg #[.int .i64 a1_0, .int .i64 a1_1], .int .i64 a0_6] rfl (by (try simp only [List.map_toArray, List.map_cons, List.map_nil]); first | done | rfl | (simp; done)) ?_; (with_reducible refine (grid_Near.calls k _ _ _ _ _ _ _  Hc56.out).mono ?_); rintro e_ w59 ⟨rfl, hb_⟩; refine ⟨_, rfl, ?_⟩; replace HS := Aside0.mk (HS.out.below hb_); replace HK := Aside0.mk (HK.out.trans (Keep.below hb_)); (try clear hz3000007_0_0 hz3000007_1_0 hz3000007_2_0 hz3000007_3_0 hz3000007_4_0 hz3000007_5_0 hz3000007_6_0); (try clear hz3000008_0_0 hz3000008_1_0); have hb_ := SL.at_ (SL.get3 HS.out); have hz3000007_0_1 := ((blk_cell hb_ 0).trans rfl : _ = some (.int .i64 a0_0)); have hz3000007_1_1 := ((blk_cell hb_ 1).trans rfl : _ = some (.int .i64 a0_1)); have hz3000007_2_1 := ((blk_cell hb_ 2).trans rfl : _ = some (.int .i64 a0_2)); have hz3000007_3_1 := ((blk_cell hb_ 3).trans rfl : _ = some (.int .i64 a0_3)); have hz3000007_4_1 := ((blk_cell hb_ 4).trans rfl : _ = some (.int .i64 a0_4)); have hz3000007_5_1 := ((blk_cell hb_ 5).trans rfl : _ = some (.int .i64 a0_5)); have hz3000007_6_1 := ((blk_cell hb_ 6).trans rfl : _ = some (.int .i64 a0_6)); clear hb_))
       go_ret
       replace HS := Aside0.mk (SL.tail (SL.tail (SL.tail (SL.tail HS.out))))
       unfold area_In.Post
       exact ⟨by first | rfl | (simp; done) | (simp [*]; done) | (simp at c58b0 ⊢; first | exact c58b0 | (simp [c58b0]; done)), HS.out, HK.out⟩
      ·rw [if_neg c58] at H
       have c58b0 : (a0_5 == 0) = false := beq_eq_false_iff_ne.mpr c58
       have c58b1 : (a0_5 != 0) = true := bne_iff_ne.mpr c58
       replace H := Option.bind_eq_some_iff.1 H
       obtain ⟨t197, Hc600, H⟩ := H
       try dsimp only at H
       have Hc60 := Aside0.mk Hc600
       clear Hc600
       by_cases c61 : t197 = true
       ·subst c61
        rw [if_pos rfl] at H
        obtain rfl := Option.some.inj H
        have hb_ := SL.at_ (SL.get2 HS.out)
        have hz3000008_0_0 := ((blk_cell hb_ 0).trans rfl : _ = some (.int .i64 a1_0))
        have hz3000008_1_0 := ((blk_cell hb_ 1).trans rfl : _ = some (.int .i64 a1_1))
        clear hb_
        have hb_ := SL.at_ (SL.get3 HS.out)
        have hz3000007_0_0 := ((blk_cell hb_ 0).trans rfl : _ = some (.int .i64 a0_0))
        have hz3000007_1_0 := ((blk_cell hb_ 1).trans rfl : _ = some (.int .i64 a0_1))
        have hz3000007_2_0 := ((blk_cell hb_ 2).trans rfl : _ = some (.int .i64 a0_2))
        have hz3000007_3_0 := ((blk_cell hb_ 3).trans rfl : _ = some (.int .i64 a0_3))
        have hz3000007_4_0 := ((blk_cell hb_ 4).trans rfl : _ = some (.int .i64 a0_4))
        have hz3000007_5_0 := ((blk_cell hb_ 5).trans rfl : _ = some (.int .i64 a0_5))
        have hz3000007_6_0 := ((blk_cell hb_ 6).trans rfl : _ = some (.int .i64 a0_6))
        clear hb_
        try simp only [c52b0, c52b1, c55b0, c55b1, c58b0, c58b1]
        go_wp2_with (first | ((with_reducible refine gate_dst (N := 41) rfl ?_); refine goesL_ (some 41) rfl rfl Try.func42 (by kernel_rfl) rfl #[.agg #[.int .i64 a0_1, .int .i64 a0_2], .agg #[.int .i64 a1_0, .int .i64 a1_1], .int .i64 a0_6] rfl (by (try simp only [List.map_toArray, List.map_cons, List.map_nil]); first | done | rfl | (simp; done)) ?_; (with_reducible refine (grid_Near.calls k _ _ _ _ _ _ _  Hc56.out).mono ?_); rintro e_ w62 ⟨rfl, hb_⟩; refine ⟨_, rfl, ?_⟩; replace HS := Aside0.mk (HS.out.below hb_); replace HK := Aside0.mk (HK.out.trans (Keep.below hb_)); (try clear hz3000007_0_0 hz3000007_1_0 hz3000007_2_0 hz3000007_3_0 hz3000007_4_0 hz3000007_5_0 hz3000007_6_0); (try clear hz3000008_0_0 hz3000008_1_0); have hb_ := SL.at_ (SL.get2 HS.out); have hz3000008_0_1 := ((blk_cell hb_ 0).trans rfl : _ = some (.int .i64 a1_0)); have hz3000008_1_1 := ((blk_cell hb_ 1).trans rfl : _ = some (.int .i64 a1_1)); clear hb_; have hb_ := SL.at_ (SL.get3 HS.out); have hz3000007_0_1 := ((blk_cell hb_ 0).trans rfl : _ = some (.int .i64 a0_0)); have hz3000007_1_1 := ((blk_cell hb_ 1).trans rfl : _ = some (.int .i64 a0_1)); have hz3000007_2_1 := ((blk_cell hb_ 2).trans rfl : _ = some (.int .i64 a0_2)); have hz3000007_3_1 := ((blk_cell hb_ 3).trans rfl : _ = some (.int .i64 a0_3)); have hz3000007_4_1 := ((blk_cell hb_ 4).trans rfl : _ = some (.int .i64 a0_4)); have hz3000007_5_1 := ((blk_cell hb_ 5).trans rfl : _ = some (.int .i64 a0_5)); have hz3000007_6_1 := ((blk_cell hb_ 6).trans rfl : _ = some (.int .i64 a0_6)); clear hb_) | ((with_reducible refine gate_dst (N := 52) rfl ?_); (try (refine gate_guard (by rfl) ?_; dsimp only)); refine goesL_ (some 52) rfl rfl Try.func42 (by kernel_rfl) rfl #[.agg #[.int .i64 a0_1, .int .i64 a0_2], .agg #[.int .i64 a1_0, .int .i64 a1_1], .int .i64 a0_5] rfl (by (try simp only [List.map_toArray, List.map_cons, List.map_nil]); first | done | rfl | (simp; done)) ?_; (with_reducible refine (grid_Near.calls k _ _ _ _ _ _ _  Hc60.out).mono ?_); rintro e_ w63 ⟨rfl, hb_⟩; refine ⟨_, rfl, ?_⟩; replace HS := Aside0.mk (HS.out.below hb_); replace HK := Aside0.mk (HK.out.trans (Keep.below hb_)); (try clear hz3000007_0_1 hz3000007_1_1 hz3000007_2_1 hz3000007_3_1 hz3000007_4_1 hz3000007_5_1 hz3000007_6_1); (try clear hz3000008_0_1 hz3000008_1_1)))
        go_ret
        replace HS := Aside0.mk (SL.tail (SL.tail (SL.tail (SL.tail HS.out))))
        unfold area_In.Post
        exact ⟨by first | rfl | (simp; done) | (simp [*]; done) | (simp at c58b0 ⊢; first | exact c58b0 | (simp [c58b0]; done)), HS.out, HK.out⟩
       ·replace c61 := Bool.eq_false_iff.mpr c61
        subst c61
        rw [if_neg (show ¬ (false = true) by decide)] at H
        obtain rfl := Option.some.inj H
        have hb_ := SL.at_ (SL.get2 HS.out)
        have hz3000008_0_0 := ((blk_cell hb_ 0).trans rfl : _ = some (.int .i64 a1_0))
        have hz3000008_1_0 := ((blk_cell hb_ 1).trans rfl : _ = some (.int .i64 a1_1))
        clear hb_
        have hb_ := SL.at_ (SL.get3 HS.out)
        have hz3000007_0_0 := ((blk_cell hb_ 0).trans rfl : _ = some (.int .i64 a0_0))
        have hz3000007_1_0 := ((blk_cell hb_ 1).trans rfl : _ = some (.int .i64 a0_1))
        have hz3000007_2_0 := ((blk_cell hb_ 2).trans rfl : _ = some (.int .i64 a0_2))
        have hz3000007_3_0 := ((blk_cell hb_ 3).trans rfl : _ = some (.int .i64 a0_3))
        have hz3000007_4_0 := ((blk_cell hb_ 4).trans rfl : _ = some (.int .i64 a0_4))
        have hz3000007_5_0 := ((blk_cell hb_ 5).trans rfl : _ = some (.int .i64 a0_5))
        have hz3000007_6_0 := ((blk_cell hb_ 6).trans rfl : _ = some (.int .i64 a0_6))
        clear hb_
        try simp only [c52b0, c52b1, c55b0, c55b1, c58b0, c58b1]
        go_wp2_with (first | ((with_reducible refine gate_dst (N := 41) rfl ?_); refine goesL_ (some 41) rfl rfl Try.func42 (by kernel_rfl) rfl #[.agg #[.int .i64 a0_1, .int .i64 a0_2], .agg #[.int .i64 a1_0, .int .i64 a1_1], .int .i64 a0_6] rfl (by (try simp only [List.map_toArray, List.map_cons, List.map_nil]); first | done | rfl | (simp; done)) ?_; (with_reducible refine (grid_Near.calls k _ _ _ _ _ _ _  Hc56.out).mono ?_); rintro e_ w64 ⟨rfl, hb_⟩; refine ⟨_, rfl, ?_⟩; replace HS := Aside0.mk (HS.out.below hb_); replace HK := Aside0.mk (HK.out.trans (Keep.below hb_)); (try clear hz3000007_0_0 hz3000007_1_0 hz3000007_2_0 hz3000007_3_0 hz3000007_4_0 hz3000007_5_0 hz3000007_6_0); (try clear hz3000008_0_0 hz3000008_1_0); have hb_ := SL.at_ (SL.get2 HS.out); have hz3000008_0_1 := ((blk_cell hb_ 0).trans rfl : _ = some (.int .i64 a1_0)); have hz3000008_1_1 := ((blk_cell hb_ 1).trans rfl : _ = some (.int .i64 a1_1)); clear hb_; have hb_ := SL.at_ (SL.get3 HS.out); have hz3000007_0_1 := ((blk_cell hb_ 0).trans rfl : _ = some (.int .i64 a0_0)); have hz3000007_1_1 := ((blk_cell hb_ 1).trans rfl : _ = some (.int .i64 a0_1)); have hz3000007_2_1 := ((blk_cell hb_ 2).trans rfl : _ = some (.int .i64 a0_2)); have hz3000007_3_1 := ((blk_cell hb_ 3).trans rfl : _ = some (.int .i64 a0_3)); have hz3000007_4_1 := ((blk_cell hb_ 4).trans rfl : _ = some (.int .i64 a0_4)); have hz3000007_5_1 := ((blk_cell hb_ 5).trans rfl : _ = some (.int .i64 a0_5)); have hz3000007_6_1 := ((blk_cell hb_ 6).trans rfl : _ = some (.int .i64 a0_6)); clear hb_) | ((with_reducible refine gate_dst (N := 52) rfl ?_); (try (refine gate_guard (by rfl) ?_; dsimp only)); refine goesL_ (some 52) rfl rfl Try.func42 (by kernel_rfl) rfl #[.agg #[.int .i64 a0_1, .int .i64 a0_2], .agg #[.int .i64 a1_0, .int .i64 a1_1], .int .i64 a0_5] rfl (by (try simp only [List.map_toArray, List.map_cons, List.map_nil]); first | done | rfl | (simp; done)) ?_; (with_reducible refine (grid_Near.calls k _ _ _ _ _ _ _  Hc60.out).mono ?_); rintro e_ w65 ⟨rfl, hb_⟩; refine ⟨_, rfl, ?_⟩; replace HS := Aside0.mk (HS.out.below hb_); replace HK := Aside0.mk (HK.out.trans (Keep.below hb_)); (try clear hz3000007_0_1 hz3000007_1_1 hz3000007_2_1 hz3000007_3_1 hz3000007_4_1 hz3000007_5_1 hz3000007_6_1); (try clear hz3000008_0_1 hz3000008_1_1)))
        go_ret
        replace HS := Aside0.mk (SL.tail (SL.tail (SL.tail (SL.tail HS.out))))
        unfold area_In.Post
        exact ⟨by first | rfl | (simp; done) | (simp [*]; done) | (simp at c58b0 ⊢; first | exact c58b0 | (simp [c58b0]; done)), HS.out, HK.out⟩
     ·replace c57 := Bool.eq_false_iff.mpr c57
      subst c57
      rw [if_neg (show ¬ (false = true) by decide)] at H
      obtain rfl := Option.some.inj H
      have hb_ := SL.at_ (SL.get2 HS.out)
      have hz3000008_0_0 := ((blk_cell hb_ 0).trans rfl : _ = some (.int .i64 a1_0))
      have hz3000008_1_0 := ((blk_cell hb_ 1).trans rfl : _ = some (.int .i64 a1_1))
      clear hb_
      have hb_ := SL.at_ (SL.get3 HS.out)
      have hz3000007_0_0 := ((blk_cell hb_ 0).trans rfl : _ = some (.int .i64 a0_0))
      have hz3000007_1_0 := ((blk_cell hb_ 1).trans rfl : _ = some (.int .i64 a0_1))
      have hz3000007_2_0 := ((blk_cell hb_ 2).trans rfl : _ = some (.int .i64 a0_2))
      have hz3000007_3_0 := ((blk_cell hb_ 3).trans rfl : _ = some (.int .i64 a0_3))
      have hz3000007_4_0 := ((blk_cell hb_ 4).trans rfl : _ = some (.int .i64 a0_4))
      have hz3000007_5_0 := ((blk_cell hb_ 5).trans rfl : _ = some (.int .i64 a0_5))
      have hz3000007_6_0 := ((blk_cell hb_ 6).trans rfl : _ = some (.int .i64 a0_6))
      clear hb_
      try simp only [c52b0, c52b1, c55b0, c55b1]
      go_wp2_with (first | ((with_reducible refine gate_dst (N := 41) rfl ?_); refine goesL_ (some 41) rfl rfl Try.func42 (by kernel_rfl) rfl #[.agg #[.int .i64 a0_1, .int .i64 a0_2], .agg #[.int .i64 a1_0, .int .i64 a1_1], .int .i64 a0_6] rfl (by (try simp only [List.map_toArray, List.map_cons, List.map_nil]); first | done | rfl | (simp; done)) ?_; (with_reducible refine (grid_Near.calls k _ _ _ _ _ _ _  Hc56.out).mono ?_); rintro e_ w66 ⟨rfl, hb_⟩; refine ⟨_, rfl, ?_⟩; replace HS := Aside0.mk (HS.out.below hb_); replace HK := Aside0.mk (HK.out.trans (Keep.below hb_)); (try clear hz3000007_0_0 hz3000007_1_0 hz3000007_2_0 hz3000007_3_0 hz3000007_4_0 hz3000007_5_0 hz3000007_6_0); (try clear hz3000008_0_0 hz3000008_1_0)))
      go_ret
      replace HS := Aside0.mk (SL.tail (SL.tail (SL.tail (SL.tail HS.out))))
      unfold area_In.Post
      exact ⟨by first | rfl | (simp; done) | (simp [*]; done) | (simp at c55b0 ⊢; first | exact c55b0 | (simp [c55b0]; done)), HS.out, HK.out⟩
    ·rw [if_neg c55] at H
     have c55b0 : (a0_0 == 2) = false := beq_eq_false_iff_ne.mpr c55
     have c55b1 : (a0_0 != 2) = true := bne_iff_ne.mpr c55
     by_cases c67 : a0_0 = 3
     ·rw [if_pos c67] at H
      have c67b0 : (a0_0 == 3) = true := beq_iff_eq.mpr c67
      have c67b1 : (a0_0 != 3) = false := bne_eq_false_iff_eq.mpr c67
      clear c67
      replace H := Option.bind_eq_some_iff.1 H
      obtain ⟨t198, Hc680, H⟩ := H
      try dsimp only at H
      have Hc68 := Aside0.mk Hc680
      clear Hc680
      by_cases c69 : t198 = true
      ·subst c69
       rw [if_pos rfl] at H
       replace H := Option.bind_eq_some_iff.1 H
       obtain ⟨t199, Hc700, H⟩ := H
       try dsimp only at H
       have Hc70 := Aside0.mk Hc700
       clear Hc700
       obtain rfl := Option.some.inj H
       have hb_ := SL.at_ (SL.get2 HS.out)
       have hz3000008_0_0 := ((blk_cell hb_ 0).trans rfl : _ = some (.int .i64 a1_0))
       have hz3000008_1_0 := ((blk_cell hb_ 1).trans rfl : _ = some (.int .i64 a1_1))
       clear hb_
       have hb_ := SL.at_ (SL.get3 HS.out)
       have hz3000007_0_0 := ((blk_cell hb_ 0).trans rfl : _ = some (.int .i64 a0_0))
       have hz3000007_1_0 := ((blk_cell hb_ 1).trans rfl : _ = some (.int .i64 a0_1))
       have hz3000007_2_0 := ((blk_cell hb_ 2).trans rfl : _ = some (.int .i64 a0_2))
       have hz3000007_3_0 := ((blk_cell hb_ 3).trans rfl : _ = some (.int .i64 a0_3))
       have hz3000007_4_0 := ((blk_cell hb_ 4).trans rfl : _ = some (.int .i64 a0_4))
       have hz3000007_5_0 := ((blk_cell hb_ 5).trans rfl : _ = some (.int .i64 a0_5))
       have hz3000007_6_0 := ((blk_cell hb_ 6).trans rfl : _ = some (.int .i64 a0_6))
       clear hb_
       try simp only [c52b0, c52b1, c55b0, c55b1, c67b0, c67b1]
       go_wp2_with (first | ((with_reducible refine gate_dst (N := 66) rfl ?_); refine goesL_ (some 66) rfl rfl Try.func43 (by kernel_rfl) rfl #[.int .i64 a1_0, .int .i64 a0_1, .int .i64 a0_3] rfl (by (try simp only [List.map_toArray, List.map_cons, List.map_nil]); first | done | rfl | (simp; done)) ?_; (with_reducible refine (area_box.calls _ _ _ _ _  Hc68.out).mono ?_); rintro e_ w71 ⟨rfl, hb_⟩; refine ⟨_, rfl, ?_⟩; replace HS := Aside0.mk (HS.out.below hb_); replace HK := Aside0.mk (HK.out.trans (Keep.below hb_)); (try clear hz3000007_0_0 hz3000007_1_0 hz3000007_2_0 hz3000007_3_0 hz3000007_4_0 hz3000007_5_0 hz3000007_6_0); (try clear hz3000008_0_0 hz3000008_1_0); have hb_ := SL.at_ (SL.get2 HS.out); have hz3000008_0_1 := ((blk_cell hb_ 0).trans rfl : _ = some (.int .i64 a1_0)); have hz3000008_1_1 := ((blk_cell hb_ 1).trans rfl : _ = some (.int .i64 a1_1)); clear hb_; have hb_ := SL.at_ (SL.get3 HS.out); have hz3000007_0_1 := ((blk_cell hb_ 0).trans rfl : _ = some (.int .i64 a0_0)); have hz3000007_1_1 := ((blk_cell hb_ 1).trans rfl : _ = some (.int .i64 a0_1)); have hz3000007_2_1 := ((blk_cell hb_ 2).trans rfl : _ = some (.int .i64 a0_2)); have hz3000007_3_1 := ((blk_cell hb_ 3).trans rfl : _ = some (.int .i64 a0_3)); have hz3000007_4_1 := ((blk_cell hb_ 4).trans rfl : _ = some (.int .i64 a0_4)); have hz3000007_5_1 := ((blk_cell hb_ 5).trans rfl : _ = some (.int .i64 a0_5)); have hz3000007_6_1 := ((blk_cell hb_ 6).trans rfl : _ = some (.int .i64 a0_6)); clear hb_) | ((with_reducible refine gate_dst (N := 76) rfl ?_); (try (refine gate_guard (by rfl) ?_; dsimp only)); refine goesL_ (some 76) rfl rfl Try.func43 (by kernel_rfl) rfl #[.int .i64 a1_1, .int .i64 a0_2, .int .i64 a0_4] rfl (by (try simp only [List.map_toArray, List.map_cons, List.map_nil]); first | done | rfl | (simp; done)) ?_; (with_reducible refine (area_box.calls _ _ _ _ _  Hc70.out).mono ?_); rintro e_ w72 ⟨rfl, hb_⟩; refine ⟨_, rfl, ?_⟩; replace HS := Aside0.mk (HS.out.below hb_); replace HK := Aside0.mk (HK.out.trans (Keep.below hb_)); (try clear hz3000007_0_1 hz3000007_1_1 hz3000007_2_1 hz3000007_3_1 hz3000007_4_1 hz3000007_5_1 hz3000007_6_1); (try clear hz3000008_0_1 hz3000008_1_1)))
       go_ret
       replace HS := Aside0.mk (SL.tail (SL.tail (SL.tail (SL.tail HS.out))))
       unfold area_In.Post
       exact ⟨by first | rfl | (simp; done) | (simp [*]; done) | (simp at c67b0 ⊢; first | exact c67b0 | (simp [c67b0]; done)), HS.out, HK.out⟩
      ·replace c69 := Bool.eq_false_iff.mpr c69
       subst c69
       rw [if_neg (show ¬ (false = true) by decide)] at H
       obtain rfl := Option.some.inj H
       have hb_ := SL.at_ (SL.get2 HS.out)
       have hz3000008_0_0 := ((blk_cell hb_ 0).trans rfl : _ = some (.int .i64 a1_0))
       have hz3000008_1_0 := ((blk_cell hb_ 1).trans rfl : _ = some (.int .i64 a1_1))
       clear hb_
       have hb_ := SL.at_ (SL.get3 HS.out)
       have hz3000007_0_0 := ((blk_cell hb_ 0).trans rfl : _ = some (.int .i64 a0_0))
       have hz3000007_1_0 := ((blk_cell hb_ 1).trans rfl : _ = some (.int .i64 a0_1))
       have hz3000007_2_0 := ((blk_cell hb_ 2).trans rfl : _ = some (.int .i64 a0_2))
       have hz3000007_3_0 := ((blk_cell hb_ 3).trans rfl : _ = some (.int .i64 a0_3))
       have hz3000007_4_0 := ((blk_cell hb_ 4).trans rfl : _ = some (.int .i64 a0_4))
       have hz3000007_5_0 := ((blk_cell hb_ 5).trans rfl : _ = some (.int .i64 a0_5))
       have hz3000007_6_0 := ((blk_cell hb_ 6).trans rfl : _ = some (.int .i64 a0_6))
       clear hb_
       try simp only [c52b0, c52b1, c55b0, c55b1, c67b0, c67b1]
       go_wp2_with (first | ((with_reducible refine gate_dst (N := 66) rfl ?_); refine goesL_ (some 66) rfl rfl Try.func43 (by kernel_rfl) rfl #[.int .i64 a1_0, .int .i64 a0_1, .int .i64 a0_3] rfl (by (try simp only [List.map_toArray, List.map_cons, List.map_nil]); first | done | rfl | (simp; done)) ?_; (with_reducible refine (area_box.calls _ _ _ _ _  Hc68.out).mono ?_); rintro e_ w73 ⟨rfl, hb_⟩; refine ⟨_, rfl, ?_⟩; replace HS := Aside0.mk (HS.out.below hb_); replace HK := Aside0.mk (HK.out.trans (Keep.below hb_)); (try clear hz3000007_0_0 hz3000007_1_0 hz3000007_2_0 hz3000007_3_0 hz3000007_4_0 hz3000007_5_0 hz3000007_6_0); (try clear hz3000008_0_0 hz3000008_1_0)))
       go_ret
       replace HS := Aside0.mk (SL.tail (SL.tail (SL.tail (SL.tail HS.out))))
       unfold area_In.Post
       exact ⟨by first | rfl | (simp; done) | (simp [*]; done) | (simp at c67b0 ⊢; first | exact c67b0 | (simp [c67b0]; done)), HS.out, HK.out⟩
     ·rw [if_neg c67] at H
      have c67b0 : (a0_0 == 3) = false := beq_eq_false_iff_ne.mpr c67
      have c67b1 : (a0_0 != 3) = true := bne_iff_ne.mpr c67
      by_cases c74 : a0_0 = 4
      ·rw [if_pos c74] at H
       have c74b0 : (a0_0 == 4) = true := beq_iff_eq.mpr c74
       have c74b1 : (a0_0 != 4) = false := bne_eq_false_iff_eq.mpr c74
       clear c74
       replace H := Option.bind_eq_some_iff.1 H
       obtain ⟨t200, Hc750, H⟩ := H
       try dsimp only at H
       have Hc75 := Aside0.mk Hc750
       clear Hc750
       by_cases c76 : t200 = true
       ·subst c76
        rw [if_pos rfl] at H
        replace H := Option.bind_eq_some_iff.1 H
        obtain ⟨t201, Hc770, H⟩ := H
        try dsimp only at H
        have Hc77 := Aside0.mk Hc770
        clear Hc770
        obtain rfl := Option.some.inj H
        have hb_ := SL.at_ (SL.get2 HS.out)
        have hz3000008_0_0 := ((blk_cell hb_ 0).trans rfl : _ = some (.int .i64 a1_0))
        have hz3000008_1_0 := ((blk_cell hb_ 1).trans rfl : _ = some (.int .i64 a1_1))
        clear hb_
        have hb_ := SL.at_ (SL.get3 HS.out)
        have hz3000007_0_0 := ((blk_cell hb_ 0).trans rfl : _ = some (.int .i64 a0_0))
        have hz3000007_1_0 := ((blk_cell hb_ 1).trans rfl : _ = some (.int .i64 a0_1))
        have hz3000007_2_0 := ((blk_cell hb_ 2).trans rfl : _ = some (.int .i64 a0_2))
        have hz3000007_3_0 := ((blk_cell hb_ 3).trans rfl : _ = some (.int .i64 a0_3))
        have hz3000007_4_0 := ((blk_cell hb_ 4).trans rfl : _ = some (.int .i64 a0_4))
        have hz3000007_5_0 := ((blk_cell hb_ 5).trans rfl : _ = some (.int .i64 a0_5))
        have hz3000007_6_0 := ((blk_cell hb_ 6).trans rfl : _ = some (.int .i64 a0_6))
        clear hb_
        try simp only [c52b0, c52b1, c55b0, c55b1, c67b0, c67b1, c74b0, c74b1]
        go_wp2_with (first | ((with_reducible refine gate_dst (N := 85) rfl ?_); refine goesL_ (some 85) rfl rfl Try.func42 (by kernel_rfl) rfl #[.agg #[.int .i64 a0_1, .int .i64 a0_2], .agg #[.int .i64 a1_0, .int .i64 a1_1], .int .i64 a0_5] rfl (by (try simp only [List.map_toArray, List.map_cons, List.map_nil]); first | done | rfl | (simp; done)) ?_; (with_reducible refine (grid_Near.calls k _ _ _ _ _ _ _  Hc75.out).mono ?_); rintro e_ w78 ⟨rfl, hb_⟩; refine ⟨_, rfl, ?_⟩; replace HS := Aside0.mk (HS.out.below hb_); replace HK := Aside0.mk (HK.out.trans (Keep.below hb_)); (try clear hz3000007_0_0 hz3000007_1_0 hz3000007_2_0 hz3000007_3_0 hz3000007_4_0 hz3000007_5_0 hz3000007_6_0); (try clear hz3000008_0_0 hz3000008_1_0); have hb_ := SL.at_ HS.out; have hz3000010_0_1 := ((blk_cell hb_ 0).trans rfl : _ = some (.int .i64 t193)); have hz3000010_1_1 := ((blk_cell hb_ 1).trans rfl : _ = some (.int .i64 t194)); clear hb_; have hb_ := SL.at_ (SL.get1 HS.out); have hz3000009_0_1 := ((blk_cell hb_ 0).trans rfl : _ = some (.int .i64 t191)); have hz3000009_1_1 := ((blk_cell hb_ 1).trans rfl : _ = some (.int .i64 t192)); clear hb_) | ((with_reducible refine gate_dst (N := 89) rfl ?_); (try (refine gate_guard (by rfl) ?_; dsimp only)); refine goesL_ (some 89) rfl rfl Try.func44 (by kernel_rfl) rfl #[.agg #[.int .i64 t191, .int .i64 t192], .agg #[.int .i64 t193, .int .i64 t194]] rfl (by (try simp only [List.map_toArray, List.map_cons, List.map_nil]); first | done | rfl | (simp; done)) ?_; (with_reducible refine (area_cone.calls _ _ _ _ _ _  Hc77.out).mono ?_); rintro e_ w79 ⟨rfl, hb_⟩; refine ⟨_, rfl, ?_⟩; replace HS := Aside0.mk (HS.out.below hb_); replace HK := Aside0.mk (HK.out.trans (Keep.below hb_)); (try clear hz3000009_0_1 hz3000009_1_1); (try clear hz3000010_0_1 hz3000010_1_1)))
        go_ret
        replace HS := Aside0.mk (SL.tail (SL.tail (SL.tail (SL.tail HS.out))))
        unfold area_In.Post
        exact ⟨by first | rfl | (simp; done) | (simp [*]; done) | (simp at c74b0 ⊢; first | exact c74b0 | (simp [c74b0]; done)), HS.out, HK.out⟩
       ·replace c76 := Bool.eq_false_iff.mpr c76
        subst c76
        rw [if_neg (show ¬ (false = true) by decide)] at H
        obtain rfl := Option.some.inj H
        have hb_ := SL.at_ (SL.get2 HS.out)
        have hz3000008_0_0 := ((blk_cell hb_ 0).trans rfl : _ = some (.int .i64 a1_0))
        have hz3000008_1_0 := ((blk_cell hb_ 1).trans rfl : _ = some (.int .i64 a1_1))
        clear hb_
        have hb_ := SL.at_ (SL.get3 HS.out)
        have hz3000007_0_0 := ((blk_cell hb_ 0).trans rfl : _ = some (.int .i64 a0_0))
        have hz3000007_1_0 := ((blk_cell hb_ 1).trans rfl : _ = some (.int .i64 a0_1))
        have hz3000007_2_0 := ((blk_cell hb_ 2).trans rfl : _ = some (.int .i64 a0_2))
        have hz3000007_3_0 := ((blk_cell hb_ 3).trans rfl : _ = some (.int .i64 a0_3))
        have hz3000007_4_0 := ((blk_cell hb_ 4).trans rfl : _ = some (.int .i64 a0_4))
        have hz3000007_5_0 := ((blk_cell hb_ 5).trans rfl : _ = some (.int .i64 a0_5))
        have hz3000007_6_0 := ((blk_cell hb_ 6).trans rfl : _ = some (.int .i64 a0_6))
        clear hb_
        try simp only [c52b0, c52b1, c55b0, c55b1, c67b0, c67b1, c74b0, c74b1]
        go_wp2_with (first | ((with_reducible refine gate_dst (N := 85) rfl ?_); refine goesL_ (some 85) rfl rfl Try.func42 (by kernel_rfl) rfl #[.agg #[.int .i64 a0_1, .int .i64 a0_2], .agg #[.int .i64 a1_0, .int .i64 a1_1], .int .i64 a0_5] rfl (by (try simp only [List.map_toArray, List.map_cons, List.map_nil]); first | done | rfl | (simp; done)) ?_; (with_reducible refine (grid_Near.calls k _ _ _ _ _ _ _  Hc75.out).mono ?_); rintro e_ w80 ⟨rfl, hb_⟩; refine ⟨_, rfl, ?_⟩; replace HS := Aside0.mk (HS.out.below hb_); replace HK := Aside0.mk (HK.out.trans (Keep.below hb_)); (try clear hz3000007_0_0 hz3000007_1_0 hz3000007_2_0 hz3000007_3_0 hz3000007_4_0 hz3000007_5_0 hz3000007_6_0); (try clear hz3000008_0_0 hz3000008_1_0)))
        go_ret
        replace HS := Aside0.mk (SL.tail (SL.tail (SL.tail (SL.tail HS.out))))
        unfold area_In.Post
        exact ⟨by first | rfl | (simp; done) | (simp [*]; done) | (simp at c74b0 ⊢; first | exact c74b0 | (simp [c74b0]; done)), HS.out, HK.out⟩
      ·rw [if_neg c74] at H
       have c74b0 : (a0_0 == 4) = false := beq_eq_false_iff_ne.mpr c74
       have c74b1 : (a0_0 != 4) = true := bne_iff_ne.mpr c74
       replace H := Option.bind_eq_some_iff.1 H
       obtain ⟨t202, Hc810, H⟩ := H
       try dsimp only at H
       have Hc81 := Aside0.mk Hc810
       clear Hc810
       obtain rfl := Option.some.inj H
       have hb_ := SL.at_ HS.out
       have hz3000010_0_0 := ((blk_cell hb_ 0).trans rfl : _ = some (.int .i64 t193))
       have hz3000010_1_0 := ((blk_cell hb_ 1).trans rfl : _ = some (.int .i64 t194))
       clear hb_
       have hb_ := SL.at_ (SL.get1 HS.out)
       have hz3000009_0_0 := ((blk_cell hb_ 0).trans rfl : _ = some (.int .i64 t191))
       have hz3000009_1_0 := ((blk_cell hb_ 1).trans rfl : _ = some (.int .i64 t192))
       clear hb_
       have hb_ := SL.at_ (SL.get3 HS.out)
       have hz3000007_0_0 := ((blk_cell hb_ 0).trans rfl : _ = some (.int .i64 a0_0))
       have hz3000007_1_0 := ((blk_cell hb_ 1).trans rfl : _ = some (.int .i64 a0_1))
       have hz3000007_2_0 := ((blk_cell hb_ 2).trans rfl : _ = some (.int .i64 a0_2))
       have hz3000007_3_0 := ((blk_cell hb_ 3).trans rfl : _ = some (.int .i64 a0_3))
       have hz3000007_4_0 := ((blk_cell hb_ 4).trans rfl : _ = some (.int .i64 a0_4))
       have hz3000007_5_0 := ((blk_cell hb_ 5).trans rfl : _ = some (.int .i64 a0_5))
       have hz3000007_6_0 := ((blk_cell hb_ 6).trans rfl : _ = some (.int .i64 a0_6))
       clear hb_
       try simp only [c52b0, c52b1, c55b0, c55b1, c67b0, c67b1, c74b0, c74b1]
       go_wp2_with (first | ((with_reducible refine gate_dst (N := 95) rfl ?_); refine goesL_ (some 95) rfl rfl Try.func45 (by kernel_rfl) rfl #[.agg #[.int .i64 t191, .int .i64 t192], .agg #[.int .i64 t193, .int .i64 t194], .int .i64 a0_5] rfl (by (try simp only [List.map_toArray, List.map_cons, List.map_nil]); first | done | rfl | (simp; done)) ?_; (with_reducible refine (area_beam.calls _ _ _ _ _ _ _  Hc81.out).mono ?_); rintro e_ w82 ⟨rfl, hb_⟩; refine ⟨_, rfl, ?_⟩; replace HS := Aside0.mk (HS.out.below hb_); replace HK := Aside0.mk (HK.out.trans (Keep.below hb_)); (try clear hz3000007_0_0 hz3000007_1_0 hz3000007_2_0 hz3000007_3_0 hz3000007_4_0 hz3000007_5_0 hz3000007_6_0); (try clear hz3000009_0_0 hz3000009_1_0); (try clear hz3000010_0_0 hz3000010_1_0)))
       go_ret
       replace HS := Aside0.mk (SL.tail (SL.tail (SL.tail (SL.tail HS.out))))
       unfold area_In.Post
       exact ⟨by first | rfl | (simp; done) | (simp [*]; done) | (simp at c74b0 ⊢; first | exact c74b0 | (simp [c74b0]; done)), HS.out, HK.out⟩
  ·replace c7 := Bool.eq_false_iff.mpr c7
   subst c7
   rw [if_neg (show ¬ (false = true) by decide)] at H
   obtain rfl := Option.some.inj H
   have hb_ := SL.at_ HS.out
   have hz3000008_0_0 := ((blk_cell hb_ 0).trans rfl : _ = some (.int .i64 a1_0))
   have hz3000008_1_0 := ((blk_cell hb_ 1).trans rfl : _ = some (.int .i64 a1_1))
   clear hb_
   refine hG_.out ?_
   go_wp2_with (first | ((with_reducible refine gate_dst (N := 12) rfl ?_); (try (refine gate_guard (by rfl) ?_; dsimp only)); refine goesL_ (some 12) rfl rfl Try.func40 (by kernel_rfl) rfl #[.agg #[.int .i64 a1_0, .int .i64 a1_1]] rfl (by (try simp only [List.map_toArray, List.map_cons, List.map_nil]); first | done | rfl | (simp; done)) ?_; (with_reducible refine (area_near.calls _ _ _ _  Hc6.out).mono ?_); rintro e_ w83 ⟨rfl, hb_⟩; refine ⟨_, rfl, ?_⟩; replace HS := Aside0.mk (HS.out.below hb_); replace HK := Aside0.mk (HK.out.trans (Keep.below hb_)); (try clear hz3000008_0_0 hz3000008_1_0)))
   go_ret
   replace HS := Aside0.mk (SL.tail (SL.tail HS.out))
   unfold area_In.Post
   exact ⟨by first | rfl | (simp; done) | (simp [*]; done), HS.out, HK.out⟩
 ·replace c5 := Bool.eq_false_iff.mpr c5
  subst c5
  rw [if_neg (show ¬ (false = true) by decide)] at H
  obtain rfl := Option.some.inj H
  refine hG_.out ?_
  go_wp2
  go_ret
  replace HS := Aside0.mk (SL.tail (SL.tail HS.out))
  unfold area_In.Post
  exact ⟨by first | rfl | (simp; done) | (simp [*]; done), HS.out, HK.out⟩
theorem area_In.calls (k : Nat) (a0_0 : Int) (a0_1 : Int) (a0_2 : Int) (a0_3 : Int) (a0_4 : Int) (a0_5 : Int) (a0_6 : Int) (a1_0 : Int) (a1_1 : Int) (r : Bool) (w : World) (h : area_In.f k a0_0 a0_1 a0_2 a0_3 a0_4 a0_5 a0_6 a1_0 a1_1 = some r) :
  Calls Try.prog 24 #[.agg #[.int .i64 a0_0, .int .i64 a0_1, .int .i64 a0_2, .int .i64 a0_3, .int .i64 a0_4, .int .i64 a0_5, .int .i64 a0_6], .agg #[.int .i64 a1_0, .int .i64 a1_1]] w fun e w' => e = .returned (.bool r) ∧ Below w.heap.size w w' :=
 (area_In.slcalls k a0_0 a0_1 a0_2 a0_3 a0_4 a0_5 a0_6 a1_0 a1_1 r (news w) [] w (fresh_news w) trivial h).mono fun _ _ h => ⟨h.1, h.2.2.to_below⟩

end Go.Proofs.Ytiadhonhjnbliaa.XZT
