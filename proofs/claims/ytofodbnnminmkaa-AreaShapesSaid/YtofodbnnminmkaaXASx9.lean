-- Written by xprint.py (a program of this session) for this claim
import Derived.Test.YtofodbnnminmkaaSL5
import Derived.Test.YtofodbnnminmkaaXASx0
import Derived.Test.YtofodbnnminmkaaXASx3
import Derived.Test.YtofodbnnminmkaaXASx8
namespace Go.Proofs.Ytofodbnnminmkaa.XAS
open Go.Proofs.YtofodbnnminmkaaV Go.Proofs.YtofodbnnminmkaaS
open Go.RowKit Go.Proofs.YtofodbnnminmkaaW.PrintWords Go.Proofs.YtofodbnnminmkaaW.PrintLast Go.Proofs.YtofodbnnminmkaaW.PrintMore
attribute [local go_sem] max2_int min2_int max_two min_two max_three min_three max_four min_four   -- for this text's walks alone
set_option linter.unusedVariables false
set_option linter.unusedSimpArgs false

/-! ### area_Nearest_1_i1: function 37 -/
def area_Nearest_1_i1.f (k : Nat) (a0 : Int) (a1 : Int) (s0_0 : Int) (s0_1 : Int) (sm2 : List (Int × S26)) : Option (Int × Int × Int) := (some (mgetD z26 sm2 a0 : S26)).bind fun y280 => ((grid_Square.f k s0_0 s0_1 y280.f0 y280.f1).bind fun t281 => ((some (mgetD z26 sm2 a1 : S26)).bind fun y282 => ((grid_Square.f k s0_0 s0_1 y282.f0 y282.f1).bind fun t283 => ((cmp_Compare_int.f t281 t283).bind fun t284 => (some (t284, s0_0, s0_1))))))
theorem area_Nearest_1_i1.mono : ∀ a0 a1 a2 a3 a4 k, LeO (area_Nearest_1_i1.f k a0 a1 a2 a3 a4) (area_Nearest_1_i1.f (k + 1) a0 a1 a2 a3 a4) := by
  intro a0 a1 a2 a3 a4 k
  unfold area_Nearest_1_i1.f
  repeat' first
      | (with_reducible exact grid_Square.mono _ _ _ _ _)
      | (with_reducible exact LeO.refl _)
      | (with_reducible exact LeO.none _)
      | (with_reducible refine LeO.ite ?_ ?_)
      | (with_reducible refine everyOf_le (fun _ => ?_))
      | (with_reducible refine LeO.bind ?_ (fun _ => ?_))
      | exact grid_Square.mono _ _ _ _ _
      | exact LeO.none _
      | refine LeO.ite ?_ ?_
      | refine LeO.bind ?_ (fun _ => ?_)
def area_Nearest_1_i1.T1 : Bool × List (List Nat × List Nat) := (true, [([], []), ([], []), ([], []), ([1, 2], [1, 2]), ([0, 3], [0, 3]), ([], []), ([], []), ([], []), ([6, 7], [6, 7]), ([5, 8, 4], [5, 8]), ([4, 9, 9], [4, 9]), ([10, 10, 0, 1, 2, 3, 4, 5, 6, 7, 8, 9, 10], [10])])
def area_Nearest_1_i1.B1 : List Nat := [0, 0, 0, 6, 15, 0, 0, 0, 192, 511, 1023, 2047]
theorem area_Nearest_1_i1.tab1 : rtab .any (opsOf Try.f37 1) = area_Nearest_1_i1.T1 := by kernel_rfl
theorem area_Nearest_1_i1.bits1 : waitsOk area_Nearest_1_i1.T1.2 area_Nearest_1_i1.B1 = true := by kernel_rfl
def area_Nearest_1_i1.Post (b0 : Nat) (b1 : Nat) (b2 : Nat) (bs2 : List Nat) (ck2 : Nat) (sm2 : List (Int × S26)) (r1 : Int) (r2 : Int) (r3 : Int) (S : Nat → Prop) (L : List Asr) (w : World) (e : Ending) (w' : World) : Prop := e = .returned (.int .i64 r1) ∧ SL (cells b0 26 [.int .i64 r2, .int .i64 r3].toArray :: cells b1 55 [.map (some b2)].toArray :: mapo b2 (Value.int .i64) (fun x_ : S26 => Value.agg #[.int .i64 x_.f0, .int .i64 x_.f1]) sm2 bs2 ck2 :: L) w' S ∧ Keep S w w'
set_option maxHeartbeats 8000000 in
set_option maxRecDepth 100000 in
theorem area_Nearest_1_i1.slcalls (k : Nat) (a0 : Int) (a1 : Int) (b0 : Nat) (s0_0 : Int) (s0_1 : Int) (b1 : Nat) (b2 : Nat) (bs2 : List Nat) (ck2 : Nat) (sm2 : List (Int × S26)) (r1 : Int) (r2 : Int) (r3 : Int) (S : Nat → Prop) (L : List Asr) (w : World) (hf : Fresh S w) (hs : SL (cells b0 26 [.int .i64 s0_0, .int .i64 s0_1].toArray :: cells b1 55 [.map (some b2)].toArray :: mapo b2 (Value.int .i64) (fun x_ : S26 => Value.agg #[.int .i64 x_.f0, .int .i64 x_.f1]) sm2 bs2 ck2 :: L) w S) (h : area_Nearest_1_i1.f k a0 a1 s0_0 s0_1 sm2 = some (r1, r2, r3)) :
    Calls Try.prog 37 #[.int .i64 a0, .int .i64 a1, .pointer (some ⟨b0, 0, none⟩), .pointer (some ⟨b1, 0, none⟩)] w (area_Nearest_1_i1.Post b0 b1 b2 bs2 ck2 sm2 r1 r2 r3 S L w) := by
  have HF := Aside0.mk hf
  have HS := Aside0.mk hs
  have HK := Aside0.mk (Keep.refl S w)
  clear hf hs
  have hu26 := Try.underlying26
  have H : ((some (mgetD z26 sm2 a0 : S26)).bind fun y280 => ((grid_Square.f k s0_0 s0_1 y280.f0 y280.f1).bind fun t281 => ((some (mgetD z26 sm2 a1 : S26)).bind fun y282 => ((grid_Square.f k s0_0 s0_1 y282.f0 y282.f1).bind fun t283 => ((cmp_Compare_int.f t281 t283).bind fun t284 => (some (t284, s0_0, s0_1))))))) = some (r1, r2, r3) := h
  clear h
  replace H := Option.bind_eq_some_iff.1 H
  obtain ⟨y280, hy2800, H⟩ := H
  try dsimp only at H
  have hy280 := Option.some.inj hy2800
  clear hy2800
  have Ny280 := Aside0.mk hy280
  clear hy280
  replace H := Option.bind_eq_some_iff.1 H
  obtain ⟨t281, Hc10, H⟩ := H
  try dsimp only at H
  have Hc1 := Aside0.mk Hc10
  clear Hc10
  replace H := Option.bind_eq_some_iff.1 H
  obtain ⟨y282, hy2820, H⟩ := H
  try dsimp only at H
  have hy282 := Option.some.inj hy2820
  clear hy2820
  have Ny282 := Aside0.mk hy282
  clear hy282
  replace H := Option.bind_eq_some_iff.1 H
  obtain ⟨t283, Hc20, H⟩ := H
  try dsimp only at H
  have Hc2 := Aside0.mk Hc20
  clear Hc20
  replace H := Option.bind_eq_some_iff.1 H
  obtain ⟨t284, Hc30, H⟩ := H
  try dsimp only at H
  have Hc3 := Aside0.mk Hc30
  clear Hc30
  simp only [Option.some.injEq, Prod.mk.injEq] at H
  obtain ⟨rfl, rfl, rfl⟩ := H
  go_enter Try.func37, Try.ntmps37
  try go_wp2
  have hmo2_ := (SL.map_at (SL.get2 HS.out)).2
  refine start_ (n := 12) (S := fun w' => w'.cell? ⟨b0, 0, none⟩ = some (.int .i64 s0_0) ∧ w'.cell? ⟨b0, 1, none⟩ = some (.int .i64 s0_1) ∧ w'.cell? ⟨b1, 0, none⟩ = some (.map (some b2)) ∧ w'.heap[b2]? = some (Obj.map (ents (Value.int .i64) (fun x_ : S26 => Value.agg #[.int .i64 x_.f0, .int .i64 x_.f1]) sm2 bs2).toArray ck2)) (ds := []) #[false, false, false, false, false, false, false, false, false, false, false, false] (by kernel_rfl) rfl rfl ⟨(((blk_cell (SL.at_ HS.out) 0).trans rfl)), (((blk_cell (SL.at_ HS.out) 1).trans rfl)), (((blk_cell (SL.at_ (SL.get1 HS.out)) 0).trans rfl)), (SL.map_at (SL.get2 HS.out)).1⟩ (fun hHeld => ?_); refine with_tabW area_Nearest_1_i1.tab1 area_Nearest_1_i1.bits1 (fun HT_ HW_ => ?_)
  replace HK := Aside0.mk (Keep.drew HK.out)
  replace HS := Aside0.mk (SL.drew HS.out)
  refine pure_ (i := 2) (N := some 9) (v := ?_) (a' := ?_) #[false, false, true, false, false, false, false, false, false, false, false, false] rfl rfl (any_of HT_.out (by kernel_rfl)) (fun _ _ _ h => h) (Or.inl ⟨by rfl, ?_⟩) ?_ ?_; rotate_left; · (intro w'; go_simp; with_reducible rfl)
  rotate_left; · (simp only [Act.put, sT, sZ, sS, i64_w, i32_w]; rfl)
  refine pure_ (i := 7) (N := some 14) (v := ?_) (a' := ?_) #[false, false, true, false, false, false, false, true, false, false, false, false] rfl rfl (any_of HT_.out (by kernel_rfl)) (fun _ _ _ h => h) (Or.inl ⟨by rfl, ?_⟩) ?_ ?_; rotate_left; · (intro w'; go_simp; with_reducible rfl)
  rotate_left; · (simp only [Act.put, sT, sZ, sS, i64_w, i32_w]; rfl)
  refine take_ (i := 0) (N := some 7) (v := ?_) (a' := ?_) #[true, false, true, false, false, false, false, true, false, false, false, false] rfl rfl (take_ofW HT_.out HW_.out (by kernel_rfl)) (fun _ _ _ h => h) (Or.inl ⟨by rfl, ?_⟩) hHeld ?_ ?_; rotate_left
  · rintro w' ⟨s0, s1, s2, s3⟩
    go_simp
    with_reducible rfl
  rotate_left; · (simp only [Act.put, sT, sZ, sS, i64_w, i32_w]; rfl)
  refine take_ (i := 1) (N := some 8) (v := ?_) (a' := ?_) #[true, true, true, false, false, false, false, true, false, false, false, false] rfl rfl (take_ofW HT_.out HW_.out (by kernel_rfl)) (fun _ _ _ h => h) (Or.inl ⟨by rfl, ?_⟩) hHeld ?_ ?_; rotate_left
  · rintro w' ⟨s0, s1, s2, s3⟩
    go_simp
    with_reducible rfl
  rotate_left; · (simp only [Act.put, sT, sZ, sS, i64_w, i32_w]; rfl)
  refine take_ (i := 3) (N := some 10) (v := ?_) (a' := ?_) #[true, true, true, true, false, false, false, true, false, false, false, false] rfl rfl (take_ofW HT_.out HW_.out (by kernel_rfl)) (fun _ _ _ h => h) (Or.inl ⟨by rfl, ?_⟩) hHeld ?_ ?_; rotate_left
  · rintro w' ⟨s0, s1, s2, s3⟩
    refine run_look1 (keyL_int (β := S26) (P := Try.prog) Try.underlying3) z26 (.tmp 8) (.tmp 9) ?_ Try.underlying55 (by kernel_rfl) b2 ?_ a0 ?_ hmo2_ s3 y280 Ny280.out (.agg #[.int .i64 y280.f0, .int .i64 y280.f1]) ?_ <;> rfl
  rotate_left; · (simp only [Act.put, sT, sZ, sS, i64_w, i32_w]; rfl)
  refine take_ (i := 5) (N := some 12) (v := ?_) (a' := ?_) #[true, true, true, true, false, true, false, true, false, false, false, false] rfl rfl (take_ofW HT_.out HW_.out (by kernel_rfl)) (fun _ _ _ h => h) (Or.inl ⟨by rfl, ?_⟩) hHeld ?_ ?_; rotate_left
  · rintro w' ⟨s0, s1, s2, s3⟩
    go_simp
    with_reducible rfl
  rotate_left; · (simp only [Act.put, sT, sZ, sS, i64_w, i32_w]; rfl)
  refine take_ (i := 6) (N := some 13) (v := ?_) (a' := ?_) #[true, true, true, true, false, true, true, true, false, false, false, false] rfl rfl (take_ofW HT_.out HW_.out (by kernel_rfl)) (fun _ _ _ h => h) (Or.inl ⟨by rfl, ?_⟩) hHeld ?_ ?_; rotate_left
  · rintro w' ⟨s0, s1, s2, s3⟩
    go_simp
    with_reducible rfl
  rotate_left; · (simp only [Act.put, sT, sZ, sS, i64_w, i32_w]; rfl)
  refine take_ (i := 8) (N := some 15) (v := ?_) (a' := ?_) #[true, true, true, true, false, true, true, true, true, false, false, false] rfl rfl (take_ofW HT_.out HW_.out (by kernel_rfl)) (fun _ _ _ h => h) (Or.inl ⟨by rfl, ?_⟩) hHeld ?_ ?_; rotate_left
  · rintro w' ⟨s0, s1, s2, s3⟩
    refine run_look1 (keyL_int (β := S26) (P := Try.prog) Try.underlying3) z26 (.tmp 13) (.tmp 14) ?_ Try.underlying55 (by kernel_rfl) b2 ?_ a1 ?_ hmo2_ s3 y282 Ny282.out (.agg #[.int .i64 y282.f0, .int .i64 y282.f1]) ?_ <;> rfl
  rotate_left; · (simp only [Act.put, sT, sZ, sS, i64_w, i32_w]; rfl)
  refine one_ (i := 4) (N := some 11) #[true, true, true, true, true, true, true, true, true, false, false, false] rfl rfl (one_of HT_.out (by kernel_rfl)) (by decide) (fun K hK => ?_)
  refine goes_ Try.func39 (by kernel_rfl) rfl #[.agg #[.int .i64 s0_0, .int .i64 s0_1], .agg #[.int .i64 y280.f0, .int .i64 y280.f1]] (by rfl) rfl rfl (by (try simp only [List.map_toArray, List.map_cons, List.map_nil]); first | done | rfl | (simp; done)) ?_
  (with_reducible refine (grid_Square.calls k _ _ _ _ _ _  Hc1.out).mono ?_)
  rintro e_ w5 ⟨rfl, hb_⟩
  refine ⟨_, rfl, ?_⟩
  replace HS := Aside0.mk (HS.out.below hb_)
  replace HK := Aside0.mk (HK.out.trans (Keep.below hb_))
  refine hK.out _ _ ⟨(((blk_cell (SL.at_ HS.out) 0).trans rfl)), (((blk_cell (SL.at_ HS.out) 1).trans rfl)), (((blk_cell (SL.at_ (SL.get1 HS.out)) 0).trans rfl)), (SL.map_at (SL.get2 HS.out)).1⟩ (fun hHeld => ?_)
  clear hK K
  refine norm_ (a' := ?_) ?_ ?_; rotate_left
  · show Act.put _ (some 11) _ = _
    simp only [Act.put, sT, sZ, sS, i64_w, i32_w]
    rfl
  refine one_ (i := 9) (N := some 16) #[true, true, true, true, true, true, true, true, true, true, false, false] rfl rfl (one_of HT_.out (by kernel_rfl)) (by decide) (fun K hK => ?_)
  refine goes_ Try.func39 (by kernel_rfl) rfl #[.agg #[.int .i64 s0_0, .int .i64 s0_1], .agg #[.int .i64 y282.f0, .int .i64 y282.f1]] (by rfl) rfl rfl (by (try simp only [List.map_toArray, List.map_cons, List.map_nil]); first | done | rfl | (simp; done)) ?_
  (with_reducible refine (grid_Square.calls k _ _ _ _ _ _  Hc2.out).mono ?_)
  rintro e_ w7 ⟨rfl, hb_⟩
  refine ⟨_, rfl, ?_⟩
  replace HS := Aside0.mk (HS.out.below hb_)
  replace HK := Aside0.mk (HK.out.trans (Keep.below hb_))
  refine hK.out _ _ ⟨(((blk_cell (SL.at_ HS.out) 0).trans rfl)), (((blk_cell (SL.at_ HS.out) 1).trans rfl)), (((blk_cell (SL.at_ (SL.get1 HS.out)) 0).trans rfl)), (SL.map_at (SL.get2 HS.out)).1⟩ (fun hHeld => ?_)
  clear hK K
  refine norm_ (a' := ?_) ?_ ?_; rotate_left
  · show Act.put _ (some 16) _ = _
    simp only [Act.put, sT, sZ, sS, i64_w, i32_w]
    rfl
  refine one_ (i := 10) (N := some 17) #[true, true, true, true, true, true, true, true, true, true, true, false] rfl rfl (one_of HT_.out (by kernel_rfl)) (by decide) (fun K hK => ?_)
  refine goes_ Try.func38 (by kernel_rfl) rfl #[.int .i64 t281, .int .i64 t283] (by rfl) rfl rfl (by (try simp only [List.map_toArray, List.map_cons, List.map_nil]); first | done | rfl | (simp; done)) ?_
  (with_reducible refine (cmp_Compare_int.calls _ _ _ _  Hc3.out).mono ?_)
  rintro e_ w8 ⟨rfl, hb_⟩
  refine ⟨_, rfl, ?_⟩
  replace hb_ := Drawn0.below hb_
  replace HS := Aside0.mk (HS.out.below hb_)
  replace HK := Aside0.mk (HK.out.trans (Keep.below hb_))
  refine hK.out _ _ ⟨(((blk_cell (SL.at_ HS.out) 0).trans rfl)), (((blk_cell (SL.at_ HS.out) 1).trans rfl)), (((blk_cell (SL.at_ (SL.get1 HS.out)) 0).trans rfl)), (SL.map_at (SL.get2 HS.out)).1⟩ (fun hHeld => ?_)
  clear hK K
  refine norm_ (a' := ?_) ?_ ?_; rotate_left
  · show Act.put _ (some 17) _ = _
    simp only [Act.put, sT, sZ, sS, i64_w, i32_w]
    rfl
  refine pure_ (i := 11) (N := some 6) (v := ?_) (a' := ?_) #[true, true, true, true, true, true, true, true, true, true, true, true] rfl rfl (any_of HT_.out (by kernel_rfl)) (fun _ _ _ h => h) (Or.inl ⟨by rfl, ?_⟩) ?_ ?_; rotate_left; · (intro w'; go_simp; with_reducible rfl)
  rotate_left; · (simp only [Act.put, sT, sZ, sS, i64_w, i32_w]; rfl)
  refine done_ (done_of HT_.out (by kernel_rfl)) ?_
  try go_wp2
  go_ret
  unfold area_Nearest_1_i1.Post
  exact ⟨by first | rfl | (simp; done) | (simp [*]; done), HS.out, HK.out⟩

end Go.Proofs.Ytofodbnnminmkaa.XAS
