/- grid.way: its iterator, walked for whatever a round may be. -/
import Derived.Test.YtoalpmfkaijomaaXGRx4
import Derived.Test.YtoalpmfkaijomaaXGRx3
import Derived.Test.YtoalpmfkaijomaaSL2
import Derived.RangeFuncNested
import Derived.RangeFuncBound
import Derived.RangeFuncCalls
import Derived.RangeFuncLeaves
import Derived.Shelf.Abstract
import Derived.Shelf.RegionOpen
import Derived.WalkKit
import Derived.OwnWalkIn
import Derived.TacticsInMore
import Derived.LoopNIn
import Derived.LoopIn
import Derived.Sort.LoopGhostIn
set_option linter.unusedSimpArgs false
set_option linter.unusedVariables false
namespace Go.Proofs.YtoalpmfkaijomaaTo
open Go.RowKit Go.Shelf Go.Proofs.Ytoalpmfkaijomaa Go.Proofs.Ytoalpmfkaijomaa.XGR Go.Proofs.YtoalpmfkaijomaaW.PrintWords Go.Proofs.YtoalpmfkaijomaaW.PrintLast Go.Proofs.YtoalpmfkaijomaaW.PrintMore Go.Proofs.YtoalpmfkaijomaaV Go.Proofs.YtoalpmfkaijomaaS
attribute [local go_sem] Oper.semAt_some

def grid_way_1.T1 : Bool × List (List Nat × List Nat) := (true, [([], []), ([0], [0]), ([], []), ([2], [2]), ([], []), ([4], [4]), ([3, 5], [3, 5]), ([1, 6], [1, 6]), ([0, 1, 2, 3, 4, 5, 6, 7], []), ([8, 7, 6, 0, 1, 2, 3, 4, 5, 6, 7], [7, 8])])
def grid_way_1.B1 : List Nat := [0, 1, 0, 4, 0, 16, 60, 127, 255, 511]
theorem grid_way_1.tab1 : rtab .any (opsOf Try.f41 1) = grid_way_1.T1 := by kernel_rfl
theorem grid_way_1.bits1 : waitsOk grid_way_1.T1.2 grid_way_1.B1 = true := by kernel_rfl
def grid_way_1.T2 : Bool × List (List Nat × List Nat) := (true, [([], []), ([0], [0]), ([], []), ([2], [2]), ([], []), ([4], [4]), ([3, 5], [3, 5]), ([1, 6], [1, 6]), ([0, 1, 2, 3, 4, 5, 6, 7], []), ([8, 7, 6, 0, 1, 2, 3, 4, 5, 6, 7], [7, 8])])
def grid_way_1.B2 : List Nat := [0, 1, 0, 4, 0, 16, 60, 127, 255, 511]
theorem grid_way_1.tab2 : rtab .any (opsOf Try.f41 2) = grid_way_1.T2 := by kernel_rfl
theorem grid_way_1.bits2 : waitsOk grid_way_1.T2.2 grid_way_1.B2 = true := by kernel_rfl
/-- One step toward. -/
def cmpI (a b : Int) : Int := if a < b then -1 else if a > b then 1 else 0
def step1 (a b : Int) : Int := wrap64 (a + cmpI b a)
theorem compare_eq (a b : Int) : cmp_Compare_int.f a b = some (cmpI a b) := by
  unfold cmp_Compare_int.f cmpI
  simp [cmp_isNaN_int.f]
  repeat' split
  all_goals rfl
set_option maxHeartbeats 8000000 in
set_option maxRecDepth 100000 in
theorem way1_in (S : Nat → Prop) (w0 : World) (hf : Fresh S w0) (l b1 b2 : Nat) (s2_0 s2_1 : Int) (C : Nat → Int → Int → Int → Prop) (LJ : Int → Int → Int → List Asr) (Jx : World → Prop)
    (hY : ∀ k x y n W, C k x y n → ¬ (x = s2_0 ∧ y = s2_1) → SL (cells b1 23 [.int .i64 (step1 x s2_0), .int .i64 (step1 y s2_1)].toArray :: cells b2 23 [.int .i64 s2_0, .int .i64 s2_1].toArray :: LJ x y n) W S → Keep S w0 W →
      YieldAt Fence.wide 5 Try.prog l #[.agg #[.int .i64 (step1 x s2_0), .int .i64 (step1 y s2_1)]] W fun e W' =>
        (e = .returned (.bool true) ∧ ∃ k' n', k' < k ∧ C k' (step1 x s2_0) (step1 y s2_1) n' ∧ SL (cells b1 23 [.int .i64 (step1 x s2_0), .int .i64 (step1 y s2_1)].toArray :: cells b2 23 [.int .i64 s2_0, .int .i64 s2_1].toArray :: LJ (step1 x s2_0) (step1 y s2_1) n') W' S ∧ Keep S w0 W') ∨
        (e = .returned (.bool false) ∧ Jx W'))
    (k : Nat) (x y n : Int) (W : World) (h0 : C k x y n) (hs : SL (cells b1 23 [.int .i64 x, .int .i64 y].toArray :: cells b2 23 [.int .i64 s2_0, .int .i64 s2_1].toArray :: LJ x y n) W S) (hk : Keep S w0 W) :
    CallsIn Fence.wide 6 Try.prog 41 #[.func (.yield l) #[] #[], .pointer (some ⟨b1, 0, none⟩), .pointer (some ⟨b2, 0, none⟩)] W fun e W' => (∃ v, e = .returned v) ∧
      ((∃ k n, C k s2_0 s2_1 n ∧ SL (cells b1 23 [.int .i64 s2_0, .int .i64 s2_1].toArray :: cells b2 23 [.int .i64 s2_0, .int .i64 s2_1].toArray :: LJ s2_0 s2_1 n) W' S ∧ Keep S w0 W') ∨ Jx W') := by
  have HF := Aside0.mk hf
  have HY := Aside0.mk hY
  have hu23 := Try.underlying23
  clear hf hY
  refine callsIn_of_wp Try.func41 rfl trivial ?_ rfl
  simp only [Try.ntmps41, List.size_toArray, List.length_cons, List.length_nil, Nat.reduceAdd, Nat.reduceSub, Array.replicate_succ, Array.replicate_zero, List.push_toArray, List.append_toArray, List.nil_append, List.cons_append]
  gi_wp2
  gi_loopg [] k (fun kq w' => ∃ (s1_0 : Int) (s1_1 : Int) (n : Int), Aside0 (C kq s1_0 s1_1 n) ∧ Aside0 (SL (cells b1 23 [.int .i64 s1_0, .int .i64 s1_1].toArray :: cells b2 23 [.int .i64 s2_0, .int .i64 s2_1].toArray :: LJ s1_0 s1_1 n) w' S) ∧ Aside0 (Keep S w0 w'))
  case atStart => exact ⟨x, y, n, ⟨h0⟩, ⟨hs⟩, ⟨hk⟩⟩
  case round =>
    clear h0 hs hk
    obtain ⟨s1_0, s1_1, n, HC, HS, HK⟩ := hrel
    have hb_ := SL.at_ HS.out
    have hz1_0_0 := ((blk_cell hb_ 0).trans rfl : _ = some (.int .i64 s1_0))
    have hz1_1_0 := ((blk_cell hb_ 1).trans rfl : _ = some (.int .i64 s1_1))
    clear hb_
    have hb_ := SL.at_ (SL.get1 HS.out)
    have hz2_0_0 := ((blk_cell hb_ 0).trans rfl : _ = some (.int .i64 s2_0))
    have hz2_1_0 := ((blk_cell hb_ 1).trans rfl : _ = some (.int .i64 s2_1))
    clear hb_
    by_cases hx : s1_0 = s2_0
    · by_cases hy : s1_1 = s2_1
      · subst hx
        subst hy
        gi_wp2
        go_end0
        exact ⟨⟨_, rfl⟩, .inl ⟨gk, n, HC.out, HS.out, HK.out⟩⟩
      · skip
        have hne : ¬ (s1_0 = s2_0 ∧ s1_1 = s2_1) := by exact fun h => hy h.2
        have hx1 : (s1_0 == s2_0) = true := beq_iff_eq.mpr hx
        have hy1 : (s1_1 == s2_1) = false := beq_eq_false_iff_ne.mpr hy
        clear hx hy
        obtain ⟨t138, ht138, Hc1⟩ : ∃ t, t = cmpI s2_0 s1_0 ∧ Aside0 (cmp_Compare_int.f s2_0 s1_0 = some t) := ⟨_, rfl, ⟨compare_eq _ _⟩⟩
        obtain ⟨t139, ht139, Hc2⟩ : ∃ t, t = cmpI s2_1 s1_1 ∧ Aside0 (cmp_Compare_int.f s2_1 s1_1 = some t) := ⟨_, rfl, ⟨compare_eq _ _⟩⟩
        have HT1 := Aside0.mk ht138
        have HT2 := Aside0.mk ht139
        have HN := Aside0.mk hne
        clear ht138 ht139 hne
        gi_wp2
        refine wpIn_wide.2 ?_
        refine start_ (n := 10) (S := fun w' => w'.cell? ⟨b1, 0, none⟩ = some (.int .i64 s1_0) ∧ w'.cell? ⟨b2, 0, none⟩ = some (.int .i64 s2_0)) (ds := [9]) #[false, false, false, false, false, false, false, false, false, false] (by kernel_rfl) rfl rfl ⟨(((blk_cell (SL.at_ HS.out) 0).trans rfl)), (((blk_cell (SL.at_ (SL.get1 HS.out)) 0).trans rfl))⟩ (fun hHeld => ?_); refine with_tabW grid_way_1.tab1 grid_way_1.bits1 (fun HT_ HW_ => ?_)
        have n1_ := Aside0.mk (Keep.drew HK.out)
        have n2_ := Aside0.mk (SL.drew HS.out)
        clear HK HS
        have HK := n1_
        have HS := n2_
        clear n1_ n2_
        refine pure_ (i := 0) (N := some 7) (v := ?_) (a' := ?_) #[true, false, false, false, false, false, false, false, false, false] rfl rfl (any_of HT_.out (by kernel_rfl)) (fun _ _ _ h => h) (Or.inl ⟨by rfl, ?_⟩) ?_ ?_
        rotate_left
        · intro w'
          go_simp
          with_reducible rfl
        rotate_left
        · simp only [Act.put, List.setIfInBounds_toArray, List.set_cons_zero, List.set_cons_succ, i64_w, i32_w]
          rfl
        refine pure_ (i := 2) (N := some 9) (v := ?_) (a' := ?_) #[true, false, true, false, false, false, false, false, false, false] rfl rfl (any_of HT_.out (by kernel_rfl)) (fun _ _ _ h => h) (Or.inl ⟨by rfl, ?_⟩) ?_ ?_
        rotate_left
        · intro w'
          go_simp
          with_reducible rfl
        rotate_left
        · simp only [Act.put, List.setIfInBounds_toArray, List.set_cons_zero, List.set_cons_succ, i64_w, i32_w]
          rfl
        refine pure_ (i := 4) (N := some 11) (v := ?_) (a' := ?_) #[true, false, true, false, true, false, false, false, false, false] rfl rfl (any_of HT_.out (by kernel_rfl)) (fun _ _ _ h => h) (Or.inl ⟨by rfl, ?_⟩) ?_ ?_
        rotate_left
        · intro w'
          go_simp
          with_reducible rfl
        rotate_left
        · simp only [Act.put, List.setIfInBounds_toArray, List.set_cons_zero, List.set_cons_succ, i64_w, i32_w]
          rfl
        refine take_ (i := 1) (N := some 8) (v := ?_) (a' := ?_) #[true, true, true, false, true, false, false, false, false, false] rfl rfl (take_ofW HT_.out HW_.out (by kernel_rfl)) (fun _ _ _ h => h) (Or.inl ⟨by rfl, ?_⟩) hHeld ?_ ?_
        rotate_left
        · rintro w' ⟨s0, s1⟩
          go_simp
          with_reducible rfl
        rotate_left
        · simp only [Act.put, List.setIfInBounds_toArray, List.set_cons_zero, List.set_cons_succ, i64_w, i32_w]
          rfl
        refine take_ (i := 3) (N := some 10) (v := ?_) (a' := ?_) #[true, true, true, true, true, false, false, false, false, false] rfl rfl (take_ofW HT_.out HW_.out (by kernel_rfl)) (fun _ _ _ h => h) (Or.inl ⟨by rfl, ?_⟩) hHeld ?_ ?_
        rotate_left
        · rintro w' ⟨s0, s1⟩
          go_simp
          with_reducible rfl
        rotate_left
        · simp only [Act.put, List.setIfInBounds_toArray, List.set_cons_zero, List.set_cons_succ, i64_w, i32_w]
          rfl
        refine take_ (i := 5) (N := some 12) (v := ?_) (a' := ?_) #[true, true, true, true, true, true, false, false, false, false] rfl rfl (take_ofW HT_.out HW_.out (by kernel_rfl)) (fun _ _ _ h => h) (Or.inl ⟨by rfl, ?_⟩) hHeld ?_ ?_
        rotate_left
        · rintro w' ⟨s0, s1⟩
          go_simp
          with_reducible rfl
        rotate_left
        · simp only [Act.put, List.setIfInBounds_toArray, List.set_cons_zero, List.set_cons_succ, i64_w, i32_w]
          rfl
        refine one_ (i := 6) (N := some 13) #[true, true, true, true, true, true, true, false, false, false] rfl rfl (one_of HT_.out (by kernel_rfl)) (by decide) (fun K hK => ?_)
        refine goes_ Try.func42 (by kernel_rfl) rfl #[.int .i64 s2_0, .int .i64 s1_0] (by rfl) rfl rfl (by (try simp only [List.map_toArray, List.map_cons, List.map_nil]); first | done | rfl | (simp; done)) ?_
        (with_reducible refine (cmp_Compare_int.calls _ _ _ _  Hc1.out).mono ?_)
        rintro e_ w3 ⟨rfl, hb_⟩
        refine ⟨_, rfl, ?_⟩
        replace hb_ := Drawn0.below hb_
        have n1_ := Aside0.mk (HK.out.trans (Keep.below hb_))
        have n2_ := Aside0.mk (HS.out.below hb_)
        clear HK HS
        have HK := n1_
        have HS := n2_
        clear n1_ n2_
        refine hK.out _ _ ⟨(((blk_cell (SL.at_ HS.out) 0).trans rfl)), (((blk_cell (SL.at_ (SL.get1 HS.out)) 0).trans rfl))⟩ (fun hHeld => ?_)
        clear hK K
        refine norm_ (a' := ?_) ?_ ?_
        rotate_left
        · show Act.put _ (some 13) _ = _
          simp only [Act.put, List.setIfInBounds_toArray, List.set_cons_zero, List.set_cons_succ, i64_w, i32_w]
          rfl
        refine pure_ (i := 7) (N := some 14) (v := ?_) (a' := ?_) #[true, true, true, true, true, true, true, true, false, false] rfl rfl (any_of HT_.out (by kernel_rfl)) (fun _ _ _ h => h) (Or.inl ⟨by rfl, ?_⟩) ?_ ?_
        rotate_left
        · intro w'
          go_simp
          with_reducible rfl
        rotate_left
        · simp only [Act.put, List.setIfInBounds_toArray, List.set_cons_zero, List.set_cons_succ, i64_w, i32_w]
          rfl
        refine pure_ (i := 8) (N := some 15) (v := ?_) (a' := ?_) #[true, true, true, true, true, true, true, true, true, false] rfl rfl (any_of HT_.out (by kernel_rfl)) (fun _ _ _ h => h) (Or.inl ⟨by rfl, ?_⟩) ?_ ?_
        rotate_left
        · intro w'
          go_simp
          with_reducible rfl
        rotate_left
        · simp only [Act.put, List.setIfInBounds_toArray, List.set_cons_zero, List.set_cons_succ, i64_w, i32_w]
          rfl
        refine last_ (i := 9) (N := none) #[true, true, true, true, true, true, true, true, true, true] rfl rfl (one_of HT_.out (by kernel_rfl)) (by decide) (fun K hK => ?_)
        refine st_of (by rfl) ?_
        refine op_store (S := S) 3 (.tmp 15) (.tmp 14) rfl b1 0 (.int .i64 (wrap64 (s1_0 + t138))) [.int .i64 (wrap64 (s1_0 + t138))] rfl rfl rfl (by kernel_rfl) (by simp [Value.oneCell']) HS.out (by simp) ?_
        intro w4 hs_ hk_
        have n1_ := Aside0.mk (HK.out.trans hk_)
        have n2_ := Aside0.mk ((show SL (cells b1 23 [.int .i64 (wrap64 (s1_0 + t138)), .int .i64 s1_1].toArray :: _) _ _ from hs_))
        clear HK HS
        have HK := n1_
        have HS := n2_
        clear n1_ n2_
        refine hK.out _ _ ?_
        clear hK K
        refine done_ (done_of HT_.out (by kernel_rfl)) ?_
        have hb_ := SL.at_ HS.out
        have hz1_0_3 := ((blk_cell hb_ 0).trans rfl : _ = some (.int .i64 (wrap64 (s1_0 + t138))))
        have hz1_1_3 := ((blk_cell hb_ 1).trans rfl : _ = some (.int .i64 s1_1))
        clear hb_
        have hb_ := SL.at_ (SL.get1 HS.out)
        have hz2_0_3 := ((blk_cell hb_ 0).trans rfl : _ = some (.int .i64 s2_0))
        have hz2_1_3 := ((blk_cell hb_ 1).trans rfl : _ = some (.int .i64 s2_1))
        clear hb_
        obtain ⟨z1, hz1⟩ : ∃ z, wrap64 (s1_0 + t138) = z := ⟨_, rfl⟩
        rw [hz1] at HS hz1_0_3
        try rw [hz1]
        have HZ1 := Aside0.mk hz1
        clear hz1
        try go_simp
        gi_wp2
        refine wpIn_wide.2 ?_
        refine start_ (n := 10) (S := fun w' => w'.cell? ⟨b1, 1, none⟩ = some (.int .i64 s1_1) ∧ w'.cell? ⟨b2, 1, none⟩ = some (.int .i64 s2_1)) (ds := [9]) #[false, false, false, false, false, false, false, false, false, false] (by kernel_rfl) rfl rfl ⟨(((blk_cell (SL.at_ HS.out) 1).trans rfl)), (((blk_cell (SL.at_ (SL.get1 HS.out)) 1).trans rfl))⟩ (fun hHeld => ?_); refine with_tabW grid_way_1.tab2 grid_way_1.bits2 (fun HT_ HW_ => ?_)
        have n1_ := Aside0.mk (Keep.drew HK.out)
        have n2_ := Aside0.mk (SL.drew HS.out)
        clear HK HS
        have HK := n1_
        have HS := n2_
        clear n1_ n2_
        refine pure_ (i := 0) (N := some 16) (v := ?_) (a' := ?_) #[true, false, false, false, false, false, false, false, false, false] rfl rfl (any_of HT_.out (by kernel_rfl)) (fun _ _ _ h => h) (Or.inl ⟨by rfl, ?_⟩) ?_ ?_
        rotate_left
        · intro w'
          go_simp
          with_reducible rfl
        rotate_left
        · simp only [Act.put, List.setIfInBounds_toArray, List.set_cons_zero, List.set_cons_succ, i64_w, i32_w]
          rfl
        refine pure_ (i := 2) (N := some 18) (v := ?_) (a' := ?_) #[true, false, true, false, false, false, false, false, false, false] rfl rfl (any_of HT_.out (by kernel_rfl)) (fun _ _ _ h => h) (Or.inl ⟨by rfl, ?_⟩) ?_ ?_
        rotate_left
        · intro w'
          go_simp
          with_reducible rfl
        rotate_left
        · simp only [Act.put, List.setIfInBounds_toArray, List.set_cons_zero, List.set_cons_succ, i64_w, i32_w]
          rfl
        refine pure_ (i := 4) (N := some 20) (v := ?_) (a' := ?_) #[true, false, true, false, true, false, false, false, false, false] rfl rfl (any_of HT_.out (by kernel_rfl)) (fun _ _ _ h => h) (Or.inl ⟨by rfl, ?_⟩) ?_ ?_
        rotate_left
        · intro w'
          go_simp
          with_reducible rfl
        rotate_left
        · simp only [Act.put, List.setIfInBounds_toArray, List.set_cons_zero, List.set_cons_succ, i64_w, i32_w]
          rfl
        refine take_ (i := 1) (N := some 17) (v := ?_) (a' := ?_) #[true, true, true, false, true, false, false, false, false, false] rfl rfl (take_ofW HT_.out HW_.out (by kernel_rfl)) (fun _ _ _ h => h) (Or.inl ⟨by rfl, ?_⟩) hHeld ?_ ?_
        rotate_left
        · rintro w' ⟨s0, s1⟩
          go_simp
          with_reducible rfl
        rotate_left
        · simp only [Act.put, List.setIfInBounds_toArray, List.set_cons_zero, List.set_cons_succ, i64_w, i32_w]
          rfl
        refine take_ (i := 3) (N := some 19) (v := ?_) (a' := ?_) #[true, true, true, true, true, false, false, false, false, false] rfl rfl (take_ofW HT_.out HW_.out (by kernel_rfl)) (fun _ _ _ h => h) (Or.inl ⟨by rfl, ?_⟩) hHeld ?_ ?_
        rotate_left
        · rintro w' ⟨s0, s1⟩
          go_simp
          with_reducible rfl
        rotate_left
        · simp only [Act.put, List.setIfInBounds_toArray, List.set_cons_zero, List.set_cons_succ, i64_w, i32_w]
          rfl
        refine take_ (i := 5) (N := some 21) (v := ?_) (a' := ?_) #[true, true, true, true, true, true, false, false, false, false] rfl rfl (take_ofW HT_.out HW_.out (by kernel_rfl)) (fun _ _ _ h => h) (Or.inl ⟨by rfl, ?_⟩) hHeld ?_ ?_
        rotate_left
        · rintro w' ⟨s0, s1⟩
          go_simp
          with_reducible rfl
        rotate_left
        · simp only [Act.put, List.setIfInBounds_toArray, List.set_cons_zero, List.set_cons_succ, i64_w, i32_w]
          rfl
        refine one_ (i := 6) (N := some 22) #[true, true, true, true, true, true, true, false, false, false] rfl rfl (one_of HT_.out (by kernel_rfl)) (by decide) (fun K hK => ?_)
        refine goes_ Try.func42 (by kernel_rfl) rfl #[.int .i64 s2_1, .int .i64 s1_1] (by rfl) rfl rfl (by (try simp only [List.map_toArray, List.map_cons, List.map_nil]); first | done | rfl | (simp; done)) ?_
        (with_reducible refine (cmp_Compare_int.calls _ _ _ _  Hc2.out).mono ?_)
        rintro e_ w5 ⟨rfl, hb_⟩
        refine ⟨_, rfl, ?_⟩
        replace hb_ := Drawn0.below hb_
        have n1_ := Aside0.mk (HK.out.trans (Keep.below hb_))
        have n2_ := Aside0.mk (HS.out.below hb_)
        clear HK HS
        have HK := n1_
        have HS := n2_
        clear n1_ n2_
        refine hK.out _ _ ⟨(((blk_cell (SL.at_ HS.out) 1).trans rfl)), (((blk_cell (SL.at_ (SL.get1 HS.out)) 1).trans rfl))⟩ (fun hHeld => ?_)
        clear hK K
        refine norm_ (a' := ?_) ?_ ?_
        rotate_left
        · show Act.put _ (some 22) _ = _
          simp only [Act.put, List.setIfInBounds_toArray, List.set_cons_zero, List.set_cons_succ, i64_w, i32_w]
          rfl
        refine pure_ (i := 7) (N := some 23) (v := ?_) (a' := ?_) #[true, true, true, true, true, true, true, true, false, false] rfl rfl (any_of HT_.out (by kernel_rfl)) (fun _ _ _ h => h) (Or.inl ⟨by rfl, ?_⟩) ?_ ?_
        rotate_left
        · intro w'
          go_simp
          with_reducible rfl
        rotate_left
        · simp only [Act.put, List.setIfInBounds_toArray, List.set_cons_zero, List.set_cons_succ, i64_w, i32_w]
          rfl
        refine pure_ (i := 8) (N := some 24) (v := ?_) (a' := ?_) #[true, true, true, true, true, true, true, true, true, false] rfl rfl (any_of HT_.out (by kernel_rfl)) (fun _ _ _ h => h) (Or.inl ⟨by rfl, ?_⟩) ?_ ?_
        rotate_left
        · intro w'
          go_simp
          with_reducible rfl
        rotate_left
        · simp only [Act.put, List.setIfInBounds_toArray, List.set_cons_zero, List.set_cons_succ, i64_w, i32_w]
          rfl
        refine last_ (i := 9) (N := none) #[true, true, true, true, true, true, true, true, true, true] rfl rfl (one_of HT_.out (by kernel_rfl)) (by decide) (fun K hK => ?_)
        refine st_of (by rfl) ?_
        refine op_store (S := S) 3 (.tmp 24) (.tmp 23) rfl b1 1 (.int .i64 (wrap64 (s1_1 + t139))) [.int .i64 (wrap64 (s1_1 + t139))] rfl rfl rfl (by kernel_rfl) (by simp [Value.oneCell']) HS.out (by simp) ?_
        intro w6 hs_ hk_
        have n1_ := Aside0.mk (HK.out.trans hk_)
        have n2_ := Aside0.mk ((show SL (cells b1 23 [.int .i64 z1, .int .i64 (wrap64 (s1_1 + t139))].toArray :: _) _ _ from hs_))
        clear HK HS
        have HK := n1_
        have HS := n2_
        clear n1_ n2_
        refine hK.out _ _ ?_
        clear hK K
        refine done_ (done_of HT_.out (by kernel_rfl)) ?_
        have hb_ := SL.at_ HS.out
        have hz1_0_6 := ((blk_cell hb_ 0).trans rfl : _ = some (.int .i64 z1))
        have hz1_1_6 := ((blk_cell hb_ 1).trans rfl : _ = some (.int .i64 (wrap64 (s1_1 + t139))))
        clear hb_
        have hb_ := SL.at_ (SL.get1 HS.out)
        have hz2_0_6 := ((blk_cell hb_ 0).trans rfl : _ = some (.int .i64 s2_0))
        have hz2_1_6 := ((blk_cell hb_ 1).trans rfl : _ = some (.int .i64 s2_1))
        clear hb_
        have e1 : z1 = step1 s1_0 s2_0 := by rw [← HZ1.out, HT1.out]; rfl
        have e2 : wrap64 (s1_1 + t139) = step1 s1_1 s2_1 := by rw [HT2.out]; rfl
        rw [e1, e2] at HS
        rw [e1] at hz1_0_6
        rw [e2] at hz1_1_6
        clear e1 e2
        have hYY := HY.out gk s1_0 s1_1 n _ HC.out HN.out HS.out HK.out
        obtain ⟨fn, tmps, assign, body, hy, hR⟩ := hYY
        gi_wp2
        refine hR.mono ?_
        rintro e W3 (⟨rfl, k', n', hlt, hC, hS, hK⟩ | ⟨rfl, hJ⟩)
        · have HC3 := Aside0.mk hC
          have HS3 := Aside0.mk hS
          have HK3 := Aside0.mk hK
          clear hC hS hK
          gi_wp2
          gi_roundg k'
          case measure => exact hlt
          case rel => exact ⟨_, _, n', HC3, HS3, HK3⟩
        · have HJ := Aside0.mk hJ
          clear hJ
          gi_wp2
          first | go_end0 | ((try simp only [Exit.inBlock, Exit.then]); refine bodyPost_ret (results_none rfl _ _ _) rfl ?_)
          exact ⟨⟨_, rfl⟩, .inr HJ.out⟩
    · skip
      have hne : ¬ (s1_0 = s2_0 ∧ s1_1 = s2_1) := by exact fun h => hx h.1
      have hx1 : (s1_0 == s2_0) = false := beq_eq_false_iff_ne.mpr hx
      clear hx
      obtain ⟨t138, ht138, Hc1⟩ : ∃ t, t = cmpI s2_0 s1_0 ∧ Aside0 (cmp_Compare_int.f s2_0 s1_0 = some t) := ⟨_, rfl, ⟨compare_eq _ _⟩⟩
      obtain ⟨t139, ht139, Hc2⟩ : ∃ t, t = cmpI s2_1 s1_1 ∧ Aside0 (cmp_Compare_int.f s2_1 s1_1 = some t) := ⟨_, rfl, ⟨compare_eq _ _⟩⟩
      have HT1 := Aside0.mk ht138
      have HT2 := Aside0.mk ht139
      have HN := Aside0.mk hne
      clear ht138 ht139 hne
      gi_wp2
      refine wpIn_wide.2 ?_
      refine start_ (n := 10) (S := fun w' => w'.cell? ⟨b1, 0, none⟩ = some (.int .i64 s1_0) ∧ w'.cell? ⟨b2, 0, none⟩ = some (.int .i64 s2_0)) (ds := [9]) #[false, false, false, false, false, false, false, false, false, false] (by kernel_rfl) rfl rfl ⟨(((blk_cell (SL.at_ HS.out) 0).trans rfl)), (((blk_cell (SL.at_ (SL.get1 HS.out)) 0).trans rfl))⟩ (fun hHeld => ?_); refine with_tabW grid_way_1.tab1 grid_way_1.bits1 (fun HT_ HW_ => ?_)
      have n1_ := Aside0.mk (Keep.drew HK.out)
      have n2_ := Aside0.mk (SL.drew HS.out)
      clear HK HS
      have HK := n1_
      have HS := n2_
      clear n1_ n2_
      refine pure_ (i := 0) (N := some 7) (v := ?_) (a' := ?_) #[true, false, false, false, false, false, false, false, false, false] rfl rfl (any_of HT_.out (by kernel_rfl)) (fun _ _ _ h => h) (Or.inl ⟨by rfl, ?_⟩) ?_ ?_
      rotate_left
      · intro w'
        go_simp
        with_reducible rfl
      rotate_left
      · simp only [Act.put, List.setIfInBounds_toArray, List.set_cons_zero, List.set_cons_succ, i64_w, i32_w]
        rfl
      refine pure_ (i := 2) (N := some 9) (v := ?_) (a' := ?_) #[true, false, true, false, false, false, false, false, false, false] rfl rfl (any_of HT_.out (by kernel_rfl)) (fun _ _ _ h => h) (Or.inl ⟨by rfl, ?_⟩) ?_ ?_
      rotate_left
      · intro w'
        go_simp
        with_reducible rfl
      rotate_left
      · simp only [Act.put, List.setIfInBounds_toArray, List.set_cons_zero, List.set_cons_succ, i64_w, i32_w]
        rfl
      refine pure_ (i := 4) (N := some 11) (v := ?_) (a' := ?_) #[true, false, true, false, true, false, false, false, false, false] rfl rfl (any_of HT_.out (by kernel_rfl)) (fun _ _ _ h => h) (Or.inl ⟨by rfl, ?_⟩) ?_ ?_
      rotate_left
      · intro w'
        go_simp
        with_reducible rfl
      rotate_left
      · simp only [Act.put, List.setIfInBounds_toArray, List.set_cons_zero, List.set_cons_succ, i64_w, i32_w]
        rfl
      refine take_ (i := 1) (N := some 8) (v := ?_) (a' := ?_) #[true, true, true, false, true, false, false, false, false, false] rfl rfl (take_ofW HT_.out HW_.out (by kernel_rfl)) (fun _ _ _ h => h) (Or.inl ⟨by rfl, ?_⟩) hHeld ?_ ?_
      rotate_left
      · rintro w' ⟨s0, s1⟩
        go_simp
        with_reducible rfl
      rotate_left
      · simp only [Act.put, List.setIfInBounds_toArray, List.set_cons_zero, List.set_cons_succ, i64_w, i32_w]
        rfl
      refine take_ (i := 3) (N := some 10) (v := ?_) (a' := ?_) #[true, true, true, true, true, false, false, false, false, false] rfl rfl (take_ofW HT_.out HW_.out (by kernel_rfl)) (fun _ _ _ h => h) (Or.inl ⟨by rfl, ?_⟩) hHeld ?_ ?_
      rotate_left
      · rintro w' ⟨s0, s1⟩
        go_simp
        with_reducible rfl
      rotate_left
      · simp only [Act.put, List.setIfInBounds_toArray, List.set_cons_zero, List.set_cons_succ, i64_w, i32_w]
        rfl
      refine take_ (i := 5) (N := some 12) (v := ?_) (a' := ?_) #[true, true, true, true, true, true, false, false, false, false] rfl rfl (take_ofW HT_.out HW_.out (by kernel_rfl)) (fun _ _ _ h => h) (Or.inl ⟨by rfl, ?_⟩) hHeld ?_ ?_
      rotate_left
      · rintro w' ⟨s0, s1⟩
        go_simp
        with_reducible rfl
      rotate_left
      · simp only [Act.put, List.setIfInBounds_toArray, List.set_cons_zero, List.set_cons_succ, i64_w, i32_w]
        rfl
      refine one_ (i := 6) (N := some 13) #[true, true, true, true, true, true, true, false, false, false] rfl rfl (one_of HT_.out (by kernel_rfl)) (by decide) (fun K hK => ?_)
      refine goes_ Try.func42 (by kernel_rfl) rfl #[.int .i64 s2_0, .int .i64 s1_0] (by rfl) rfl rfl (by (try simp only [List.map_toArray, List.map_cons, List.map_nil]); first | done | rfl | (simp; done)) ?_
      (with_reducible refine (cmp_Compare_int.calls _ _ _ _  Hc1.out).mono ?_)
      rintro e_ w3 ⟨rfl, hb_⟩
      refine ⟨_, rfl, ?_⟩
      replace hb_ := Drawn0.below hb_
      have n1_ := Aside0.mk (HK.out.trans (Keep.below hb_))
      have n2_ := Aside0.mk (HS.out.below hb_)
      clear HK HS
      have HK := n1_
      have HS := n2_
      clear n1_ n2_
      refine hK.out _ _ ⟨(((blk_cell (SL.at_ HS.out) 0).trans rfl)), (((blk_cell (SL.at_ (SL.get1 HS.out)) 0).trans rfl))⟩ (fun hHeld => ?_)
      clear hK K
      refine norm_ (a' := ?_) ?_ ?_
      rotate_left
      · show Act.put _ (some 13) _ = _
        simp only [Act.put, List.setIfInBounds_toArray, List.set_cons_zero, List.set_cons_succ, i64_w, i32_w]
        rfl
      refine pure_ (i := 7) (N := some 14) (v := ?_) (a' := ?_) #[true, true, true, true, true, true, true, true, false, false] rfl rfl (any_of HT_.out (by kernel_rfl)) (fun _ _ _ h => h) (Or.inl ⟨by rfl, ?_⟩) ?_ ?_
      rotate_left
      · intro w'
        go_simp
        with_reducible rfl
      rotate_left
      · simp only [Act.put, List.setIfInBounds_toArray, List.set_cons_zero, List.set_cons_succ, i64_w, i32_w]
        rfl
      refine pure_ (i := 8) (N := some 15) (v := ?_) (a' := ?_) #[true, true, true, true, true, true, true, true, true, false] rfl rfl (any_of HT_.out (by kernel_rfl)) (fun _ _ _ h => h) (Or.inl ⟨by rfl, ?_⟩) ?_ ?_
      rotate_left
      · intro w'
        go_simp
        with_reducible rfl
      rotate_left
      · simp only [Act.put, List.setIfInBounds_toArray, List.set_cons_zero, List.set_cons_succ, i64_w, i32_w]
        rfl
      refine last_ (i := 9) (N := none) #[true, true, true, true, true, true, true, true, true, true] rfl rfl (one_of HT_.out (by kernel_rfl)) (by decide) (fun K hK => ?_)
      refine st_of (by rfl) ?_
      refine op_store (S := S) 3 (.tmp 15) (.tmp 14) rfl b1 0 (.int .i64 (wrap64 (s1_0 + t138))) [.int .i64 (wrap64 (s1_0 + t138))] rfl rfl rfl (by kernel_rfl) (by simp [Value.oneCell']) HS.out (by simp) ?_
      intro w4 hs_ hk_
      have n1_ := Aside0.mk (HK.out.trans hk_)
      have n2_ := Aside0.mk ((show SL (cells b1 23 [.int .i64 (wrap64 (s1_0 + t138)), .int .i64 s1_1].toArray :: _) _ _ from hs_))
      clear HK HS
      have HK := n1_
      have HS := n2_
      clear n1_ n2_
      refine hK.out _ _ ?_
      clear hK K
      refine done_ (done_of HT_.out (by kernel_rfl)) ?_
      have hb_ := SL.at_ HS.out
      have hz1_0_3 := ((blk_cell hb_ 0).trans rfl : _ = some (.int .i64 (wrap64 (s1_0 + t138))))
      have hz1_1_3 := ((blk_cell hb_ 1).trans rfl : _ = some (.int .i64 s1_1))
      clear hb_
      have hb_ := SL.at_ (SL.get1 HS.out)
      have hz2_0_3 := ((blk_cell hb_ 0).trans rfl : _ = some (.int .i64 s2_0))
      have hz2_1_3 := ((blk_cell hb_ 1).trans rfl : _ = some (.int .i64 s2_1))
      clear hb_
      obtain ⟨z1, hz1⟩ : ∃ z, wrap64 (s1_0 + t138) = z := ⟨_, rfl⟩
      rw [hz1] at HS hz1_0_3
      try rw [hz1]
      have HZ1 := Aside0.mk hz1
      clear hz1
      try go_simp
      gi_wp2
      refine wpIn_wide.2 ?_
      refine start_ (n := 10) (S := fun w' => w'.cell? ⟨b1, 1, none⟩ = some (.int .i64 s1_1) ∧ w'.cell? ⟨b2, 1, none⟩ = some (.int .i64 s2_1)) (ds := [9]) #[false, false, false, false, false, false, false, false, false, false] (by kernel_rfl) rfl rfl ⟨(((blk_cell (SL.at_ HS.out) 1).trans rfl)), (((blk_cell (SL.at_ (SL.get1 HS.out)) 1).trans rfl))⟩ (fun hHeld => ?_); refine with_tabW grid_way_1.tab2 grid_way_1.bits2 (fun HT_ HW_ => ?_)
      have n1_ := Aside0.mk (Keep.drew HK.out)
      have n2_ := Aside0.mk (SL.drew HS.out)
      clear HK HS
      have HK := n1_
      have HS := n2_
      clear n1_ n2_
      refine pure_ (i := 0) (N := some 16) (v := ?_) (a' := ?_) #[true, false, false, false, false, false, false, false, false, false] rfl rfl (any_of HT_.out (by kernel_rfl)) (fun _ _ _ h => h) (Or.inl ⟨by rfl, ?_⟩) ?_ ?_
      rotate_left
      · intro w'
        go_simp
        with_reducible rfl
      rotate_left
      · simp only [Act.put, List.setIfInBounds_toArray, List.set_cons_zero, List.set_cons_succ, i64_w, i32_w]
        rfl
      refine pure_ (i := 2) (N := some 18) (v := ?_) (a' := ?_) #[true, false, true, false, false, false, false, false, false, false] rfl rfl (any_of HT_.out (by kernel_rfl)) (fun _ _ _ h => h) (Or.inl ⟨by rfl, ?_⟩) ?_ ?_
      rotate_left
      · intro w'
        go_simp
        with_reducible rfl
      rotate_left
      · simp only [Act.put, List.setIfInBounds_toArray, List.set_cons_zero, List.set_cons_succ, i64_w, i32_w]
        rfl
      refine pure_ (i := 4) (N := some 20) (v := ?_) (a' := ?_) #[true, false, true, false, true, false, false, false, false, false] rfl rfl (any_of HT_.out (by kernel_rfl)) (fun _ _ _ h => h) (Or.inl ⟨by rfl, ?_⟩) ?_ ?_
      rotate_left
      · intro w'
        go_simp
        with_reducible rfl
      rotate_left
      · simp only [Act.put, List.setIfInBounds_toArray, List.set_cons_zero, List.set_cons_succ, i64_w, i32_w]
        rfl
      refine take_ (i := 1) (N := some 17) (v := ?_) (a' := ?_) #[true, true, true, false, true, false, false, false, false, false] rfl rfl (take_ofW HT_.out HW_.out (by kernel_rfl)) (fun _ _ _ h => h) (Or.inl ⟨by rfl, ?_⟩) hHeld ?_ ?_
      rotate_left
      · rintro w' ⟨s0, s1⟩
        go_simp
        with_reducible rfl
      rotate_left
      · simp only [Act.put, List.setIfInBounds_toArray, List.set_cons_zero, List.set_cons_succ, i64_w, i32_w]
        rfl
      refine take_ (i := 3) (N := some 19) (v := ?_) (a' := ?_) #[true, true, true, true, true, false, false, false, false, false] rfl rfl (take_ofW HT_.out HW_.out (by kernel_rfl)) (fun _ _ _ h => h) (Or.inl ⟨by rfl, ?_⟩) hHeld ?_ ?_
      rotate_left
      · rintro w' ⟨s0, s1⟩
        go_simp
        with_reducible rfl
      rotate_left
      · simp only [Act.put, List.setIfInBounds_toArray, List.set_cons_zero, List.set_cons_succ, i64_w, i32_w]
        rfl
      refine take_ (i := 5) (N := some 21) (v := ?_) (a' := ?_) #[true, true, true, true, true, true, false, false, false, false] rfl rfl (take_ofW HT_.out HW_.out (by kernel_rfl)) (fun _ _ _ h => h) (Or.inl ⟨by rfl, ?_⟩) hHeld ?_ ?_
      rotate_left
      · rintro w' ⟨s0, s1⟩
        go_simp
        with_reducible rfl
      rotate_left
      · simp only [Act.put, List.setIfInBounds_toArray, List.set_cons_zero, List.set_cons_succ, i64_w, i32_w]
        rfl
      refine one_ (i := 6) (N := some 22) #[true, true, true, true, true, true, true, false, false, false] rfl rfl (one_of HT_.out (by kernel_rfl)) (by decide) (fun K hK => ?_)
      refine goes_ Try.func42 (by kernel_rfl) rfl #[.int .i64 s2_1, .int .i64 s1_1] (by rfl) rfl rfl (by (try simp only [List.map_toArray, List.map_cons, List.map_nil]); first | done | rfl | (simp; done)) ?_
      (with_reducible refine (cmp_Compare_int.calls _ _ _ _  Hc2.out).mono ?_)
      rintro e_ w5 ⟨rfl, hb_⟩
      refine ⟨_, rfl, ?_⟩
      replace hb_ := Drawn0.below hb_
      have n1_ := Aside0.mk (HK.out.trans (Keep.below hb_))
      have n2_ := Aside0.mk (HS.out.below hb_)
      clear HK HS
      have HK := n1_
      have HS := n2_
      clear n1_ n2_
      refine hK.out _ _ ⟨(((blk_cell (SL.at_ HS.out) 1).trans rfl)), (((blk_cell (SL.at_ (SL.get1 HS.out)) 1).trans rfl))⟩ (fun hHeld => ?_)
      clear hK K
      refine norm_ (a' := ?_) ?_ ?_
      rotate_left
      · show Act.put _ (some 22) _ = _
        simp only [Act.put, List.setIfInBounds_toArray, List.set_cons_zero, List.set_cons_succ, i64_w, i32_w]
        rfl
      refine pure_ (i := 7) (N := some 23) (v := ?_) (a' := ?_) #[true, true, true, true, true, true, true, true, false, false] rfl rfl (any_of HT_.out (by kernel_rfl)) (fun _ _ _ h => h) (Or.inl ⟨by rfl, ?_⟩) ?_ ?_
      rotate_left
      · intro w'
        go_simp
        with_reducible rfl
      rotate_left
      · simp only [Act.put, List.setIfInBounds_toArray, List.set_cons_zero, List.set_cons_succ, i64_w, i32_w]
        rfl
      refine pure_ (i := 8) (N := some 24) (v := ?_) (a' := ?_) #[true, true, true, true, true, true, true, true, true, false] rfl rfl (any_of HT_.out (by kernel_rfl)) (fun _ _ _ h => h) (Or.inl ⟨by rfl, ?_⟩) ?_ ?_
      rotate_left
      · intro w'
        go_simp
        with_reducible rfl
      rotate_left
      · simp only [Act.put, List.setIfInBounds_toArray, List.set_cons_zero, List.set_cons_succ, i64_w, i32_w]
        rfl
      refine last_ (i := 9) (N := none) #[true, true, true, true, true, true, true, true, true, true] rfl rfl (one_of HT_.out (by kernel_rfl)) (by decide) (fun K hK => ?_)
      refine st_of (by rfl) ?_
      refine op_store (S := S) 3 (.tmp 24) (.tmp 23) rfl b1 1 (.int .i64 (wrap64 (s1_1 + t139))) [.int .i64 (wrap64 (s1_1 + t139))] rfl rfl rfl (by kernel_rfl) (by simp [Value.oneCell']) HS.out (by simp) ?_
      intro w6 hs_ hk_
      have n1_ := Aside0.mk (HK.out.trans hk_)
      have n2_ := Aside0.mk ((show SL (cells b1 23 [.int .i64 z1, .int .i64 (wrap64 (s1_1 + t139))].toArray :: _) _ _ from hs_))
      clear HK HS
      have HK := n1_
      have HS := n2_
      clear n1_ n2_
      refine hK.out _ _ ?_
      clear hK K
      refine done_ (done_of HT_.out (by kernel_rfl)) ?_
      have hb_ := SL.at_ HS.out
      have hz1_0_6 := ((blk_cell hb_ 0).trans rfl : _ = some (.int .i64 z1))
      have hz1_1_6 := ((blk_cell hb_ 1).trans rfl : _ = some (.int .i64 (wrap64 (s1_1 + t139))))
      clear hb_
      have hb_ := SL.at_ (SL.get1 HS.out)
      have hz2_0_6 := ((blk_cell hb_ 0).trans rfl : _ = some (.int .i64 s2_0))
      have hz2_1_6 := ((blk_cell hb_ 1).trans rfl : _ = some (.int .i64 s2_1))
      clear hb_
      have e1 : z1 = step1 s1_0 s2_0 := by rw [← HZ1.out, HT1.out]; rfl
      have e2 : wrap64 (s1_1 + t139) = step1 s1_1 s2_1 := by rw [HT2.out]; rfl
      rw [e1, e2] at HS
      rw [e1] at hz1_0_6
      rw [e2] at hz1_1_6
      clear e1 e2
      have hYY := HY.out gk s1_0 s1_1 n _ HC.out HN.out HS.out HK.out
      obtain ⟨fn, tmps, assign, body, hy, hR⟩ := hYY
      gi_wp2
      refine hR.mono ?_
      rintro e W3 (⟨rfl, k', n', hlt, hC, hS, hK⟩ | ⟨rfl, hJ⟩)
      · have HC3 := Aside0.mk hC
        have HS3 := Aside0.mk hS
        have HK3 := Aside0.mk hK
        clear hC hS hK
        gi_wp2
        gi_roundg k'
        case measure => exact hlt
        case rel => exact ⟨_, _, n', HC3, HS3, HK3⟩
      · have HJ := Aside0.mk hJ
        clear hJ
        gi_wp2
        first | go_end0 | ((try simp only [Exit.inBlock, Exit.then]); refine bodyPost_ret (results_none rfl _ _ _) rfl ?_)
        exact ⟨⟨_, rfl⟩, .inr HJ.out⟩
end Go.Proofs.YtoalpmfkaijomaaTo
