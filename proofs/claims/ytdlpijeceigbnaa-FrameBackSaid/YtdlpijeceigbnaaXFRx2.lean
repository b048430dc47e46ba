-- Written by xprint.py (a program of this session) for this claim
import Derived.Test.YtdlpijeceigbnaaXFRx0
import Derived.Test.YtdlpijeceigbnaaXFRx1
namespace Go.Proofs.Ytdlpijeceigbnaa.XFR
open Go.Proofs.YtdlpijeceigbnaaV Go.Proofs.YtdlpijeceigbnaaS
open Go.RowKit Go.Proofs.YtdlpijeceigbnaaW.PrintWords Go.Proofs.YtdlpijeceigbnaaW.PrintLast Go.Proofs.YtdlpijeceigbnaaW.PrintMore
attribute [local go_sem] max2_int min2_int max_two min_two max_three min_three max_four min_four   -- for this text's walks alone
set_option linter.unusedVariables false
set_option linter.unusedSimpArgs false

/-! ### frame_Feed_Push: function 10 -/
def frame_Feed_Push.l0 : Nat → Bool → (List (List Int)) → (List Int) → Option ((List (List Int)) × Int × (List Int) × Bool)
  | 0, _, _, _ => none
  | k + 1, s0_1, x6_0, y100000_0 => (pack_ReadUint.f k y100000_0 0).bind fun bt153 => (if bt153.2.2 = 0 then (if bt153.1 > 4096 then ((frame_Feed_die.f y100000_0 s0_1 3).bind fun bt156 => (some (x6_0, bt156.1, bt156.2.1, bt156.2.2))) else (if bt153.1 > (wrap64 ((y100000_0.length : Int) - bt153.2.1)) then (some (x6_0, 0, y100000_0, s0_1)) else ((some (wrap64 (bt153.2.1 + bt153.1) : Int)).bind fun j161 => (if 0 ≤ bt153.2.1 then (if bt153.2.1 ≤ j161 then (if j161 ≤ (y100000_0.length : Int) then ((some ((y100000_0.drop (bt153.2.1).toNat).take ((j161).toNat - (bt153.2.1).toNat) : List Int)).bind fun y162 => ((slices_Clone_byte_byte.f y162).bind fun t166 => ((some (([t166] : List (List Int)) : List (List Int))).bind fun y167 => (if x6_0.length + y167.length < 5864062014805 then ((some (x6_0 ++ y167 : List (List Int))).bind fun y168 => (if 0 ≤ j161 then ((some (y100000_0.drop (j161).toNat : List Int)).bind fun y171 => (frame_Feed_Push.l0 k s0_1 y168 y171)) else (none))) else (none))))) else (none)) else (none)) else (none))))) else ((frame_open.f k y100000_0).bind fun t175 => (if t175 = true then (some (x6_0, 0, y100000_0, s0_1)) else ((frame_Feed_die.f y100000_0 s0_1 bt153.2.2).bind fun bt176 => (some (x6_0, bt176.1, bt176.2.1, bt176.2.2))))))
def frame_Feed_Push.f (k : Nat) (s0_0 : List Int) (s0_1 : Bool) (l1 : List Int) : Option ((List (List Int)) × Int × (List Int) × Bool) := if s0_1 = true then (some (([] : List (List Int)), 14, s0_0, s0_1)) else ((some (s0_0.take ((s0_0.length : Int)).toNat : List Int)).bind fun y118 => (if y118.length + l1.length < 140737488355328 then ((some (y118 ++ l1 : List Int)).bind fun y122 => (frame_Feed_Push.l0 k s0_1 ([] : List (List Int)) y122)) else (none)))
theorem frame_Feed_Push.mono_l : ∀ k, (∀ y0 y1 y2, LeO (frame_Feed_Push.l0 k y0 y1 y2) (frame_Feed_Push.l0 (k + 1) y0 y1 y2))
  | 0 => fun _ _ _ r h => by simp [frame_Feed_Push.l0] at h
  | k + 1 => by
    have ih0 := frame_Feed_Push.mono_l k
    · intro y0 y1 y2
      unfold frame_Feed_Push.l0
      repeat' first
      | (with_reducible exact ih0 _ _ _)
      | (with_reducible exact frame_open.mono _ _)
      | (with_reducible exact pack_ReadUint.mono _ _ _)
      | (with_reducible exact LeO.refl _)
      | (with_reducible exact LeO.none _)
      | (with_reducible refine LeO.ite ?_ ?_)
      | (with_reducible refine LeO.bind ?_ (fun _ => ?_))
      | exact ih0 _ _ _
      | exact frame_open.mono _ _
      | exact pack_ReadUint.mono _ _ _
      | exact LeO.none _
      | refine LeO.ite ?_ ?_
      | refine LeO.bind ?_ (fun _ => ?_)
theorem frame_Feed_Push.mono : ∀ a0 a1 a2 k, LeO (frame_Feed_Push.f k a0 a1 a2) (frame_Feed_Push.f (k + 1) a0 a1 a2) := by
  intro a0 a1 a2 k
  have ih0 := frame_Feed_Push.mono_l k
  unfold frame_Feed_Push.f
  repeat' first
      | (with_reducible exact ih0 _ _ _)
      | (with_reducible exact frame_open.mono _ _)
      | (with_reducible exact pack_ReadUint.mono _ _ _)
      | (with_reducible exact LeO.refl _)
      | (with_reducible exact LeO.none _)
      | (with_reducible refine LeO.ite ?_ ?_)
      | (with_reducible refine LeO.bind ?_ (fun _ => ?_))
      | exact ih0 _ _ _
      | exact frame_open.mono _ _
      | exact pack_ReadUint.mono _ _ _
      | exact LeO.none _
      | refine LeO.ite ?_ ?_
      | refine LeO.bind ?_ (fun _ => ?_)
def frame_Feed_Push.T3 : Bool × List (List Nat × List Nat) := (true, [([], []), ([], []), ([1], [1]), ([2], [2]), ([3], [3]), ([], []), ([5], [5]), ([6], [6]), ([7], [7]), ([8], [8]), ([], []), ([10], [10]), ([11], [11]), ([12], [12]), ([13], [13]), ([4, 9, 14], [4, 9, 14]), ([], []), ([15, 16], [15, 16]), ([0, 0, 1, 2, 3, 4, 5, 6, 7, 8, 9, 10, 11, 12, 13, 14, 15, 16, 17], [0]), ([18, 0, 1, 2, 3, 4, 5, 6, 7, 8, 9, 10, 11, 12, 13, 14, 15, 16, 17], [18]), ([19, 17, 17, 0, 1, 2, 3, 4, 5, 6, 7, 8, 9, 10, 11, 12, 13, 14, 15, 16, 17], [17, 19])])
def frame_Feed_Push.B3 : List Nat := [0, 0, 2, 6, 14, 0, 32, 96, 224, 480, 0, 1024, 3072, 7168, 15360, 32766, 0, 131070, 262143, 524287, 1048575]
theorem frame_Feed_Push.tab3 : rtab .any (opsOf Try.f10 3) = frame_Feed_Push.T3 := by kernel_rfl
theorem frame_Feed_Push.bits3 : waitsOk frame_Feed_Push.T3.2 frame_Feed_Push.B3 = true := by kernel_rfl
def frame_Feed_Push.Post (b0 : Nat) (r1 : List (List Int)) (r2 : Int) (r3 : List Int) (r4 : Bool) (S : Nat → Prop) (L : List Asr) (w : World) (e : Ending) (w' : World) : Prop := ∃ (Ar0 : Option Addr) (cr0 : Nat) (Ar2 : Option Addr) (cr2 : Nat), e = .returned (.tuple #[.slice Ar0 r1.length cr0, .int .i64 r2]) ∧ SL (cells b0 41 [.slice Ar2 r3.length cr2, .bool r4].toArray :: row (Kd.int .u8) 5 (.slice Ar2 r3.length cr2) r3 :: rows (inn (Kd.int .u8) 5) 1 23 (.slice Ar0 r1.length cr0) r1 :: L) w' S ∧ Keep S w w'
set_option maxHeartbeats 8000000 in
set_option maxRecDepth 100000 in
theorem frame_Feed_Push.slcalls (k : Nat) (b0 : Nat) (As0_0 : Option Addr) (cs0_0 : Nat) (s0_0 : List Int) (s0_1 : Bool) (A1 : Option Addr) (c1 : Nat) (l1 : List Int) (r1 : List (List Int)) (r2 : Int) (r3 : List Int) (r4 : Bool) (S : Nat → Prop) (L : List Asr) (w : World) (hf : Fresh S w) (hs : SL (cells b0 41 [.slice As0_0 s0_0.length cs0_0, .bool s0_1].toArray :: row (Kd.int .u8) 5 (.slice As0_0 s0_0.length cs0_0) s0_0 :: L) w S) (hr1 : RO S w (fun w_ => Kd.C (Kd.int .u8) w_ A1 l1.length l1)) (hc1 : l1.length ≤ c1) (h : frame_Feed_Push.f k s0_0 s0_1 l1 = some (r1, r2, r3, r4)) :
    Calls Try.prog 10 #[.pointer (some ⟨b0, 0, none⟩), .slice A1 l1.length c1] w (frame_Feed_Push.Post b0 r1 r2 r3 r4 S L w) := by
  have HR1 := Aside0.mk hr1
  have HC1 := Aside0.mk hc1
  clear hr1 hc1
  have HF := Aside0.mk hf
  have HS := Aside0.mk hs
  have HK := Aside0.mk (Keep.refl S w)
  clear hf hs
  have H : (if s0_1 = true then (some (([] : List (List Int)), 14, s0_0, s0_1)) else ((some (s0_0.take ((s0_0.length : Int)).toNat : List Int)).bind fun y118 => (if y118.length + l1.length < 140737488355328 then ((some (y118 ++ l1 : List Int)).bind fun y122 => (frame_Feed_Push.l0 k s0_1 ([] : List (List Int)) y122)) else (none)))) = some (r1, r2, r3, r4) := h
  clear h
  by_cases c1 : s0_1 = true
  · subst c1
    rw [if_pos rfl] at H
    simp only [Option.some.injEq, Prod.mk.injEq] at H
    obtain ⟨rfl, rfl, rfl, rfl⟩ := H
    have hb_ := SL.at_ HS.out
    have hz0_0_0 := ((blk_cell hb_ 0).trans rfl : _ = some (.slice As0_0 s0_0.length cs0_0))
    have hz0_1_0 := ((blk_cell hb_ 1).trans rfl : _ = some (.bool true))
    clear hb_
    have n2_ := Aside0.mk (rows_nil (inn (Kd.int .u8) 5) 1 23 HS.out)
    clear HS
    have HS := n2_
    clear n2_
    go_enter Try.func10, Try.ntmps10
    try go_wp2
    go_step3
    try go_wp2
    try simp only [Exit.noGoto_ret, Exit.noGoto_normal, Exit.noGoto_exit]
    go_ret2
    have n2_ := Aside0.mk (SL.get2 (SL.get2 HS.out))
    clear HS
    have HS := n2_
    clear n2_
    unfold frame_Feed_Push.Post
    exact ⟨none, 0, As0_0, cs0_0, by first | rfl | (simp; done) | (simp [*]; done), HS.out, HK.out⟩
  · replace c1 := Bool.eq_false_iff.mpr c1
    subst c1
    rw [if_neg (show ¬ (false = true) by decide)] at H
    replace H := Option.bind_eq_some_iff.1 H
    obtain ⟨y118, hy1180, H⟩ := H
    try dsimp only at H
    have hy118 := Option.some.inj hy1180
    clear hy1180
    have Ny118 := Aside0.mk hy118
    clear hy118
    by_cases c2 : y118.length + l1.length < 140737488355328
    · rw [if_pos c2] at H
      have LMc2 := Aside0.mk c2
      clear c2
      replace H := Option.bind_eq_some_iff.1 H
      obtain ⟨y122, hy1220, H⟩ := H
      try dsimp only at H
      have hy122 := Option.some.inj hy1220
      clear hy1220
      have Ny122 := Aside0.mk hy122
      clear hy122
      have H' := Aside0.mk H
      clear H
      have hb_ := SL.at_ HS.out
      have hz0_0_0 := ((blk_cell hb_ 0).trans rfl : _ = some (.slice As0_0 s0_0.length cs0_0))
      have hz0_1_0 := ((blk_cell hb_ 1).trans rfl : _ = some (.bool false))
      clear hb_
      go_enter Try.func10, Try.ntmps10
      try go_wp2
      go_step3
      try go_wp2
      have hv_ := cut_cap (P := Try.prog) (Kd.int .u8) 23 5 .i64 .i64 Try.underlying23 (by kernel_rfl) rfl As0_0 s0_0.length cs0_0 s0_0 rfl (SL.row_c (SL.get1 HS.out)).2.1 (s0_0.length : Int) (s0_0.length : Int) (by omega) (Int.le_refl _) (Int.le_refl _) y118 Ny118.out
      obtain ⟨hcvq121, hcs_, hcc_, hcl_⟩ := hv_
      have n2_ := Aside0.mk (SL.back1 (hcs_ _ _ _ (SL.get1 HS.out)))
      clear HS hcs_ hcc_ hcl_
      have HS := n2_
      clear n2_
      refine start_ (n := 21) (S := fun w' => w'.cell? ⟨b0, 0, none⟩ = some (.slice As0_0 s0_0.length cs0_0)) (ds := [20]) #[false, false, false, false, false, false, false, false, false, false, false, false, false, false, false, false, false, false, false, false, false] (by kernel_rfl) rfl rfl ((((blk_cell (SL.at_ HS.out) 0).trans rfl))) (fun hHeld => ?_); refine with_tabW frame_Feed_Push.tab3 frame_Feed_Push.bits3 (fun HT_ HW_ => ?_)
      have n1_ := Aside0.mk (Keep.drew HK.out)
      have n2_ := Aside0.mk (SL.drew HS.out)
      clear HK HS
      have HK := n1_
      have HS := n2_
      clear n1_ n2_
      refine pure_ (i := 0) (N := some 14) (v := ?_) (a' := ?_) #[true, false, false, false, false, false, false, false, false, false, false, false, false, false, false, false, false, false, false, false, false] rfl rfl (any_of HT_.out (by kernel_rfl)) (fun _ _ _ h => h) (Or.inl ⟨by rfl, ?_⟩) ?_ ?_
      rotate_left
      · intro w'
        go_simp
        with_reducible rfl
      rotate_left
      · simp only [Act.put, List.setIfInBounds_toArray, List.set_cons_zero, List.set_cons_succ, i64_w, i32_w]
        rfl
      refine pure_ (i := 1) (N := some 15) (v := ?_) (a' := ?_) #[true, true, false, false, false, false, false, false, false, false, false, false, false, false, false, false, false, false, false, false, false] rfl rfl (any_of HT_.out (by kernel_rfl)) (fun _ _ _ h => h) (Or.inl ⟨by rfl, ?_⟩) ?_ ?_
      rotate_left
      · intro w'
        go_simp
        with_reducible rfl
      rotate_left
      · simp only [Act.put, List.setIfInBounds_toArray, List.set_cons_zero, List.set_cons_succ, i64_w, i32_w]
        rfl
      refine pure_ (i := 2) (N := some 16) (v := ?_) (a' := ?_) #[true, true, true, false, false, false, false, false, false, false, false, false, false, false, false, false, false, false, false, false, false] rfl rfl (any_of HT_.out (by kernel_rfl)) (fun _ _ _ h => h) (Or.inl ⟨by rfl, ?_⟩) ?_ ?_
      rotate_left
      · intro w'
        go_simp
        with_reducible rfl
      rotate_left
      · simp only [Act.put, List.setIfInBounds_toArray, List.set_cons_zero, List.set_cons_succ, i64_w, i32_w]
        rfl
      refine pure_ (i := 3) (N := some 17) (v := ?_) (a' := ?_) #[true, true, true, true, false, false, false, false, false, false, false, false, false, false, false, false, false, false, false, false, false] rfl rfl (any_of HT_.out (by kernel_rfl)) (fun _ _ _ h => h) (Or.inl ⟨by rfl, ?_⟩) ?_ ?_
      rotate_left
      · intro w'
        go_simp
        with_reducible rfl
      rotate_left
      · simp only [Act.put, List.setIfInBounds_toArray, List.set_cons_zero, List.set_cons_succ, i64_w, i32_w]
        rfl
      refine pure_ (i := 5) (N := some 19) (v := ?_) (a' := ?_) #[true, true, true, true, false, true, false, false, false, false, false, false, false, false, false, false, false, false, false, false, false] rfl rfl (any_of HT_.out (by kernel_rfl)) (fun _ _ _ h => h) (Or.inl ⟨by rfl, ?_⟩) ?_ ?_
      rotate_left
      · intro w'
        go_simp
        with_reducible rfl
      rotate_left
      · simp only [Act.put, List.setIfInBounds_toArray, List.set_cons_zero, List.set_cons_succ, i64_w, i32_w]
        rfl
      refine pure_ (i := 6) (N := some 20) (v := ?_) (a' := ?_) #[true, true, true, true, false, true, true, false, false, false, false, false, false, false, false, false, false, false, false, false, false] rfl rfl (any_of HT_.out (by kernel_rfl)) (fun _ _ _ h => h) (Or.inl ⟨by rfl, ?_⟩) ?_ ?_
      rotate_left
      · intro w'
        go_simp
        with_reducible rfl
      rotate_left
      · simp only [Act.put, List.setIfInBounds_toArray, List.set_cons_zero, List.set_cons_succ, i64_w, i32_w]
        rfl
      refine pure_ (i := 7) (N := some 21) (v := ?_) (a' := ?_) #[true, true, true, true, false, true, true, true, false, false, false, false, false, false, false, false, false, false, false, false, false] rfl rfl (any_of HT_.out (by kernel_rfl)) (fun _ _ _ h => h) (Or.inl ⟨by rfl, ?_⟩) ?_ ?_
      rotate_left
      · intro w'
        go_simp
        with_reducible rfl
      rotate_left
      · simp only [Act.put, List.setIfInBounds_toArray, List.set_cons_zero, List.set_cons_succ, i64_w, i32_w]
        rfl
      refine pure_ (i := 10) (N := some 24) (v := ?_) (a' := ?_) #[true, true, true, true, false, true, true, true, false, false, true, false, false, false, false, false, false, false, false, false, false] rfl rfl (any_of HT_.out (by kernel_rfl)) (fun _ _ _ h => h) (Or.inl ⟨by rfl, ?_⟩) ?_ ?_
      rotate_left
      · intro w'
        go_simp
        with_reducible rfl
      rotate_left
      · simp only [Act.put, List.setIfInBounds_toArray, List.set_cons_zero, List.set_cons_succ, i64_w, i32_w]
        rfl
      refine pure_ (i := 11) (N := some 25) (v := ?_) (a' := ?_) #[true, true, true, true, false, true, true, true, false, false, true, true, false, false, false, false, false, false, false, false, false] rfl rfl (any_of HT_.out (by kernel_rfl)) (fun _ _ _ h => h) (Or.inl ⟨by rfl, ?_⟩) ?_ ?_
      rotate_left
      · intro w'
        go_simp
        with_reducible rfl
      rotate_left
      · simp only [Act.put, List.setIfInBounds_toArray, List.set_cons_zero, List.set_cons_succ, i64_w, i32_w]
        rfl
      refine pure_ (i := 12) (N := some 26) (v := ?_) (a' := ?_) #[true, true, true, true, false, true, true, true, false, false, true, true, true, false, false, false, false, false, false, false, false] rfl rfl (any_of HT_.out (by kernel_rfl)) (fun _ _ _ h => h) (Or.inl ⟨by rfl, ?_⟩) ?_ ?_
      rotate_left
      · intro w'
        go_simp
        with_reducible rfl
      rotate_left
      · simp only [Act.put, List.setIfInBounds_toArray, List.set_cons_zero, List.set_cons_succ, i64_w, i32_w]
        rfl
      refine pure_ (i := 16) (N := some 30) (v := ?_) (a' := ?_) #[true, true, true, true, false, true, true, true, false, false, true, true, true, false, false, false, true, false, false, false, false] rfl rfl (any_of HT_.out (by kernel_rfl)) (fun _ _ _ h => h) (Or.inl ⟨by rfl, ?_⟩) ?_ ?_
      rotate_left
      · intro w'
        go_simp
        with_reducible rfl
      rotate_left
      · simp only [Act.put, List.setIfInBounds_toArray, List.set_cons_zero, List.set_cons_succ, i64_w, i32_w]
        rfl
      refine take_ (i := 4) (N := some 18) (v := ?_) (a' := ?_) #[true, true, true, true, true, true, true, true, false, false, true, true, true, false, false, false, true, false, false, false, false] rfl rfl (take_ofW HT_.out HW_.out (by kernel_rfl)) (fun _ _ _ h => h) (Or.inl ⟨by rfl, ?_⟩) hHeld ?_ ?_
      rotate_left
      · intro w' s0
        go_simp
        with_reducible rfl
      rotate_left
      · simp only [Act.put, List.setIfInBounds_toArray, List.set_cons_zero, List.set_cons_succ, i64_w, i32_w]
        rfl
      refine take_ (i := 8) (N := some 22) (v := ?_) (a' := ?_) #[true, true, true, true, true, true, true, true, true, false, true, true, true, false, false, false, true, false, false, false, false] rfl rfl (take_ofW HT_.out HW_.out (by kernel_rfl)) (fun _ _ _ h => h) (Or.inl ⟨by rfl, ?_⟩) hHeld ?_ ?_
      rotate_left
      · intro w' s0
        go_simp
        with_reducible rfl
      rotate_left
      · simp only [Act.put, List.setIfInBounds_toArray, List.set_cons_zero, List.set_cons_succ, i64_w, i32_w]
        rfl
      refine pure_ (i := 9) (N := some 23) (v := ?_) (a' := ?_) #[true, true, true, true, true, true, true, true, true, true, true, true, true, false, false, false, true, false, false, false, false] rfl rfl (any_of HT_.out (by kernel_rfl)) (fun _ _ _ h => h) (Or.inl ⟨by rfl, ?_⟩) ?_ ?_
      rotate_left
      · intro w'
        go_simp
        with_reducible rfl
      rotate_left
      · simp only [Act.put, List.setIfInBounds_toArray, List.set_cons_zero, List.set_cons_succ, i64_w, i32_w]
        rfl
      refine take_ (i := 13) (N := some 27) (v := ?_) (a' := ?_) #[true, true, true, true, true, true, true, true, true, true, true, true, true, true, false, false, true, false, false, false, false] rfl rfl (take_ofW HT_.out HW_.out (by kernel_rfl)) (fun _ _ _ h => h) (Or.inl ⟨by rfl, ?_⟩) hHeld ?_ ?_
      rotate_left
      · intro w' s0
        go_simp
        with_reducible rfl
      rotate_left
      · simp only [Act.put, List.setIfInBounds_toArray, List.set_cons_zero, List.set_cons_succ, i64_w, i32_w]
        rfl
      refine pure_ (i := 14) (N := some 28) (v := ?_) (a' := ?_) #[true, true, true, true, true, true, true, true, true, true, true, true, true, true, true, false, true, false, false, false, false] rfl rfl (any_of HT_.out (by kernel_rfl)) (fun _ _ _ h => h) (Or.inl ⟨by rfl, ?_⟩) ?_ ?_
      rotate_left
      · intro w'
        go_simp
        with_reducible rfl
      rotate_left
      · simp only [Act.put, List.setIfInBounds_toArray, List.set_cons_zero, List.set_cons_succ, i64_w, i32_w]
        rfl
      refine pure_ (i := 15) (N := some 29) (v := ?_) (a' := ?_) #[true, true, true, true, true, true, true, true, true, true, true, true, true, true, true, true, true, false, false, false, false] rfl rfl (any_of HT_.out (by kernel_rfl)) (fun _ _ _ h => h) (Or.inl ⟨by rfl, ?_⟩) ?_ ?_
      rotate_left
      · intro w'
        go_simp
        with_reducible rfl
      rotate_left
      · simp only [Act.put, List.setIfInBounds_toArray, List.set_cons_zero, List.set_cons_succ, i64_w, i32_w]
        rfl
      refine one_ (i := 17) (N := some 31) #[true, true, true, true, true, true, true, true, true, true, true, true, true, true, true, true, true, true, false, false, false] rfl rfl (one_of HT_.out (by kernel_rfl)) (by decide) (fun K hK => ?_)
      refine st_of (by rfl) ?_
      refine op_append (S := S) (enc := Value.int .u8) (h1 := fun _ => rfl) 0 (.tmp 29) (.tmp 30) 23 5 (.int .u8 0) 1 rfl Try.underlying23 info5 rfl (by decide) (.slice As0_0 y118.length ((s0_0.length : Int)).toNat) rfl rfl (HF.out.keep HK.out) (SL.get1 HS.out) (RO.at_ HR1.out HK.out) (by have := LMc2.out; omega) y122 Ny122.out ?_
      intro A123 c124 w3 hs_ hk_
      have n1_ := Aside0.mk (HK.out.trans hk_)
      have n2_ := Aside0.mk ((SL.back1 (show SL (row (Kd.int .u8) 5 (.slice A123 y122.length c124) y122 :: _) _ _ from hs_)))
      clear HK HS
      have HK := n1_
      have HS := n2_
      clear n1_ n2_
      refine hK.out _ _ ((((blk_cell (SL.at_ HS.out) 0).trans rfl))) (fun hHeld => ?_)
      clear hK K
      refine norm_ (a' := ?_) ?_ ?_
      rotate_left
      · show Act.put _ (some 31) _ = _
        simp only [Act.put, List.setIfInBounds_toArray, List.set_cons_zero, List.set_cons_succ, i64_w, i32_w]
        rfl
      refine pure_ (i := 18) (N := some 32) (v := ?_) (a' := ?_) #[true, true, true, true, true, true, true, true, true, true, true, true, true, true, true, true, true, true, true, false, false] rfl rfl (any_of HT_.out (by kernel_rfl)) (fun _ _ _ h => h) (Or.inl ⟨by rfl, ?_⟩) ?_ ?_
      rotate_left
      · intro w'
        go_simp
        with_reducible rfl
      rotate_left
      · simp only [Act.put, List.setIfInBounds_toArray, List.set_cons_zero, List.set_cons_succ, i64_w, i32_w]
        rfl
      refine pure_ (i := 19) (N := some 33) (v := ?_) (a' := ?_) #[true, true, true, true, true, true, true, true, true, true, true, true, true, true, true, true, true, true, true, true, false] rfl rfl (any_of HT_.out (by kernel_rfl)) (fun _ _ _ h => h) (Or.inl ⟨by rfl, ?_⟩) ?_ ?_
      rotate_left
      · intro w'
        go_simp
        with_reducible rfl
      rotate_left
      · simp only [Act.put, List.setIfInBounds_toArray, List.set_cons_zero, List.set_cons_succ, i64_w, i32_w]
        rfl
      refine last_ (i := 20) (N := none) #[true, true, true, true, true, true, true, true, true, true, true, true, true, true, true, true, true, true, true, true, true] rfl rfl (one_of HT_.out (by kernel_rfl)) (by decide) (fun K hK => ?_)
      refine st_of (by rfl) ?_
      refine op_store (S := S) 23 (.tmp 33) (.tmp 31) rfl b0 0 (.slice A123 y122.length c124) [.slice A123 y122.length c124] rfl rfl rfl (by kernel_rfl) (by simp [Value.oneCell']) HS.out (by simp) ?_
      intro w4 hs_ hk_
      have n1_ := Aside0.mk (HK.out.trans hk_)
      have n2_ := Aside0.mk ((show SL (cells b0 41 [.slice A123 y122.length c124, .bool false].toArray :: _) _ _ from hs_))
      clear HK HS
      have HK := n1_
      have HS := n2_
      clear n1_ n2_
      refine hK.out _ _ ?_
      clear hK K
      refine done_ (done_of HT_.out (by kernel_rfl)) ?_
      have hb_ := SL.at_ HS.out
      have hz0_0_3 := ((blk_cell hb_ 0).trans rfl : _ = some (.slice A123 y122.length c124))
      have hz0_1_3 := ((blk_cell hb_ 1).trans rfl : _ = some (.bool false))
      clear hb_
      have n2_ := Aside0.mk (rows_nil (inn (Kd.int .u8) 5) 1 23 HS.out)
      clear HS
      have HS := n2_
      clear n2_
      have n2_ := Aside0.mk (rows_nil (inn (Kd.int .u8) 5) 1 23 HS.out)
      clear HS
      have HS := n2_
      clear n2_
      try go_wp2
      go_step3
      try go_wp2
      try simp only [Exit.noGoto_ret, Exit.noGoto_normal, Exit.noGoto_exit]
      have n2_ := Aside0.mk (SL.get3 (SL.get3 (SL.get3 (SL.get3 HS.out))))
      clear HS
      have HS := n2_
      clear n2_
      go_loopg [4, 6] k (fun kq v4 v6 w' => ∃ (x6_0 : List (List Int)) (Ax6_0 : Option Addr) (cx6_0 : Nat) (x4_0 : List (List Int)) (Ax4_0 : Option Addr) (cx4_0 : Nat) (y100000_0 : List Int) (A100000_0 : Option Addr) (c100000_0 : Nat), v4 = .slice Ax4_0 x4_0.length cx4_0 ∧ v6 = .slice Ax6_0 x6_0.length cx6_0 ∧ Aside0 (frame_Feed_Push.l0 kq false x6_0 y100000_0 = some (r1, r2, r3, r4)) ∧ Aside0 (kq ≤ k) ∧ Aside0 (SL (rows (inn (Kd.int .u8) 5) 1 23 (.slice Ax6_0 x6_0.length cx6_0) x6_0 :: rows (inn (Kd.int .u8) 5) 1 23 (.slice Ax4_0 x4_0.length cx4_0) x4_0 :: cells b0 41 [.slice A100000_0 y100000_0.length c100000_0, .bool false].toArray :: row (Kd.int .u8) 5 (.slice A100000_0 y100000_0.length c100000_0) y100000_0 :: L) w' S) ∧ Aside0 (Keep S w w'))
      case atStart => exact ⟨(([] : List (List Int))), (none), (0), (([] : List (List Int))), (none), (0), (y122), (A123), (c124), (by first | rfl | (simp; done) | (simp [*]; done)), (by first | rfl | (simp; done) | (simp [*]; done)), H', ⟨Nat.le_refl _⟩, HS, HK⟩
      case round =>
        clear H' HS HK
        try clear hz0_0_0 hz0_1_0
        try clear hz0_0_0 hz0_1_0
        try clear hz0_0_0 hz0_1_0
        try clear hz0_0_0 hz0_1_0
        obtain ⟨x6_0, Ax6_0, cx6_0, x4_0, Ax4_0, cx4_0, y100000_0, A100000_0, c100000_0, rfl, rfl, HA, HQ1, HS, HK⟩ := hrel
        cases gk with
        | zero => exact absurd HA.out (by simp [frame_Feed_Push.l0])
        | succ k1 =>
          have H := HA.out
          clear HA
          simp only [frame_Feed_Push.l0] at H
          replace H := Option.bind_eq_some_iff.1 H
          obtain ⟨⟨t153, t154, t155⟩, Hc50, H⟩ := H
          try dsimp only at H
          have Hc5 := Aside0.mk Hc50
          clear Hc50
          by_cases c6 : t155 = 0
          · rw [if_pos c6] at H
            have c6b0 : (t155 == 0) = true := beq_iff_eq.mpr c6
            have c6b1 : (t155 != 0) = false := bne_eq_false_iff_eq.mpr c6
            clear c6
            by_cases c7 : t153 > 4096
            · rw [if_pos c7] at H
              have c7b0 : decide (4096 < t153) = true := decide_eq_true c7
              clear c7
              replace H := Option.bind_eq_some_iff.1 H
              obtain ⟨⟨t156, t157, t160⟩, Hc80, H⟩ := H
              try dsimp only at H
              have Hc8 := Aside0.mk Hc80
              clear Hc80
              simp only [Option.some.injEq, Prod.mk.injEq] at H
              obtain ⟨rfl, rfl, rfl, rfl⟩ := H
              have hb_ := SL.at_ (SL.get2 HS.out)
              have hz0_0_0 := ((blk_cell hb_ 0).trans rfl : _ = some (.slice A100000_0 y100000_0.length c100000_0))
              have hz0_1_0 := ((blk_cell hb_ 1).trans rfl : _ = some (.bool false))
              clear hb_
              go_wp2_with (first | ((with_reducible refine gate_dst (N := 39) rfl ?_); refine goesL_ (some 39) rfl rfl Try.func17 (by kernel_rfl) rfl #[.slice A100000_0 y100000_0.length c100000_0, .int .i64 0] rfl (by (try simp only [List.map_toArray, List.map_cons, List.map_nil]); first | done | rfl | (simp; done)) ?_; (with_reducible refine (pack_ReadUint.calls k1 _ _ _ _ _ _ _ _ (SL.row_c (SL.get3 HS.out)).2.2 (SL.row_c (SL.get3 HS.out)).2.1 Hc5.out).mono ?_); rintro e_ w9 ⟨rfl, hb_⟩; refine ⟨_, rfl, ?_⟩; have n1_ := Aside0.mk (HK.out.trans (Keep.below hb_)); have n2_ := Aside0.mk (HS.out.below hb_); clear HK HS; have HK := n1_; have HS := n2_; clear n1_ n2_; try clear hz0_0_0 hz0_1_0; have hb_ := SL.at_ (SL.get2 HS.out); have hz0_0_1 := ((blk_cell hb_ 0).trans rfl : _ = some (.slice A100000_0 y100000_0.length c100000_0)); have hz0_1_1 := ((blk_cell hb_ 1).trans rfl : _ = some (.bool false)); clear hb_) | ((with_reducible refine gate_dst (N := 65) rfl ?_); refine goesL_ (some 65) rfl rfl Try.func19 (by kernel_rfl) rfl #[.pointer (some ⟨b0, 0, none⟩), .int .i64 3] rfl (by (try simp only [List.map_toArray, List.map_cons, List.map_nil]); first | done | rfl | (simp; done)) ?_; have hs0_ := (SL.get3 (SL.get3 HS.out)); (with_reducible refine (frame_Feed_die.slcalls _ _ _ _ _ _ _ _ _ _ _ _ (HF.out.keep HK.out) hs0_  Hc8.out).mono ?_); rintro e_ w10 ⟨A158, c159, rfl, hsr_, hkr_⟩; refine ⟨_, rfl, ?_⟩; have n1_ := Aside0.mk (HK.out.trans hkr_); have n2_ := Aside0.mk (hsr_); clear HK HS; have HK := n1_; have HS := n2_; clear n1_ n2_; try clear hz0_0_1 hz0_1_1; have hb_ := SL.at_ HS.out; have hz0_0_2 := ((blk_cell hb_ 0).trans rfl : _ = some (.slice A158 t157.length c159)); have hz0_1_2 := ((blk_cell hb_ 1).trans rfl : _ = some (.bool t160)); clear hb_))
              try simp only [Exit.noGoto_ret, Exit.noGoto_normal, Exit.noGoto_exit]
              go_ret2
              have n2_ := Aside0.mk (SL.get2 (SL.get2 (SL.get2 (SL.tail (SL.get3 HS.out)))))
              clear HS
              have HS := n2_
              clear n2_
              unfold frame_Feed_Push.Post
              exact ⟨Ax6_0, cx6_0, A158, c159, by first | rfl | (simp; done) | (simp [*]; done), HS.out, HK.out⟩
            · rw [if_neg c7] at H
              have c7b0 : decide (4096 < t153) = false := decide_eq_false c7
              clear c7
              by_cases c11 : t153 > (wrap64 ((y100000_0.length : Int) - t154))
              · rw [if_pos c11] at H
                have c11b0 : decide ((wrap64 ((y100000_0.length : Int) - t154)) < t153) = true := decide_eq_true c11
                clear c11
                simp only [Option.some.injEq, Prod.mk.injEq] at H
                obtain ⟨rfl, rfl, rfl, rfl⟩ := H
                have hb_ := SL.at_ (SL.get2 HS.out)
                have hz0_0_0 := ((blk_cell hb_ 0).trans rfl : _ = some (.slice A100000_0 y100000_0.length c100000_0))
                have hz0_1_0 := ((blk_cell hb_ 1).trans rfl : _ = some (.bool false))
                clear hb_
                go_wp2_with (first | ((with_reducible refine gate_dst (N := 39) rfl ?_); refine goesL_ (some 39) rfl rfl Try.func17 (by kernel_rfl) rfl #[.slice A100000_0 y100000_0.length c100000_0, .int .i64 0] rfl (by (try simp only [List.map_toArray, List.map_cons, List.map_nil]); first | done | rfl | (simp; done)) ?_; (with_reducible refine (pack_ReadUint.calls k1 _ _ _ _ _ _ _ _ (SL.row_c (SL.get3 HS.out)).2.2 (SL.row_c (SL.get3 HS.out)).2.1 Hc5.out).mono ?_); rintro e_ w12 ⟨rfl, hb_⟩; refine ⟨_, rfl, ?_⟩; have n1_ := Aside0.mk (HK.out.trans (Keep.below hb_)); have n2_ := Aside0.mk (HS.out.below hb_); clear HK HS; have HK := n1_; have HS := n2_; clear n1_ n2_; try clear hz0_0_0 hz0_1_0; have hb_ := SL.at_ (SL.get2 HS.out); have hz0_0_1 := ((blk_cell hb_ 0).trans rfl : _ = some (.slice A100000_0 y100000_0.length c100000_0)); have hz0_1_1 := ((blk_cell hb_ 1).trans rfl : _ = some (.bool false)); clear hb_))
                try simp only [Exit.noGoto_ret, Exit.noGoto_normal, Exit.noGoto_exit]
                go_ret2
                have n2_ := Aside0.mk (SL.get2 (SL.get2 (SL.tail (SL.get1 HS.out))))
                clear HS
                have HS := n2_
                clear n2_
                unfold frame_Feed_Push.Post
                exact ⟨Ax6_0, cx6_0, A100000_0, c100000_0, by first | rfl | (simp; done) | (simp [*]; done), HS.out, HK.out⟩
              · rw [if_neg c11] at H
                have c11b0 : decide ((wrap64 ((y100000_0.length : Int) - t154)) < t153) = false := decide_eq_false c11
                clear c11
                replace H := Option.bind_eq_some_iff.1 H
                obtain ⟨j161, hj1610, H⟩ := H
                try dsimp only at H
                have hj161 := Option.some.inj hj1610
                clear hj1610
                have hj161w : (IntKind.i64.wrap (t154 + t153)) = j161 := (i64_w _).trans hj161
                by_cases c13 : 0 ≤ t154
                · rw [if_pos c13] at H
                  have c13b0 := eq_true c13
                  have c13b1 : decide (0 ≤ t154) = true := decide_eq_true c13
                  clear c13
                  by_cases c14 : t154 ≤ j161
                  · rw [if_pos c14] at H
                    have c14b0 := eq_true c14
                    have c14b1 : decide (t154 ≤ j161) = true := decide_eq_true c14
                    clear c14
                    by_cases c15 : j161 ≤ (y100000_0.length : Int)
                    · rw [if_pos c15] at H
                      have c15b0 := eq_true c15
                      have c15b1 : decide (j161 ≤ (y100000_0.length : Int)) = true := decide_eq_true c15
                      clear c15
                      replace H := Option.bind_eq_some_iff.1 H
                      obtain ⟨y162, hy1620, H⟩ := H
                      try dsimp only at H
                      have hy162 := Option.some.inj hy1620
                      clear hy1620
                      have Ny162 := Aside0.mk hy162
                      clear hy162
                      replace H := Option.bind_eq_some_iff.1 H
                      obtain ⟨t166, Hc160, H⟩ := H
                      try dsimp only at H
                      have Hc16 := Aside0.mk Hc160
                      clear Hc160
                      replace H := Option.bind_eq_some_iff.1 H
                      obtain ⟨y167, hy1670, H⟩ := H
                      try dsimp only at H
                      have hy167 := Option.some.inj hy1670
                      clear hy1670
                      have Ny167 := Aside0.mk hy167
                      clear hy167
                      by_cases c17 : x6_0.length + y167.length < 5864062014805
                      · rw [if_pos c17] at H
                        have LMc17 := Aside0.mk c17
                        clear c17
                        replace H := Option.bind_eq_some_iff.1 H
                        obtain ⟨y168, hy1680, H⟩ := H
                        try dsimp only at H
                        have hy168 := Option.some.inj hy1680
                        clear hy1680
                        have Ny168 := Aside0.mk hy168
                        clear hy168
                        by_cases c18 : 0 ≤ j161
                        · rw [if_pos c18] at H
                          have c18b0 := eq_true c18
                          have c18b1 : decide (0 ≤ j161) = true := decide_eq_true c18
                          clear c18
                          replace H := Option.bind_eq_some_iff.1 H
                          obtain ⟨y171, hy1710, H⟩ := H
                          try dsimp only at H
                          have hy171 := Option.some.inj hy1710
                          clear hy1710
                          have Ny171 := Aside0.mk hy171
                          clear hy171
                          have H' := Aside0.mk H
                          clear H
                          have hb_ := SL.at_ (SL.get2 HS.out)
                          have hz0_0_0 := ((blk_cell hb_ 0).trans rfl : _ = some (.slice A100000_0 y100000_0.length c100000_0))
                          have hz0_1_0 := ((blk_cell hb_ 1).trans rfl : _ = some (.bool false))
                          clear hb_
                          go_wp2_with (first | ((with_reducible refine gate_dst (N := 39) rfl ?_); refine goesL_ (some 39) rfl rfl Try.func17 (by kernel_rfl) rfl #[.slice A100000_0 y100000_0.length c100000_0, .int .i64 0] rfl (by (try simp only [List.map_toArray, List.map_cons, List.map_nil]); first | done | rfl | (simp; done)) ?_; (with_reducible refine (pack_ReadUint.calls k1 _ _ _ _ _ _ _ _ (SL.row_c (SL.get3 HS.out)).2.2 (SL.row_c (SL.get3 HS.out)).2.1 Hc5.out).mono ?_); rintro e_ w19 ⟨rfl, hb_⟩; refine ⟨_, rfl, ?_⟩; have n1_ := Aside0.mk (HK.out.trans (Keep.below hb_)); have n2_ := Aside0.mk (HS.out.below hb_); clear HK HS; have HK := n1_; have HS := n2_; clear n1_ n2_; try clear hz0_0_0 hz0_1_0; have hb_ := SL.at_ (SL.get2 HS.out); have hz0_0_1 := ((blk_cell hb_ 0).trans rfl : _ = some (.slice A100000_0 y100000_0.length c100000_0)); have hz0_1_1 := ((blk_cell hb_ 1).trans rfl : _ = some (.bool false)); clear hb_; obtain ⟨A163, c164, hcvq165, hcs_, hcc_, hcl_⟩ := cut_mid (P := Try.prog) (Kd.int .u8) 23 5 .i64 .i64 Try.underlying23 (by kernel_rfl) rfl A100000_0 y100000_0.length c100000_0 y100000_0 rfl (SL.row_c (SL.get3 HS.out)).2.1 t154 j161 (of_decide_eq_true (by first | (with_reducible assumption) | assumption) : (0 : Int) ≤ (t154 : Int)) (of_decide_eq_true (by first | (with_reducible assumption) | assumption) : (t154 : Int) ≤ (j161 : Int)) (of_decide_eq_true (by first | (with_reducible assumption) | assumption) : (j161 : Int) ≤ ((y100000_0.length : Int) : Int)) y162 Ny162.out; have HVq165 := Aside0.mk (And.intro True.intro hcc_); have HCq165 := Aside0.mk hcl_; clear hcs_ hcc_ hcl_) | ((with_reducible refine gate_dst (N := 86) rfl ?_); refine goesL_ (some 86) rfl rfl Try.func20 (by kernel_rfl) rfl #[.slice A163 y162.length c164] rfl (by (try simp only [List.map_toArray, List.map_cons, List.map_nil]); first | done | rfl | (simp; done)) ?_; (with_reducible refine (slices_Clone_byte_byte.calls _ _ _ _ _ (And.right HVq165.out _ (SL.row_c (SL.get3 HS.out)).2.2) HCq165.out Hc16.out).mono ?_); rintro e_ w20 ⟨v3000003_, rfl, ho3000003_, hb_⟩; refine ⟨_, rfl, ?_⟩; have hs_ := (SL.new (HF.out.keep HK.out) HS.out hb_ (row_of_R ho3000003_)).1; obtain ⟨Az3000003, cz3000003, e2_, _, _⟩ := SL.row_reads hs_; subst e2_; have n1_ := Aside0.mk (HK.out.trans (Keep.below hb_)); have n2_ := Aside0.mk (hs_); clear HK HS; have HK := n1_; have HS := n2_; clear n1_ n2_; try clear hz0_0_1 hz0_1_1; have hb_ := SL.at_ (SL.get3 HS.out); have hz0_0_2 := ((blk_cell hb_ 0).trans rfl : _ = some (.slice A100000_0 y100000_0.length c100000_0)); have hz0_1_2 := ((blk_cell hb_ 1).trans rfl : _ = some (.bool false)); clear hb_) | ((with_reducible refine gate_dst (N := 87) rfl ?_); refine wpList_plain rfl (fun K_ hK_ => ?_); refine op_rowR (K := (inn (Kd.int .u8) 5)) (n := 1) (S := S) 23 t166 [.slice Az3000003 t166.length cz3000003] (HF.out.keep HK.out) HS.out (fun _ _ h_ => ⟨_, rfl, h_⟩) (fun _ h_ => inn_len _ h_) y167 Ny167.out (by first | (go_simp; done) | (go_simp; rfl)) ?_; intro Az3000004 cz3000004 w21 hs_ hk_; refine hK_ _ _ ?_; clear hK_ K_; have n1_ := Aside0.mk (HK.out.trans hk_); have n2_ := Aside0.mk ((show SL (rows (inn (Kd.int .u8) 5) 1 23 (.slice Az3000004 1 cz3000004) y167 :: _) _ _ from hs_)); clear HK HS; have HK := n1_; have HS := n2_; clear n1_ n2_; try clear hz0_0_2 hz0_1_2; have hb_ := SL.at_ (SL.get3 HS.out); have hz0_0_3 := ((blk_cell hb_ 0).trans rfl : _ = some (.slice A100000_0 y100000_0.length c100000_0)); have hz0_1_3 := ((blk_cell hb_ 1).trans rfl : _ = some (.bool false)); clear hb_) | ((with_reducible refine gate_dst (N := 88) rfl ?_); have hs2_ := (SL.get1 HS.out); have e2_ := (rows_c (d := (Kd.slice 5 (Kd.int .u8))) reads_inn rfl (SL.tail hs2_)).1; refine wpList_plain rfl (fun K_ hK_ => ?_); refine op_appendR (S := S) (.tmp 76) (.tmp 87) 22 23 (.slice none 0 0) 24 rfl Try.underlying22 info23 rfl (by decide) (by decide) (.slice Ax6_0 x6_0.length cx6_0) rfl rfl (HF.out.keep HK.out) hs2_ (by have := LMc17.out; omega) y168 Ny168.out ?_; intro A169 c170 w22 hs_ hk_; refine hK_ _ _ ?_; clear hK_ K_; clear hs2_ e2_; have n1_ := Aside0.mk (HK.out.trans hk_); have n2_ := Aside0.mk ((show SL (rows (inn (Kd.int .u8) 5) 1 23 (.slice A169 y168.length c170) y168 :: _) _ _ from hs_)); clear HK HS; have HK := n1_; have HS := n2_; clear n1_ n2_; try clear hz0_0_3 hz0_1_3; have hb_ := SL.at_ (SL.get2 HS.out); have hz0_0_4 := ((blk_cell hb_ 0).trans rfl : _ = some (.slice A100000_0 y100000_0.length c100000_0)); have hz0_1_4 := ((blk_cell hb_ 1).trans rfl : _ = some (.bool false)); clear hb_; obtain ⟨A172, c173, hcvq174, hcs_, hcc_, hcl_⟩ := cut_of (P := Try.prog) (Kd.int .u8) 23 5 .i64 .i64 Try.underlying23 (by kernel_rfl) rfl A100000_0 y100000_0.length c100000_0 y100000_0 rfl (SL.row_c (SL.get3 HS.out)).2.1 j161 (of_decide_eq_true (by first | (with_reducible assumption) | assumption) : (0 : Int) ≤ (j161 : Int)) (of_decide_eq_true (by first | (with_reducible assumption) | assumption) : (j161 : Int) ≤ ((y100000_0.length : Int) : Int)) y171 Ny171.out; have n2_ := Aside0.mk (SL.back3 (hcs_ _ _ _ (SL.get3 HS.out))); clear HS hcs_ hcc_ hcl_; have HS := n2_; clear n2_) | ((with_reducible refine gate_store (t := 23) (p := 99) (v := (.tmp 97)) rfl ?_); refine wpList_plain rfl (fun K_ hK_ => ?_); refine op_store (S := S) 23 (.tmp 99) (.tmp 97) rfl b0 0 (.slice A172 y171.length c173) [.slice A172 y171.length c173] rfl rfl rfl (by kernel_rfl) (by simp [Value.oneCell']) (SL.get2 HS.out) (by simp) ?_; intro w23 hs_ hk_; refine hK_ _ _ ?_; clear hK_ K_; have n1_ := Aside0.mk (HK.out.trans hk_); have n2_ := Aside0.mk ((SL.back2 (show SL (cells b0 41 [.slice A172 y171.length c173, .bool false].toArray :: _) _ _ from hs_))); clear HK HS; have HK := n1_; have HS := n2_; clear n1_ n2_; try clear hz0_0_4 hz0_1_4; have hb_ := SL.at_ (SL.get2 HS.out); have hz0_0_5 := ((blk_cell hb_ 0).trans rfl : _ = some (.slice A172 y171.length c173)); have hz0_1_5 := ((blk_cell hb_ 1).trans rfl : _ = some (.bool false)); clear hb_))
                          try simp only [Exit.noGoto_ret, Exit.noGoto_normal, Exit.noGoto_exit]
                          have n2_ := Aside0.mk (SL.get3 (SL.get3 (SL.get3 (SL.get3 HS.out))))
                          clear HS
                          have HS := n2_
                          clear n2_
                          go_roundg k1
                          case measure => have := HQ1.out; omega
                          case rel => exact ⟨(y168), (A169), (c170), (x4_0), (Ax4_0), (cx4_0), (y171), (A172), (c173), (by first | rfl | (simp; done) | (simp [*]; done)), (by first | rfl | (simp; done) | (simp [*]; done)), H', ⟨by have := HQ1.out; omega⟩, HS, HK⟩
                        · rw [if_neg c18] at H
                          exact absurd H (by simp)
                      · rw [if_neg c17] at H
                        exact absurd H (by simp)
                    · rw [if_neg c15] at H
                      exact absurd H (by simp)
                  · rw [if_neg c14] at H
                    exact absurd H (by simp)
                · rw [if_neg c13] at H
                  exact absurd H (by simp)
          · rw [if_neg c6] at H
            have c6b0 : (t155 == 0) = false := beq_eq_false_iff_ne.mpr c6
            have c6b1 : (t155 != 0) = true := bne_iff_ne.mpr c6
            replace H := Option.bind_eq_some_iff.1 H
            obtain ⟨t175, Hc240, H⟩ := H
            try dsimp only at H
            have Hc24 := Aside0.mk Hc240
            clear Hc240
            by_cases c25 : t175 = true
            · subst c25
              rw [if_pos rfl] at H
              simp only [Option.some.injEq, Prod.mk.injEq] at H
              obtain ⟨rfl, rfl, rfl, rfl⟩ := H
              have hb_ := SL.at_ (SL.get2 HS.out)
              have hz0_0_0 := ((blk_cell hb_ 0).trans rfl : _ = some (.slice A100000_0 y100000_0.length c100000_0))
              have hz0_1_0 := ((blk_cell hb_ 1).trans rfl : _ = some (.bool false))
              clear hb_
              go_wp2_with (first | ((with_reducible refine gate_dst (N := 39) rfl ?_); refine goesL_ (some 39) rfl rfl Try.func17 (by kernel_rfl) rfl #[.slice A100000_0 y100000_0.length c100000_0, .int .i64 0] rfl (by (try simp only [List.map_toArray, List.map_cons, List.map_nil]); first | done | rfl | (simp; done)) ?_; (with_reducible refine (pack_ReadUint.calls k1 _ _ _ _ _ _ _ _ (SL.row_c (SL.get3 HS.out)).2.2 (SL.row_c (SL.get3 HS.out)).2.1 Hc5.out).mono ?_); rintro e_ w26 ⟨rfl, hb_⟩; refine ⟨_, rfl, ?_⟩; have n1_ := Aside0.mk (HK.out.trans (Keep.below hb_)); have n2_ := Aside0.mk (HS.out.below hb_); clear HK HS; have HK := n1_; have HS := n2_; clear n1_ n2_; try clear hz0_0_0 hz0_1_0; have hb_ := SL.at_ (SL.get2 HS.out); have hz0_0_1 := ((blk_cell hb_ 0).trans rfl : _ = some (.slice A100000_0 y100000_0.length c100000_0)); have hz0_1_1 := ((blk_cell hb_ 1).trans rfl : _ = some (.bool false)); clear hb_) | ((with_reducible refine gate_dst (N := 51) rfl ?_); (try (refine gate_guard (by rfl) ?_; dsimp only)); refine goesL_ (some 51) rfl rfl Try.func18 (by kernel_rfl) rfl #[.slice A100000_0 y100000_0.length c100000_0] rfl (by (try simp only [List.map_toArray, List.map_cons, List.map_nil]); first | done | rfl | (simp; done)) ?_; (with_reducible refine (frame_open.calls k1 _ _ _ _ _ (SL.row_c (SL.get3 HS.out)).2.2 (SL.row_c (SL.get3 HS.out)).2.1 Hc24.out).mono ?_); rintro e_ w27 ⟨rfl, hb_⟩; refine ⟨_, rfl, ?_⟩; have n1_ := Aside0.mk (HK.out.trans (Keep.below hb_)); have n2_ := Aside0.mk (HS.out.below hb_); clear HK HS; have HK := n1_; have HS := n2_; clear n1_ n2_; try clear hz0_0_1 hz0_1_1; have hb_ := SL.at_ (SL.get2 HS.out); have hz0_0_2 := ((blk_cell hb_ 0).trans rfl : _ = some (.slice A100000_0 y100000_0.length c100000_0)); have hz0_1_2 := ((blk_cell hb_ 1).trans rfl : _ = some (.bool false)); clear hb_))
              try simp only [Exit.noGoto_ret, Exit.noGoto_normal, Exit.noGoto_exit]
              go_ret2
              have n2_ := Aside0.mk (SL.get2 (SL.get2 (SL.tail (SL.get1 HS.out))))
              clear HS
              have HS := n2_
              clear n2_
              unfold frame_Feed_Push.Post
              exact ⟨Ax6_0, cx6_0, A100000_0, c100000_0, by first | rfl | (simp; done) | (simp [*]; done), HS.out, HK.out⟩
            · replace c25 := Bool.eq_false_iff.mpr c25
              subst c25
              rw [if_neg (show ¬ (false = true) by decide)] at H
              replace H := Option.bind_eq_some_iff.1 H
              obtain ⟨⟨t176, t177, t180⟩, Hc280, H⟩ := H
              try dsimp only at H
              have Hc28 := Aside0.mk Hc280
              clear Hc280
              simp only [Option.some.injEq, Prod.mk.injEq] at H
              obtain ⟨rfl, rfl, rfl, rfl⟩ := H
              have hb_ := SL.at_ (SL.get2 HS.out)
              have hz0_0_0 := ((blk_cell hb_ 0).trans rfl : _ = some (.slice A100000_0 y100000_0.length c100000_0))
              have hz0_1_0 := ((blk_cell hb_ 1).trans rfl : _ = some (.bool false))
              clear hb_
              go_wp2_with (first | ((with_reducible refine gate_dst (N := 39) rfl ?_); refine goesL_ (some 39) rfl rfl Try.func17 (by kernel_rfl) rfl #[.slice A100000_0 y100000_0.length c100000_0, .int .i64 0] rfl (by (try simp only [List.map_toArray, List.map_cons, List.map_nil]); first | done | rfl | (simp; done)) ?_; (with_reducible refine (pack_ReadUint.calls k1 _ _ _ _ _ _ _ _ (SL.row_c (SL.get3 HS.out)).2.2 (SL.row_c (SL.get3 HS.out)).2.1 Hc5.out).mono ?_); rintro e_ w29 ⟨rfl, hb_⟩; refine ⟨_, rfl, ?_⟩; have n1_ := Aside0.mk (HK.out.trans (Keep.below hb_)); have n2_ := Aside0.mk (HS.out.below hb_); clear HK HS; have HK := n1_; have HS := n2_; clear n1_ n2_; try clear hz0_0_0 hz0_1_0; have hb_ := SL.at_ (SL.get2 HS.out); have hz0_0_1 := ((blk_cell hb_ 0).trans rfl : _ = some (.slice A100000_0 y100000_0.length c100000_0)); have hz0_1_1 := ((blk_cell hb_ 1).trans rfl : _ = some (.bool false)); clear hb_) | ((with_reducible refine gate_dst (N := 51) rfl ?_); (try (refine gate_guard (by rfl) ?_; dsimp only)); refine goesL_ (some 51) rfl rfl Try.func18 (by kernel_rfl) rfl #[.slice A100000_0 y100000_0.length c100000_0] rfl (by (try simp only [List.map_toArray, List.map_cons, List.map_nil]); first | done | rfl | (simp; done)) ?_; (with_reducible refine (frame_open.calls k1 _ _ _ _ _ (SL.row_c (SL.get3 HS.out)).2.2 (SL.row_c (SL.get3 HS.out)).2.1 Hc24.out).mono ?_); rintro e_ w30 ⟨rfl, hb_⟩; refine ⟨_, rfl, ?_⟩; have n1_ := Aside0.mk (HK.out.trans (Keep.below hb_)); have n2_ := Aside0.mk (HS.out.below hb_); clear HK HS; have HK := n1_; have HS := n2_; clear n1_ n2_; try clear hz0_0_1 hz0_1_1; have hb_ := SL.at_ (SL.get2 HS.out); have hz0_0_2 := ((blk_cell hb_ 0).trans rfl : _ = some (.slice A100000_0 y100000_0.length c100000_0)); have hz0_1_2 := ((blk_cell hb_ 1).trans rfl : _ = some (.bool false)); clear hb_) | ((with_reducible refine gate_dst (N := 59) rfl ?_); refine goesL_ (some 59) rfl rfl Try.func19 (by kernel_rfl) rfl #[.pointer (some ⟨b0, 0, none⟩), .int .i64 t155] rfl (by (try simp only [List.map_toArray, List.map_cons, List.map_nil]); first | done | rfl | (simp; done)) ?_; have hs0_ := (SL.get3 (SL.get3 HS.out)); (with_reducible refine (frame_Feed_die.slcalls _ _ _ _ _ _ _ _ _ _ _ _ (HF.out.keep HK.out) hs0_  Hc28.out).mono ?_); rintro e_ w31 ⟨A178, c179, rfl, hsr_, hkr_⟩; refine ⟨_, rfl, ?_⟩; have n1_ := Aside0.mk (HK.out.trans hkr_); have n2_ := Aside0.mk (hsr_); clear HK HS; have HK := n1_; have HS := n2_; clear n1_ n2_; try clear hz0_0_2 hz0_1_2; have hb_ := SL.at_ HS.out; have hz0_0_3 := ((blk_cell hb_ 0).trans rfl : _ = some (.slice A178 t177.length c179)); have hz0_1_3 := ((blk_cell hb_ 1).trans rfl : _ = some (.bool t180)); clear hb_))
              try simp only [Exit.noGoto_ret, Exit.noGoto_normal, Exit.noGoto_exit]
              go_ret2
              have n2_ := Aside0.mk (SL.get2 (SL.get2 (SL.get2 (SL.tail (SL.get3 HS.out)))))
              clear HS
              have HS := n2_
              clear n2_
              unfold frame_Feed_Push.Post
              exact ⟨Ax6_0, cx6_0, A178, c179, by first | rfl | (simp; done) | (simp [*]; done), HS.out, HK.out⟩
    · rw [if_neg c2] at H
      exact absurd H (by simp)

/-! ### frame_Feed_Waits: function 13 -/
def frame_Feed_Waits.f (s0_0 : List Int) (s0_1 : Bool) : Option (Int × (List Int) × Bool) := some ((s0_0.length : Int), s0_0, s0_1)
def frame_Feed_Waits.Post (b0 : Nat) (r1 : Int) (r2 : List Int) (r3 : Bool) (S : Nat → Prop) (L : List Asr) (w : World) (e : Ending) (w' : World) : Prop := ∃ (Ar1 : Option Addr) (cr1 : Nat), e = .returned (.int .i64 r1) ∧ SL (cells b0 41 [.slice Ar1 r2.length cr1, .bool r3].toArray :: row (Kd.int .u8) 5 (.slice Ar1 r2.length cr1) r2 :: L) w' S ∧ Keep S w w'
set_option maxHeartbeats 8000000 in
set_option maxRecDepth 100000 in
theorem frame_Feed_Waits.slcalls (b0 : Nat) (As0_0 : Option Addr) (cs0_0 : Nat) (s0_0 : List Int) (s0_1 : Bool) (r1 : Int) (r2 : List Int) (r3 : Bool) (S : Nat → Prop) (L : List Asr) (w : World) (hf : Fresh S w) (hs : SL (cells b0 41 [.slice As0_0 s0_0.length cs0_0, .bool s0_1].toArray :: row (Kd.int .u8) 5 (.slice As0_0 s0_0.length cs0_0) s0_0 :: L) w S) (h : frame_Feed_Waits.f s0_0 s0_1 = some (r1, r2, r3)) :
    Calls Try.prog 13 #[.pointer (some ⟨b0, 0, none⟩)] w (frame_Feed_Waits.Post b0 r1 r2 r3 S L w) := by
  have HF := Aside0.mk hf
  have HS := Aside0.mk hs
  have HK := Aside0.mk (Keep.refl S w)
  clear hf hs
  have H : (some ((s0_0.length : Int), s0_0, s0_1)) = some (r1, r2, r3) := h
  clear h
  simp only [Option.some.injEq, Prod.mk.injEq] at H
  obtain ⟨rfl, rfl, rfl⟩ := H
  have hb_ := SL.at_ HS.out
  have hz0_0_0 := ((blk_cell hb_ 0).trans rfl : _ = some (.slice As0_0 s0_0.length cs0_0))
  have hz0_1_0 := ((blk_cell hb_ 1).trans rfl : _ = some (.bool s0_1))
  clear hb_
  go_enter Try.func13, Try.ntmps13
  go_wp2
  go_ret
  have n2_ := Aside0.mk (SL.get1 (SL.get1 HS.out))
  clear HS
  have HS := n2_
  clear n2_
  unfold frame_Feed_Waits.Post
  exact ⟨As0_0, cs0_0, by first | rfl | (simp; done) | (simp [*]; done), HS.out, HK.out⟩

/-! ### frame_Feed_Dead: function 14 -/
def frame_Feed_Dead.f (s0_0 : List Int) (s0_1 : Bool) : Option (Bool × (List Int) × Bool) := some (s0_1, s0_0, s0_1)
def frame_Feed_Dead.Post (b0 : Nat) (r1 : Bool) (r2 : List Int) (r3 : Bool) (S : Nat → Prop) (L : List Asr) (w : World) (e : Ending) (w' : World) : Prop := ∃ (Ar1 : Option Addr) (cr1 : Nat), e = .returned (.bool r1) ∧ SL (cells b0 41 [.slice Ar1 r2.length cr1, .bool r3].toArray :: row (Kd.int .u8) 5 (.slice Ar1 r2.length cr1) r2 :: L) w' S ∧ Keep S w w'
set_option maxHeartbeats 8000000 in
set_option maxRecDepth 100000 in
theorem frame_Feed_Dead.slcalls (b0 : Nat) (As0_0 : Option Addr) (cs0_0 : Nat) (s0_0 : List Int) (s0_1 : Bool) (r1 : Bool) (r2 : List Int) (r3 : Bool) (S : Nat → Prop) (L : List Asr) (w : World) (hf : Fresh S w) (hs : SL (cells b0 41 [.slice As0_0 s0_0.length cs0_0, .bool s0_1].toArray :: row (Kd.int .u8) 5 (.slice As0_0 s0_0.length cs0_0) s0_0 :: L) w S) (h : frame_Feed_Dead.f s0_0 s0_1 = some (r1, r2, r3)) :
    Calls Try.prog 14 #[.pointer (some ⟨b0, 0, none⟩)] w (frame_Feed_Dead.Post b0 r1 r2 r3 S L w) := by
  have HF := Aside0.mk hf
  have HS := Aside0.mk hs
  have HK := Aside0.mk (Keep.refl S w)
  clear hf hs
  have H : (some (s0_1, s0_0, s0_1)) = some (r1, r2, r3) := h
  clear h
  simp only [Option.some.injEq, Prod.mk.injEq] at H
  obtain ⟨rfl, rfl, rfl⟩ := H
  have hb_ := SL.at_ HS.out
  have hz0_0_0 := ((blk_cell hb_ 0).trans rfl : _ = some (.slice As0_0 s0_0.length cs0_0))
  have hz0_1_0 := ((blk_cell hb_ 1).trans rfl : _ = some (.bool s0_1))
  clear hb_
  go_enter Try.func14, Try.ntmps14
  go_wp2
  go_ret
  have n2_ := Aside0.mk (SL.get1 (SL.get1 HS.out))
  clear HS
  have HS := n2_
  clear n2_
  unfold frame_Feed_Dead.Post
  exact ⟨As0_0, cs0_0, by first | rfl | (simp; done) | (simp [*]; done), HS.out, HK.out⟩

/-! ### pack_put: function 28 -/
def pack_put.l0 : Nat → List Int → Int → Option (List Int)
  | 0, _, _ => none
  | k + 1, x0, x1 => if x1 > 127 then (if x0.length < 140737488355328 then (pack_put.l0 k (x0 ++ [Go.bits .or .u8 ((x1) % 256) 128]) (x1 / 128)) else (none)) else (if x0.length < 140737488355328 then (some (x0 ++ [(x1) % 256])) else (none))
def pack_put.f (k : Nat) (l0 : List Int) (a1 : Int) : Option (List Int) := pack_put.l0 k l0 a1
theorem pack_put.mono_l : ∀ k, (∀ y0 y1, LeO (pack_put.l0 k y0 y1) (pack_put.l0 (k + 1) y0 y1))
  | 0 => fun _ _ r h => by simp [pack_put.l0] at h
  | k + 1 => by
    have ih0 := pack_put.mono_l k
    · intro y0 y1
      unfold pack_put.l0
      repeat' first
      | (with_reducible exact ih0 _ _)
      | (with_reducible exact LeO.refl _)
      | (with_reducible exact LeO.none _)
      | (with_reducible refine LeO.ite ?_ ?_)
      | (with_reducible refine LeO.bind ?_ (fun _ => ?_))
      | exact ih0 _ _
      | exact LeO.none _
      | refine LeO.ite ?_ ?_
      | refine LeO.bind ?_ (fun _ => ?_)
theorem pack_put.mono : ∀ a0 a1 k, LeO (pack_put.f k a0 a1) (pack_put.f (k + 1) a0 a1) := by
  intro a0 a1 k
  have ih0 := pack_put.mono_l k
  unfold pack_put.f
  repeat' first
      | (with_reducible exact ih0 _ _)
      | (with_reducible exact LeO.refl _)
      | (with_reducible exact LeO.none _)
      | (with_reducible refine LeO.ite ?_ ?_)
      | (with_reducible refine LeO.bind ?_ (fun _ => ?_))
      | exact ih0 _ _
      | exact LeO.none _
      | refine LeO.ite ?_ ?_
      | refine LeO.bind ?_ (fun _ => ?_)
set_option maxHeartbeats 8000000 in
set_option maxRecDepth 100000 in
theorem pack_put.calls (k : Nat) (P0_ : Nat → Prop) (u9000_ : Value) (l0 : List Int) (a1 : Int) (r : List Int) (w0 w : World) (hB : Below w0.heap.size w0 w) (ho0 : Kd.R (Kd.int .u8) 5 w w0.heap.size P0_ u9000_ l0) (h : pack_put.f k l0 a1 = some r) :
    Calls Try.prog 28 #[u9000_, .int .u64 a1] w fun e w' => ∃ v0_ : Value, e = .returned (v0_) ∧ Kd.R (Kd.int .u8) 5 w' w0.heap.size (fun k_ => (P0_ k_ ∨ w.heap.size ≤ k_)) v0_ r ∧ Below w0.heap.size w0 w' ∧ Kept w w' (fun k_ => P0_ k_) := by
  have HO0 := Aside0.mk (show Kd.R (Kd.int .u8) 5 w w0.heap.size (fun k_ => (P0_ k_ ∨ w.heap.size ≤ k_)) u9000_ l0 from Kd.R_mono ho0 (fun k_ hk => (.inl hk)))
  have HK := Aside0.mk (Kept.refl w (fun k_ => P0_ k_))
  have HW0 := Aside0.mk hB.size
  have HB := Aside0.mk hB
  clear hB
  have H : (pack_put.l0 k l0 a1) = some r := h
  clear h
  have H' := Aside0.mk H
  clear H
  go_enter Try.func28, Try.ntmps28
  go_wp2
  go_loopg [0, 1] k (fun kq v0 v1 w' => ∃ (x0_1 : List Int) (x1_1 : Int), v1 = .int .u64 x1_1 ∧ Aside0 (pack_put.l0 kq x0_1 x1_1 = some r) ∧ Aside0 (kq ≤ k) ∧ Aside0 (Kd.R (Kd.int .u8) 5 w' w0.heap.size (fun k_ => (P0_ k_ ∨ w.heap.size ≤ k_)) v0 x0_1) ∧ Aside0 (Kept w w' (fun k_ => P0_ k_)) ∧ Aside0 (Below w0.heap.size w0 w'))
  case atStart => exact ⟨(l0), (a1), (by first | rfl | (simp; done) | (simp [*]; done)), H', ⟨Nat.le_refl _⟩, ⟨by (with_reducible repeat (first | apply Kd.R_alloc | apply Kd.R_drewN | apply Kd.R_drew)); exact HO0.out⟩, ⟨by repeat (first | (with_reducible first | exact HK.out | apply Kept.alloc | apply Kept.drewN | apply Kept.drew) | exact HK.out)⟩, ⟨by repeat (first | (with_reducible first | exact HB.out | apply below_alloc | apply pw_below_drewN | apply below_drew1) | exact HB.out)⟩⟩
  case round =>
    clear H'
    try clear c2
    try clear p2
    obtain ⟨x0_1, x1_1, rfl, HA, HK1, HO_0, HK, HB⟩ := hrel
    cases gk with
    | zero => exact absurd HA.out (by simp [pack_put.l0])
    | succ k1 =>
      have H := HA.out
      clear HA
      simp only [pack_put.l0] at H
      by_cases c3 : x1_1 > 127
      · rw [if_pos c3] at H
        have c3b0 : decide (127 < x1_1) = true := decide_eq_true c3
        clear c3
        by_cases c4 : x0_1.length < 140737488355328
        · rw [if_pos c4] at H
          have LMc4 := Aside0.mk c4
          clear c4
          obtain ⟨y181, hy181⟩ : ∃ y_ : List Int, y_ = (x0_1 ++ [Go.bits .or .u8 ((x1_1) % 256) 128]) := ⟨_, rfl⟩
          replace H : (pack_put.l0 k1 y181 (x1_1 / 128)) = some r := by first | (rw [hy181]; with_reducible exact H) | (have H2_ := (Option.bind_some _ _).symm.trans H; rw [hy181]; with_reducible exact H2_) | (have H2_ := (Option.bind_some _ _).symm.trans H; with_reducible exact H2_) | with_reducible exact H | (rw [hy181]; exact H) | exact H
          have Ny181 := Aside0.mk hy181
          clear hy181
          have H' := Aside0.mk H
          clear H
          go_wp2_with (first | ((with_reducible refine gate_builtin (b := .append) (xs := #[.tmp 9, .tmp 13]) rfl ?_); at_builtin; refine Kd.R_append (Kd.int .u8) (w0 := w0) w0.heap.size rfl (.tmp 9) (.tmp 13) 23 5 (.int .u8 0) 1 rfl Try.underlying23 info5 rfl (by decide) (by omega) u0 x0_1 (Go.bits .or .u8 ((x1_1) % 256) 128) [.int .u8 (Go.bits .or .u8 ((x1_1) % 256) 128)] (fun k_ => (P0_ k_ ∨ w.heap.size ≤ k_)) (fun _ => False) rfl rfl ?aP (fun _ hk => hk.elim) ?aF ?aO ?aB ?aS ?aL ?_; (case aP => exact rfl); (case aB => exact (by repeat (first | (with_reducible first | exact HB.out | apply below_alloc | apply pw_below_drewN | apply below_drew1) | exact HB.out))); (case aF => exact (fun k_ hk => (.inr (Nat.le_trans (by first | exact HK.out.1 | exact (show Kept w _ (fun k_ => P0_ k_) from by repeat (first | (with_reducible first | exact HK.out | apply Kept.alloc | apply Kept.drewN | apply Kept.drew) | exact HK.out)).1) hk)))); (case aO => exact (by (with_reducible repeat (first | apply Kd.R_alloc | apply Kd.R_drewN | apply Kd.R_drew)); exact HO_0.out)); (case aS => exact (below_size (by repeat (first | (with_reducible first | exact HB.out | apply below_alloc | apply pw_below_drewN | apply below_drew1) | exact HB.out)))); (case aL => have := LMc4.out; omega); intro v182 w5 ho hb hg hat; rw [← Ny181.out] at ho; have n0_ := Aside0.mk (hb); have n1_ := Aside0.mk (Kept.of_grown (S := (fun k_ => P0_ k_)) hg (by repeat (first | (with_reducible first | exact HK.out | apply Kept.alloc | apply Kept.drewN | apply Kept.drew) | exact HK.out)) (fun k_ e_ => (HO_0.out.1 k_ e_))); have n2_ := Aside0.mk (ho); clear HB; clear HK; clear HO_0; have HB := n0_; have HK := n1_; have HO183 := n2_; clear n0_ n1_ n2_; clear ho hb hg hat))
          go_roundg k1
          case measure => have := HK1.out; omega
          case rel => exact ⟨(y181), (x1_1 / 128), (by first | rfl | (simp; done) | (simp [*]; done)), H', ⟨by have := HK1.out; omega⟩, ⟨by (with_reducible repeat (first | apply Kd.R_alloc | apply Kd.R_drewN | apply Kd.R_drew)); exact HO183.out⟩, ⟨by repeat (first | (with_reducible first | exact HK.out | apply Kept.alloc | apply Kept.drewN | apply Kept.drew) | exact HK.out)⟩, ⟨by repeat (first | (with_reducible first | exact HB.out | apply below_alloc | apply pw_below_drewN | apply below_drew1) | exact HB.out)⟩⟩
        · rw [if_neg c4] at H
          exact absurd H (by simp)
      · rw [if_neg c3] at H
        have c3b0 : decide (127 < x1_1) = false := decide_eq_false c3
        clear c3
        by_cases c6 : x0_1.length < 140737488355328
        · rw [if_pos c6] at H
          have LMc6 := Aside0.mk c6
          clear c6
          obtain ⟨y184, hy184⟩ : ∃ y_ : List Int, y_ = (x0_1 ++ [(x1_1) % 256]) := ⟨_, rfl⟩
          replace H : (some y184) = some r := by first | (rw [hy184]; with_reducible exact H) | (have H2_ := (Option.bind_some _ _).symm.trans H; rw [hy184]; with_reducible exact H2_) | (have H2_ := (Option.bind_some _ _).symm.trans H; with_reducible exact H2_) | with_reducible exact H | (rw [hy184]; exact H) | exact H
          have Ny184 := Aside0.mk hy184
          clear hy184
          obtain rfl := Option.some.inj H
          go_wp2_with (first | ((with_reducible refine gate_builtin (b := .append) (xs := #[.tmp 15, .tmp 18]) rfl ?_); at_builtin; refine Kd.R_append (Kd.int .u8) (w0 := w0) w0.heap.size rfl (.tmp 15) (.tmp 18) 23 5 (.int .u8 0) 1 rfl Try.underlying23 info5 rfl (by decide) (by omega) u0 x0_1 ((x1_1) % 256) [.int .u8 ((x1_1) % 256)] (fun k_ => (P0_ k_ ∨ w.heap.size ≤ k_)) (fun _ => False) rfl rfl ?aP (fun _ hk => hk.elim) ?aF ?aO ?aB ?aS ?aL ?_; (case aP => exact rfl); (case aB => exact (by repeat (first | (with_reducible first | exact HB.out | apply below_alloc | apply pw_below_drewN | apply below_drew1) | exact HB.out))); (case aF => exact (fun k_ hk => (.inr (Nat.le_trans (by first | exact HK.out.1 | exact (show Kept w _ (fun k_ => P0_ k_) from by repeat (first | (with_reducible first | exact HK.out | apply Kept.alloc | apply Kept.drewN | apply Kept.drew) | exact HK.out)).1) hk)))); (case aO => exact (by (with_reducible repeat (first | apply Kd.R_alloc | apply Kd.R_drewN | apply Kd.R_drew)); exact HO_0.out)); (case aS => exact (below_size (by repeat (first | (with_reducible first | exact HB.out | apply below_alloc | apply pw_below_drewN | apply below_drew1) | exact HB.out)))); (case aL => have := LMc6.out; omega); intro v185 w7 ho hb hg hat; rw [← Ny184.out] at ho; have n0_ := Aside0.mk (hb); have n1_ := Aside0.mk (Kept.of_grown (S := (fun k_ => P0_ k_)) hg (by repeat (first | (with_reducible first | exact HK.out | apply Kept.alloc | apply Kept.drewN | apply Kept.drew) | exact HK.out)) (fun k_ e_ => (HO_0.out.1 k_ e_))); have n2_ := Aside0.mk (ho); clear HB; clear HK; clear HO_0; have HB := n0_; have HK := n1_; have HO186 := n2_; clear n0_ n1_ n2_; clear ho hb hg hat))
          go_ret
          exact ⟨_, by first | rfl | (simp [errW_none, errW_some] <;> rfl) | (simp [*, errW_none, errW_some] <;> rfl), by (with_reducible repeat (first | apply Kd.R_alloc | apply Kd.R_drewN | apply Kd.R_drew)); exact HO186.out, by repeat (first | (with_reducible first | exact HB.out | apply below_alloc | apply pw_below_drewN | apply below_drew1) | exact HB.out), by repeat (first | (with_reducible first | exact HK.out | apply Kept.alloc | apply Kept.drewN | apply Kept.drew) | exact HK.out)⟩
        · rw [if_neg c6] at H
          exact absurd H (by simp)

/-! ### pack_Uint: function 22 -/
def pack_Uint.f (k : Nat) (l0 : List Int) (a1 : Int) : Option (List Int) := (slices_Clone_byte_byte.f l0).bind fun t187 => ((pack_put.f k t187 (IntKind.u64.wrap (mx a1 0))).bind fun t190 => (some t190))
theorem pack_Uint.mono : ∀ a0 a1 k, LeO (pack_Uint.f k a0 a1) (pack_Uint.f (k + 1) a0 a1) := by
  intro a0 a1 k
  unfold pack_Uint.f
  repeat' first
      | (with_reducible exact pack_put.mono _ _ _)
      | (with_reducible exact LeO.refl _)
      | (with_reducible exact LeO.none _)
      | (with_reducible refine LeO.ite ?_ ?_)
      | (with_reducible refine LeO.bind ?_ (fun _ => ?_))
      | exact pack_put.mono _ _ _
      | exact LeO.none _
      | refine LeO.ite ?_ ?_
      | refine LeO.bind ?_ (fun _ => ?_)
set_option maxHeartbeats 8000000 in
set_option maxRecDepth 100000 in
theorem pack_Uint.calls (k : Nat) (A0 : Option Addr) (c0 : Nat) (l0 : List Int) (a1 : Int) (r : List Int) (w : World) (hr0 : Kd.C (Kd.int .u8) w A0 l0.length l0) (hc0 : l0.length ≤ c0) (h : pack_Uint.f k l0 a1 = some r) :
    Calls Try.prog 22 #[.slice A0 l0.length c0, .int .i64 a1] w fun e w' => ∃ v0_ : Value, e = .returned (v0_) ∧ Kd.R (Kd.int .u8) 5 w' w.heap.size (fun _ => True) v0_ r ∧ Below w.heap.size w w' := by
  have HR0 := Aside0.mk hr0
  have HC0 := Aside0.mk hc0
  clear hr0 hc0
  have HB := Aside0.mk (Below.refl w.heap.size w)
  have H : ((slices_Clone_byte_byte.f l0).bind fun t187 => ((pack_put.f k t187 (IntKind.u64.wrap (mx a1 0))).bind fun t190 => (some t190))) = some r := h
  clear h
  replace H := Option.bind_eq_some_iff.mp H
  obtain ⟨t187, A30, H⟩ := H
  replace H : ((pack_put.f k t187 (IntKind.u64.wrap (mx a1 0))).bind fun t190 => (some t190)) = some r := H
  have A3 := Aside0.mk A30
  clear A30
  obtain ⟨ji4, hji4⟩ : ∃ j_ : Int, (mx a1 0) = j_ := ⟨_, rfl⟩
  replace H : ((pack_put.f k t187 (IntKind.u64.wrap (ji4))).bind fun t190 => (some t190)) = some r := by first | (rw [hji4] at H; exact H) | (simp only [hji4] at H ⊢; exact H)
  (try rw [hji4] at A3)
  (try (have hji4l : 0 ≤ ji4 := by (rw [← hji4]; unfold mx; (repeat' split) <;> omega)))
  (try (have hji4m : 0 ≤ ji4 := by omega))
  have hji4_ : (if a1 < 0 then 0 else a1) = ji4 := hji4
  replace H := Option.bind_eq_some_iff.mp H
  obtain ⟨t190, A50, H⟩ := H
  replace H : (some t190) = some r := H
  have A5 := Aside0.mk A50
  clear A50
  obtain rfl := Option.some.inj H
  go_enter Try.func22, Try.ntmps22
  go_wp2_with (first | ((with_reducible refine gate_callee (f := 20) rfl ?_); refine goesL_ (some 6) rfl rfl Try.func20 (by kernel_rfl) rfl #[.slice A0 l0.length c0] rfl (by (try simp only [List.map_toArray, List.map_cons, List.map_nil]); first | done | rfl | (simp only [List.length_drop, List.length_take]; rfl)) ?_; (with_reducible refine (slices_Clone_byte_byte.calls _ _ l0 t187 _ ?side1 ?side2 A3.out).mono ?_); (case side1 => repeat (first | exact HR0.out | (with_reducible refine Kd.C_alloc ?_ _) | (with_reducible refine Kd.C_drewN ?_ _) | (with_reducible refine Kd.C_drew ?_))); (case side2 => exact HC0.out); rintro e w6 ⟨v188, rfl, ho0, hb⟩; refine ⟨_, rfl, ?_⟩; have n0_ := Aside0.mk (Kd.R_lower ho0 (below_size (by repeat (first | (with_reducible first | exact HB.out | apply below_alloc | apply pw_below_drewN | apply below_drew1) | exact HB.out)))); have n1_ := Aside0.mk (below_step (by repeat (first | (with_reducible first | exact HB.out | apply below_alloc | apply pw_below_drewN | apply below_drew1) | exact HB.out)) hb); clear HB; have HO189 := n0_; have HB := n1_; clear n0_ n1_; (try clear hb); (try clear hb2); (try clear hk); (try clear hi); (try clear ho0); obtain ⟨Ao7, co7, eo7⟩ := Kd.R_slice HO189.out; subst eo7) | ((with_reducible refine gate_callee (f := 28) rfl ?_); refine goesL_ (some 10) rfl rfl Try.func28 (by kernel_rfl) rfl #[.slice Ao7 t187.length co7, .int .u64 (IntKind.u64.wrap (ji4))] rfl (by (try simp only [List.map_toArray, List.map_cons, List.map_nil]); first | done | (simp only [hji4]; rfl) | rfl | (simp only [List.length_drop, List.length_take]; rfl)) ?_; (with_reducible refine (pack_put.calls k (fun k_ => some k_ = (.slice Ao7 t187.length co7 : Value).ownBlock) (.slice Ao7 t187.length co7) t187 (IntKind.u64.wrap (ji4)) t190 w _ ?side1 ?side2 A5.out).mono ?_); (case side1 => repeat (first | (with_reducible first | exact HB.out | apply below_alloc | apply pw_below_drewN | apply below_drew1) | exact HB.out)); (case side2 => exact Kd.R_tight rfl HO189.out); rintro e w8 ⟨v191, rfl, ho0, hb, hkp⟩; refine ⟨_, rfl, ?_⟩; have n0_ := Aside0.mk (Kd.R_mono (ok' := fun k_ => True) ho0 (fun k_ hk_ => trivial)); have n1_ := Aside0.mk (hb); clear HB; clear HO189; have HO192 := n0_; have HB := n1_; clear n0_ n1_; (try clear hb); (try clear hkp); (try clear ho0)))
  go_ret
  exact ⟨_, by first | rfl | (simp [errW_none, errW_some] <;> rfl) | (simp only [← hji4]; first | rfl | (simp [errW_none, errW_some] <;> rfl)) | (simp [*, errW_none, errW_some] <;> rfl), by (with_reducible repeat (first | apply Kd.R_alloc | apply Kd.R_drewN | apply Kd.R_drew)); exact HO192.out, by repeat (first | (with_reducible first | exact HB.out | apply below_alloc | apply pw_below_drewN | apply below_drew1) | exact HB.out)⟩

/-! ### frame_Wrap: function 15 -/
def frame_Wrap.f (k : Nat) (l0 : List Int) : Option (List Int × Int) := if (l0.length : Int) > 4096 then (some (([] : List Int), 3)) else ((pack_Uint.f k ([] : List Int) (l0.length : Int)).bind fun t193 => (if t193.length + l0.length < 140737488355328 then (some ((t193 ++ l0), 0)) else (none)))
theorem frame_Wrap.mono : ∀ a0 k, LeO (frame_Wrap.f k a0) (frame_Wrap.f (k + 1) a0) := by
  intro a0 k
  unfold frame_Wrap.f
  repeat' first
      | (with_reducible exact pack_Uint.mono _ _ _)
      | (with_reducible exact LeO.refl _)
      | (with_reducible exact LeO.none _)
      | (with_reducible refine LeO.ite ?_ ?_)
      | (with_reducible refine LeO.bind ?_ (fun _ => ?_))
      | exact pack_Uint.mono _ _ _
      | exact LeO.none _
      | refine LeO.ite ?_ ?_
      | refine LeO.bind ?_ (fun _ => ?_)
set_option maxHeartbeats 8000000 in
set_option maxRecDepth 100000 in
theorem frame_Wrap.calls (k : Nat) (A0 : Option Addr) (c0 : Nat) (l0 : List Int) (r1 : List Int) (r2 : Int) (w : World) (hr0 : Kd.C (Kd.int .u8) w A0 l0.length l0) (hc0 : l0.length ≤ c0) (h : frame_Wrap.f k l0 = some (r1, r2)) :
    Calls Try.prog 15 #[.slice A0 l0.length c0] w fun e w' => ∃ v0_ : Value, e = .returned (.tuple #[v0_, .int .i64 r2]) ∧ Kd.R (Kd.int .u8) 5 w' w.heap.size (fun _ => True) v0_ r1 ∧ Below w.heap.size w w' := by
  have HR0 := Aside0.mk hr0
  have HC0 := Aside0.mk hc0
  clear hr0 hc0
  have HB := Aside0.mk (Below.refl w.heap.size w)
  have H : (if (l0.length : Int) > 4096 then (some (([] : List Int), 3)) else ((pack_Uint.f k ([] : List Int) (l0.length : Int)).bind fun t193 => (if t193.length + l0.length < 140737488355328 then (some ((t193 ++ l0), 0)) else (none)))) = some (r1, r2) := h
  clear h
  by_cases c2 : (l0.length : Int) > 4096
  · rw [if_pos c2] at H
    have c2b0 : decide (4096 < (l0.length : Int)) = true := decide_eq_true c2
    have c2b1 : decide (4096 < l0.length) = true := decide_eq_true (by omega)
    clear c2
    simp only [Option.some.injEq, Prod.mk.injEq] at H
    obtain ⟨rfl, rfl⟩ := H
    go_enter Try.func15, Try.ntmps15
    go_wp2
    go_ret2
    exact ⟨_, by first | rfl | (simp [errW_none, errW_some] <;> rfl) | (simp [*, errW_none, errW_some] <;> rfl), by first | exact Kd.R_nil _ _ _ _ _ | exact Kd.N_nil _ _ _ _ _ | exact Kd.V_nil _ _ _ _ _ | exact Kd.Q_nil _ _ _ _ _ | exact Kd.S_nil _ _ _ _ _, by repeat (first | (with_reducible first | exact HB.out | apply below_alloc | apply pw_below_drewN | apply below_drew1) | exact HB.out)⟩
  · rw [if_neg c2] at H
    have c2b0 : decide (4096 < (l0.length : Int)) = false := decide_eq_false c2
    have c2b1 : decide (4096 < l0.length) = false := decide_eq_false (by omega)
    clear c2
    replace H := Option.bind_eq_some_iff.mp H
    obtain ⟨t193, A30, H⟩ := H
    replace H : (if t193.length + l0.length < 140737488355328 then (some ((t193 ++ l0), 0)) else (none)) = some (r1, r2) := H
    have A3 := Aside0.mk A30
    clear A30
    by_cases c4 : t193.length + l0.length < 140737488355328
    · rw [if_pos c4] at H
      have LMc4 := Aside0.mk c4
      clear c4
      obtain ⟨y196, hy196⟩ : ∃ y_ : List Int, y_ = (t193 ++ l0) := ⟨_, rfl⟩
      replace H : (some (y196, 0)) = some (r1, r2) := by first | (rw [hy196]; with_reducible exact H) | (have H2_ := (Option.bind_some _ _).symm.trans H; rw [hy196]; with_reducible exact H2_) | (have H2_ := (Option.bind_some _ _).symm.trans H; with_reducible exact H2_) | with_reducible exact H | (rw [hy196]; exact H) | exact H
      have Ny196 := Aside0.mk hy196
      clear hy196
      simp only [Option.some.injEq, Prod.mk.injEq] at H
      obtain ⟨rfl, rfl⟩ := H
      go_enter Try.func15, Try.ntmps15
      go_wp2_with (first | ((with_reducible refine gate_callee (f := 22) rfl ?_); refine goesL_ (some 9) rfl rfl Try.func22 (by kernel_rfl) rfl #[.slice none 0 0, .int .i64 (l0.length : Int)] rfl (by (try simp only [List.map_toArray, List.map_cons, List.map_nil]); first | done | rfl | (simp only [List.length_drop, List.length_take]; rfl)) ?_; (refine (pack_Uint.calls k _ _ ([] : List Int) (l0.length : Int) t193 _ ?side1 ?side2 A3.out).mono ?_); (case side1 => exact Kd.C_nil _ _); (case side2 => exact Nat.le_refl _); rintro e w5 ⟨v194, rfl, ho0, hb⟩; refine ⟨_, rfl, ?_⟩; have n0_ := Aside0.mk (Kd.R_lower ho0 (below_size (by repeat (first | (with_reducible first | exact HB.out | apply below_alloc | apply pw_below_drewN | apply below_drew1) | exact HB.out)))); have n1_ := Aside0.mk (below_step (by repeat (first | (with_reducible first | exact HB.out | apply below_alloc | apply pw_below_drewN | apply below_drew1) | exact HB.out)) hb); clear HB; have HO195 := n0_; have HB := n1_; clear n0_ n1_; (try clear hb); (try clear hb2); (try clear hk); (try clear hi); (try clear ho0)) | ((with_reducible refine gate_builtin (b := .append) (xs := #[.tmp 9, .tmp 10]) rfl ?_); at_builtin; refine Kd.R_append_rows (Kd.int .u8) (w0 := w) w.heap.size rfl (.tmp 9) (.tmp 10) 23 5 (.int .u8 0) 1 rfl Try.underlying23 info5 rfl (by decide) (by omega) v194 t193 l0 _ _ _ (fun _ => True) (fun _ => False) rfl rfl ?aO ?aR (fun _ _ h => h) (fun _ h => h.elim) ?aF ?aB ?aS ?aL ?_; (case aR => repeat (first | exact (Kd.C_below HR0.out HB.out) | (with_reducible refine Kd.C_alloc ?_ _) | (with_reducible refine Kd.C_drewN ?_ _) | (with_reducible refine Kd.C_drew ?_))); (case aB => exact (by repeat (first | (with_reducible first | exact HB.out | apply below_alloc | apply pw_below_drewN | apply below_drew1) | exact HB.out))); (case aF => exact (fun _ _ => trivial)); (case aO => exact (by (with_reducible repeat (first | apply Kd.R_alloc | apply Kd.R_drewN | apply Kd.R_drew)); exact HO195.out)); (case aS => exact (below_size (by repeat (first | (with_reducible first | exact HB.out | apply below_alloc | apply pw_below_drewN | apply below_drew1) | exact HB.out)))); (case aL => have := LMc4.out; omega); intro v197 w6 ho hb hg hat; rw [← Ny196.out] at ho; have n0_ := Aside0.mk (hb); have n1_ := Aside0.mk (ho); clear HB; clear HO195; have HB := n0_; have HO198 := n1_; clear n0_ n1_; clear ho hb hg hat))
      go_ret2
      exact ⟨_, by first | rfl | (simp [errW_none, errW_some] <;> rfl) | (simp [*, errW_none, errW_some] <;> rfl), by (with_reducible repeat (first | apply Kd.R_alloc | apply Kd.R_drewN | apply Kd.R_drew)); exact HO198.out, by repeat (first | (with_reducible first | exact HB.out | apply below_alloc | apply pw_below_drewN | apply below_drew1) | exact HB.out)⟩
    · rw [if_neg c4] at H
      exact absurd H (by simp)

end Go.Proofs.Ytdlpijeceigbnaa.XFR
