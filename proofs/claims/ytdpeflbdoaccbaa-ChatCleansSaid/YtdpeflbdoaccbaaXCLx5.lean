-- Written by xprint.py (a program of this session) for this claim
import Derived.Test.YtdpeflbdoaccbaaSL5
import Derived.Test.YtdpeflbdoaccbaaXCLx0
import Derived.Test.YtdpeflbdoaccbaaXCLx2
import Derived.Test.YtdpeflbdoaccbaaXCLx4
namespace Go.Proofs.Ytdpeflbdoaccbaa.XCL
open Go.Proofs.YtdpeflbdoaccbaaV Go.Proofs.YtdpeflbdoaccbaaS
open Go.RowKit Go.Proofs.YtdpeflbdoaccbaaW.PrintWords Go.Proofs.YtdpeflbdoaccbaaW.PrintLast Go.Proofs.YtdpeflbdoaccbaaW.PrintMore
attribute [local go_sem] max2_int min2_int max_two min_two max_three min_three max_four min_four   -- for this text's walks alone
set_option linter.unusedVariables false
set_option linter.unusedSimpArgs false

/-! ### chat_talk_reaches_i1: function 24 -/
def chat_talk_reaches_i1.l199 : Nat → Int → Int → Int → Int → (List (S71)) → Int → (List (Int × S42)) → Bool → Option (Bool)
  | 0, _, _, _, _, _, _, _, _ => none
  | k + 1, a0_0, a0_1, a0_2, a0_3, l0_5, a1, sm0, x5_199 => if a0_0 = 1 then ((some (mgetD z42 sm0 a0_1 : S42)).bind fun y182 => ((some (mgetD z42 sm0 a1 : S42)).bind fun y183 => ((grid_Near.f k y182.f0 y182.f1 y183.f0 y183.f1 a0_3).bind fun t184 => (some t184)))) else (if a0_0 = 2 then (some x5_199) else (if a0_0 = 3 then (if x5_199 = true then ((roster_Group.f k l0_5 a0_1).bind fun t185 => ((roster_Group.f k l0_5 a1).bind fun t186 => (some (t185 == t186)))) else (some false)) else (if a0_0 = 4 then (if a1 = a0_1 then (some true) else (if a1 = a0_2 then (some true) else (some false))) else (some false))))
def chat_talk_reaches_i1.f (k : Nat) (a0_0 : Int) (a0_1 : Int) (a0_2 : Int) (a0_3 : Int) (l0_5 : List (S71)) (a1 : Int) (sm0 : List (Int × S42)) : Option (Bool) := (chat_in.f k l0_5 a0_1).bind fun t180 => (if t180 = true then ((chat_in.f k l0_5 a1).bind fun t181 => (chat_talk_reaches_i1.l199 k a0_0 a0_1 a0_2 a0_3 l0_5 a1 sm0 t181)) else (chat_talk_reaches_i1.l199 k a0_0 a0_1 a0_2 a0_3 l0_5 a1 sm0 false))
theorem chat_talk_reaches_i1.mono_l : ∀ k, (∀ y0 y1 y2 y3 y4 y5 y6 y7, LeO (chat_talk_reaches_i1.l199 k y0 y1 y2 y3 y4 y5 y6 y7) (chat_talk_reaches_i1.l199 (k + 1) y0 y1 y2 y3 y4 y5 y6 y7))
  | 0 => fun _ _ _ _ _ _ _ _ r h => by simp [chat_talk_reaches_i1.l199] at h
  | k + 1 => by
    have ih0 := chat_talk_reaches_i1.mono_l k
    · intro y0 y1 y2 y3 y4 y5 y6 y7
      unfold chat_talk_reaches_i1.l199
      repeat' first
      | (with_reducible exact ih0 _ _ _ _ _ _ _ _)
      | (with_reducible exact chat_in.mono _ _ _)
      | (with_reducible exact grid_Near.mono _ _ _ _ _ _)
      | (with_reducible exact roster_Group.mono _ _ _)
      | (with_reducible exact LeO.refl _)
      | (with_reducible exact LeO.none _)
      | (with_reducible refine LeO.ite ?_ ?_)
      | (with_reducible refine everyOf_le (fun _ => ?_))
      | (with_reducible refine LeO.bind ?_ (fun _ => ?_))
      | exact ih0 _ _ _ _ _ _ _ _
      | exact chat_in.mono _ _ _
      | exact grid_Near.mono _ _ _ _ _ _
      | exact roster_Group.mono _ _ _
      | exact LeO.none _
      | refine LeO.ite ?_ ?_
      | refine LeO.bind ?_ (fun _ => ?_)
theorem chat_talk_reaches_i1.mono : ∀ a0 a1 a2 a3 a4 a5 a6 k, LeO (chat_talk_reaches_i1.f k a0 a1 a2 a3 a4 a5 a6) (chat_talk_reaches_i1.f (k + 1) a0 a1 a2 a3 a4 a5 a6) := by
  intro a0 a1 a2 a3 a4 a5 a6 k
  have ih0 := chat_talk_reaches_i1.mono_l k
  unfold chat_talk_reaches_i1.f
  repeat' first
      | (with_reducible exact ih0 _ _ _ _ _ _ _ _)
      | (with_reducible exact chat_in.mono _ _ _)
      | (with_reducible exact grid_Near.mono _ _ _ _ _ _)
      | (with_reducible exact roster_Group.mono _ _ _)
      | (with_reducible exact LeO.refl _)
      | (with_reducible exact LeO.none _)
      | (with_reducible refine LeO.ite ?_ ?_)
      | (with_reducible refine everyOf_le (fun _ => ?_))
      | (with_reducible refine LeO.bind ?_ (fun _ => ?_))
      | exact ih0 _ _ _ _ _ _ _ _
      | exact chat_in.mono _ _ _
      | exact grid_Near.mono _ _ _ _ _ _
      | exact roster_Group.mono _ _ _
      | exact LeO.none _
      | refine LeO.ite ?_ ?_
      | refine LeO.bind ?_ (fun _ => ?_)
def chat_talk_reaches_i1.T8 : Bool × List (List Nat × List Nat) := (true, [([], []), ([0], [0]), ([1], [1]), ([2, 1], [1, 2]), ([1], [1]), ([4, 1], [1, 4]), ([3, 5, 1, 1], [1, 3, 5]), ([1], [1]), ([7, 1], [1, 7]), ([1], [1]), ([8, 9, 6, 1], [1, 8, 9]), ([6, 10, 1], [1, 6, 10]), ([1, 11], [1, 11]), ([12, 10, 0, 1, 2, 3, 4, 5, 6, 7, 8, 9, 10, 11, 12], [12])])
def chat_talk_reaches_i1.B8 : List Nat := [0, 1, 3, 7, 3, 19, 63, 3, 131, 3, 1023, 2047, 4095, 8191]
theorem chat_talk_reaches_i1.tab8 : rtab .any (opsOf Try.f24 8) = chat_talk_reaches_i1.T8 := by kernel_rfl
theorem chat_talk_reaches_i1.bits8 : waitsOk chat_talk_reaches_i1.T8.2 chat_talk_reaches_i1.B8 = true := by kernel_rfl
def chat_talk_reaches_i1.Post (b0 : Nat) (bs0 : List Nat) (ck0 : Nat) (sm0 : List (Int × S42)) (r : Bool) (S : Nat → Prop) (L : List Asr) (w : World) (e : Ending) (w' : World) : Prop := e = .returned (.bool r) ∧ SL (mapo b0 (Value.int .i64) (fun x_ : S42 => Value.agg #[.int .i64 x_.f0, .int .i64 x_.f1]) sm0 bs0 ck0 :: L) w' S ∧ Keep S w w'
set_option maxHeartbeats 8000000 in
set_option maxRecDepth 100000 in
theorem chat_talk_reaches_i1.slcalls (k : Nat) (a0_0 : Int) (a0_1 : Int) (a0_2 : Int) (a0_3 : Int) (A0_5 : Option Addr) (c0_5 : Nat) (l0_5 : List (S71)) (a1 : Int) (b0 : Nat) (bs0 : List Nat) (ck0 : Nat) (sm0 : List (Int × S42)) (r : Bool) (S : Nat → Prop) (L : List Asr) (w : World) (hf : Fresh S w) (hs : SL (mapo b0 (Value.int .i64) (fun x_ : S42 => Value.agg #[.int .i64 x_.f0, .int .i64 x_.f1]) sm0 bs0 ck0 :: L) w S) (hr0_5 : RO S w (fun w_ => Kd.C k71 w_ A0_5 l0_5.length l0_5)) (hc0_5 : l0_5.length ≤ c0_5) (h : chat_talk_reaches_i1.f k a0_0 a0_1 a0_2 a0_3 l0_5 a1 sm0 = some r) :
    Calls Try.prog 24 #[.agg #[.int .i64 a0_0, .int .i64 a0_1, .int .i64 a0_2, .int .i64 a0_3, .map (some b0), .slice A0_5 l0_5.length c0_5], .int .i64 a1] w (chat_talk_reaches_i1.Post b0 bs0 ck0 sm0 r S L w) := by
  have HR0_5 := Aside0.mk hr0_5
  have HC0_5 := Aside0.mk hc0_5
  clear hr0_5 hc0_5
  have HF := Aside0.mk hf
  have HS := Aside0.mk hs
  have HK := Aside0.mk (Keep.refl S w)
  clear hf hs
  have hu50 := Try.underlying50
  have H : ((chat_in.f k l0_5 a0_1).bind fun t180 => (if t180 = true then ((chat_in.f k l0_5 a1).bind fun t181 => (chat_talk_reaches_i1.l199 k a0_0 a0_1 a0_2 a0_3 l0_5 a1 sm0 t181)) else (chat_talk_reaches_i1.l199 k a0_0 a0_1 a0_2 a0_3 l0_5 a1 sm0 false))) = some r := h
  clear h
  have H' := Aside0.mk H
  clear H
  go_enter Try.func24, Try.ntmps24
  try go_upto_region 1 with (first | ((with_reducible refine gate_dst (N := 2) rfl ?_); refine wpList_plain rfl (fun K_ hK_ => ?_); refine op_box (S := S) (cs := #[.int .i64 a0_0, .int .i64 a0_1, .int .i64 a0_2, .int .i64 a0_3, .map (some b0), .slice A0_5 l0_5.length c0_5]) (t := 50) (HF.out.keep HK.out) HS.out (by first | (go_simp; done) | (go_simp; rfl)) ?_; intro g3000014 w1 hs_ hk_; refine hK_ _ _ ?_; clear hK_ K_; replace HS := Aside0.mk (hs_); replace HK := Aside0.mk (HK.out.trans hk_)))
  (try simp only [Act.put, sT, sZ, sS])
  go_cut [5] (fun v5 wc => ∃ (kq : Nat) (x5_199 : Bool), v5 = .bool x5_199 ∧ Aside0 (chat_talk_reaches_i1.l199 kq a0_0 a0_1 a0_2 a0_3 l0_5 a1 sm0 x5_199 = some r) ∧ Aside0 (kq ≤ k) ∧ Aside0 (SL (cells g3000014 50 [.int .i64 a0_0, .int .i64 a0_1, .int .i64 a0_2, .int .i64 a0_3, .map (some b0), .slice A0_5 l0_5.length c0_5].toArray :: mapo b0 (Value.int .i64) (fun x_ : S42 => Value.agg #[.int .i64 x_.f0, .int .i64 x_.f1]) sm0 bs0 ck0 :: L) wc S) ∧ Aside0 (Keep S w wc))
  case first =>
    have H := H'.out
    clear H'
    replace H := Option.bind_eq_some_iff.1 H
    obtain ⟨t180, Hc20, H⟩ := H
    try dsimp only at H
    have Hc2 := Aside0.mk Hc20
    clear Hc20
    by_cases c3 : t180 = true
    · subst c3
      rw [if_pos rfl] at H
      replace H := Option.bind_eq_some_iff.1 H
      obtain ⟨t181, Hc40, H⟩ := H
      try dsimp only at H
      have Hc4 := Aside0.mk Hc40
      clear Hc40
      have H' := Aside0.mk H
      clear H
      have hb_ := SL.at_ HS.out
      have hz3000014_0_0 := ((blk_cell hb_ 0).trans rfl : _ = some (.int .i64 a0_0))
      have hz3000014_1_0 := ((blk_cell hb_ 1).trans rfl : _ = some (.int .i64 a0_1))
      have hz3000014_2_0 := ((blk_cell hb_ 2).trans rfl : _ = some (.int .i64 a0_2))
      have hz3000014_3_0 := ((blk_cell hb_ 3).trans rfl : _ = some (.int .i64 a0_3))
      have hz3000014_4_0 := ((blk_cell hb_ 4).trans rfl : _ = some (.map (some b0)))
      have hz3000014_5_0 := ((blk_cell hb_ 5).trans rfl : _ = some (.slice A0_5 l0_5.length c0_5))
      clear hb_
      go_wp2_with (first | ((with_reducible refine gate_dst (N := 10) rfl ?_); refine goesL_ (some 10) rfl rfl Try.func35 (by kernel_rfl) rfl #[.slice A0_5 l0_5.length c0_5, .int .i64 a0_1] rfl (by (try simp only [List.map_toArray, List.map_cons, List.map_nil]); first | done | rfl | (simp; done)) ?_; (with_reducible refine (chat_in.calls k _ _ _ _ _ _ (RO.at_ HR0_5.out HK.out) HC0_5.out Hc2.out).mono ?_); rintro e_ w5 ⟨rfl, hb_⟩; refine ⟨_, rfl, ?_⟩; replace HS := Aside0.mk (HS.out.below hb_); replace HK := Aside0.mk (HK.out.trans (Keep.below hb_)); (try clear hz3000014_0_0 hz3000014_1_0 hz3000014_2_0 hz3000014_3_0 hz3000014_4_0 hz3000014_5_0); have hb_ := SL.at_ HS.out; have hz3000014_0_1 := ((blk_cell hb_ 0).trans rfl : _ = some (.int .i64 a0_0)); have hz3000014_1_1 := ((blk_cell hb_ 1).trans rfl : _ = some (.int .i64 a0_1)); have hz3000014_2_1 := ((blk_cell hb_ 2).trans rfl : _ = some (.int .i64 a0_2)); have hz3000014_3_1 := ((blk_cell hb_ 3).trans rfl : _ = some (.int .i64 a0_3)); have hz3000014_4_1 := ((blk_cell hb_ 4).trans rfl : _ = some (.map (some b0))); have hz3000014_5_1 := ((blk_cell hb_ 5).trans rfl : _ = some (.slice A0_5 l0_5.length c0_5)); clear hb_) | ((with_reducible refine gate_dst (N := 15) rfl ?_); (try (refine gate_guard (by rfl) ?_; dsimp only)); refine goesL_ (some 15) rfl rfl Try.func35 (by kernel_rfl) rfl #[.slice A0_5 l0_5.length c0_5, .int .i64 a1] rfl (by (try simp only [List.map_toArray, List.map_cons, List.map_nil]); first | done | rfl | (simp; done)) ?_; (with_reducible refine (chat_in.calls k _ _ _ _ _ _ (RO.at_ HR0_5.out HK.out) HC0_5.out Hc4.out).mono ?_); rintro e_ w6 ⟨rfl, hb_⟩; refine ⟨_, rfl, ?_⟩; replace HS := Aside0.mk (HS.out.below hb_); replace HK := Aside0.mk (HK.out.trans (Keep.below hb_)); (try clear hz3000014_0_1 hz3000014_1_1 hz3000014_2_1 hz3000014_3_1 hz3000014_4_1 hz3000014_5_1)))
      go_meet
      case rel => exact ⟨k, (t181), (by first | rfl | (simp; done) | (simp [*]; done)), H', ⟨by omega⟩, HS, HK⟩
    · replace c3 := Bool.eq_false_iff.mpr c3
      subst c3
      rw [if_neg (show ¬ (false = true) by decide)] at H
      have H' := Aside0.mk H
      clear H
      have hb_ := SL.at_ HS.out
      have hz3000014_0_0 := ((blk_cell hb_ 0).trans rfl : _ = some (.int .i64 a0_0))
      have hz3000014_1_0 := ((blk_cell hb_ 1).trans rfl : _ = some (.int .i64 a0_1))
      have hz3000014_2_0 := ((blk_cell hb_ 2).trans rfl : _ = some (.int .i64 a0_2))
      have hz3000014_3_0 := ((blk_cell hb_ 3).trans rfl : _ = some (.int .i64 a0_3))
      have hz3000014_4_0 := ((blk_cell hb_ 4).trans rfl : _ = some (.map (some b0)))
      have hz3000014_5_0 := ((blk_cell hb_ 5).trans rfl : _ = some (.slice A0_5 l0_5.length c0_5))
      clear hb_
      go_wp2_with (first | ((with_reducible refine gate_dst (N := 10) rfl ?_); refine goesL_ (some 10) rfl rfl Try.func35 (by kernel_rfl) rfl #[.slice A0_5 l0_5.length c0_5, .int .i64 a0_1] rfl (by (try simp only [List.map_toArray, List.map_cons, List.map_nil]); first | done | rfl | (simp; done)) ?_; (with_reducible refine (chat_in.calls k _ _ _ _ _ _ (RO.at_ HR0_5.out HK.out) HC0_5.out Hc2.out).mono ?_); rintro e_ w7 ⟨rfl, hb_⟩; refine ⟨_, rfl, ?_⟩; replace HS := Aside0.mk (HS.out.below hb_); replace HK := Aside0.mk (HK.out.trans (Keep.below hb_)); (try clear hz3000014_0_0 hz3000014_1_0 hz3000014_2_0 hz3000014_3_0 hz3000014_4_0 hz3000014_5_0)))
      go_meet
      case rel => exact ⟨k, (false), (by first | rfl | (simp; done) | (simp [*]; done)), H', ⟨by omega⟩, HS, HK⟩
  case rest =>
    clear H' HS HK
    obtain ⟨kq, x5_199, rfl, HA, HQ1, HS, HK⟩ := hcut
    cases kq with
    | zero => exact absurd HA.out (by simp [chat_talk_reaches_i1.l199])
    | succ k1 =>
      have H := HA.out
      clear HA
      simp only [chat_talk_reaches_i1.l199] at H
      by_cases c8 : a0_0 = 1
      · rw [if_pos c8] at H
        have c8b0 : (a0_0 == 1) = true := beq_iff_eq.mpr c8
        have c8b1 : (a0_0 != 1) = false := bne_eq_false_iff_eq.mpr c8
        clear c8
        replace H := Option.bind_eq_some_iff.1 H
        obtain ⟨y182, hy1820, H⟩ := H
        try dsimp only at H
        have hy182 := Option.some.inj hy1820
        clear hy1820
        have Ny182 := Aside0.mk hy182
        clear hy182
        replace H := Option.bind_eq_some_iff.1 H
        obtain ⟨y183, hy1830, H⟩ := H
        try dsimp only at H
        have hy183 := Option.some.inj hy1830
        clear hy1830
        have Ny183 := Aside0.mk hy183
        clear hy183
        replace H := Option.bind_eq_some_iff.1 H
        obtain ⟨t184, Hc90, H⟩ := H
        try dsimp only at H
        have Hc9 := Aside0.mk Hc90
        clear Hc90
        obtain rfl := Option.some.inj H
        have hb_ := SL.at_ HS.out
        have hz3000014_0_0 := ((blk_cell hb_ 0).trans rfl : _ = some (.int .i64 a0_0))
        have hz3000014_1_0 := ((blk_cell hb_ 1).trans rfl : _ = some (.int .i64 a0_1))
        have hz3000014_2_0 := ((blk_cell hb_ 2).trans rfl : _ = some (.int .i64 a0_2))
        have hz3000014_3_0 := ((blk_cell hb_ 3).trans rfl : _ = some (.int .i64 a0_3))
        have hz3000014_4_0 := ((blk_cell hb_ 4).trans rfl : _ = some (.map (some b0)))
        have hz3000014_5_0 := ((blk_cell hb_ 5).trans rfl : _ = some (.slice A0_5 l0_5.length c0_5))
        clear hb_
        go_wp2_with (first | ((with_reducible refine gate_dst (N := 25) rfl ?_); refine wpList_plain rfl (fun K_ hK_ => ?_); refine op_lookup1 (keyL_int (β := S42) (P := Try.prog) Try.underlying3) z42 (.tmp 22) (.tmp 24) rfl Try.underlying47 (by kernel_rfl) b0 rfl a0_1 (by rfl) (SL.get1 HS.out) y182 Ny182.out (.agg #[.int .i64 y182.f0, .int .i64 y182.f1]) rfl ?_; refine hK_ _ _ ?_; clear hK_ K_) | ((with_reducible refine gate_dst (N := 29) rfl ?_); refine wpList_plain rfl (fun K_ hK_ => ?_); refine op_lookup1 (keyL_int (β := S42) (P := Try.prog) Try.underlying3) z42 (.tmp 27) (.tmp 28) rfl Try.underlying47 (by kernel_rfl) b0 rfl a1 (by rfl) (SL.get1 HS.out) y183 Ny183.out (.agg #[.int .i64 y183.f0, .int .i64 y183.f1]) rfl ?_; refine hK_ _ _ ?_; clear hK_ K_) | ((with_reducible refine gate_dst (N := 32) rfl ?_); refine goesL_ (some 32) rfl rfl Try.func36 (by kernel_rfl) rfl #[.agg #[.int .i64 y182.f0, .int .i64 y182.f1], .agg #[.int .i64 y183.f0, .int .i64 y183.f1], .int .i64 a0_3] rfl (by (try simp only [List.map_toArray, List.map_cons, List.map_nil]); first | done | rfl | (simp; done)) ?_; (with_reducible refine (grid_Near.calls k1 _ _ _ _ _ _ _  Hc9.out).mono ?_); rintro e_ w12 ⟨rfl, hb_⟩; refine ⟨_, rfl, ?_⟩; replace HS := Aside0.mk (HS.out.below hb_); replace HK := Aside0.mk (HK.out.trans (Keep.below hb_)); (try clear hz3000014_0_0 hz3000014_1_0 hz3000014_2_0 hz3000014_3_0 hz3000014_4_0 hz3000014_5_0)))
        go_ret
        replace HS := Aside0.mk (SL.tail HS.out)
        unfold chat_talk_reaches_i1.Post
        exact ⟨by first | rfl | (simp; done) | (simp [*]; done) | (simp at c8b0 ⊢; first | exact c8b0 | (simp [c8b0]; done)), HS.out, HK.out⟩
      · rw [if_neg c8] at H
        have c8b0 : (a0_0 == 1) = false := beq_eq_false_iff_ne.mpr c8
        have c8b1 : (a0_0 != 1) = true := bne_iff_ne.mpr c8
        by_cases c13 : a0_0 = 2
        · rw [if_pos c13] at H
          have c13b0 : (a0_0 == 2) = true := beq_iff_eq.mpr c13
          have c13b1 : (a0_0 != 2) = false := bne_eq_false_iff_eq.mpr c13
          clear c13
          obtain rfl := Option.some.inj H
          have hb_ := SL.at_ HS.out
          have hz3000014_0_0 := ((blk_cell hb_ 0).trans rfl : _ = some (.int .i64 a0_0))
          have hz3000014_1_0 := ((blk_cell hb_ 1).trans rfl : _ = some (.int .i64 a0_1))
          have hz3000014_2_0 := ((blk_cell hb_ 2).trans rfl : _ = some (.int .i64 a0_2))
          have hz3000014_3_0 := ((blk_cell hb_ 3).trans rfl : _ = some (.int .i64 a0_3))
          have hz3000014_4_0 := ((blk_cell hb_ 4).trans rfl : _ = some (.map (some b0)))
          have hz3000014_5_0 := ((blk_cell hb_ 5).trans rfl : _ = some (.slice A0_5 l0_5.length c0_5))
          clear hb_
          go_wp2
          go_ret
          replace HS := Aside0.mk (SL.tail HS.out)
          unfold chat_talk_reaches_i1.Post
          exact ⟨by first | rfl | (simp; done) | (simp [*]; done) | (simp at c13b0 ⊢; first | exact c13b0 | (simp [c13b0]; done)), HS.out, HK.out⟩
        · rw [if_neg c13] at H
          have c13b0 : (a0_0 == 2) = false := beq_eq_false_iff_ne.mpr c13
          have c13b1 : (a0_0 != 2) = true := bne_iff_ne.mpr c13
          by_cases c14 : a0_0 = 3
          · rw [if_pos c14] at H
            have c14b0 : (a0_0 == 3) = true := beq_iff_eq.mpr c14
            have c14b1 : (a0_0 != 3) = false := bne_eq_false_iff_eq.mpr c14
            clear c14
            by_cases c15 : x5_199 = true
            · subst c15
              rw [if_pos rfl] at H
              replace H := Option.bind_eq_some_iff.1 H
              obtain ⟨t185, Hc160, H⟩ := H
              try dsimp only at H
              have Hc16 := Aside0.mk Hc160
              clear Hc160
              replace H := Option.bind_eq_some_iff.1 H
              obtain ⟨t186, Hc170, H⟩ := H
              try dsimp only at H
              have Hc17 := Aside0.mk Hc170
              clear Hc170
              obtain rfl := Option.some.inj H
              have hb_ := SL.at_ HS.out
              have hz3000014_0_0 := ((blk_cell hb_ 0).trans rfl : _ = some (.int .i64 a0_0))
              have hz3000014_1_0 := ((blk_cell hb_ 1).trans rfl : _ = some (.int .i64 a0_1))
              have hz3000014_2_0 := ((blk_cell hb_ 2).trans rfl : _ = some (.int .i64 a0_2))
              have hz3000014_3_0 := ((blk_cell hb_ 3).trans rfl : _ = some (.int .i64 a0_3))
              have hz3000014_4_0 := ((blk_cell hb_ 4).trans rfl : _ = some (.map (some b0)))
              have hz3000014_5_0 := ((blk_cell hb_ 5).trans rfl : _ = some (.slice A0_5 l0_5.length c0_5))
              clear hb_
              try go_wp2
              refine start_ (n := 14) (S := fun w' => w'.cell? ⟨g3000014, 5, none⟩ = some (.slice A0_5 l0_5.length c0_5) ∧ w'.cell? ⟨g3000014, 1, none⟩ = some (.int .i64 a0_1)) (ds := []) #[false, false, false, false, false, false, false, false, false, false, false, false, false, false] (by kernel_rfl) rfl rfl ⟨(((blk_cell (SL.at_ HS.out) 5).trans rfl)), (((blk_cell (SL.at_ HS.out) 1).trans rfl))⟩ (fun hHeld => ?_); refine with_tabW chat_talk_reaches_i1.tab8 chat_talk_reaches_i1.bits8 (fun HT_ HW_ => ?_)
              replace HK := Aside0.mk (Keep.drew HK.out)
              replace HS := Aside0.mk (SL.drew HS.out)
              refine pure_ (i := 0) (N := some 38) (v := ?_) (a' := ?_) #[true, false, false, false, false, false, false, false, false, false, false, false, false, false] rfl rfl (any_of HT_.out (by kernel_rfl)) (fun _ _ _ h => h) (Or.inl ⟨by rfl, ?_⟩) ?_ ?_; rotate_left; · (intro w'; go_simp; with_reducible rfl)
              rotate_left; · (simp only [Act.put, sT, sZ, sS, i64_w, i32_w]; rfl)
              refine pure_ (i := 1) (N := some 39) (v := ?_) (a' := ?_) #[true, true, false, false, false, false, false, false, false, false, false, false, false, false] rfl rfl (any_of HT_.out (by kernel_rfl)) (fun _ _ _ h => h) (Or.inl ⟨by rfl, ?_⟩) ?_ ?_; rotate_left; · (intro w'; go_simp; with_reducible rfl)
              rotate_left; · (simp only [Act.put, sT, sZ, sS, i64_w, i32_w]; rfl)
              refine pure_ (i := 2) (N := some 40) (v := ?_) (a' := ?_) #[true, true, true, false, false, false, false, false, false, false, false, false, false, false] rfl rfl (any_of HT_.out (by kernel_rfl)) (fun _ _ _ h => h) (Or.inl ⟨by rfl, ?_⟩) ?_ ?_; rotate_left; · (intro w'; go_simp; with_reducible rfl)
              rotate_left; · (simp only [Act.put, sT, sZ, sS, i64_w, i32_w]; rfl)
              refine pure_ (i := 4) (N := some 42) (v := ?_) (a' := ?_) #[true, true, true, false, true, false, false, false, false, false, false, false, false, false] rfl rfl (any_of HT_.out (by kernel_rfl)) (fun _ _ _ h => h) (Or.inl ⟨by rfl, ?_⟩) ?_ ?_; rotate_left; · (intro w'; go_simp; with_reducible rfl)
              rotate_left; · (simp only [Act.put, sT, sZ, sS, i64_w, i32_w]; rfl)
              refine pure_ (i := 7) (N := some 45) (v := ?_) (a' := ?_) #[true, true, true, false, true, false, false, true, false, false, false, false, false, false] rfl rfl (any_of HT_.out (by kernel_rfl)) (fun _ _ _ h => h) (Or.inl ⟨by rfl, ?_⟩) ?_ ?_; rotate_left; · (intro w'; go_simp; with_reducible rfl)
              rotate_left; · (simp only [Act.put, sT, sZ, sS, i64_w, i32_w]; rfl)
              refine pure_ (i := 9) (N := some 47) (v := ?_) (a' := ?_) #[true, true, true, false, true, false, false, true, false, true, false, false, false, false] rfl rfl (any_of HT_.out (by kernel_rfl)) (fun _ _ _ h => h) (Or.inl ⟨by rfl, ?_⟩) ?_ ?_; rotate_left; · (intro w'; go_simp; with_reducible rfl)
              rotate_left; · (simp only [Act.put, sT, sZ, sS, i64_w, i32_w]; rfl)
              refine take_ (i := 3) (N := some 41) (v := ?_) (a' := ?_) #[true, true, true, true, true, false, false, true, false, true, false, false, false, false] rfl rfl (take_ofW HT_.out HW_.out (by kernel_rfl)) (fun _ _ _ h => h) (Or.inl ⟨by rfl, ?_⟩) hHeld ?_ ?_; rotate_left
              · rintro w' ⟨s0, s1⟩
                go_simp
                with_reducible rfl
              rotate_left; · (simp only [Act.put, sT, sZ, sS, i64_w, i32_w]; rfl)
              refine take_ (i := 5) (N := some 43) (v := ?_) (a' := ?_) #[true, true, true, true, true, true, false, true, false, true, false, false, false, false] rfl rfl (take_ofW HT_.out HW_.out (by kernel_rfl)) (fun _ _ _ h => h) (Or.inl ⟨by rfl, ?_⟩) hHeld ?_ ?_; rotate_left
              · rintro w' ⟨s0, s1⟩
                go_simp
                with_reducible rfl
              rotate_left; · (simp only [Act.put, sT, sZ, sS, i64_w, i32_w]; rfl)
              refine take_ (i := 8) (N := some 46) (v := ?_) (a' := ?_) #[true, true, true, true, true, true, false, true, true, true, false, false, false, false] rfl rfl (take_ofW HT_.out HW_.out (by kernel_rfl)) (fun _ _ _ h => h) (Or.inl ⟨by rfl, ?_⟩) hHeld ?_ ?_; rotate_left
              · rintro w' ⟨s0, s1⟩
                go_simp
                with_reducible rfl
              rotate_left; · (simp only [Act.put, sT, sZ, sS, i64_w, i32_w]; rfl)
              refine one_ (i := 6) (N := some 44) #[true, true, true, true, true, true, true, true, true, true, false, false, false, false] rfl rfl (one_of HT_.out (by kernel_rfl)) (by decide) (fun K hK => ?_)
              refine goes_ Try.func37 (by kernel_rfl) rfl #[.slice A0_5 l0_5.length c0_5, .int .i64 a0_1] (by rfl) rfl rfl (by (try simp only [List.map_toArray, List.map_cons, List.map_nil]); first | done | rfl | (simp; done)) ?_
              (with_reducible refine (roster_Group.calls k1 _ _ _ _ _ _ (RO.at_ HR0_5.out HK.out) HC0_5.out Hc16.out).mono ?_)
              rintro e_ w18 ⟨rfl, hb_⟩
              refine ⟨_, rfl, ?_⟩
              replace HS := Aside0.mk (HS.out.below hb_)
              replace HK := Aside0.mk (HK.out.trans (Keep.below hb_))
              refine hK.out _ _ ⟨(((blk_cell (SL.at_ HS.out) 5).trans rfl)), (((blk_cell (SL.at_ HS.out) 1).trans rfl))⟩ (fun hHeld => ?_)
              clear hK K
              refine norm_ (a' := ?_) ?_ ?_; rotate_left
              · show Act.put _ (some 44) _ = _
                simp only [Act.put, sT, sZ, sS, i64_w, i32_w]
                rfl
              refine one_ (i := 10) (N := some 48) #[true, true, true, true, true, true, true, true, true, true, true, false, false, false] rfl rfl (one_of HT_.out (by kernel_rfl)) (by decide) (fun K hK => ?_)
              refine goes_ Try.func37 (by kernel_rfl) rfl #[.slice A0_5 l0_5.length c0_5, .int .i64 a1] (by rfl) rfl rfl (by (try simp only [List.map_toArray, List.map_cons, List.map_nil]); first | done | rfl | (simp; done)) ?_
              (with_reducible refine (roster_Group.calls k1 _ _ _ _ _ _ (RO.at_ HR0_5.out HK.out) HC0_5.out Hc17.out).mono ?_)
              rintro e_ w19 ⟨rfl, hb_⟩
              refine ⟨_, rfl, ?_⟩
              replace HS := Aside0.mk (HS.out.below hb_)
              replace HK := Aside0.mk (HK.out.trans (Keep.below hb_))
              refine hK.out _ _ ⟨(((blk_cell (SL.at_ HS.out) 5).trans rfl)), (((blk_cell (SL.at_ HS.out) 1).trans rfl))⟩ (fun hHeld => ?_)
              clear hK K
              refine norm_ (a' := ?_) ?_ ?_; rotate_left
              · show Act.put _ (some 48) _ = _
                simp only [Act.put, sT, sZ, sS, i64_w, i32_w]
                rfl
              refine pure_ (i := 11) (N := some 49) (v := ?_) (a' := ?_) #[true, true, true, true, true, true, true, true, true, true, true, true, false, false] rfl rfl (any_of HT_.out (by kernel_rfl)) (fun _ _ _ h => h) (Or.inl ⟨by rfl, ?_⟩) ?_ ?_; rotate_left; · (intro w'; go_simp; with_reducible rfl)
              rotate_left; · (simp only [Act.put, sT, sZ, sS, i64_w, i32_w]; rfl)
              refine pure_ (i := 12) (N := some 50) (v := ?_) (a' := ?_) #[true, true, true, true, true, true, true, true, true, true, true, true, true, false] rfl rfl (any_of HT_.out (by kernel_rfl)) (fun _ _ _ h => h) (Or.inl ⟨by rfl, ?_⟩) ?_ ?_; rotate_left; · (intro w'; go_simp; with_reducible rfl)
              rotate_left; · (simp only [Act.put, sT, sZ, sS, i64_w, i32_w]; rfl)
              refine pure_ (i := 13) (N := some 4) (v := ?_) (a' := ?_) #[true, true, true, true, true, true, true, true, true, true, true, true, true, true] rfl rfl (any_of HT_.out (by kernel_rfl)) (fun _ _ _ h => h) (Or.inl ⟨by rfl, ?_⟩) ?_ ?_; rotate_left; · (intro w'; go_simp; with_reducible rfl)
              rotate_left; · (simp only [Act.put, sT, sZ, sS, i64_w, i32_w]; rfl)
              refine done_ (done_of HT_.out (by kernel_rfl)) ?_
              try go_wp2
              go_ret
              replace HS := Aside0.mk (SL.tail HS.out)
              unfold chat_talk_reaches_i1.Post
              exact ⟨by first | rfl | (simp; done) | (simp [*]; done) | (simp at c14b0 ⊢; first | exact c14b0 | (simp [c14b0]; done)), HS.out, HK.out⟩
            · replace c15 := Bool.eq_false_iff.mpr c15
              subst c15
              rw [if_neg (show ¬ (false = true) by decide)] at H
              obtain rfl := Option.some.inj H
              have hb_ := SL.at_ HS.out
              have hz3000014_0_0 := ((blk_cell hb_ 0).trans rfl : _ = some (.int .i64 a0_0))
              have hz3000014_1_0 := ((blk_cell hb_ 1).trans rfl : _ = some (.int .i64 a0_1))
              have hz3000014_2_0 := ((blk_cell hb_ 2).trans rfl : _ = some (.int .i64 a0_2))
              have hz3000014_3_0 := ((blk_cell hb_ 3).trans rfl : _ = some (.int .i64 a0_3))
              have hz3000014_4_0 := ((blk_cell hb_ 4).trans rfl : _ = some (.map (some b0)))
              have hz3000014_5_0 := ((blk_cell hb_ 5).trans rfl : _ = some (.slice A0_5 l0_5.length c0_5))
              clear hb_
              try go_wp2
              refine start_ (n := 14) (S := fun w' => True) (ds := []) #[false, false, false, false, false, false, false, false, false, false, false, false, false, false] (by kernel_rfl) rfl rfl trivial (fun hHeld => ?_); refine with_tabW chat_talk_reaches_i1.tab8 chat_talk_reaches_i1.bits8 (fun HT_ HW_ => ?_)
              replace HK := Aside0.mk (Keep.drew HK.out)
              replace HS := Aside0.mk (SL.drew HS.out)
              refine pure_ (i := 0) (N := some 38) (v := ?_) (a' := ?_) #[true, false, false, false, false, false, false, false, false, false, false, false, false, false] rfl rfl (any_of HT_.out (by kernel_rfl)) (fun _ _ _ h => h) (Or.inl ⟨by rfl, ?_⟩) ?_ ?_; rotate_left; · (intro w'; go_simp; with_reducible rfl)
              rotate_left; · (simp only [Act.put, sT, sZ, sS, i64_w, i32_w]; rfl)
              refine pure_ (i := 1) (N := some 39) (v := ?_) (a' := ?_) #[true, true, false, false, false, false, false, false, false, false, false, false, false, false] rfl rfl (any_of HT_.out (by kernel_rfl)) (fun _ _ _ h => h) (Or.inl ⟨by rfl, ?_⟩) ?_ ?_; rotate_left; · (intro w'; go_simp; with_reducible rfl)
              rotate_left; · (simp only [Act.put, sT, sZ, sS, i64_w, i32_w]; rfl)
              refine pure_ (i := 2) (N := some 40) (v := undef) (a' := ?_) #[true, true, true, false, false, false, false, false, false, false, false, false, false, false] rfl rfl (any_of HT_.out (by kernel_rfl)) (fun _ _ _ h => h) (Or.inr ⟨by rfl, rfl⟩) ?_ ?_; rotate_left; · (simp only [Act.put, sT, sZ, sS, i64_w, i32_w]; rfl)
              refine pure_ (i := 3) (N := some 41) (v := undef) (a' := ?_) #[true, true, true, true, false, false, false, false, false, false, false, false, false, false] rfl rfl (any_of HT_.out (by kernel_rfl)) (fun _ _ _ h => h) (Or.inr ⟨by rfl, rfl⟩) ?_ ?_; rotate_left; · (simp only [Act.put, sT, sZ, sS, i64_w, i32_w]; rfl)
              refine pure_ (i := 4) (N := some 42) (v := undef) (a' := ?_) #[true, true, true, true, true, false, false, false, false, false, false, false, false, false] rfl rfl (any_of HT_.out (by kernel_rfl)) (fun _ _ _ h => h) (Or.inr ⟨by rfl, rfl⟩) ?_ ?_; rotate_left; · (simp only [Act.put, sT, sZ, sS, i64_w, i32_w]; rfl)
              refine pure_ (i := 5) (N := some 43) (v := undef) (a' := ?_) #[true, true, true, true, true, true, false, false, false, false, false, false, false, false] rfl rfl (any_of HT_.out (by kernel_rfl)) (fun _ _ _ h => h) (Or.inr ⟨by rfl, rfl⟩) ?_ ?_; rotate_left; · (simp only [Act.put, sT, sZ, sS, i64_w, i32_w]; rfl)
              refine pure_ (i := 6) (N := some 44) (v := undef) (a' := ?_) #[true, true, true, true, true, true, true, false, false, false, false, false, false, false] rfl rfl (any_of HT_.out (by kernel_rfl)) (fun _ _ _ h => h) (Or.inr ⟨by rfl, rfl⟩) ?_ ?_; rotate_left; · (simp only [Act.put, sT, sZ, sS, i64_w, i32_w]; rfl)
              refine pure_ (i := 7) (N := some 45) (v := undef) (a' := ?_) #[true, true, true, true, true, true, true, true, false, false, false, false, false, false] rfl rfl (any_of HT_.out (by kernel_rfl)) (fun _ _ _ h => h) (Or.inr ⟨by rfl, rfl⟩) ?_ ?_; rotate_left; · (simp only [Act.put, sT, sZ, sS, i64_w, i32_w]; rfl)
              refine pure_ (i := 8) (N := some 46) (v := undef) (a' := ?_) #[true, true, true, true, true, true, true, true, true, false, false, false, false, false] rfl rfl (any_of HT_.out (by kernel_rfl)) (fun _ _ _ h => h) (Or.inr ⟨by rfl, rfl⟩) ?_ ?_; rotate_left; · (simp only [Act.put, sT, sZ, sS, i64_w, i32_w]; rfl)
              refine pure_ (i := 9) (N := some 47) (v := undef) (a' := ?_) #[true, true, true, true, true, true, true, true, true, true, false, false, false, false] rfl rfl (any_of HT_.out (by kernel_rfl)) (fun _ _ _ h => h) (Or.inr ⟨by rfl, rfl⟩) ?_ ?_; rotate_left; · (simp only [Act.put, sT, sZ, sS, i64_w, i32_w]; rfl)
              refine pure_ (i := 10) (N := some 48) (v := undef) (a' := ?_) #[true, true, true, true, true, true, true, true, true, true, true, false, false, false] rfl rfl (any_of HT_.out (by kernel_rfl)) (fun _ _ _ h => h) (Or.inr ⟨by rfl, rfl⟩) ?_ ?_; rotate_left; · (simp only [Act.put, sT, sZ, sS, i64_w, i32_w]; rfl)
              refine pure_ (i := 11) (N := some 49) (v := undef) (a' := ?_) #[true, true, true, true, true, true, true, true, true, true, true, true, false, false] rfl rfl (any_of HT_.out (by kernel_rfl)) (fun _ _ _ h => h) (Or.inr ⟨by rfl, rfl⟩) ?_ ?_; rotate_left; · (simp only [Act.put, sT, sZ, sS, i64_w, i32_w]; rfl)
              refine pure_ (i := 12) (N := some 50) (v := ?_) (a' := ?_) #[true, true, true, true, true, true, true, true, true, true, true, true, true, false] rfl rfl (any_of HT_.out (by kernel_rfl)) (fun _ _ _ h => h) (Or.inl ⟨by rfl, ?_⟩) ?_ ?_; rotate_left; · (intro w'; go_simp; with_reducible rfl)
              rotate_left; · (simp only [Act.put, sT, sZ, sS, i64_w, i32_w]; rfl)
              refine pure_ (i := 13) (N := some 4) (v := ?_) (a' := ?_) #[true, true, true, true, true, true, true, true, true, true, true, true, true, true] rfl rfl (any_of HT_.out (by kernel_rfl)) (fun _ _ _ h => h) (Or.inl ⟨by rfl, ?_⟩) ?_ ?_; rotate_left; · (intro w'; go_simp; with_reducible rfl)
              rotate_left; · (simp only [Act.put, sT, sZ, sS, i64_w, i32_w]; rfl)
              refine done_ (done_of HT_.out (by kernel_rfl)) ?_
              try go_wp2
              go_ret
              replace HS := Aside0.mk (SL.tail HS.out)
              unfold chat_talk_reaches_i1.Post
              exact ⟨by first | rfl | (simp; done) | (simp [*]; done) | (simp at c14b0 ⊢; first | exact c14b0 | (simp [c14b0]; done)), HS.out, HK.out⟩
          · rw [if_neg c14] at H
            have c14b0 : (a0_0 == 3) = false := beq_eq_false_iff_ne.mpr c14
            have c14b1 : (a0_0 != 3) = true := bne_iff_ne.mpr c14
            by_cases c20 : a0_0 = 4
            · rw [if_pos c20] at H
              have c20b0 : (a0_0 == 4) = true := beq_iff_eq.mpr c20
              have c20b1 : (a0_0 != 4) = false := bne_eq_false_iff_eq.mpr c20
              clear c20
              by_cases c21 : a1 = a0_1
              · rw [if_pos c21] at H
                have c21b0 : (a1 == a0_1) = true := beq_iff_eq.mpr c21
                have c21b1 : (a1 != a0_1) = false := bne_eq_false_iff_eq.mpr c21
                clear c21
                obtain rfl := Option.some.inj H
                have hb_ := SL.at_ HS.out
                have hz3000014_0_0 := ((blk_cell hb_ 0).trans rfl : _ = some (.int .i64 a0_0))
                have hz3000014_1_0 := ((blk_cell hb_ 1).trans rfl : _ = some (.int .i64 a0_1))
                have hz3000014_2_0 := ((blk_cell hb_ 2).trans rfl : _ = some (.int .i64 a0_2))
                have hz3000014_3_0 := ((blk_cell hb_ 3).trans rfl : _ = some (.int .i64 a0_3))
                have hz3000014_4_0 := ((blk_cell hb_ 4).trans rfl : _ = some (.map (some b0)))
                have hz3000014_5_0 := ((blk_cell hb_ 5).trans rfl : _ = some (.slice A0_5 l0_5.length c0_5))
                clear hb_
                go_wp2
                go_ret
                replace HS := Aside0.mk (SL.tail HS.out)
                unfold chat_talk_reaches_i1.Post
                exact ⟨by first | rfl | (simp; done) | (simp [*]; done) | (simp at c21b0 ⊢; first | exact c21b0 | (simp [c21b0]; done)), HS.out, HK.out⟩
              · rw [if_neg c21] at H
                have c21b0 : (a1 == a0_1) = false := beq_eq_false_iff_ne.mpr c21
                have c21b1 : (a1 != a0_1) = true := bne_iff_ne.mpr c21
                by_cases c22 : a1 = a0_2
                · rw [if_pos c22] at H
                  have c22b0 : (a1 == a0_2) = true := beq_iff_eq.mpr c22
                  have c22b1 : (a1 != a0_2) = false := bne_eq_false_iff_eq.mpr c22
                  clear c22
                  obtain rfl := Option.some.inj H
                  have hb_ := SL.at_ HS.out
                  have hz3000014_0_0 := ((blk_cell hb_ 0).trans rfl : _ = some (.int .i64 a0_0))
                  have hz3000014_1_0 := ((blk_cell hb_ 1).trans rfl : _ = some (.int .i64 a0_1))
                  have hz3000014_2_0 := ((blk_cell hb_ 2).trans rfl : _ = some (.int .i64 a0_2))
                  have hz3000014_3_0 := ((blk_cell hb_ 3).trans rfl : _ = some (.int .i64 a0_3))
                  have hz3000014_4_0 := ((blk_cell hb_ 4).trans rfl : _ = some (.map (some b0)))
                  have hz3000014_5_0 := ((blk_cell hb_ 5).trans rfl : _ = some (.slice A0_5 l0_5.length c0_5))
                  clear hb_
                  go_wp2
                  go_ret
                  replace HS := Aside0.mk (SL.tail HS.out)
                  unfold chat_talk_reaches_i1.Post
                  exact ⟨by first | rfl | (simp; done) | (simp [*]; done) | (simp at c22b0 ⊢; first | exact c22b0 | (simp [c22b0]; done)), HS.out, HK.out⟩
                · rw [if_neg c22] at H
                  have c22b0 : (a1 == a0_2) = false := beq_eq_false_iff_ne.mpr c22
                  have c22b1 : (a1 != a0_2) = true := bne_iff_ne.mpr c22
                  obtain rfl := Option.some.inj H
                  have hb_ := SL.at_ HS.out
                  have hz3000014_0_0 := ((blk_cell hb_ 0).trans rfl : _ = some (.int .i64 a0_0))
                  have hz3000014_1_0 := ((blk_cell hb_ 1).trans rfl : _ = some (.int .i64 a0_1))
                  have hz3000014_2_0 := ((blk_cell hb_ 2).trans rfl : _ = some (.int .i64 a0_2))
                  have hz3000014_3_0 := ((blk_cell hb_ 3).trans rfl : _ = some (.int .i64 a0_3))
                  have hz3000014_4_0 := ((blk_cell hb_ 4).trans rfl : _ = some (.map (some b0)))
                  have hz3000014_5_0 := ((blk_cell hb_ 5).trans rfl : _ = some (.slice A0_5 l0_5.length c0_5))
                  clear hb_
                  go_wp2
                  go_ret
                  replace HS := Aside0.mk (SL.tail HS.out)
                  unfold chat_talk_reaches_i1.Post
                  exact ⟨by first | rfl | (simp; done) | (simp [*]; done) | (simp at c22b0 ⊢; first | exact c22b0 | (simp [c22b0]; done)), HS.out, HK.out⟩
            · rw [if_neg c20] at H
              have c20b0 : (a0_0 == 4) = false := beq_eq_false_iff_ne.mpr c20
              have c20b1 : (a0_0 != 4) = true := bne_iff_ne.mpr c20
              obtain rfl := Option.some.inj H
              have hb_ := SL.at_ HS.out
              have hz3000014_0_0 := ((blk_cell hb_ 0).trans rfl : _ = some (.int .i64 a0_0))
              have hz3000014_1_0 := ((blk_cell hb_ 1).trans rfl : _ = some (.int .i64 a0_1))
              have hz3000014_2_0 := ((blk_cell hb_ 2).trans rfl : _ = some (.int .i64 a0_2))
              have hz3000014_3_0 := ((blk_cell hb_ 3).trans rfl : _ = some (.int .i64 a0_3))
              have hz3000014_4_0 := ((blk_cell hb_ 4).trans rfl : _ = some (.map (some b0)))
              have hz3000014_5_0 := ((blk_cell hb_ 5).trans rfl : _ = some (.slice A0_5 l0_5.length c0_5))
              clear hb_
              go_wp2
              go_ret
              replace HS := Aside0.mk (SL.tail HS.out)
              unfold chat_talk_reaches_i1.Post
              exact ⟨by first | rfl | (simp; done) | (simp [*]; done) | (simp at c20b0 ⊢; first | exact c20b0 | (simp [c20b0]; done)), HS.out, HK.out⟩

end Go.Proofs.Ytdpeflbdoaccbaa.XCL
