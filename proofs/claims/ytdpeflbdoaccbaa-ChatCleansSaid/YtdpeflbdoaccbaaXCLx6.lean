-- Written by xprint.py (a program of this session) for this claim
import Derived.Test.YtdpeflbdoaccbaaSL7
import Derived.Test.YtdpeflbdoaccbaaSL5
import Derived.Test.YtdpeflbdoaccbaaSL4
import Derived.Test.YtdpeflbdoaccbaaXCLx0
import Derived.Test.YtdpeflbdoaccbaaXCLx2
import Derived.Test.YtdpeflbdoaccbaaXCLx4
import Derived.Test.YtdpeflbdoaccbaaXCLx5
namespace Go.Proofs.Ytdpeflbdoaccbaa.XCL
open Go.Proofs.YtdpeflbdoaccbaaV Go.Proofs.YtdpeflbdoaccbaaS
open Go.RowKit Go.Proofs.YtdpeflbdoaccbaaW.PrintWords Go.Proofs.YtdpeflbdoaccbaaW.PrintLast Go.Proofs.YtdpeflbdoaccbaaW.PrintMore
attribute [local go_sem] max2_int min2_int max_two min_two max_three min_three max_four min_four   -- for this text's walks alone
set_option linter.unusedVariables false
set_option linter.unusedSimpArgs false

/-! ### chat_Hear: function 8 -/
mutual
noncomputable def chat_Hear.l0 : Nat → (List (S71)) → (List (S46)) → Int → Int → Int → Int → (List (Int × S42)) → (List Int) → (List (Int × S42)) → Option ((List Int))
  | 0, _, _, _, _, _, _, _, _, _ => none
  | k + 1, l1, l2, a3, a4, a5, a6, t175, x18_0, y3000013_0 => if (y3000013_0).isEmpty = true then ((slices_Sort_int_int_c.f x18_0).bind fun t194 => (some t194)) else (everyOf y3000013_0 fun p193 => ((chat_talk_reaches_i1.f k a3 a4 a5 a6 l1 p193.1 t175).bind fun t195 => (if t195 = true then (if p193.1 = a4 then (chat_Hear.l299 k l1 l2 a3 a4 a5 a6 t175 x18_0 y3000013_0 p193 true) else ((chat_Mutes.f k l2 p193.1 a4).bind fun t196 => (chat_Hear.l299 k l1 l2 a3 a4 a5 a6 t175 x18_0 y3000013_0 p193 (!t196)))) else (chat_Hear.l299 k l1 l2 a3 a4 a5 a6 t175 x18_0 y3000013_0 p193 false))))
noncomputable def chat_Hear.l299 : Nat → (List (S71)) → (List (S46)) → Int → Int → Int → Int → (List (Int × S42)) → (List Int) → (List (Int × S42)) → (Int × S42) → Bool → Option ((List Int))
  | 0, _, _, _, _, _, _, _, _, _, _, _ => none
  | k + 1, l1, l2, a3, a4, a5, a6, t175, x18_0, y3000013_0, p193, x58_299 => if x58_299 = true then ((some (([p193.1] : List Int) : List Int)).bind fun y197 => (if x18_0.length + y197.length < 17592186044416 then ((some (x18_0 ++ y197 : List Int)).bind fun y198 => (chat_Hear.l0 k l1 l2 a3 a4 a5 a6 t175 y198 (mdel y3000013_0 p193.1))) else (none))) else (chat_Hear.l0 k l1 l2 a3 a4 a5 a6 t175 x18_0 (mdel y3000013_0 p193.1))
end
noncomputable def chat_Hear.f (k : Nat) (l0 : List (S44)) (l1 : List (S71)) (l2 : List (S46)) (a3 : Int) (a4 : Int) (a5 : Int) (a6 : Int) : Option ((List Int)) := (chat_places.f k l0).bind fun t175 => ((some (mgetD z42 t175 a4 : S42)).bind fun y176 => ((some (mhas t175 a4 : Bool)).bind fun t177 => (if t177 = true then (chat_Hear.l0 k l1 l2 a3 a4 a5 a6 t175 ([] : List Int) t175) else (some ([] : List Int)))))
theorem chat_Hear.mono_l : ∀ k, (∀ y0 y1 y2 y3 y4 y5 y6 y7 y8, LeO (chat_Hear.l0 k y0 y1 y2 y3 y4 y5 y6 y7 y8) (chat_Hear.l0 (k + 1) y0 y1 y2 y3 y4 y5 y6 y7 y8)) ∧ (∀ y0 y1 y2 y3 y4 y5 y6 y7 y8 y9 y10, LeO (chat_Hear.l299 k y0 y1 y2 y3 y4 y5 y6 y7 y8 y9 y10) (chat_Hear.l299 (k + 1) y0 y1 y2 y3 y4 y5 y6 y7 y8 y9 y10))
  | 0 => ⟨fun _ _ _ _ _ _ _ _ _ r h => by simp [chat_Hear.l0] at h, fun _ _ _ _ _ _ _ _ _ _ _ r h => by simp [chat_Hear.l299] at h⟩
  | k + 1 => by
    obtain ⟨ih0, ih1⟩ := chat_Hear.mono_l k
    refine ⟨?_, ?_⟩
    · intro y0 y1 y2 y3 y4 y5 y6 y7 y8
      unfold chat_Hear.l0
      repeat' first
      | (with_reducible exact ih0 _ _ _ _ _ _ _ _ _)
      | (with_reducible exact ih1 _ _ _ _ _ _ _ _ _ _ _)
      | (with_reducible exact chat_Mutes.mono _ _ _ _)
      | (with_reducible exact chat_places.mono _ _)
      | (with_reducible exact chat_talk_reaches_i1.mono _ _ _ _ _ _ _ _)
      | (with_reducible exact LeO.refl _)
      | (with_reducible exact LeO.none _)
      | (with_reducible refine LeO.ite ?_ ?_)
      | (with_reducible refine everyOf_le (fun _ => ?_))
      | (with_reducible refine LeO.bind ?_ (fun _ => ?_))
      | exact ih0 _ _ _ _ _ _ _ _ _
      | exact ih1 _ _ _ _ _ _ _ _ _ _ _
      | exact chat_Mutes.mono _ _ _ _
      | exact chat_places.mono _ _
      | exact chat_talk_reaches_i1.mono _ _ _ _ _ _ _ _
      | exact LeO.none _
      | refine LeO.ite ?_ ?_
      | refine LeO.bind ?_ (fun _ => ?_)
    · intro y0 y1 y2 y3 y4 y5 y6 y7 y8 y9 y10
      unfold chat_Hear.l299
      repeat' first
      | (with_reducible exact ih0 _ _ _ _ _ _ _ _ _)
      | (with_reducible exact ih1 _ _ _ _ _ _ _ _ _ _ _)
      | (with_reducible exact chat_Mutes.mono _ _ _ _)
      | (with_reducible exact chat_places.mono _ _)
      | (with_reducible exact chat_talk_reaches_i1.mono _ _ _ _ _ _ _ _)
      | (with_reducible exact LeO.refl _)
      | (with_reducible exact LeO.none _)
      | (with_reducible refine LeO.ite ?_ ?_)
      | (with_reducible refine everyOf_le (fun _ => ?_))
      | (with_reducible refine LeO.bind ?_ (fun _ => ?_))
      | exact ih0 _ _ _ _ _ _ _ _ _
      | exact ih1 _ _ _ _ _ _ _ _ _ _ _
      | exact chat_Mutes.mono _ _ _ _
      | exact chat_places.mono _ _
      | exact chat_talk_reaches_i1.mono _ _ _ _ _ _ _ _
      | exact LeO.none _
      | refine LeO.ite ?_ ?_
      | refine LeO.bind ?_ (fun _ => ?_)
theorem chat_Hear.mono : ∀ a0 a1 a2 a3 a4 a5 a6 k, LeO (chat_Hear.f k a0 a1 a2 a3 a4 a5 a6) (chat_Hear.f (k + 1) a0 a1 a2 a3 a4 a5 a6) := by
  intro a0 a1 a2 a3 a4 a5 a6 k
  obtain ⟨ih0, ih1⟩ := chat_Hear.mono_l k
  unfold chat_Hear.f
  repeat' first
      | (with_reducible exact ih0 _ _ _ _ _ _ _ _ _)
      | (with_reducible exact ih1 _ _ _ _ _ _ _ _ _ _ _)
      | (with_reducible exact chat_Mutes.mono _ _ _ _)
      | (with_reducible exact chat_places.mono _ _)
      | (with_reducible exact chat_talk_reaches_i1.mono _ _ _ _ _ _ _ _)
      | (with_reducible exact LeO.refl _)
      | (with_reducible exact LeO.none _)
      | (with_reducible refine LeO.ite ?_ ?_)
      | (with_reducible refine everyOf_le (fun _ => ?_))
      | (with_reducible refine LeO.bind ?_ (fun _ => ?_))
      | exact ih0 _ _ _ _ _ _ _ _ _
      | exact ih1 _ _ _ _ _ _ _ _ _ _ _
      | exact chat_Mutes.mono _ _ _ _
      | exact chat_places.mono _ _
      | exact chat_talk_reaches_i1.mono _ _ _ _ _ _ _ _
      | exact LeO.none _
      | refine LeO.ite ?_ ?_
      | refine LeO.bind ?_ (fun _ => ?_)
def chat_Hear.Post (r : List Int) (S : Nat → Prop) (L : List Asr) (w : World) (e : Ending) (w' : World) : Prop := ∃ (Ar1 : Option Addr) (cr1 : Nat), e = .returned (.slice Ar1 r.length cr1) ∧ SL (row (Kd.int .i64) 3 (.slice Ar1 r.length cr1) r :: L) w' S ∧ Keep S w w'
set_option maxHeartbeats 8000000 in
set_option maxRecDepth 100000 in
theorem chat_Hear.slcalls (k : Nat) (A0 : Option Addr) (c0 : Nat) (l0 : List (S44)) (A1 : Option Addr) (c1 : Nat) (l1 : List (S71)) (A2 : Option Addr) (c2 : Nat) (l2 : List (S46)) (a3 : Int) (a4 : Int) (a5 : Int) (a6 : Int) (r : List Int) (S : Nat → Prop) (L : List Asr) (w : World) (hf : Fresh S w) (hs : SL (L) w S) (hr0 : RO S w (fun w_ => Kd.C k44 w_ A0 l0.length l0)) (hc0 : l0.length ≤ c0) (hr1 : RO S w (fun w_ => Kd.C k71 w_ A1 l1.length l1)) (hc1 : l1.length ≤ c1) (hr2 : RO S w (fun w_ => Kd.C k46 w_ A2 l2.length l2)) (hc2 : l2.length ≤ c2) (h : chat_Hear.f k l0 l1 l2 a3 a4 a5 a6 = some r) :
    Calls Try.prog 8 #[.slice A0 l0.length c0, .slice A1 l1.length c1, .slice A2 l2.length c2, .int .i64 a3, .int .i64 a4, .int .i64 a5, .int .i64 a6] w (chat_Hear.Post r S L w) := by
  have HR0 := Aside0.mk hr0
  have HC0 := Aside0.mk hc0
  clear hr0 hc0
  have HR1 := Aside0.mk hr1
  have HC1 := Aside0.mk hc1
  clear hr1 hc1
  have HR2 := Aside0.mk hr2
  have HC2 := Aside0.mk hc2
  clear hr2 hc2
  have HF := Aside0.mk hf
  have HS := Aside0.mk hs
  have HK := Aside0.mk (Keep.refl S w)
  clear hf hs
  have hu42 := Try.underlying42
  have hu50 := Try.underlying50
  have H : ((chat_places.f k l0).bind fun t175 => ((some (mgetD z42 t175 a4 : S42)).bind fun y176 => ((some (mhas t175 a4 : Bool)).bind fun t177 => (if t177 = true then (chat_Hear.l0 k l1 l2 a3 a4 a5 a6 t175 ([] : List Int) t175) else (some ([] : List Int)))))) = some r := h
  clear h
  replace H := Option.bind_eq_some_iff.1 H
  obtain ⟨t175, Hc10, H⟩ := H
  try dsimp only at H
  have Hc1 := Aside0.mk Hc10
  clear Hc10
  replace H := Option.bind_eq_some_iff.1 H
  obtain ⟨y176, hy1760, H⟩ := H
  try dsimp only at H
  have hy176 := Option.some.inj hy1760
  clear hy1760
  have Ny176 := Aside0.mk hy176
  clear hy176
  replace H := Option.bind_eq_some_iff.1 H
  obtain ⟨t177, ht1770, H⟩ := H
  try dsimp only at H
  have ht177 := Option.some.inj ht1770
  clear ht1770
  have Nt177 := Aside0.mk ht177
  clear ht177
  have H' := Aside0.mk H
  clear H
  go_enter Try.func8, Try.ntmps8
  go_wp2_with (first | ((with_reducible refine gate_dst (N := 25) rfl ?_); refine goesL_ (some 25) rfl rfl Try.func23 (by kernel_rfl) rfl #[.slice A0 l0.length c0] rfl (by (try simp only [List.map_toArray, List.map_cons, List.map_nil]); first | done | rfl | (simp; done)) ?_; have hs0_ := HS.out; (with_reducible refine (chat_places.slcalls k _ _ _ _ _ _ _ (HF.out.keep HK.out) hs0_ (HR0.out.keep HK.out) HC0.out Hc1.out).mono ?_); rintro e_ w2 ⟨g3000010, zs3000010, zc3000010, rfl, hsr_, hkr_⟩; refine ⟨_, rfl, ?_⟩; replace HS := Aside0.mk (hsr_); replace HK := Aside0.mk (HK.out.trans hkr_)) | ((with_reducible refine gate_dst (N := 15) rfl ?_); refine wpList_plain rfl (fun K_ hK_ => ?_); refine op_box (S := S) (cs := #[.int .i64 0, .int .i64 0, .int .i64 0, .int .i64 0, .map none, .slice none 0 0]) (t := 50) (HF.out.keep HK.out) HS.out (by first | (go_simp; done) | (go_simp; rfl)) ?_; intro g3000011 w3 hs_ hk_; refine hK_ _ _ ?_; clear hK_ K_; replace HS := Aside0.mk (hs_); replace HK := Aside0.mk (HK.out.trans hk_)) | ((with_reducible refine gate_store (t := 50) (p := 15) (v := (.tmp 27)) rfl ?_); refine wpList_plain rfl (fun K_ hK_ => ?_); refine op_store (S := S) 50 (.tmp 15) (.tmp 27) rfl g3000011 0 (.agg #[.int .i64 a3, .int .i64 a4, .int .i64 a5, .int .i64 a6, .map (some g3000010), .slice A1 l1.length c1]) [.int .i64 a3, .int .i64 a4, .int .i64 a5, .int .i64 a6, .map (some g3000010), .slice A1 l1.length c1] rfl rfl rfl (by kernel_rfl) (by simp [Value.oneCell']) HS.out (by simp) ?_; intro w4 hs_ hk_; refine hK_ _ _ ?_; clear hK_ K_; replace HS := Aside0.mk ((show SL (cells g3000011 50 [.int .i64 a3, .int .i64 a4, .int .i64 a5, .int .i64 a6, .map (some g3000010), .slice A1 l1.length c1].toArray :: _) _ _ from hs_)); replace HK := Aside0.mk (HK.out.trans hk_); have hb_ := SL.at_ HS.out; have hz3000011_0_3 := ((blk_cell hb_ 0).trans rfl : _ = some (.int .i64 a3)); have hz3000011_1_3 := ((blk_cell hb_ 1).trans rfl : _ = some (.int .i64 a4)); have hz3000011_2_3 := ((blk_cell hb_ 2).trans rfl : _ = some (.int .i64 a5)); have hz3000011_3_3 := ((blk_cell hb_ 3).trans rfl : _ = some (.int .i64 a6)); have hz3000011_4_3 := ((blk_cell hb_ 4).trans rfl : _ = some (.map (some g3000010))); have hz3000011_5_3 := ((blk_cell hb_ 5).trans rfl : _ = some (.slice A1 l1.length c1)); clear hb_) | ((with_reducible refine gate_dst (N := 32) rfl ?_); refine wpList_plain rfl (fun K_ hK_ => ?_); refine op_lookup (keyL_int (β := S42) (P := Try.prog) Try.underlying3) z42 (.tmp 30) (.tmp 31) rfl Try.underlying47 (by kernel_rfl) g3000010 rfl a4 (by rfl) (SL.get1 HS.out) y176 Ny176.out t177 Nt177.out (.agg #[.int .i64 y176.f0, .int .i64 y176.f1]) rfl ?_; refine hK_ _ _ ?_; clear hK_ K_) | ((with_reducible refine gate_dst (N := 16) rfl ?_); refine wpList_plain rfl (fun K_ hK_ => ?_); refine op_box (S := S) (cs := #[.int .i64 0, .int .i64 0]) (t := 42) (HF.out.keep HK.out) HS.out (by first | (go_simp; done) | (go_simp; rfl)) ?_; intro g3000012 w6 hs_ hk_; refine hK_ _ _ ?_; clear hK_ K_; replace HS := Aside0.mk (hs_); replace HK := Aside0.mk (HK.out.trans hk_); (try clear hz3000011_0_3 hz3000011_1_3 hz3000011_2_3 hz3000011_3_3 hz3000011_4_3 hz3000011_5_3)) | ((with_reducible refine gate_store (t := 42) (p := 16) (v := (.tmp 33)) rfl ?_); refine wpList_plain rfl (fun K_ hK_ => ?_); refine op_store (S := S) 42 (.tmp 16) (.tmp 33) rfl g3000012 0 (.agg #[.int .i64 y176.f0, .int .i64 y176.f1]) [.int .i64 y176.f0, .int .i64 y176.f1] rfl rfl rfl (by kernel_rfl) (by simp [Value.oneCell']) HS.out (by simp) ?_; intro w7 hs_ hk_; refine hK_ _ _ ?_; clear hK_ K_; replace HS := Aside0.mk ((show SL (cells g3000012 42 [.int .i64 y176.f0, .int .i64 y176.f1].toArray :: _) _ _ from hs_)); replace HK := Aside0.mk (HK.out.trans hk_); refine stop_ ?_; intro G_ hG_))
  have H := H'.out
  clear H'
  by_cases c8 : t177 = true
  · subst c8
    rw [if_pos rfl] at H
    have H' := Aside0.mk H
    clear H
    have hb_ := SL.at_ (SL.get1 HS.out)
    have hz3000011_0_0 := ((blk_cell hb_ 0).trans rfl : _ = some (.int .i64 a3))
    have hz3000011_1_0 := ((blk_cell hb_ 1).trans rfl : _ = some (.int .i64 a4))
    have hz3000011_2_0 := ((blk_cell hb_ 2).trans rfl : _ = some (.int .i64 a5))
    have hz3000011_3_0 := ((blk_cell hb_ 3).trans rfl : _ = some (.int .i64 a6))
    have hz3000011_4_0 := ((blk_cell hb_ 4).trans rfl : _ = some (.map (some g3000010)))
    have hz3000011_5_0 := ((blk_cell hb_ 5).trans rfl : _ = some (.slice A1 l1.length c1))
    clear hb_
    refine hG_.out ?_
    go_wp2_with (first | ((with_reducible refine gate_dst (N := 39) rfl ?_); refine wpList_plain rfl (fun K_ hK_ => ?_); refine op_range (S := S) (.tmp 38) rfl Try.underlying47 g3000010 rfl (HF.out.keep HK.out) (SL.get2 HS.out) ?_; intro g3000013 w9 hs_ hk_; refine hK_ _ _ ?_; clear hK_ K_; replace HS := Aside0.mk ((SL.get3 (SL.get3 (SL.get3 (SL.get1 (show SL (iter g3000013 g3000010 t175 zs3000010 zc3000010 t175 :: _) _ _ from hs_)))))); replace HK := Aside0.mk (HK.out.trans hk_); (try clear hz3000011_0_0 hz3000011_1_0 hz3000011_2_0 hz3000011_3_0 hz3000011_4_0 hz3000011_5_0); have n2_ := Aside0.mk (SL.nil_row (Kd.int .i64) 3 HS.out); clear HS; have HS := n2_; clear n2_))
    try go_simp
    go_loopg [18] k (fun kq v18 w' => ∃ (x18_0 : List Int) (Ax18_0 : Option Addr) (cx18_0 : Nat) (y3000013_0 : List (Int × S42)), v18 = .slice Ax18_0 x18_0.length cx18_0 ∧ Aside0 (chat_Hear.l0 kq l1 l2 a3 a4 a5 a6 t175 x18_0 y3000013_0 = some r) ∧ Aside0 (kq ≤ k) ∧ Aside0 (SL (row (Kd.int .i64) 3 (.slice Ax18_0 x18_0.length cx18_0) x18_0 :: iter g3000013 g3000010 t175 zs3000010 zc3000010 y3000013_0 :: cells g3000012 42 [.int .i64 y176.f0, .int .i64 y176.f1].toArray :: cells g3000011 50 [.int .i64 a3, .int .i64 a4, .int .i64 a5, .int .i64 a6, .map (some g3000010), .slice A1 l1.length c1].toArray :: mapo g3000010 (Value.int .i64) (fun x_ : S42 => Value.agg #[.int .i64 x_.f0, .int .i64 x_.f1]) t175 zs3000010 zc3000010 :: L) w' S) ∧ Aside0 (Keep S w w'))
    case atStart => exact ⟨(([] : List Int)), (none), (0), (t175), (by first | rfl | (simp; done) | (simp [*]; done)), H', ⟨Nat.le_refl _⟩, HS, HK⟩
    case round =>
      clear H' HS HK
      try clear hz3000011_0_0 hz3000011_1_0 hz3000011_2_0 hz3000011_3_0 hz3000011_4_0 hz3000011_5_0
      obtain ⟨x18_0, Ax18_0, cx18_0, y3000013_0, rfl, HA, HQ1, HS, HK⟩ := hrel
      cases gk with
      | zero => exact absurd HA.out (by simp [chat_Hear.l0])
      | succ k1 =>
        have H := HA.out
        clear HA
        simp only [chat_Hear.l0] at H
        by_cases c10 : (y3000013_0).isEmpty = true
        · rw [if_pos c10] at H
          replace H := Option.bind_eq_some_iff.1 H
          obtain ⟨t194, Hc110, H⟩ := H
          try dsimp only at H
          have Hc11 := Aside0.mk Hc110
          clear Hc110
          obtain rfl := Option.some.inj H
          go_wp2_with (first | ((with_reducible refine gate_dst (N := 40) rfl ?_); refine wpList_plain rfl (fun K_ hK_ => ?_); refine op_next_end (.tmp 39) rfl rfl (SL.get2 (SL.get4 HS.out)) c10 ?_; refine hK_ _ _ ?_; clear hK_ K_) | ((with_reducible refine gate_dst (N := 64) rfl ?_); refine goesL_ (some 64) rfl rfl Try.func25 (by kernel_rfl) rfl #[.slice Ax18_0 x18_0.length cx18_0] rfl (by (try simp only [List.map_toArray, List.map_cons, List.map_nil]); first | done | rfl | (simp; done)) ?_; have hs0_ := HS.out; (with_reducible refine (slices_Sort_int_int_c.slcalls _ _ _ _ _ _ _ (HF.out.keep HK.out) hs0_  Hc11.out).mono ?_); rintro e_ w13 ⟨rfl, hsr_, hkr_⟩; refine ⟨_, rfl, ?_⟩; replace HS := Aside0.mk (hsr_); replace HK := Aside0.mk (HK.out.trans hkr_)))
          go_ret
          replace HS := Aside0.mk (SL.tail (SL.get1 (SL.tail (SL.get1 (SL.tail (SL.get1 (SL.tail (SL.get1 HS.out))))))))
          unfold chat_Hear.Post
          have el14 := Aside0.mk (SL.row_c HS.out).1
          replace HS := Aside0.mk (SL.row_len HS.out)
          exact ⟨Ax18_0, cx18_0, by first | rfl | (simp; done) | (rw [← el14.out]; rfl) | (rw [← el14.out]) | (simp [*]; done), HS.out, HK.out⟩
        · rw [if_neg c10] at H
          have H' := Aside0.mk H
          clear H
          go_wp2_with (first | ((with_reducible refine gate_dst (N := 40) rfl ?_); refine wpList_plain rfl (fun K_ hK_ => ?_); refine op_next (.tmp 39) rfl rfl (SL.get2 (SL.get4 HS.out)) c10 ?_; intro p193 hp_p193 w15 hs_ hk_; refine hK_ _ _ ?_; clear hK_ K_; replace HS := Aside0.mk ((SL.get4 (SL.get3 (SL.get4 (SL.get4 (SL.get1 (show SL (iterAt g3000013 g3000010 t175 zs3000010 zc3000010 p193 (mdel y3000013_0 p193.1) :: _) _ _ from hs_))))))); replace HK := Aside0.mk (HK.out.trans hk_); refine stop_ ?_; intro G_ hG_))
          have H := everyOf_some H'.out p193 hp_p193
          clear H'
          try dsimp only at H
          have H' := Aside0.mk H
          clear H
          refine hG_.out ?_
          try go_upto_region 9 with (first | ((with_reducible refine gate_dst (N := 42) rfl ?_); refine wpList_plain rfl (fun K_ hK_ => ?_); refine op_entry (.tmp 39) rfl rfl (SL.get2 (SL.get4 HS.out)) (.int .i64 p193.1) (.agg #[.int .i64 p193.2.f0, .int .i64 p193.2.f1]) rfl rfl ?_; intro hs_; refine hK_ _ _ ?_; clear hK_ K_; have n2_ := Aside0.mk (SL.get4 (SL.get3 (SL.get4 (SL.get4 (SL.get1 (show SL (iter g3000013 g3000010 t175 zs3000010 zc3000010 (mdel y3000013_0 p193.1) :: _) _ _ from hs_)))))); clear HS hs_; have HS := n2_; clear n2_))
          (try simp only [Act.put, sT, sZ, sS])
          go_cut [58] (fun v58 wc => ∃ (kq : Nat) (x58_299 : Bool), v58 = .bool x58_299 ∧ Aside0 (chat_Hear.l299 kq l1 l2 a3 a4 a5 a6 t175 x18_0 y3000013_0 p193 x58_299 = some r) ∧ Aside0 (kq ≤ k1) ∧ Aside0 (SL (row (Kd.int .i64) 3 (.slice Ax18_0 x18_0.length cx18_0) x18_0 :: iter g3000013 g3000010 t175 zs3000010 zc3000010 (mdel y3000013_0 p193.1) :: cells g3000012 42 [.int .i64 y176.f0, .int .i64 y176.f1].toArray :: cells g3000011 50 [.int .i64 a3, .int .i64 a4, .int .i64 a5, .int .i64 a6, .map (some g3000010), .slice A1 l1.length c1].toArray :: mapo g3000010 (Value.int .i64) (fun x_ : S42 => Value.agg #[.int .i64 x_.f0, .int .i64 x_.f1]) t175 zs3000010 zc3000010 :: L) wc S) ∧ Aside0 (Keep S w wc))
          case first =>
            have H := H'.out
            clear H'
            replace H := Option.bind_eq_some_iff.1 H
            obtain ⟨t195, Hc170, H⟩ := H
            try dsimp only at H
            have Hc17 := Aside0.mk Hc170
            clear Hc170
            by_cases c18 : t195 = true
            · subst c18
              rw [if_pos rfl] at H
              by_cases c19 : p193.1 = a4
              · rw [if_pos c19] at H
                have c19b0 : (p193.1 == a4) = true := beq_iff_eq.mpr c19
                have c19b1 : (p193.1 != a4) = false := bne_eq_false_iff_eq.mpr c19
                clear c19
                have H' := Aside0.mk H
                clear H
                have hb_ := SL.at_ (SL.get3 HS.out)
                have hz3000011_0_0 := ((blk_cell hb_ 0).trans rfl : _ = some (.int .i64 a3))
                have hz3000011_1_0 := ((blk_cell hb_ 1).trans rfl : _ = some (.int .i64 a4))
                have hz3000011_2_0 := ((blk_cell hb_ 2).trans rfl : _ = some (.int .i64 a5))
                have hz3000011_3_0 := ((blk_cell hb_ 3).trans rfl : _ = some (.int .i64 a6))
                have hz3000011_4_0 := ((blk_cell hb_ 4).trans rfl : _ = some (.map (some g3000010)))
                have hz3000011_5_0 := ((blk_cell hb_ 5).trans rfl : _ = some (.slice A1 l1.length c1))
                clear hb_
                go_wp2_with (first | ((with_reducible refine gate_dst (N := 44) rfl ?_); refine wpList_loadA rfl 50 (.tmp 15) rfl _ rfl [.int .i64 a3, .int .i64 a4, .int .i64 a5, .int .i64 a6, .map (some g3000010), .slice A1 l1.length c1] _ (cells_at (SL.at_ (SL.get3 HS.out)) 0 _ rfl) Try.underlying50 rfl (by kernel_rfl) ?_) | ((with_reducible refine gate_dst (N := 46) rfl ?_); refine goesL_ (some 46) rfl rfl Try.func24 (by kernel_rfl) rfl #[.agg #[.int .i64 a3, .int .i64 a4, .int .i64 a5, .int .i64 a6, .map (some g3000010), .slice A1 l1.length c1], .int .i64 p193.1] rfl (by (try simp only [List.map_toArray, List.map_cons, List.map_nil]); first | done | rfl | (simp; done)) ?_; have hs0_ := (SL.get4 HS.out); (with_reducible refine (chat_talk_reaches_i1.slcalls k1 _ _ _ _ _ _ _ _ _ _ _ _ _ _ _ _ (HF.out.keep HK.out) hs0_ (HR1.out.keep HK.out) HC1.out Hc17.out).mono ?_); rintro e_ w20 ⟨rfl, hsr_, hkr_⟩; refine ⟨_, rfl, ?_⟩; replace HS := Aside0.mk (hsr_); replace HK := Aside0.mk (HK.out.trans hkr_); (try clear hz3000011_0_0 hz3000011_1_0 hz3000011_2_0 hz3000011_3_0 hz3000011_4_0 hz3000011_5_0)))
                replace HS := Aside0.mk (SL.get4 (SL.get4 (SL.get4 (SL.get4 HS.out))))
                go_meet
                case rel => exact ⟨k1, (true), (by first | rfl | (simp; done) | (simp [*]; done)), H', ⟨by have := HQ1.out; omega⟩, HS, HK⟩
              · rw [if_neg c19] at H
                have c19b0 : (p193.1 == a4) = false := beq_eq_false_iff_ne.mpr c19
                have c19b1 : (p193.1 != a4) = true := bne_iff_ne.mpr c19
                replace H := Option.bind_eq_some_iff.1 H
                obtain ⟨t196, Hc210, H⟩ := H
                try dsimp only at H
                have Hc21 := Aside0.mk Hc210
                clear Hc210
                have H' := Aside0.mk H
                clear H
                have hb_ := SL.at_ (SL.get3 HS.out)
                have hz3000011_0_0 := ((blk_cell hb_ 0).trans rfl : _ = some (.int .i64 a3))
                have hz3000011_1_0 := ((blk_cell hb_ 1).trans rfl : _ = some (.int .i64 a4))
                have hz3000011_2_0 := ((blk_cell hb_ 2).trans rfl : _ = some (.int .i64 a5))
                have hz3000011_3_0 := ((blk_cell hb_ 3).trans rfl : _ = some (.int .i64 a6))
                have hz3000011_4_0 := ((blk_cell hb_ 4).trans rfl : _ = some (.map (some g3000010)))
                have hz3000011_5_0 := ((blk_cell hb_ 5).trans rfl : _ = some (.slice A1 l1.length c1))
                clear hb_
                go_wp2_with (first | ((with_reducible refine gate_dst (N := 44) rfl ?_); refine wpList_loadA rfl 50 (.tmp 15) rfl _ rfl [.int .i64 a3, .int .i64 a4, .int .i64 a5, .int .i64 a6, .map (some g3000010), .slice A1 l1.length c1] _ (cells_at (SL.at_ (SL.get3 HS.out)) 0 _ rfl) Try.underlying50 rfl (by kernel_rfl) ?_) | ((with_reducible refine gate_dst (N := 46) rfl ?_); refine goesL_ (some 46) rfl rfl Try.func24 (by kernel_rfl) rfl #[.agg #[.int .i64 a3, .int .i64 a4, .int .i64 a5, .int .i64 a6, .map (some g3000010), .slice A1 l1.length c1], .int .i64 p193.1] rfl (by (try simp only [List.map_toArray, List.map_cons, List.map_nil]); first | done | rfl | (simp; done)) ?_; have hs0_ := (SL.get4 HS.out); (with_reducible refine (chat_talk_reaches_i1.slcalls k1 _ _ _ _ _ _ _ _ _ _ _ _ _ _ _ _ (HF.out.keep HK.out) hs0_ (HR1.out.keep HK.out) HC1.out Hc17.out).mono ?_); rintro e_ w22 ⟨rfl, hsr_, hkr_⟩; refine ⟨_, rfl, ?_⟩; replace HS := Aside0.mk (hsr_); replace HK := Aside0.mk (HK.out.trans hkr_); (try clear hz3000011_0_0 hz3000011_1_0 hz3000011_2_0 hz3000011_3_0 hz3000011_4_0 hz3000011_5_0)) | ((with_reducible refine gate_dst (N := 55) rfl ?_); (try (refine gate_guard (by rfl) ?_; dsimp only)); refine goesL_ (some 55) rfl rfl Try.func11 (by kernel_rfl) rfl #[.slice A2 l2.length c2, .int .i64 p193.1, .int .i64 a4] rfl (by (try simp only [List.map_toArray, List.map_cons, List.map_nil]); first | done | rfl | (simp; done)) ?_; (with_reducible refine (chat_Mutes.calls k1 _ _ _ _ _ _ _ (RO.at_ HR2.out HK.out) HC2.out Hc21.out).mono ?_); rintro e_ w23 ⟨rfl, hb_⟩; refine ⟨_, rfl, ?_⟩; replace HS := Aside0.mk (HS.out.below hb_); replace HK := Aside0.mk (HK.out.trans (Keep.below hb_))))
                replace HS := Aside0.mk (SL.get4 (SL.get4 (SL.get4 (SL.get4 HS.out))))
                go_meet
                case rel => exact ⟨k1, (!t196), (by first | rfl | (simp; done) | (simp [*]; done)), H', ⟨by have := HQ1.out; omega⟩, HS, HK⟩
            · replace c18 := Bool.eq_false_iff.mpr c18
              subst c18
              rw [if_neg (show ¬ (false = true) by decide)] at H
              have H' := Aside0.mk H
              clear H
              have hb_ := SL.at_ (SL.get3 HS.out)
              have hz3000011_0_0 := ((blk_cell hb_ 0).trans rfl : _ = some (.int .i64 a3))
              have hz3000011_1_0 := ((blk_cell hb_ 1).trans rfl : _ = some (.int .i64 a4))
              have hz3000011_2_0 := ((blk_cell hb_ 2).trans rfl : _ = some (.int .i64 a5))
              have hz3000011_3_0 := ((blk_cell hb_ 3).trans rfl : _ = some (.int .i64 a6))
              have hz3000011_4_0 := ((blk_cell hb_ 4).trans rfl : _ = some (.map (some g3000010)))
              have hz3000011_5_0 := ((blk_cell hb_ 5).trans rfl : _ = some (.slice A1 l1.length c1))
              clear hb_
              go_wp2_with (first | ((with_reducible refine gate_dst (N := 44) rfl ?_); refine wpList_loadA rfl 50 (.tmp 15) rfl _ rfl [.int .i64 a3, .int .i64 a4, .int .i64 a5, .int .i64 a6, .map (some g3000010), .slice A1 l1.length c1] _ (cells_at (SL.at_ (SL.get3 HS.out)) 0 _ rfl) Try.underlying50 rfl (by kernel_rfl) ?_) | ((with_reducible refine gate_dst (N := 46) rfl ?_); refine goesL_ (some 46) rfl rfl Try.func24 (by kernel_rfl) rfl #[.agg #[.int .i64 a3, .int .i64 a4, .int .i64 a5, .int .i64 a6, .map (some g3000010), .slice A1 l1.length c1], .int .i64 p193.1] rfl (by (try simp only [List.map_toArray, List.map_cons, List.map_nil]); first | done | rfl | (simp; done)) ?_; have hs0_ := (SL.get4 HS.out); (with_reducible refine (chat_talk_reaches_i1.slcalls k1 _ _ _ _ _ _ _ _ _ _ _ _ _ _ _ _ (HF.out.keep HK.out) hs0_ (HR1.out.keep HK.out) HC1.out Hc17.out).mono ?_); rintro e_ w24 ⟨rfl, hsr_, hkr_⟩; refine ⟨_, rfl, ?_⟩; replace HS := Aside0.mk (hsr_); replace HK := Aside0.mk (HK.out.trans hkr_); (try clear hz3000011_0_0 hz3000011_1_0 hz3000011_2_0 hz3000011_3_0 hz3000011_4_0 hz3000011_5_0)))
              replace HS := Aside0.mk (SL.get4 (SL.get4 (SL.get4 (SL.get4 HS.out))))
              go_meet
              case rel => exact ⟨k1, (false), (by first | rfl | (simp; done) | (simp [*]; done)), H', ⟨by have := HQ1.out; omega⟩, HS, HK⟩
          case rest =>
            clear H' HS HK
            obtain ⟨kq, x58_299, rfl, HA, HQ2, HS, HK⟩ := hcut
            cases kq with
            | zero => exact absurd HA.out (by simp [chat_Hear.l299])
            | succ k2 =>
              have H := HA.out
              clear HA
              simp only [chat_Hear.l299] at H
              by_cases c25 : x58_299 = true
              · subst c25
                rw [if_pos rfl] at H
                replace H := Option.bind_eq_some_iff.1 H
                obtain ⟨y197, hy1970, H⟩ := H
                try dsimp only at H
                have hy197 := Option.some.inj hy1970
                clear hy1970
                have Ny197 := Aside0.mk hy197
                clear hy197
                by_cases c26 : x18_0.length + y197.length < 17592186044416
                · rw [if_pos c26] at H
                  have LMc26 := Aside0.mk c26
                  clear c26
                  replace H := Option.bind_eq_some_iff.1 H
                  obtain ⟨y198, hy1980, H⟩ := H
                  try dsimp only at H
                  have hy198 := Option.some.inj hy1980
                  clear hy1980
                  have Ny198 := Aside0.mk hy198
                  clear hy198
                  have H' := Aside0.mk H
                  clear H
                  go_wp2_with (first | ((with_reducible refine gate_dst (N := 61) rfl ?_); refine wpList_plain rfl (fun K_ hK_ => ?_); refine op_row (S := S) (enc := Value.int .i64) (h1 := fun _ => rfl) 3 y197 #[.int .i64 p193.1] 1 (by rw [← Ny197.out]; rfl) (by rw [← Ny197.out]; rfl) (by decide) (HF.out.keep HK.out) HS.out (by first | (go_simp; done) | (go_simp; rfl)) ?_; intro Az3000015 cz3000015 w27 hs_ hk_; refine hK_ _ _ ?_; clear hK_ K_; replace HS := Aside0.mk ((show SL (row (Kd.int .i64) 3 (.slice Az3000015 1 cz3000015) y197 :: _) _ _ from hs_)); replace HK := Aside0.mk (HK.out.trans hk_)) | ((with_reducible refine gate_dst (N := 62) rfl ?_); refine wpList_plain rfl (fun K_ hK_ => ?_); refine op_append (S := S) (enc := Value.int .i64) (h1 := fun _ => rfl) 0 (.tmp 59) (.tmp 61) 26 3 (.int .i64 0) 8 rfl Try.underlying26 info3 rfl (by decide) (.slice Ax18_0 x18_0.length cx18_0) rfl rfl (HF.out.keep HK.out) (SL.get1 HS.out) (SL.row_c HS.out).2.2 (by have := LMc26.out; have e_ := (SL.row_c HS.out).1; omega) y198 Ny198.out ?_; intro A199 c200 w28 hs_ hk_; refine hK_ _ _ ?_; clear hK_ K_; replace HS := Aside0.mk ((SL.back1 (show SL (row (Kd.int .i64) 3 (.slice A199 y198.length c200) y198 :: _) _ _ from hs_))); replace HK := Aside0.mk (HK.out.trans hk_)))
                  replace HS := Aside0.mk (SL.tail HS.out)
                  go_roundg k2
                  case measure => have := HQ1.out; have := HQ2.out; omega
                  case rel => exact ⟨(y198), (A199), (c200), (mdel y3000013_0 p193.1), (by first | rfl | (simp; done) | (simp [*]; done)), H', ⟨by have := HQ1.out; have := HQ2.out; omega⟩, HS, HK⟩
                · rw [if_neg c26] at H
                  exact absurd H (by simp)
              · replace c25 := Bool.eq_false_iff.mpr c25
                subst c25
                rw [if_neg (show ¬ (false = true) by decide)] at H
                have H' := Aside0.mk H
                clear H
                go_wp2
                go_roundg k2
                case measure => have := HQ1.out; have := HQ2.out; omega
                case rel => exact ⟨(x18_0), (Ax18_0), (cx18_0), (mdel y3000013_0 p193.1), (by first | rfl | (simp; done) | (simp [*]; done)), H', ⟨by have := HQ1.out; have := HQ2.out; omega⟩, HS, HK⟩
  · replace c8 := Bool.eq_false_iff.mpr c8
    subst c8
    rw [if_neg (show ¬ (false = true) by decide)] at H
    obtain rfl := Option.some.inj H
    have n2_ := Aside0.mk (SL.nil_row (Kd.int .i64) 3 HS.out)
    clear HS
    have HS := n2_
    clear n2_
    refine hG_.out ?_
    go_wp2
    go_ret
    replace HS := Aside0.mk (SL.tail (SL.get1 (SL.tail (SL.get1 (SL.tail (SL.get1 HS.out))))))
    unfold chat_Hear.Post
    exact ⟨none, 0, by first | rfl | (simp; done) | (simp [*]; done), HS.out, HK.out⟩

/-! ### barrowref02_Same: function 9 -/
def barrowref02_Same.l0 : Nat → List Int → List Int → Int → Option (Bool)
  | 0, _, _, _ => none
  | k + 1, x0, x1, x5 => if x5 < (x0.length : Int) then (if 0 ≤ x5 then (if x5 < (x1.length : Int) then (if (rd x0 x5) = (rd x1 x5) then (barrowref02_Same.l0 k x0 x1 (wrap64 (x5 + 1))) else (some false)) else (none)) else (none)) else (some true)
def barrowref02_Same.f (k : Nat) (l0 : List Int) (l1 : List Int) : Option (Bool) := if (l0.length : Int) = (l1.length : Int) then (barrowref02_Same.l0 k l0 l1 0) else (some false)
theorem barrowref02_Same.mono_l : ∀ k, (∀ y0 y1 y2, LeO (barrowref02_Same.l0 k y0 y1 y2) (barrowref02_Same.l0 (k + 1) y0 y1 y2))
  | 0 => fun _ _ _ r h => by simp [barrowref02_Same.l0] at h
  | k + 1 => by
    have ih0 := barrowref02_Same.mono_l k
    · intro y0 y1 y2
      unfold barrowref02_Same.l0
      repeat' first
      | (with_reducible exact ih0 _ _ _)
      | (with_reducible exact LeO.refl _)
      | (with_reducible exact LeO.none _)
      | (with_reducible refine LeO.ite ?_ ?_)
      | (with_reducible refine LeO.bind ?_ (fun _ => ?_))
      | exact ih0 _ _ _
      | exact LeO.none _
      | refine LeO.ite ?_ ?_
      | refine LeO.bind ?_ (fun _ => ?_)
theorem barrowref02_Same.mono : ∀ a0 a1 k, LeO (barrowref02_Same.f k a0 a1) (barrowref02_Same.f (k + 1) a0 a1) := by
  intro a0 a1 k
  have ih0 := barrowref02_Same.mono_l k
  unfold barrowref02_Same.f
  repeat' first
      | (with_reducible exact ih0 _ _ _)
      | (with_reducible exact LeO.refl _)
      | (with_reducible exact LeO.none _)
      | (with_reducible refine LeO.ite ?_ ?_)
      | (with_reducible refine LeO.bind ?_ (fun _ => ?_))
      | exact ih0 _ _ _
      | exact LeO.none _
      | refine LeO.ite ?_ ?_
      | refine LeO.bind ?_ (fun _ => ?_)
set_option maxHeartbeats 8000000 in
set_option maxRecDepth 100000 in
theorem barrowref02_Same.calls (k : Nat) (A0 : Option Addr) (c0 : Nat) (l0 : List Int) (A1 : Option Addr) (c1 : Nat) (l1 : List Int) (r : Bool) (w : World) (hr0 : Kd.C (Kd.int .i64) w A0 l0.length l0) (hc0 : l0.length ≤ c0) (hr1 : Kd.C (Kd.int .i64) w A1 l1.length l1) (hc1 : l1.length ≤ c1) (h : barrowref02_Same.f k l0 l1 = some r) :
    Calls Try.prog 9 #[.slice A0 l0.length c0, .slice A1 l1.length c1] w fun e w' => e = .returned (.bool r) ∧ Drawn0 w w' := by
  have HR0 := Aside0.mk hr0
  have HC0 := Aside0.mk hc0
  clear hr0 hc0
  have HR1 := Aside0.mk hr1
  have HC1 := Aside0.mk hc1
  clear hr1 hc1
  have H : (if (l0.length : Int) = (l1.length : Int) then (barrowref02_Same.l0 k l0 l1 0) else (some false)) = some r := h
  clear h
  by_cases c3 : (l0.length : Int) = (l1.length : Int)
  · rw [if_pos c3] at H
    have c3b0 : ((l0.length : Int) == (l1.length : Int)) = true := beq_iff_eq.mpr c3
    have c3b1 : ((l0.length : Int) != (l1.length : Int)) = false := bne_eq_false_iff_eq.mpr c3
    have c3b2 : (l0.length == l1.length) = true := by first | simpa using c3 | (simp at c3 ⊢; omega)
    clear c3
    have H' := Aside0.mk H
    clear H
    go_enter Try.func9, Try.ntmps9
    go_wp2
    repeat (go_quiet (fail); try go_wp2)
    go_loopg [5] k (fun kq v5 w' => ∃ (x5_1 : Int), v5 = .int .i64 x5_1 ∧ Aside0 (barrowref02_Same.l0 kq l0 l1 x5_1 = some r) ∧ Aside0 (kq ≤ k) ∧ Drawn0 w w')
    case atStart => exact ⟨(0), (by first | rfl | (simp; done) | (simp [*]; done)), H', ⟨Nat.le_refl _⟩, by repeat (first | exact Drawn0.refl _ | apply Drawn0.step)⟩
    case round =>
      clear H'
      try clear c1
      try clear p2
      try clear c3
      try clear c3b0
      try clear c3b1
      try clear c3b2
      obtain ⟨x5_1, rfl, HA, HK1, ⟨m1, rfl⟩⟩ := hrel
      cases gk with
      | zero => exact absurd HA.out (by simp [barrowref02_Same.l0])
      | succ k1 =>
        have H := HA.out
        clear HA
        simp only [barrowref02_Same.l0] at H
        by_cases c4 : x5_1 < (l0.length : Int)
        · rw [if_pos c4] at H
          have c4b0 : decide (x5_1 < (l0.length : Int)) = true := decide_eq_true c4
          clear c4
          by_cases c5 : 0 ≤ x5_1
          · rw [if_pos c5] at H
            have c5b0 : decide (0 ≤ x5_1) = true := decide_eq_true c5
            clear c5
            by_cases c6 : x5_1 < (l1.length : Int)
            · rw [if_pos c6] at H
              have c6b0 : decide (x5_1 < (l1.length : Int)) = true := decide_eq_true c6
              clear c6
              by_cases c7 : (rd l0 x5_1) = (rd l1 x5_1)
              · rw [if_pos c7] at H
                have c7b0 : ((rd l0 x5_1) == (rd l1 x5_1)) = true := beq_iff_eq.mpr c7
                have c7b1 : ((rd l0 x5_1) != (rd l1 x5_1)) = false := bne_eq_false_iff_eq.mpr c7
                clear c7
                have H' := Aside0.mk H
                clear H
                have p201 : 0 ≤ (x5_1 : Int) := of_decide_eq_true (by first | (with_reducible assumption) | assumption)
                have q201 : x5_1 < (l0.length : Int) := of_decide_eq_true (by first | (with_reducible assumption) | assumption)
                obtain ⟨ad201, e201, hx201_0⟩ := Kd.at_int HR0.out x5_1 p201 q201
                cases e201
                replace p201 := eq_true p201
                replace q201 := eq_true q201
                have p202 : 0 ≤ (x5_1 : Int) := of_decide_eq_true (by first | (with_reducible assumption) | assumption)
                have q202 : x5_1 < (l1.length : Int) := of_decide_eq_true (by first | (with_reducible assumption) | assumption)
                obtain ⟨ad202, e202, hx202_0⟩ := Kd.at_int HR1.out x5_1 p202 q202
                cases e202
                replace p202 := eq_true p202
                replace q202 := eq_true q202
                go_wp2
                repeat (go_quiet (fail); try go_wp2)
                go_roundg k1
                case measure => have := HK1.out; omega
                case rel => exact ⟨(wrap64 (x5_1 + 1)), (by first | rfl | (simp; done) | (simp [*]; done)), H', ⟨by have := HK1.out; omega⟩, by repeat (first | exact Drawn0.refl _ | apply Drawn0.step)⟩
              · rw [if_neg c7] at H
                have c7b0 : ((rd l0 x5_1) == (rd l1 x5_1)) = false := beq_eq_false_iff_ne.mpr c7
                have c7b1 : ((rd l0 x5_1) != (rd l1 x5_1)) = true := bne_iff_ne.mpr c7
                obtain rfl := Option.some.inj H
                have p201 : 0 ≤ (x5_1 : Int) := of_decide_eq_true (by first | (with_reducible assumption) | assumption)
                have q201 : x5_1 < (l0.length : Int) := of_decide_eq_true (by first | (with_reducible assumption) | assumption)
                obtain ⟨ad201, e201, hx201_0⟩ := Kd.at_int HR0.out x5_1 p201 q201
                cases e201
                replace p201 := eq_true p201
                replace q201 := eq_true q201
                have p202 : 0 ≤ (x5_1 : Int) := of_decide_eq_true (by first | (with_reducible assumption) | assumption)
                have q202 : x5_1 < (l1.length : Int) := of_decide_eq_true (by first | (with_reducible assumption) | assumption)
                obtain ⟨ad202, e202, hx202_0⟩ := Kd.at_int HR1.out x5_1 p202 q202
                cases e202
                replace p202 := eq_true p202
                replace q202 := eq_true q202
                go_wp2
                repeat (go_quiet (fail); try go_wp2)
                go_ret
                exact ⟨by first | rfl | (simp; done) | (simp [*]; done), by repeat (first | exact Drawn0.refl _ | apply Drawn0.step)⟩
            · rw [if_neg c6] at H
              exact absurd H (by simp)
          · rw [if_neg c5] at H
            exact absurd H (by simp)
        · rw [if_neg c4] at H
          have c4b0 : decide (x5_1 < (l0.length : Int)) = false := decide_eq_false c4
          clear c4
          obtain rfl := Option.some.inj H
          go_wp2
          repeat (go_quiet (fail); try go_wp2)
          go_ret
          exact ⟨by first | rfl | (simp; done) | (simp [*]; done), by repeat (first | exact Drawn0.refl _ | apply Drawn0.step)⟩
  · rw [if_neg c3] at H
    have c3b0 : ((l0.length : Int) == (l1.length : Int)) = false := beq_eq_false_iff_ne.mpr c3
    have c3b1 : ((l0.length : Int) != (l1.length : Int)) = true := bne_iff_ne.mpr c3
    have c3b2 : (l0.length == l1.length) = false := by first | simpa using c3 | (simp at c3 ⊢; omega)
    obtain rfl := Option.some.inj H
    go_enter Try.func9, Try.ntmps9
    go_wp2
    repeat (go_quiet (fail); try go_wp2)
    go_ret
    exact ⟨by first | rfl | (simp; done) | (simp [*]; done), by repeat (first | exact Drawn0.refl _ | apply Drawn0.step)⟩

/-! ### chat_Right: function 14 -/
def chat_Right.l0 : Nat → ByteArray → Int → Int → Option (Bool)
  | 0, _, _, _ => none
  | k + 1, x0, x5, x6 => if x6 < x5 then (if 0 ≤ x6 then (if x6 < (x0.size : Int) then (if (bt x0 x6) < 32 then (some false) else (if (bt x0 x6) > 126 then (some false) else (chat_Right.l0 k x0 x5 (wrap64 (x6 + 1))))) else (none)) else (none)) else (if x0.toList = ([] : List UInt8) then (some false) else (some (decide ((x0.size : Int) ≤ 200))))
def chat_Right.f (k : Nat) (a0 : ByteArray) : Option (Bool) := chat_Right.l0 k a0 (a0.size : Int) 0
theorem chat_Right.mono_l : ∀ k, (∀ y0 y1 y2, LeO (chat_Right.l0 k y0 y1 y2) (chat_Right.l0 (k + 1) y0 y1 y2))
  | 0 => fun _ _ _ r h => by simp [chat_Right.l0] at h
  | k + 1 => by
    have ih0 := chat_Right.mono_l k
    · intro y0 y1 y2
      unfold chat_Right.l0
      repeat' first
      | (with_reducible exact ih0 _ _ _)
      | (with_reducible exact LeO.refl _)
      | (with_reducible exact LeO.none _)
      | (with_reducible refine LeO.ite ?_ ?_)
      | (with_reducible refine LeO.bind ?_ (fun _ => ?_))
      | exact ih0 _ _ _
      | exact LeO.none _
      | refine LeO.ite ?_ ?_
      | refine LeO.bind ?_ (fun _ => ?_)
theorem chat_Right.mono : ∀ a0 k, LeO (chat_Right.f k a0) (chat_Right.f (k + 1) a0) := by
  intro a0 k
  have ih0 := chat_Right.mono_l k
  unfold chat_Right.f
  repeat' first
      | (with_reducible exact ih0 _ _ _)
      | (with_reducible exact LeO.refl _)
      | (with_reducible exact LeO.none _)
      | (with_reducible refine LeO.ite ?_ ?_)
      | (with_reducible refine LeO.bind ?_ (fun _ => ?_))
      | exact ih0 _ _ _
      | exact LeO.none _
      | refine LeO.ite ?_ ?_
      | refine LeO.bind ?_ (fun _ => ?_)
set_option maxHeartbeats 8000000 in
set_option maxRecDepth 100000 in
theorem chat_Right.calls (k : Nat) (a0 : ByteArray) (r : Bool) (w : World) (h : chat_Right.f k a0 = some r) :
    Calls Try.prog 14 #[.string a0] w fun e w' => e = .returned (.bool r) ∧ Drawn0 w w' := by
  have H : (chat_Right.l0 k a0 (a0.size : Int) 0) = some r := h
  clear h
  have H' := Aside0.mk H
  clear H
  go_enter Try.func14, Try.ntmps14
  go_wp2
  go_loopg [6] k (fun kq v6 w' => ∃ (x6_1 : Int), v6 = .int .i64 x6_1 ∧ Aside0 (chat_Right.l0 kq a0 (a0.size : Int) x6_1 = some r) ∧ Aside0 (kq ≤ k) ∧ Drawn0 w w')
  case atStart => exact ⟨(0), (by first | rfl | (simp; done) | (simp [*]; done)), H', ⟨Nat.le_refl _⟩, by repeat (first | exact Drawn0.refl _ | apply Drawn0.step)⟩
  case round =>
    clear H'
    try clear c1
    obtain ⟨x6_1, rfl, HA, HK1, ⟨m1, rfl⟩⟩ := hrel
    cases gk with
    | zero => exact absurd HA.out (by simp [chat_Right.l0])
    | succ k1 =>
      have H := HA.out
      clear HA
      simp only [chat_Right.l0] at H
      by_cases c2 : x6_1 < (a0.size : Int)
      · rw [if_pos c2] at H
        have c2b0 : decide (x6_1 < (a0.size : Int)) = true := decide_eq_true c2
        clear c2
        by_cases c3 : 0 ≤ x6_1
        · rw [if_pos c3] at H
          have c3b0 : decide (0 ≤ x6_1) = true := decide_eq_true c3
          clear c3
          by_cases c4 : x6_1 < (a0.size : Int)
          · rw [if_pos c4] at H
            have c4b0 : decide (x6_1 < (a0.size : Int)) = true := decide_eq_true c4
            clear c4
            by_cases c6 : (bt a0 x6_1) < 32
            · rw [if_pos c6] at H
              have c6b0 : decide ((bt a0 x6_1) < 32) = true := decide_eq_true c6
              clear c6
              obtain rfl := Option.some.inj H
              have p5 : 0 ≤ (x6_1 : Int) := of_decide_eq_true (by first | (with_reducible assumption) | assumption)
              have q5 : x6_1 < (a0.size : Int) := of_decide_eq_true (by first | (with_reducible assumption) | assumption)
              have hx5 := bt_at a0 x6_1
              replace p5 := eq_true p5
              replace q5 := eq_true q5
              go_wp2
              go_ret
              exact ⟨by first | rfl | (simp; done) | (simp [*]; done), by repeat (first | exact Drawn0.refl _ | apply Drawn0.step)⟩
            · rw [if_neg c6] at H
              have c6b0 : decide ((bt a0 x6_1) < 32) = false := decide_eq_false c6
              clear c6
              by_cases c8 : (bt a0 x6_1) > 126
              · rw [if_pos c8] at H
                have c8b0 : decide (126 < (bt a0 x6_1)) = true := decide_eq_true c8
                clear c8
                obtain rfl := Option.some.inj H
                have p5 : 0 ≤ (x6_1 : Int) := of_decide_eq_true (by first | (with_reducible assumption) | assumption)
                have q5 : x6_1 < (a0.size : Int) := of_decide_eq_true (by first | (with_reducible assumption) | assumption)
                have hx5 := bt_at a0 x6_1
                replace p5 := eq_true p5
                replace q5 := eq_true q5
                have p7 : 0 ≤ (x6_1 : Int) := of_decide_eq_true (by first | (with_reducible assumption) | assumption)
                have q7 : x6_1 < (a0.size : Int) := of_decide_eq_true (by first | (with_reducible assumption) | assumption)
                have hx7 := bt_at a0 x6_1
                replace p7 := eq_true p7
                replace q7 := eq_true q7
                go_wp2
                go_ret
                exact ⟨by first | rfl | (simp; done) | (simp [*]; done), by repeat (first | exact Drawn0.refl _ | apply Drawn0.step)⟩
              · rw [if_neg c8] at H
                have c8b0 : decide (126 < (bt a0 x6_1)) = false := decide_eq_false c8
                clear c8
                have H' := Aside0.mk H
                clear H
                have p5 : 0 ≤ (x6_1 : Int) := of_decide_eq_true (by first | (with_reducible assumption) | assumption)
                have q5 : x6_1 < (a0.size : Int) := of_decide_eq_true (by first | (with_reducible assumption) | assumption)
                have hx5 := bt_at a0 x6_1
                replace p5 := eq_true p5
                replace q5 := eq_true q5
                have p7 : 0 ≤ (x6_1 : Int) := of_decide_eq_true (by first | (with_reducible assumption) | assumption)
                have q7 : x6_1 < (a0.size : Int) := of_decide_eq_true (by first | (with_reducible assumption) | assumption)
                have hx7 := bt_at a0 x6_1
                replace p7 := eq_true p7
                replace q7 := eq_true q7
                go_wp2
                go_roundg k1
                case measure => have := HK1.out; omega
                case rel => exact ⟨(wrap64 (x6_1 + 1)), (by first | rfl | (simp; done) | (simp [*]; done)), H', ⟨by have := HK1.out; omega⟩, by repeat (first | exact Drawn0.refl _ | apply Drawn0.step)⟩
          · rw [if_neg c4] at H
            exact absurd H (by simp)
        · rw [if_neg c3] at H
          exact absurd H (by simp)
      · rw [if_neg c2] at H
        have c2b0 : decide (x6_1 < (a0.size : Int)) = false := decide_eq_false c2
        clear c2
        by_cases c9 : a0.toList = ([] : List UInt8)
        · rw [if_pos c9] at H
          have c9b0 : (a0.toList == ([] : List UInt8)) = true := beq_iff_eq.mpr c9
          have c9b1 : (a0.toList != ([] : List UInt8)) = false := bne_eq_false_iff_eq.mpr c9
          clear c9
          obtain rfl := Option.some.inj H
          go_wp2
          go_ret
          exact ⟨by first | rfl | (simp; done) | (simp [*]; done), by repeat (first | exact Drawn0.refl _ | apply Drawn0.step)⟩
        · rw [if_neg c9] at H
          have c9b0 : (a0.toList == ([] : List UInt8)) = false := beq_eq_false_iff_ne.mpr c9
          have c9b1 : (a0.toList != ([] : List UInt8)) = true := bne_iff_ne.mpr c9
          obtain rfl := Option.some.inj H
          go_wp2
          go_ret
          exact ⟨by first | rfl | (simp; done) | (simp [*]; done), by repeat (first | exact Drawn0.refl _ | apply Drawn0.step)⟩

/-! ### chat_lower: function 43 -/
def chat_lower.f (a0 : Int) : Option (Int) := if a0 ≥ 65 then (if a0 ≤ 90 then (some ((a0 + 32) % 256)) else (some a0)) else (some a0)
set_option maxHeartbeats 8000000 in
set_option maxRecDepth 100000 in
theorem chat_lower.calls (a0 : Int) (r : Int) (w : World) (h : chat_lower.f a0 = some r) :
    Calls Try.prog 43 #[.int .u8 a0] w fun e w' => e = .returned (.int .u8 r) ∧ Drawn0 w w' := by
  have H : (if a0 ≥ 65 then (if a0 ≤ 90 then (some ((a0 + 32) % 256)) else (some a0)) else (some a0)) = some r := h
  clear h
  by_cases c2 : a0 ≥ 65
  · rw [if_pos c2] at H
    have c2b0 : decide (65 ≤ a0) = true := decide_eq_true c2
    clear c2
    by_cases c3 : a0 ≤ 90
    · rw [if_pos c3] at H
      have c3b0 : decide (a0 ≤ 90) = true := decide_eq_true c3
      clear c3
      obtain rfl := Option.some.inj H
      go_enter Try.func43, Try.ntmps43
      go_wp2
      go_ret
      exact ⟨by first | rfl | (simp; done) | (simp [*]; done), by repeat (first | exact Drawn0.refl _ | apply Drawn0.step)⟩
    · rw [if_neg c3] at H
      have c3b0 : decide (a0 ≤ 90) = false := decide_eq_false c3
      clear c3
      obtain rfl := Option.some.inj H
      go_enter Try.func43, Try.ntmps43
      go_wp2
      go_ret
      exact ⟨by first | rfl | (simp; done) | (simp [*]; done), by repeat (first | exact Drawn0.refl _ | apply Drawn0.step)⟩
  · rw [if_neg c2] at H
    have c2b0 : decide (65 ≤ a0) = false := decide_eq_false c2
    clear c2
    obtain rfl := Option.some.inj H
    go_enter Try.func43, Try.ntmps43
    go_wp2
    go_ret
    exact ⟨by first | rfl | (simp; done) | (simp [*]; done), by repeat (first | exact Drawn0.refl _ | apply Drawn0.step)⟩

/-! ### chat_lowered: function 29 -/
def chat_lowered.l0 : Nat → (List Int) → Int → (List Int) → Option ((List Int))
  | 0, _, _, _ => none
  | k + 1, y203, x10_0, y3000018_0 => if x10_0 < (y203.length : Int) then (if 0 ≤ x10_0 then ((chat_lower.f (rd y3000018_0 x10_0)).bind fun t209 => ((some (y3000018_0.set (x10_0).toNat t209 : List Int)).bind fun y211 => (chat_lowered.l0 k y203 (wrap64 (x10_0 + 1)) y211))) else (none)) else (some y3000018_0)
def chat_lowered.f (k : Nat) (a0 : ByteArray) : Option ((List Int)) := if a0.size ≤ 9223372036854775807 then ((some (bytesOf a0 : List Int)).bind fun y203 => (chat_lowered.l0 k y203 0 y203)) else (none)
theorem chat_lowered.mono_l : ∀ k, (∀ y0 y1 y2, LeO (chat_lowered.l0 k y0 y1 y2) (chat_lowered.l0 (k + 1) y0 y1 y2))
  | 0 => fun _ _ _ r h => by simp [chat_lowered.l0] at h
  | k + 1 => by
    have ih0 := chat_lowered.mono_l k
    · intro y0 y1 y2
      unfold chat_lowered.l0
      repeat' first
      | (with_reducible exact ih0 _ _ _)
      | (with_reducible exact LeO.refl _)
      | (with_reducible exact LeO.none _)
      | (with_reducible refine LeO.ite ?_ ?_)
      | (with_reducible refine everyOf_le (fun _ => ?_))
      | (with_reducible refine LeO.bind ?_ (fun _ => ?_))
      | exact ih0 _ _ _
      | exact LeO.none _
      | refine LeO.ite ?_ ?_
      | refine LeO.bind ?_ (fun _ => ?_)
theorem chat_lowered.mono : ∀ a0 k, LeO (chat_lowered.f k a0) (chat_lowered.f (k + 1) a0) := by
  intro a0 k
  have ih0 := chat_lowered.mono_l k
  unfold chat_lowered.f
  repeat' first
      | (with_reducible exact ih0 _ _ _)
      | (with_reducible exact LeO.refl _)
      | (with_reducible exact LeO.none _)
      | (with_reducible refine LeO.ite ?_ ?_)
      | (with_reducible refine everyOf_le (fun _ => ?_))
      | (with_reducible refine LeO.bind ?_ (fun _ => ?_))
      | exact ih0 _ _ _
      | exact LeO.none _
      | refine LeO.ite ?_ ?_
      | refine LeO.bind ?_ (fun _ => ?_)
def chat_lowered.Post (r : List Int) (S : Nat → Prop) (L : List Asr) (w : World) (e : Ending) (w' : World) : Prop := ∃ (Ar1 : Option Addr) (cr1 : Nat), e = .returned (.slice Ar1 r.length cr1) ∧ SL (rowM 5 (.slice Ar1 r.length cr1) r :: L) w' S ∧ Keep S w w'
set_option maxHeartbeats 8000000 in
set_option maxRecDepth 100000 in
theorem chat_lowered.slcalls (k : Nat) (a0 : ByteArray) (r : List Int) (S : Nat → Prop) (L : List Asr) (w : World) (hf : Fresh S w) (hs : SL (L) w S) (h : chat_lowered.f k a0 = some r) :
    Calls Try.prog 29 #[.string a0] w (chat_lowered.Post r S L w) := by
  have HF := Aside0.mk hf
  have HS := Aside0.mk hs
  have HK := Aside0.mk (Keep.refl S w)
  clear hf hs
  have H : (if a0.size ≤ 9223372036854775807 then ((some (bytesOf a0 : List Int)).bind fun y203 => (chat_lowered.l0 k y203 0 y203)) else (none)) = some r := h
  clear h
  by_cases c1 : a0.size ≤ 9223372036854775807
  · rw [if_pos c1] at H
    have LMc1 := Aside0.mk c1
    clear c1
    replace H := Option.bind_eq_some_iff.1 H
    obtain ⟨y203, hy2030, H⟩ := H
    try dsimp only at H
    have hy203 := Option.some.inj hy2030
    clear hy2030
    have Ny203 := Aside0.mk hy203
    clear hy203
    have H' := Aside0.mk H
    clear H
    go_enter Try.func29, Try.ntmps29
    go_wp2_with (first | ((with_reducible refine gate_dst (N := 7) rfl ?_); refine wpList_plain rfl (fun K_ hK_ => ?_); refine op_bytesM (S := S) 9 57 5 (.tmp 6) Try.underlying9 Try.underlying57 Try.underlying5 (a0) rfl rfl (LMc1.out) y203 Ny203.out (HF.out.keep HK.out) HS.out ?_; intro Az3000018 cz3000018 w2 hs_ hk_; refine hK_ _ _ ?_; clear hK_ K_; replace HS := Aside0.mk ((show SL (rowM 5 (.slice Az3000018 y203.length cz3000018) y203 :: _) _ _ from hs_)); replace HK := Aside0.mk (HK.out.trans hk_)))
    try go_simp
    go_loopg [10] k (fun kq v10 w' => ∃ (y3000018_0 : List Int) (x10_0 : Int), v10 = .int .i64 x10_0 ∧ Aside0 (chat_lowered.l0 kq y203 x10_0 y3000018_0 = some r) ∧ Aside0 (kq ≤ k) ∧ Aside0 (SL (rowM 5 (.slice Az3000018 y203.length cz3000018) y3000018_0 :: L) w' S) ∧ Aside0 (Keep S w w'))
    case atStart => exact ⟨(y203), (0), (by first | rfl | (simp; done) | (simp [*]; done)), H', ⟨Nat.le_refl _⟩, HS, HK⟩
    case round =>
      clear H' HS HK
      obtain ⟨y3000018_0, x10_0, rfl, HA, HQ1, HS, HK⟩ := hrel
      cases gk with
      | zero => exact absurd HA.out (by simp [chat_lowered.l0])
      | succ k1 =>
        have H := HA.out
        clear HA
        simp only [chat_lowered.l0] at H
        by_cases c3 : x10_0 < (y203.length : Int)
        · rw [if_pos c3] at H
          have c3b0 : decide (x10_0 < (y203.length : Int)) = true := decide_eq_true c3
          clear c3
          by_cases c4 : 0 ≤ x10_0
          · rw [if_pos c4] at H
            have c4b0 : decide (0 ≤ x10_0) = true := decide_eq_true c4
            clear c4
            replace H := Option.bind_eq_some_iff.1 H
            obtain ⟨t209, Hc50, H⟩ := H
            try dsimp only at H
            have Hc5 := Aside0.mk Hc50
            clear Hc50
            replace H := Option.bind_eq_some_iff.1 H
            obtain ⟨y211, hy2110, H⟩ := H
            try dsimp only at H
            have hy211 := Option.some.inj hy2110
            clear hy2110
            have Ny211 := Aside0.mk hy211
            clear hy211
            have H' := Aside0.mk H
            clear H
            have pq208 : 0 ≤ (x10_0 : Int) := of_decide_eq_true (by first | (with_reducible assumption) | assumption)
            have qq208 : x10_0 < ((y203.length : Int) : Int) := of_decide_eq_true (by first | (with_reducible assumption) | assumption)
            obtain ⟨adq208, eq208, hxq208_0⟩ := Kd.at_int (rowM_c HS.out).2.2 x10_0 pq208 qq208
            cases eq208
            replace pq208 := eq_true pq208
            replace qq208 := eq_true qq208
            go_wp2_with (first | ((with_reducible refine gate_dst (N := 18) rfl ?_); refine goesL_ (some 18) rfl rfl Try.func43 (by kernel_rfl) rfl #[.int .u8 (rd y3000018_0 x10_0)] rfl (by (try simp only [List.map_toArray, List.map_cons, List.map_nil]); first | done | rfl | (simp; done)) ?_; (with_reducible refine (chat_lower.calls _ _ _  Hc5.out).mono ?_); rintro e_ w6 ⟨rfl, hb_⟩; refine ⟨_, rfl, ?_⟩; replace hb_ := Drawn0.below hb_; replace HS := Aside0.mk (HS.out.below hb_); replace HK := Aside0.mk (HK.out.trans (Keep.below hb_)); have pq210 : 0 ≤ (x10_0 : Int) := of_decide_eq_true (by first | (with_reducible assumption) | assumption); have qq210 : x10_0 < ((y203.length : Int) : Int) := of_decide_eq_true (by first | (with_reducible assumption) | assumption); obtain ⟨adq210, eq210, hxq210_0⟩ := Kd.at_int (rowM_c HS.out).2.2 x10_0 pq210 qq210; obtain rfl : adq208 = adq210 := (by injection eq210); replace pq210 := eq_true pq210; replace qq210 := eq_true qq210) | ((with_reducible refine gate_store (t := 5) (p := 19) (v := (.tmp 18)) rfl ?_); refine wpList_plain rfl (fun K_ hK_ => ?_); refine op_setM (S := S) 5 (.tmp 19) (.tmp 18) rfl adq208 (x10_0) t209 HS.out (by rfl) rfl (by kernel_rfl) (of_decide_eq_true (by first | (with_reducible assumption) | assumption)) (of_decide_eq_true (by first | (with_reducible assumption) | assumption)) y211 Ny211.out ?_; intro w7 hs_ hk_; refine hK_ _ _ ?_; clear hK_ K_; replace HS := Aside0.mk ((show SL (rowM 5 (.slice (some adq208) y203.length cz3000018) y211 :: _) _ _ from hs_)); replace HK := Aside0.mk (HK.out.trans hk_)))
            go_roundg k1
            case measure => have := HQ1.out; omega
            case rel => exact ⟨(y211), (wrap64 (x10_0 + 1)), (by first | rfl | (simp; done) | (simp [*]; done)), H', ⟨by have := HQ1.out; omega⟩, HS, HK⟩
          · rw [if_neg c4] at H
            exact absurd H (by simp)
        · rw [if_neg c3] at H
          have c3b0 : decide (x10_0 < (y203.length : Int)) = false := decide_eq_false c3
          clear c3
          obtain rfl := Option.some.inj H
          go_wp2
          go_ret
          unfold chat_lowered.Post
          have el8 := Aside0.mk (rowM_c HS.out).1
          replace HS := Aside0.mk (rowM_len HS.out)
          exact ⟨Az3000018, cz3000018, by first | rfl | (simp; done) | (rw [← el8.out]; rfl) | (rw [← el8.out]) | (simp [*]; done) | (simp at c3b0 ⊢; first | exact c3b0 | (simp [c3b0]; done)), HS.out, HK.out⟩
  · rw [if_neg c1] at H
    exact absurd H (by simp)

end Go.Proofs.Ytdpeflbdoaccbaa.XCL
