-- Written by xprint.py (a program of this session) for this claim
import Derived.Test.YtgcbmhihiacgnaaSL5
import Derived.Test.YtgcbmhihiacgnaaXINx0
import Derived.Test.YtgcbmhihiacgnaaXINx1
import Derived.Test.YtgcbmhihiacgnaaXINx2
namespace Go.Proofs.Ytgcbmhihiacgnaa.XIN
open Go.Proofs.YtgcbmhihiacgnaaV Go.Proofs.YtgcbmhihiacgnaaS
open Go.RowKit Go.Proofs.YtgcbmhihiacgnaaW.PrintWords Go.Proofs.YtgcbmhihiacgnaaW.PrintLast Go.Proofs.YtgcbmhihiacgnaaW.PrintMore
attribute [local go_sem] max2_int min2_int max_two min_two max_three min_three max_four min_four   -- for this text's walks alone
set_option linter.unusedVariables false
set_option linter.unusedSimpArgs false

/-! ### interest_Set: function 8 -/
mutual
noncomputable def interest_Set.l0 : Nat → (List (S36)) → Int → (List Int) → Int → (List (Int × S41)) → S41 → Bool → Option ((List Int))
  | 0, _, _, _, _, _, _, _ => none
  | k + 1, l1, a3, x12_0, x37_0, t185, y186, t189 => if x37_0 < (l1.length : Int) then (if 0 ≤ x37_0 then (if t189 = true then ((some (mgetD z41 t185 ((rd_T36 l1 x37_0).f0) : S41)).bind fun y192 => ((some (mhas t185 ((rd_T36 l1 x37_0).f0) : Bool)).bind fun t193 => (if t193 = true then ((some (([(rd_T36 l1 x37_0).f0] : List Int) : List Int)).bind fun y194 => (if x12_0.length + y194.length < 17592186044416 then ((some (x12_0 ++ y194 : List Int)).bind fun y195 => (interest_Set.l0 k l1 a3 y195 (wrap64 (x37_0 + 1)) t185 y186 t189)) else (none))) else (interest_Set.l0 k l1 a3 x12_0 (wrap64 (x37_0 + 1)) t185 y186 t189)))) else (interest_Set.l1 k a3 x12_0 t185 y186)) else (none)) else (interest_Set.l101 k a3 y186 t185 x12_0)
noncomputable def interest_Set.l1 : Nat → Int → (List Int) → (List (Int × S41)) → S41 → Option ((List Int))
  | 0, _, _, _, _ => none
  | k + 1, a3, x12_1, y3000013_1, y186 => if (y3000013_1).isEmpty = true then ((interest_sorted_i1.f x12_1).bind fun t199 => (some t199)) else (everyOf y3000013_1 fun p198 => ((grid_Near.f k y186.f0 y186.f1 p198.2.f0 p198.2.f1 a3).bind fun t200 => (if t200 = true then ((some (([p198.1] : List Int) : List Int)).bind fun y201 => (if x12_1.length + y201.length < 17592186044416 then ((some (x12_1 ++ y201 : List Int)).bind fun y202 => (interest_Set.l1 k a3 y202 (mdel y3000013_1 p198.1) y186)) else (none))) else (interest_Set.l1 k a3 x12_1 (mdel y3000013_1 p198.1) y186))))
noncomputable def interest_Set.l101 : Nat → Int → S41 → (List (Int × S41)) → (List Int) → Option ((List Int))
  | 0, _, _, _, _ => none
  | k + 1, a3, y186, y3000013_101, x12_101 => if (y3000013_101).isEmpty = true then ((interest_sorted_i1.f x12_101).bind fun t206 => (some t206)) else (everyOf y3000013_101 fun p205 => ((grid_Near.f k y186.f0 y186.f1 p205.2.f0 p205.2.f1 a3).bind fun t207 => (if t207 = true then ((some (([p205.1] : List Int) : List Int)).bind fun y208 => (if x12_101.length + y208.length < 17592186044416 then ((some (x12_101 ++ y208 : List Int)).bind fun y209 => (interest_Set.l101 k a3 y186 (mdel y3000013_101 p205.1) y209)) else (none))) else (interest_Set.l101 k a3 y186 (mdel y3000013_101 p205.1) x12_101))))
end
noncomputable def interest_Set.f (k : Nat) (l0 : List (S50)) (l1 : List (S36)) (a2 : Int) (a3 : Int) : Option ((List Int)) := (interest_places.f k l0).bind fun t185 => ((some (mgetD z41 t185 a2 : S41)).bind fun y186 => ((some (mhas t185 a2 : Bool)).bind fun t187 => (if t187 = true then ((some (([a2] : List Int) : List Int)).bind fun y188 => ((api_Member_20_i1.f k l1 a2).bind fun bt189 => (interest_Set.l0 k l1 a3 y188 0 t185 y186 bt189.1))) else (some ([] : List Int)))))
theorem interest_Set.mono_l : ∀ k, (∀ y0 y1 y2 y3 y4 y5 y6, LeO (interest_Set.l0 k y0 y1 y2 y3 y4 y5 y6) (interest_Set.l0 (k + 1) y0 y1 y2 y3 y4 y5 y6)) ∧ (∀ y0 y1 y2 y3, LeO (interest_Set.l1 k y0 y1 y2 y3) (interest_Set.l1 (k + 1) y0 y1 y2 y3)) ∧ (∀ y0 y1 y2 y3, LeO (interest_Set.l101 k y0 y1 y2 y3) (interest_Set.l101 (k + 1) y0 y1 y2 y3))
  | 0 => ⟨fun _ _ _ _ _ _ _ r h => by simp [interest_Set.l0] at h, fun _ _ _ _ r h => by simp [interest_Set.l1] at h, fun _ _ _ _ r h => by simp [interest_Set.l101] at h⟩
  | k + 1 => by
    obtain ⟨ih0, ih1, ih2⟩ := interest_Set.mono_l k
    refine ⟨?_, ?_, ?_⟩
    · intro y0 y1 y2 y3 y4 y5 y6
      unfold interest_Set.l0
      repeat' first
      | (with_reducible exact ih0 _ _ _ _ _ _ _)
      | (with_reducible exact ih1 _ _ _ _)
      | (with_reducible exact ih2 _ _ _ _)
      | (with_reducible exact api_Member_20_i1.mono _ _ _)
      | (with_reducible exact grid_Near.mono _ _ _ _ _ _)
      | (with_reducible exact interest_places.mono _ _)
      | (with_reducible exact LeO.refl _)
      | (with_reducible exact LeO.none _)
      | (with_reducible refine LeO.ite ?_ ?_)
      | (with_reducible refine everyOf_le (fun _ => ?_))
      | (with_reducible refine LeO.bind ?_ (fun _ => ?_))
      | exact ih0 _ _ _ _ _ _ _
      | exact ih1 _ _ _ _
      | exact ih2 _ _ _ _
      | exact api_Member_20_i1.mono _ _ _
      | exact grid_Near.mono _ _ _ _ _ _
      | exact interest_places.mono _ _
      | exact LeO.none _
      | refine LeO.ite ?_ ?_
      | refine LeO.bind ?_ (fun _ => ?_)
    · intro y0 y1 y2 y3
      unfold interest_Set.l1
      repeat' first
      | (with_reducible exact ih0 _ _ _ _ _ _ _)
      | (with_reducible exact ih1 _ _ _ _)
      | (with_reducible exact ih2 _ _ _ _)
      | (with_reducible exact api_Member_20_i1.mono _ _ _)
      | (with_reducible exact grid_Near.mono _ _ _ _ _ _)
      | (with_reducible exact interest_places.mono _ _)
      | (with_reducible exact LeO.refl _)
      | (with_reducible exact LeO.none _)
      | (with_reducible refine LeO.ite ?_ ?_)
      | (with_reducible refine everyOf_le (fun _ => ?_))
      | (with_reducible refine LeO.bind ?_ (fun _ => ?_))
      | exact ih0 _ _ _ _ _ _ _
      | exact ih1 _ _ _ _
      | exact ih2 _ _ _ _
      | exact api_Member_20_i1.mono _ _ _
      | exact grid_Near.mono _ _ _ _ _ _
      | exact interest_places.mono _ _
      | exact LeO.none _
      | refine LeO.ite ?_ ?_
      | refine LeO.bind ?_ (fun _ => ?_)
    · intro y0 y1 y2 y3
      unfold interest_Set.l101
      repeat' first
      | (with_reducible exact ih0 _ _ _ _ _ _ _)
      | (with_reducible exact ih1 _ _ _ _)
      | (with_reducible exact ih2 _ _ _ _)
      | (with_reducible exact api_Member_20_i1.mono _ _ _)
      | (with_reducible exact grid_Near.mono _ _ _ _ _ _)
      | (with_reducible exact interest_places.mono _ _)
      | (with_reducible exact LeO.refl _)
      | (with_reducible exact LeO.none _)
      | (with_reducible refine LeO.ite ?_ ?_)
      | (with_reducible refine everyOf_le (fun _ => ?_))
      | (with_reducible refine LeO.bind ?_ (fun _ => ?_))
      | exact ih0 _ _ _ _ _ _ _
      | exact ih1 _ _ _ _
      | exact ih2 _ _ _ _
      | exact api_Member_20_i1.mono _ _ _
      | exact grid_Near.mono _ _ _ _ _ _
      | exact interest_places.mono _ _
      | exact LeO.none _
      | refine LeO.ite ?_ ?_
      | refine LeO.bind ?_ (fun _ => ?_)
theorem interest_Set.mono : ∀ a0 a1 a2 a3 k, LeO (interest_Set.f k a0 a1 a2 a3) (interest_Set.f (k + 1) a0 a1 a2 a3) := by
  intro a0 a1 a2 a3 k
  obtain ⟨ih0, ih1, ih2⟩ := interest_Set.mono_l k
  unfold interest_Set.f
  repeat' first
      | (with_reducible exact ih0 _ _ _ _ _ _ _)
      | (with_reducible exact ih1 _ _ _ _)
      | (with_reducible exact ih2 _ _ _ _)
      | (with_reducible exact api_Member_20_i1.mono _ _ _)
      | (with_reducible exact grid_Near.mono _ _ _ _ _ _)
      | (with_reducible exact interest_places.mono _ _)
      | (with_reducible exact LeO.refl _)
      | (with_reducible exact LeO.none _)
      | (with_reducible refine LeO.ite ?_ ?_)
      | (with_reducible refine everyOf_le (fun _ => ?_))
      | (with_reducible refine LeO.bind ?_ (fun _ => ?_))
      | exact ih0 _ _ _ _ _ _ _
      | exact ih1 _ _ _ _
      | exact ih2 _ _ _ _
      | exact api_Member_20_i1.mono _ _ _
      | exact grid_Near.mono _ _ _ _ _ _
      | exact interest_places.mono _ _
      | exact LeO.none _
      | refine LeO.ite ?_ ?_
      | refine LeO.bind ?_ (fun _ => ?_)
def interest_Set.Post (r : List Int) (S : Nat → Prop) (L : List Asr) (w : World) (e : Ending) (w' : World) : Prop := ∃ (Ar1 : Option Addr) (cr1 : Nat), e = .returned (.slice Ar1 r.length cr1) ∧ SL (row (Kd.int .i64) 3 (.slice Ar1 r.length cr1) r :: L) w' S ∧ Keep S w w'
set_option maxHeartbeats 8000000 in
set_option maxRecDepth 100000 in
theorem interest_Set.slcalls (k : Nat) (A0 : Option Addr) (c0 : Nat) (l0 : List (S50)) (A1 : Option Addr) (c1 : Nat) (l1 : List (S36)) (a2 : Int) (a3 : Int) (r : List Int) (S : Nat → Prop) (L : List Asr) (w : World) (hf : Fresh S w) (hs : SL (L) w S) (hr0 : RO S w (fun w_ => Kd.C k50 w_ A0 l0.length l0)) (hc0 : l0.length ≤ c0) (hr1 : RO S w (fun w_ => Kd.C k36 w_ A1 l1.length l1)) (hc1 : l1.length ≤ c1) (h : interest_Set.f k l0 l1 a2 a3 = some r) :
    Calls Try.prog 8 #[.slice A0 l0.length c0, .slice A1 l1.length c1, .int .i64 a2, .int .i64 a3] w (interest_Set.Post r S L w) := by
  have HR0 := Aside0.mk hr0
  have HC0 := Aside0.mk hc0
  clear hr0 hc0
  have HR1 := Aside0.mk hr1
  have HC1 := Aside0.mk hc1
  clear hr1 hc1
  have HF := Aside0.mk hf
  have HS := Aside0.mk hs
  have HK := Aside0.mk (Keep.refl S w)
  clear hf hs
  have hu36 := Try.underlying36
  have hu41 := Try.underlying41
  have H : ((interest_places.f k l0).bind fun t185 => ((some (mgetD z41 t185 a2 : S41)).bind fun y186 => ((some (mhas t185 a2 : Bool)).bind fun t187 => (if t187 = true then ((some (([a2] : List Int) : List Int)).bind fun y188 => ((api_Member_20_i1.f k l1 a2).bind fun bt189 => (interest_Set.l0 k l1 a3 y188 0 t185 y186 bt189.1))) else (some ([] : List Int)))))) = some r := h
  clear h
  replace H := Option.bind_eq_some_iff.1 H
  obtain ⟨t185, Hc10, H⟩ := H
  try dsimp only at H
  have Hc1 := Aside0.mk Hc10
  clear Hc10
  replace H := Option.bind_eq_some_iff.1 H
  obtain ⟨y186, hy1860, H⟩ := H
  try dsimp only at H
  have hy186 := Option.some.inj hy1860
  clear hy1860
  have Ny186 := Aside0.mk hy186
  clear hy186
  replace H := Option.bind_eq_some_iff.1 H
  obtain ⟨t187, ht1870, H⟩ := H
  try dsimp only at H
  have ht187 := Option.some.inj ht1870
  clear ht1870
  have Nt187 := Aside0.mk ht187
  clear ht187
  have H' := Aside0.mk H
  clear H
  go_enter Try.func8, Try.ntmps8
  try go_wp2_with (first | ((with_reducible refine gate_dst (N := 6) rfl ?_); refine wpList_plain rfl (fun K_ hK_ => ?_); refine op_box (S := S) (cs := #[.int .i64 a2]) (t := 3) (HF.out.keep HK.out) HS.out (by first | (go_simp; done) | (go_simp; rfl)) ?_; intro g3000005 w2 hs_ hk_; refine hK_ _ _ ?_; clear hK_ K_; replace HS := Aside0.mk (hs_); replace HK := Aside0.mk (HK.out.trans hk_)) | ((with_reducible refine gate_dst (N := 21) rfl ?_); refine goesL_ (some 21) rfl rfl Try.func19 (by kernel_rfl) rfl #[.slice A0 l0.length c0] rfl (by (try simp only [List.map_toArray, List.map_cons, List.map_nil]); first | done | rfl | (simp; done)) ?_; have hs0_ := HS.out; (with_reducible refine (interest_places.slcalls k _ _ _ _ _ _ _ (HF.out.keep HK.out) hs0_ (HR0.out.keep HK.out) HC0.out Hc1.out).mono ?_); rintro e_ w3 ⟨g3000006, zs3000006, zc3000006, rfl, hsr_, hkr_⟩; refine ⟨_, rfl, ?_⟩; replace HS := Aside0.mk (hsr_); replace HK := Aside0.mk (HK.out.trans hkr_); have hb_ := SL.at_ (SL.get1 HS.out); have hz3000005_0_2 := ((blk_cell hb_ 0).trans rfl : _ = some (.int .i64 a2)); clear hb_) | ((with_reducible refine gate_dst (N := 25) rfl ?_); refine wpList_plain rfl (fun K_ hK_ => ?_); refine op_lookup (keyL_int (β := S41) (P := Try.prog) Try.underlying3) z41 (.tmp 23) (.tmp 24) rfl Try.underlying38 (by kernel_rfl) g3000006 rfl a2 (by rfl) HS.out y186 Ny186.out t187 Nt187.out (.agg #[.int .i64 y186.f0, .int .i64 y186.f1]) rfl ?_; refine hK_ _ _ ?_; clear hK_ K_) | ((with_reducible refine gate_dst (N := 10) rfl ?_); refine wpList_plain rfl (fun K_ hK_ => ?_); refine op_box (S := S) (cs := #[.int .i64 0, .int .i64 0]) (t := 41) (HF.out.keep HK.out) HS.out (by first | (go_simp; done) | (go_simp; rfl)) ?_; intro g3000007 w5 hs_ hk_; refine hK_ _ _ ?_; clear hK_ K_; replace HS := Aside0.mk (hs_); replace HK := Aside0.mk (HK.out.trans hk_); (try clear hz3000005_0_2)) | ((with_reducible refine gate_store (t := 41) (p := 10) (v := (.tmp 26)) rfl ?_); refine wpList_plain rfl (fun K_ hK_ => ?_); refine op_store (S := S) 41 (.tmp 10) (.tmp 26) rfl g3000007 0 (.agg #[.int .i64 y186.f0, .int .i64 y186.f1]) [.int .i64 y186.f0, .int .i64 y186.f1] rfl rfl rfl (by kernel_rfl) (by simp [Value.oneCell']) HS.out (by simp) ?_; intro w6 hs_ hk_; refine hK_ _ _ ?_; clear hK_ K_; replace HS := Aside0.mk ((show SL (cells g3000007 41 [.int .i64 y186.f0, .int .i64 y186.f1].toArray :: _) _ _ from hs_)); replace HK := Aside0.mk (HK.out.trans hk_); refine stop_ ?_; intro G_ hG_))
  go_step3
  try go_wp2_with (first | ((with_reducible refine gate_dst (N := 6) rfl ?_); refine wpList_plain rfl (fun K_ hK_ => ?_); refine op_box (S := S) (cs := #[.int .i64 a2]) (t := 3) (HF.out.keep HK.out) HS.out (by first | (go_simp; done) | (go_simp; rfl)) ?_; intro g3000005 w2 hs_ hk_; refine hK_ _ _ ?_; clear hK_ K_; replace HS := Aside0.mk (hs_); replace HK := Aside0.mk (HK.out.trans hk_)) | ((with_reducible refine gate_dst (N := 21) rfl ?_); refine goesL_ (some 21) rfl rfl Try.func19 (by kernel_rfl) rfl #[.slice A0 l0.length c0] rfl (by (try simp only [List.map_toArray, List.map_cons, List.map_nil]); first | done | rfl | (simp; done)) ?_; have hs0_ := HS.out; (with_reducible refine (interest_places.slcalls k _ _ _ _ _ _ _ (HF.out.keep HK.out) hs0_ (HR0.out.keep HK.out) HC0.out Hc1.out).mono ?_); rintro e_ w3 ⟨g3000006, zs3000006, zc3000006, rfl, hsr_, hkr_⟩; refine ⟨_, rfl, ?_⟩; replace HS := Aside0.mk (hsr_); replace HK := Aside0.mk (HK.out.trans hkr_); have hb_ := SL.at_ (SL.get1 HS.out); have hz3000005_0_2 := ((blk_cell hb_ 0).trans rfl : _ = some (.int .i64 a2)); clear hb_) | ((with_reducible refine gate_dst (N := 25) rfl ?_); refine wpList_plain rfl (fun K_ hK_ => ?_); refine op_lookup (keyL_int (β := S41) (P := Try.prog) Try.underlying3) z41 (.tmp 23) (.tmp 24) rfl Try.underlying38 (by kernel_rfl) g3000006 rfl a2 (by rfl) HS.out y186 Ny186.out t187 Nt187.out (.agg #[.int .i64 y186.f0, .int .i64 y186.f1]) rfl ?_; refine hK_ _ _ ?_; clear hK_ K_) | ((with_reducible refine gate_dst (N := 10) rfl ?_); refine wpList_plain rfl (fun K_ hK_ => ?_); refine op_box (S := S) (cs := #[.int .i64 0, .int .i64 0]) (t := 41) (HF.out.keep HK.out) HS.out (by first | (go_simp; done) | (go_simp; rfl)) ?_; intro g3000007 w5 hs_ hk_; refine hK_ _ _ ?_; clear hK_ K_; replace HS := Aside0.mk (hs_); replace HK := Aside0.mk (HK.out.trans hk_); (try clear hz3000005_0_2)) | ((with_reducible refine gate_store (t := 41) (p := 10) (v := (.tmp 26)) rfl ?_); refine wpList_plain rfl (fun K_ hK_ => ?_); refine op_store (S := S) 41 (.tmp 10) (.tmp 26) rfl g3000007 0 (.agg #[.int .i64 y186.f0, .int .i64 y186.f1]) [.int .i64 y186.f0, .int .i64 y186.f1] rfl rfl rfl (by kernel_rfl) (by simp [Value.oneCell']) HS.out (by simp) ?_; intro w6 hs_ hk_; refine hK_ _ _ ?_; clear hK_ K_; replace HS := Aside0.mk ((show SL (cells g3000007 41 [.int .i64 y186.f0, .int .i64 y186.f1].toArray :: _) _ _ from hs_)); replace HK := Aside0.mk (HK.out.trans hk_); refine stop_ ?_; intro G_ hG_))
  try simp only [Exit.noGoto_ret, Exit.noGoto_normal, Exit.noGoto_exit]
  have H := H'.out
  clear H'
  by_cases c7 : t187 = true
  · subst c7
    rw [if_pos rfl] at H
    replace H := Option.bind_eq_some_iff.1 H
    obtain ⟨y188, hy1880, H⟩ := H
    try dsimp only at H
    have hy188 := Option.some.inj hy1880
    clear hy1880
    have Ny188 := Aside0.mk hy188
    clear hy188
    replace H := Option.bind_eq_some_iff.1 H
    obtain ⟨⟨t189, t190⟩, Hc80, H⟩ := H
    try dsimp only at H
    have Hc8 := Aside0.mk Hc80
    clear Hc80
    have H' := Aside0.mk H
    clear H
    have hb_ := SL.at_ (SL.get2 HS.out)
    have hz3000005_0_0 := ((blk_cell hb_ 0).trans rfl : _ = some (.int .i64 a2))
    clear hb_
    refine hG_.out ?_
    try go_wp2_with (first | ((with_reducible refine gate_dst (N := 31) rfl ?_); refine wpList_plain rfl (fun K_ hK_ => ?_); refine op_row (S := S) (enc := Value.int .i64) (h1 := fun _ => rfl) 3 y188 #[.int .i64 a2] 1 (by rw [← Ny188.out]; rfl) (by rw [← Ny188.out]; rfl) (by decide) (HF.out.keep HK.out) HS.out (by first | (go_simp; done) | (go_simp; rfl)) ?_; intro Az3000008 cz3000008 w9 hs_ hk_; refine hK_ _ _ ?_; clear hK_ K_; replace HS := Aside0.mk ((show SL (row (Kd.int .i64) 3 (.slice Az3000008 1 cz3000008) y188 :: _) _ _ from hs_)); replace HK := Aside0.mk (HK.out.trans hk_); (try clear hz3000005_0_0)) | ((with_reducible refine gate_dst (N := 34) rfl ?_); refine goesL_ (some 34) rfl rfl Try.func20 (by kernel_rfl) rfl #[.slice A1 l1.length c1, .func (.func 21) #[] #[.pointer (some ⟨g3000005, 0, none⟩)]] rfl (by (try simp only [List.map_toArray, List.map_cons, List.map_nil]); first | done | rfl | (simp; done)) ?_; have hs0_ := (SL.get3 HS.out); (with_reducible refine (api_Member_20_i1.slcalls k _ _ _ _ _ _ _ _ _ _ (HF.out.keep HK.out) hs0_ (HR1.out.keep HK.out) HC1.out Hc8.out).mono ?_); rintro e_ w10 ⟨rfl, hsr_, hkr_⟩; refine ⟨_, rfl, ?_⟩; replace HS := Aside0.mk (hsr_); replace HK := Aside0.mk (HK.out.trans hkr_)))
    go_step3
    try go_wp2_with (first | ((with_reducible refine gate_dst (N := 31) rfl ?_); refine wpList_plain rfl (fun K_ hK_ => ?_); refine op_row (S := S) (enc := Value.int .i64) (h1 := fun _ => rfl) 3 y188 #[.int .i64 a2] 1 (by rw [← Ny188.out]; rfl) (by rw [← Ny188.out]; rfl) (by decide) (HF.out.keep HK.out) HS.out (by first | (go_simp; done) | (go_simp; rfl)) ?_; intro Az3000008 cz3000008 w9 hs_ hk_; refine hK_ _ _ ?_; clear hK_ K_; replace HS := Aside0.mk ((show SL (row (Kd.int .i64) 3 (.slice Az3000008 1 cz3000008) y188 :: _) _ _ from hs_)); replace HK := Aside0.mk (HK.out.trans hk_); (try clear hz3000005_0_0)) | ((with_reducible refine gate_dst (N := 34) rfl ?_); refine goesL_ (some 34) rfl rfl Try.func20 (by kernel_rfl) rfl #[.slice A1 l1.length c1, .func (.func 21) #[] #[.pointer (some ⟨g3000005, 0, none⟩)]] rfl (by (try simp only [List.map_toArray, List.map_cons, List.map_nil]); first | done | rfl | (simp; done)) ?_; have hs0_ := (SL.get3 HS.out); (with_reducible refine (api_Member_20_i1.slcalls k _ _ _ _ _ _ _ _ _ _ (HF.out.keep HK.out) hs0_ (HR1.out.keep HK.out) HC1.out Hc8.out).mono ?_); rintro e_ w10 ⟨rfl, hsr_, hkr_⟩; refine ⟨_, rfl, ?_⟩; replace HS := Aside0.mk (hsr_); replace HK := Aside0.mk (HK.out.trans hkr_)))
    try simp only [Exit.noGoto_ret, Exit.noGoto_normal, Exit.noGoto_exit]
    replace HS := Aside0.mk (SL.get3 (SL.get2 (SL.get3 (SL.get3 HS.out))))
    have el11 := Aside0.mk (SL.row_c HS.out).1
    replace HS := Aside0.mk (SL.row_len HS.out)
    go_loopg [12, 37] k (fun kq v12 v37 w' => ∃ (x12_0 : List Int) (Ax12_0 : Option Addr) (cx12_0 : Nat) (x37_0 : Int), v12 = .slice Ax12_0 x12_0.length cx12_0 ∧ v37 = .int .i64 x37_0 ∧ Aside0 (interest_Set.l0 kq l1 a3 x12_0 x37_0 t185 y186 t189 = some r) ∧ Aside0 (kq ≤ k) ∧ Aside0 (SL (row (Kd.int .i64) 3 (.slice Ax12_0 x12_0.length cx12_0) x12_0 :: cells g3000005 3 [.int .i64 t190].toArray :: cells g3000007 41 [.int .i64 y186.f0, .int .i64 y186.f1].toArray :: mapo g3000006 (Value.int .i64) (fun x_ : S41 => Value.agg #[.int .i64 x_.f0, .int .i64 x_.f1]) t185 zs3000006 zc3000006 :: L) w' S) ∧ Aside0 (Keep S w w'))
    case atStart => exact ⟨(y188), (Az3000008), (cz3000008), (0), (by first | rfl | (simp; done) | (simp [*]; done) | (rw [← el11.out]; done) | (rw [← el11.out]; rfl)), (by first | rfl | (simp; done) | (simp [*]; done) | (rw [← el11.out]; done) | (rw [← el11.out]; rfl)), H', ⟨Nat.le_refl _⟩, HS, HK⟩
    case round =>
      clear H' HS HK
      try clear hz3000005_0_0
      obtain ⟨x12_0, Ax12_0, cx12_0, x37_0, rfl, rfl, HA, HQ1, HS, HK⟩ := hrel
      cases gk with
      | zero => exact absurd HA.out (by simp [interest_Set.l0])
      | succ k1 =>
        have H := HA.out
        clear HA
        simp only [interest_Set.l0] at H
        by_cases c12 : x37_0 < (l1.length : Int)
        · rw [if_pos c12] at H
          have c12b0 : decide (x37_0 < (l1.length : Int)) = true := decide_eq_true c12
          clear c12
          by_cases c13 : 0 ≤ x37_0
          · rw [if_pos c13] at H
            have c13b0 : decide (0 ≤ x37_0) = true := decide_eq_true c13
            clear c13
            by_cases c14 : t189 = true
            · subst c14
              rw [if_pos rfl] at H
              replace H := Option.bind_eq_some_iff.1 H
              obtain ⟨y192, hy1920, H⟩ := H
              try dsimp only at H
              have hy192 := Option.some.inj hy1920
              clear hy1920
              have Ny192 := Aside0.mk hy192
              clear hy192
              replace H := Option.bind_eq_some_iff.1 H
              obtain ⟨t193, ht1930, H⟩ := H
              try dsimp only at H
              have ht193 := Option.some.inj ht1930
              clear ht1930
              have Nt193 := Aside0.mk ht193
              clear ht193
              have H' := Aside0.mk H
              clear H
              have pq191 : 0 ≤ (x37_0 : Int) := of_decide_eq_true (by first | (with_reducible assumption) | assumption)
              have qq191 : x37_0 < ((l1.length : Int) : Int) := of_decide_eq_true (by first | (with_reducible assumption) | assumption)
              obtain ⟨adq191, eq191, hxq191_0, hxq191_1⟩ := at_T36 (RO.at_ HR1.out HK.out) x37_0 pq191 qq191
              cases eq191
              replace pq191 := eq_true pq191
              replace qq191 := eq_true qq191
              go_wp2_with (first | ((with_reducible refine gate_dst (N := 15) rfl ?_); refine wpList_plain rfl (fun K_ hK_ => ?_); refine op_box (S := S) (cs := #[.int .i64 0, .int .i64 0]) (t := 36) (HF.out.keep HK.out) HS.out (by first | (go_simp; done) | (go_simp; rfl)) ?_; intro g3000010 w15 hs_ hk_; refine hK_ _ _ ?_; clear hK_ K_; replace HS := Aside0.mk (hs_); replace HK := Aside0.mk (HK.out.trans hk_)) | ((with_reducible refine gate_store (t := 36) (p := 15) (v := (.tmp 40)) rfl ?_); refine wpList_plain rfl (fun K_ hK_ => ?_); refine op_store (S := S) 36 (.tmp 15) (.tmp 40) rfl g3000010 0 (.agg #[.int .i64 ((rd_T36 l1 x37_0).f0), .int .i64 ((rd_T36 l1 x37_0).f1)]) [.int .i64 ((rd_T36 l1 x37_0).f0), .int .i64 ((rd_T36 l1 x37_0).f1)] rfl rfl rfl (by kernel_rfl) (by simp [Value.oneCell']) HS.out (by simp) ?_; intro w16 hs_ hk_; refine hK_ _ _ ?_; clear hK_ K_; replace HS := Aside0.mk ((show SL (cells g3000010 36 [.int .i64 ((rd_T36 l1 x37_0).f0), .int .i64 ((rd_T36 l1 x37_0).f1)].toArray :: _) _ _ from hs_)); replace HK := Aside0.mk (HK.out.trans hk_); have hb_ := SL.at_ HS.out; have hz3000010_0_2 := ((blk_cell hb_ 0).trans rfl : _ = some (.int .i64 ((rd_T36 l1 x37_0).f0))); have hz3000010_1_2 := ((blk_cell hb_ 1).trans rfl : _ = some (.int .i64 ((rd_T36 l1 x37_0).f1))); clear hb_) | ((with_reducible refine gate_dst (N := 47) rfl ?_); refine wpList_plain rfl (fun K_ hK_ => ?_); refine op_lookup (keyL_int (β := S41) (P := Try.prog) Try.underlying3) z41 (.tmp 44) (.tmp 46) rfl Try.underlying38 (by kernel_rfl) g3000006 rfl ((rd_T36 l1 x37_0).f0) (by rfl) (SL.get4 HS.out) y192 Ny192.out t193 Nt193.out (.agg #[.int .i64 y192.f0, .int .i64 y192.f1]) rfl ?_; refine hK_ _ _ ?_; clear hK_ K_) | ((with_reducible refine gate_dst (N := 16) rfl ?_); refine wpList_plain rfl (fun K_ hK_ => ?_); refine op_box (S := S) (cs := #[.int .i64 0, .int .i64 0]) (t := 41) (HF.out.keep HK.out) HS.out (by first | (go_simp; done) | (go_simp; rfl)) ?_; intro g3000011 w18 hs_ hk_; refine hK_ _ _ ?_; clear hK_ K_; replace HS := Aside0.mk (hs_); replace HK := Aside0.mk (HK.out.trans hk_); (try clear hz3000010_0_2 hz3000010_1_2)) | ((with_reducible refine gate_store (t := 41) (p := 16) (v := (.tmp 48)) rfl ?_); refine wpList_plain rfl (fun K_ hK_ => ?_); refine op_store (S := S) 41 (.tmp 16) (.tmp 48) rfl g3000011 0 (.agg #[.int .i64 y192.f0, .int .i64 y192.f1]) [.int .i64 y192.f0, .int .i64 y192.f1] rfl rfl rfl (by kernel_rfl) (by simp [Value.oneCell']) HS.out (by simp) ?_; intro w19 hs_ hk_; refine hK_ _ _ ?_; clear hK_ K_; replace HS := Aside0.mk ((show SL (cells g3000011 41 [.int .i64 y192.f0, .int .i64 y192.f1].toArray :: _) _ _ from hs_)); replace HK := Aside0.mk (HK.out.trans hk_); refine stop_ ?_; intro G_ hG_))
              try simp only [Exit.noGoto_ret, Exit.noGoto_normal, Exit.noGoto_exit]
              have H := H'.out
              clear H'
              by_cases c20 : t193 = true
              · subst c20
                rw [if_pos rfl] at H
                replace H := Option.bind_eq_some_iff.1 H
                obtain ⟨y194, hy1940, H⟩ := H
                try dsimp only at H
                have hy194 := Option.some.inj hy1940
                clear hy1940
                have Ny194 := Aside0.mk hy194
                clear hy194
                by_cases c21 : x12_0.length + y194.length < 17592186044416
                · rw [if_pos c21] at H
                  have LMc21 := Aside0.mk c21
                  clear c21
                  replace H := Option.bind_eq_some_iff.1 H
                  obtain ⟨y195, hy1950, H⟩ := H
                  try dsimp only at H
                  have hy195 := Option.some.inj hy1950
                  clear hy1950
                  have Ny195 := Aside0.mk hy195
                  clear hy195
                  have H' := Aside0.mk H
                  clear H
                  have hb_ := SL.at_ (SL.get1 HS.out)
                  have hz3000010_0_0 := ((blk_cell hb_ 0).trans rfl : _ = some (.int .i64 ((rd_T36 l1 x37_0).f0)))
                  have hz3000010_1_0 := ((blk_cell hb_ 1).trans rfl : _ = some (.int .i64 ((rd_T36 l1 x37_0).f1)))
                  clear hb_
                  refine hG_.out ?_
                  go_wp2_with (first | ((with_reducible refine gate_dst (N := 54) rfl ?_); refine wpList_plain rfl (fun K_ hK_ => ?_); refine op_row (S := S) (enc := Value.int .i64) (h1 := fun _ => rfl) 3 y194 #[.int .i64 ((rd_T36 l1 x37_0).f0)] 1 (by rw [← Ny194.out]; rfl) (by rw [← Ny194.out]; rfl) (by decide) (HF.out.keep HK.out) HS.out (by first | (go_simp; done) | (go_simp; rfl)) ?_; intro Az3000012 cz3000012 w22 hs_ hk_; refine hK_ _ _ ?_; clear hK_ K_; replace HS := Aside0.mk ((show SL (row (Kd.int .i64) 3 (.slice Az3000012 1 cz3000012) y194 :: _) _ _ from hs_)); replace HK := Aside0.mk (HK.out.trans hk_); (try clear hz3000010_0_0 hz3000010_1_0)) | ((with_reducible refine gate_dst (N := 55) rfl ?_); refine wpList_plain rfl (fun K_ hK_ => ?_); refine op_append (S := S) (enc := Value.int .i64) (h1 := fun _ => rfl) 0 (.tmp 51) (.tmp 54) 25 3 (.int .i64 0) 8 rfl Try.underlying25 info3 rfl (by decide) (.slice Ax12_0 x12_0.length cx12_0) rfl rfl (HF.out.keep HK.out) (SL.get3 HS.out) (SL.row_c HS.out).2.2 (by have := LMc21.out; have e_ := (SL.row_c HS.out).1; omega) y195 Ny195.out ?_; intro A196 c197 w23 hs_ hk_; refine hK_ _ _ ?_; clear hK_ K_; replace HS := Aside0.mk ((SL.back3 (show SL (row (Kd.int .i64) 3 (.slice A196 y195.length c197) y195 :: _) _ _ from hs_))); replace HK := Aside0.mk (HK.out.trans hk_)))
                  try simp only [Exit.noGoto_ret, Exit.noGoto_normal, Exit.noGoto_exit]
                  replace HS := Aside0.mk (SL.tail (SL.tail (SL.tail HS.out)))
                  go_roundg k1
                  case measure => have := HQ1.out; omega
                  case rel => exact ⟨(y195), (A196), (c197), (wrap64 (x37_0 + 1)), (by first | rfl | (simp; done) | (simp [*]; done)), (by first | rfl | (simp; done) | (simp [*]; done)), H', ⟨by have := HQ1.out; omega⟩, HS, HK⟩
                · rw [if_neg c21] at H
                  exact absurd H (by simp)
              · replace c20 := Bool.eq_false_iff.mpr c20
                subst c20
                rw [if_neg (show ¬ (false = true) by decide)] at H
                have H' := Aside0.mk H
                clear H
                refine hG_.out ?_
                go_wp2
                try simp only [Exit.noGoto_ret, Exit.noGoto_normal, Exit.noGoto_exit]
                replace HS := Aside0.mk (SL.tail (SL.tail HS.out))
                go_roundg k1
                case measure => have := HQ1.out; omega
                case rel => exact ⟨(x12_0), (Ax12_0), (cx12_0), (wrap64 (x37_0 + 1)), (by first | rfl | (simp; done) | (simp [*]; done)), (by first | rfl | (simp; done) | (simp [*]; done)), H', ⟨by have := HQ1.out; omega⟩, HS, HK⟩
            · replace c14 := Bool.eq_false_iff.mpr c14
              subst c14
              rw [if_neg (show ¬ (false = true) by decide)] at H
              have H' := Aside0.mk H
              clear H
              have pq191 : 0 ≤ (x37_0 : Int) := of_decide_eq_true (by first | (with_reducible assumption) | assumption)
              have qq191 : x37_0 < ((l1.length : Int) : Int) := of_decide_eq_true (by first | (with_reducible assumption) | assumption)
              obtain ⟨adq191, eq191, hxq191_0, hxq191_1⟩ := at_T36 (RO.at_ HR1.out HK.out) x37_0 pq191 qq191
              cases eq191
              replace pq191 := eq_true pq191
              replace qq191 := eq_true qq191
              go_wp2_with (first | ((with_reducible refine gate_dst (N := 15) rfl ?_); refine wpList_plain rfl (fun K_ hK_ => ?_); refine op_box (S := S) (cs := #[.int .i64 0, .int .i64 0]) (t := 36) (HF.out.keep HK.out) HS.out (by first | (go_simp; done) | (go_simp; rfl)) ?_; intro g3000010 w24 hs_ hk_; refine hK_ _ _ ?_; clear hK_ K_; replace HS := Aside0.mk (hs_); replace HK := Aside0.mk (HK.out.trans hk_)) | ((with_reducible refine gate_store (t := 36) (p := 15) (v := (.tmp 40)) rfl ?_); refine wpList_plain rfl (fun K_ hK_ => ?_); refine op_store (S := S) 36 (.tmp 15) (.tmp 40) rfl g3000010 0 (.agg #[.int .i64 ((rd_T36 l1 x37_0).f0), .int .i64 ((rd_T36 l1 x37_0).f1)]) [.int .i64 ((rd_T36 l1 x37_0).f0), .int .i64 ((rd_T36 l1 x37_0).f1)] rfl rfl rfl (by kernel_rfl) (by simp [Value.oneCell']) HS.out (by simp) ?_; intro w25 hs_ hk_; refine hK_ _ _ ?_; clear hK_ K_; replace HS := Aside0.mk ((show SL (cells g3000010 36 [.int .i64 ((rd_T36 l1 x37_0).f0), .int .i64 ((rd_T36 l1 x37_0).f1)].toArray :: _) _ _ from hs_)); replace HK := Aside0.mk (HK.out.trans hk_)) | ((with_reducible refine gate_dst (N := 58) rfl ?_); refine wpList_plain rfl (fun K_ hK_ => ?_); refine op_range (S := S) (.tmp 57) rfl Try.underlying38 g3000006 rfl (HF.out.keep HK.out) (SL.get4 HS.out) ?_; intro g3000013 w26 hs_ hk_; refine hK_ _ _ ?_; clear hK_ K_; replace HS := Aside0.mk ((SL.get5 (SL.get5 (SL.get5 (SL.get5 (SL.get5 (SL.get1 (show SL (iter g3000013 g3000006 t185 zs3000006 zc3000006 t185 :: _) _ _ from hs_)))))))); replace HK := Aside0.mk (HK.out.trans hk_)))
              try simp only [Exit.noGoto_ret, Exit.noGoto_normal, Exit.noGoto_exit]
              replace HS := Aside0.mk (SL.get4 (SL.get3 (SL.get4 (SL.get4 (SL.get4 (SL.tail (SL.get1 HS.out)))))))
              go_simp
              go_loopg [12] k1 (fun kq v12 w' => ∃ (x12_1 : List Int) (Ax12_1 : Option Addr) (cx12_1 : Nat) (y3000013_1 : List (Int × S41)), v12 = .slice Ax12_1 x12_1.length cx12_1 ∧ Aside0 (interest_Set.l1 kq a3 x12_1 y3000013_1 y186 = some r) ∧ Aside0 (kq ≤ k1) ∧ Aside0 (SL (row (Kd.int .i64) 3 (.slice Ax12_1 x12_1.length cx12_1) x12_1 :: iter g3000013 g3000006 t185 zs3000006 zc3000006 y3000013_1 :: cells g3000005 3 [.int .i64 t190].toArray :: cells g3000007 41 [.int .i64 y186.f0, .int .i64 y186.f1].toArray :: mapo g3000006 (Value.int .i64) (fun x_ : S41 => Value.agg #[.int .i64 x_.f0, .int .i64 x_.f1]) t185 zs3000006 zc3000006 :: L) w' S) ∧ Aside0 (Keep S w w'))
              case atStart => exact ⟨(x12_0), (Ax12_0), (cx12_0), (t185), (by first | rfl | (simp; done) | (simp [*]; done)), H', ⟨Nat.le_refl _⟩, HS, HK⟩
              case round =>
                clear H' HS HK
                obtain ⟨x12_1, Ax12_1, cx12_1, y3000013_1, rfl, HA, HQ2, HS, HK⟩ := hrel
                cases gk with
                | zero => exact absurd HA.out (by simp [interest_Set.l1])
                | succ k2 =>
                  have H := HA.out
                  clear HA
                  simp only [interest_Set.l1] at H
                  by_cases c27 : (y3000013_1).isEmpty = true
                  · rw [if_pos c27] at H
                    replace H := Option.bind_eq_some_iff.1 H
                    obtain ⟨t199, Hc280, H⟩ := H
                    try dsimp only at H
                    have Hc28 := Aside0.mk Hc280
                    clear Hc280
                    obtain rfl := Option.some.inj H
                    go_wp2_with (first | ((with_reducible refine gate_dst (N := 59) rfl ?_); refine wpList_plain rfl (fun K_ hK_ => ?_); refine op_next_end (.tmp 58) rfl rfl (SL.get2 (SL.get4 HS.out)) c27 ?_; refine hK_ _ _ ?_; clear hK_ K_) | ((with_reducible refine gate_dst (N := 73) rfl ?_); refine goesL_ (some 73) rfl rfl Try.func23 (by kernel_rfl) rfl #[.slice Ax12_1 x12_1.length cx12_1] rfl (by (try simp only [List.map_toArray, List.map_cons, List.map_nil]); first | done | rfl | (simp; done)) ?_; have hs0_ := HS.out; (with_reducible refine (interest_sorted_i1.slcalls _ _ _ _ _ _ _ (HF.out.keep HK.out) hs0_  Hc28.out).mono ?_); rintro e_ w30 ⟨Az3000015, cz3000015, rfl, hsr_, hkr_⟩; refine ⟨_, rfl, ?_⟩; replace HS := Aside0.mk (hsr_); replace HK := Aside0.mk (HK.out.trans hkr_)))
                    try simp only [Exit.noGoto_ret, Exit.noGoto_normal, Exit.noGoto_exit]
                    go_ret
                    replace HS := Aside0.mk (SL.tail (SL.get1 (SL.tail (SL.get1 (SL.tail (SL.get1 (SL.tail (SL.get1 HS.out))))))))
                    unfold interest_Set.Post
                    exact ⟨Az3000015, cz3000015, by first | rfl | (simp; done) | (simp [*]; done) | (simp at c13b0 ⊢; first | exact c13b0 | (simp [c13b0]; done)), HS.out, HK.out⟩
                  · rw [if_neg c27] at H
                    have H' := Aside0.mk H
                    clear H
                    go_wp2_with (first | ((with_reducible refine gate_dst (N := 59) rfl ?_); refine wpList_plain rfl (fun K_ hK_ => ?_); refine op_next (.tmp 58) rfl rfl (SL.get2 (SL.get4 HS.out)) c27 ?_; intro p198 hp_p198 w31 hs_ hk_; refine hK_ _ _ ?_; clear hK_ K_; replace HS := Aside0.mk ((SL.get4 (SL.get3 (SL.get4 (SL.get4 (SL.get1 (show SL (iterAt g3000013 g3000006 t185 zs3000006 zc3000006 p198 (mdel y3000013_1 p198.1) :: _) _ _ from hs_))))))); replace HK := Aside0.mk (HK.out.trans hk_); refine stop_ ?_; intro G_ hG_))
                    try simp only [Exit.noGoto_ret, Exit.noGoto_normal, Exit.noGoto_exit]
                    have H := everyOf_some H'.out p198 hp_p198
                    clear H'
                    try dsimp only at H
                    replace H := Option.bind_eq_some_iff.1 H
                    obtain ⟨t200, Hc320, H⟩ := H
                    try dsimp only at H
                    have Hc32 := Aside0.mk Hc320
                    clear Hc320
                    have H' := Aside0.mk H
                    clear H
                    refine hG_.out ?_
                    go_wp2_with (first | ((with_reducible refine gate_dst (N := 61) rfl ?_); refine wpList_plain rfl (fun K_ hK_ => ?_); refine op_entry (.tmp 58) rfl rfl (SL.get2 (SL.get4 HS.out)) (.int .i64 p198.1) (.agg #[.int .i64 p198.2.f0, .int .i64 p198.2.f1]) rfl rfl ?_; intro hs_; refine hK_ _ _ ?_; clear hK_ K_; have n2_ := Aside0.mk (SL.get4 (SL.get3 (SL.get4 (SL.get4 (SL.get1 (show SL (iter g3000013 g3000006 t185 zs3000006 zc3000006 (mdel y3000013_1 p198.1) :: _) _ _ from hs_)))))); clear HS hs_; have HS := n2_; clear n2_) | ((with_reducible refine gate_dst (N := 19) rfl ?_); refine wpList_plain rfl (fun K_ hK_ => ?_); refine op_box (S := S) (cs := #[.int .i64 0, .int .i64 0]) (t := 41) (HF.out.keep HK.out) HS.out (by first | (go_simp; done) | (go_simp; rfl)) ?_; intro g3000016 w34 hs_ hk_; refine hK_ _ _ ?_; clear hK_ K_; replace HS := Aside0.mk (hs_); replace HK := Aside0.mk (HK.out.trans hk_)) | ((with_reducible refine gate_store (t := 41) (p := 19) (v := (.tmp 63)) rfl ?_); refine wpList_plain rfl (fun K_ hK_ => ?_); refine op_store (S := S) 41 (.tmp 19) (.tmp 63) rfl g3000016 0 (.agg #[.int .i64 p198.2.f0, .int .i64 p198.2.f1]) [.int .i64 p198.2.f0, .int .i64 p198.2.f1] rfl rfl rfl (by kernel_rfl) (by simp [Value.oneCell']) HS.out (by simp) ?_; intro w35 hs_ hk_; refine hK_ _ _ ?_; clear hK_ K_; replace HS := Aside0.mk ((show SL (cells g3000016 41 [.int .i64 p198.2.f0, .int .i64 p198.2.f1].toArray :: _) _ _ from hs_)); replace HK := Aside0.mk (HK.out.trans hk_); have hb_ := SL.at_ HS.out; have hz3000016_0_2 := ((blk_cell hb_ 0).trans rfl : _ = some (.int .i64 p198.2.f0)); have hz3000016_1_2 := ((blk_cell hb_ 1).trans rfl : _ = some (.int .i64 p198.2.f1)); clear hb_; have hb_ := SL.at_ (SL.get4 HS.out); have hz3000007_0_2 := ((blk_cell hb_ 0).trans rfl : _ = some (.int .i64 y186.f0)); have hz3000007_1_2 := ((blk_cell hb_ 1).trans rfl : _ = some (.int .i64 y186.f1)); clear hb_) | ((with_reducible refine gate_dst (N := 67) rfl ?_); refine goesL_ (some 67) rfl rfl Try.func22 (by kernel_rfl) rfl #[.agg #[.int .i64 y186.f0, .int .i64 y186.f1], .agg #[.int .i64 p198.2.f0, .int .i64 p198.2.f1], .int .i64 a3] rfl (by (try simp only [List.map_toArray, List.map_cons, List.map_nil]); first | done | rfl | (simp; done)) ?_; (with_reducible refine (grid_Near.calls k2 _ _ _ _ _ _ _  Hc32.out).mono ?_); rintro e_ w36 ⟨rfl, hb_⟩; refine ⟨_, rfl, ?_⟩; replace HS := Aside0.mk (HS.out.below hb_); replace HK := Aside0.mk (HK.out.trans (Keep.below hb_)); (try clear hz3000007_0_2 hz3000007_1_2); (try clear hz3000016_0_2 hz3000016_1_2); refine stop_ ?_; intro G_ hG_))
                    try simp only [Exit.noGoto_ret, Exit.noGoto_normal, Exit.noGoto_exit]
                    have H := H'.out
                    clear H'
                    by_cases c37 : t200 = true
                    · subst c37
                      rw [if_pos rfl] at H
                      replace H := Option.bind_eq_some_iff.1 H
                      obtain ⟨y201, hy2010, H⟩ := H
                      try dsimp only at H
                      have hy201 := Option.some.inj hy2010
                      clear hy2010
                      have Ny201 := Aside0.mk hy201
                      clear hy201
                      by_cases c38 : x12_1.length + y201.length < 17592186044416
                      · rw [if_pos c38] at H
                        have LMc38 := Aside0.mk c38
                        clear c38
                        replace H := Option.bind_eq_some_iff.1 H
                        obtain ⟨y202, hy2020, H⟩ := H
                        try dsimp only at H
                        have hy202 := Option.some.inj hy2020
                        clear hy2020
                        have Ny202 := Aside0.mk hy202
                        clear hy202
                        have H' := Aside0.mk H
                        clear H
                        refine hG_.out ?_
                        go_wp2_with (first | ((with_reducible refine gate_dst (N := 70) rfl ?_); refine wpList_plain rfl (fun K_ hK_ => ?_); refine op_row (S := S) (enc := Value.int .i64) (h1 := fun _ => rfl) 3 y201 #[.int .i64 p198.1] 1 (by rw [← Ny201.out]; rfl) (by rw [← Ny201.out]; rfl) (by decide) (HF.out.keep HK.out) HS.out (by first | (go_simp; done) | (go_simp; rfl)) ?_; intro Az3000017 cz3000017 w39 hs_ hk_; refine hK_ _ _ ?_; clear hK_ K_; replace HS := Aside0.mk ((show SL (row (Kd.int .i64) 3 (.slice Az3000017 1 cz3000017) y201 :: _) _ _ from hs_)); replace HK := Aside0.mk (HK.out.trans hk_)) | ((with_reducible refine gate_dst (N := 71) rfl ?_); refine wpList_plain rfl (fun K_ hK_ => ?_); refine op_append (S := S) (enc := Value.int .i64) (h1 := fun _ => rfl) 0 (.tmp 68) (.tmp 70) 25 3 (.int .i64 0) 8 rfl Try.underlying25 info3 rfl (by decide) (.slice Ax12_1 x12_1.length cx12_1) rfl rfl (HF.out.keep HK.out) (SL.get2 HS.out) (SL.row_c HS.out).2.2 (by have := LMc38.out; have e_ := (SL.row_c HS.out).1; omega) y202 Ny202.out ?_; intro A203 c204 w40 hs_ hk_; refine hK_ _ _ ?_; clear hK_ K_; replace HS := Aside0.mk ((SL.back2 (show SL (row (Kd.int .i64) 3 (.slice A203 y202.length c204) y202 :: _) _ _ from hs_))); replace HK := Aside0.mk (HK.out.trans hk_)))
                        try simp only [Exit.noGoto_ret, Exit.noGoto_normal, Exit.noGoto_exit]
                        replace HS := Aside0.mk (SL.tail (SL.tail HS.out))
                        go_roundg k2
                        case measure => have := HQ1.out; have := HQ2.out; omega
                        case rel => exact ⟨(y202), (A203), (c204), (mdel y3000013_1 p198.1), (by first | rfl | (simp; done) | (simp [*]; done)), H', ⟨by have := HQ1.out; have := HQ2.out; omega⟩, HS, HK⟩
                      · rw [if_neg c38] at H
                        exact absurd H (by simp)
                    · replace c37 := Bool.eq_false_iff.mpr c37
                      subst c37
                      rw [if_neg (show ¬ (false = true) by decide)] at H
                      have H' := Aside0.mk H
                      clear H
                      refine hG_.out ?_
                      go_wp2
                      try simp only [Exit.noGoto_ret, Exit.noGoto_normal, Exit.noGoto_exit]
                      replace HS := Aside0.mk (SL.tail HS.out)
                      go_roundg k2
                      case measure => have := HQ1.out; have := HQ2.out; omega
                      case rel => exact ⟨(x12_1), (Ax12_1), (cx12_1), (mdel y3000013_1 p198.1), (by first | rfl | (simp; done) | (simp [*]; done)), H', ⟨by have := HQ1.out; have := HQ2.out; omega⟩, HS, HK⟩
          · rw [if_neg c13] at H
            exact absurd H (by simp)
        · rw [if_neg c12] at H
          have c12b0 : decide (x37_0 < (l1.length : Int)) = false := decide_eq_false c12
          clear c12
          have H' := Aside0.mk H
          clear H
          go_wp2_with (first | ((with_reducible refine gate_dst (N := 58) rfl ?_); refine wpList_plain rfl (fun K_ hK_ => ?_); refine op_range (S := S) (.tmp 57) rfl Try.underlying38 g3000006 rfl (HF.out.keep HK.out) (SL.get3 HS.out) ?_; intro g3000013 w41 hs_ hk_; refine hK_ _ _ ?_; clear hK_ K_; replace HS := Aside0.mk ((SL.get4 (SL.get4 (SL.get4 (SL.get4 (SL.get1 (show SL (iter g3000013 g3000006 t185 zs3000006 zc3000006 t185 :: _) _ _ from hs_))))))); replace HK := Aside0.mk (HK.out.trans hk_)))
          try simp only [Exit.noGoto_ret, Exit.noGoto_normal, Exit.noGoto_exit]
          replace HS := Aside0.mk (SL.get4 (SL.get3 (SL.get4 (SL.get4 (SL.get4 HS.out)))))
          go_simp
          go_loopg [12] k1 (fun kq v12 w' => ∃ (x12_101 : List Int) (Ax12_101 : Option Addr) (cx12_101 : Nat) (y3000013_101 : List (Int × S41)), v12 = .slice Ax12_101 x12_101.length cx12_101 ∧ Aside0 (interest_Set.l101 kq a3 y186 y3000013_101 x12_101 = some r) ∧ Aside0 (kq ≤ k1) ∧ Aside0 (SL (row (Kd.int .i64) 3 (.slice Ax12_101 x12_101.length cx12_101) x12_101 :: iter g3000013 g3000006 t185 zs3000006 zc3000006 y3000013_101 :: cells g3000005 3 [.int .i64 t190].toArray :: cells g3000007 41 [.int .i64 y186.f0, .int .i64 y186.f1].toArray :: mapo g3000006 (Value.int .i64) (fun x_ : S41 => Value.agg #[.int .i64 x_.f0, .int .i64 x_.f1]) t185 zs3000006 zc3000006 :: L) w' S) ∧ Aside0 (Keep S w w'))
          case atStart => exact ⟨(x12_0), (Ax12_0), (cx12_0), (t185), (by first | rfl | (simp; done) | (simp [*]; done)), H', ⟨Nat.le_refl _⟩, HS, HK⟩
          case round =>
            clear H' HS HK
            obtain ⟨x12_101, Ax12_101, cx12_101, y3000013_101, rfl, HA, HQ2, HS, HK⟩ := hrel
            cases gk with
            | zero => exact absurd HA.out (by simp [interest_Set.l101])
            | succ k2 =>
              have H := HA.out
              clear HA
              simp only [interest_Set.l101] at H
              by_cases c42 : (y3000013_101).isEmpty = true
              · rw [if_pos c42] at H
                replace H := Option.bind_eq_some_iff.1 H
                obtain ⟨t206, Hc430, H⟩ := H
                try dsimp only at H
                have Hc43 := Aside0.mk Hc430
                clear Hc430
                obtain rfl := Option.some.inj H
                go_wp2_with (first | ((with_reducible refine gate_dst (N := 59) rfl ?_); refine wpList_plain rfl (fun K_ hK_ => ?_); refine op_next_end (.tmp 58) rfl rfl (SL.get2 (SL.get4 HS.out)) c42 ?_; refine hK_ _ _ ?_; clear hK_ K_) | ((with_reducible refine gate_dst (N := 73) rfl ?_); refine goesL_ (some 73) rfl rfl Try.func23 (by kernel_rfl) rfl #[.slice Ax12_101 x12_101.length cx12_101] rfl (by (try simp only [List.map_toArray, List.map_cons, List.map_nil]); first | done | rfl | (simp; done)) ?_; have hs0_ := HS.out; (with_reducible refine (interest_sorted_i1.slcalls _ _ _ _ _ _ _ (HF.out.keep HK.out) hs0_  Hc43.out).mono ?_); rintro e_ w45 ⟨Az3000015, cz3000015, rfl, hsr_, hkr_⟩; refine ⟨_, rfl, ?_⟩; replace HS := Aside0.mk (hsr_); replace HK := Aside0.mk (HK.out.trans hkr_)))
                try simp only [Exit.noGoto_ret, Exit.noGoto_normal, Exit.noGoto_exit]
                go_ret
                replace HS := Aside0.mk (SL.tail (SL.get1 (SL.tail (SL.get1 (SL.tail (SL.get1 (SL.tail (SL.get1 HS.out))))))))
                unfold interest_Set.Post
                exact ⟨Az3000015, cz3000015, by first | rfl | (simp; done) | (simp [*]; done) | (simp at c12b0 ⊢; first | exact c12b0 | (simp [c12b0]; done)), HS.out, HK.out⟩
              · rw [if_neg c42] at H
                have H' := Aside0.mk H
                clear H
                go_wp2_with (first | ((with_reducible refine gate_dst (N := 59) rfl ?_); refine wpList_plain rfl (fun K_ hK_ => ?_); refine op_next (.tmp 58) rfl rfl (SL.get2 (SL.get4 HS.out)) c42 ?_; intro p205 hp_p205 w46 hs_ hk_; refine hK_ _ _ ?_; clear hK_ K_; replace HS := Aside0.mk ((SL.get4 (SL.get3 (SL.get4 (SL.get4 (SL.get1 (show SL (iterAt g3000013 g3000006 t185 zs3000006 zc3000006 p205 (mdel y3000013_101 p205.1) :: _) _ _ from hs_))))))); replace HK := Aside0.mk (HK.out.trans hk_); refine stop_ ?_; intro G_ hG_))
                try simp only [Exit.noGoto_ret, Exit.noGoto_normal, Exit.noGoto_exit]
                have H := everyOf_some H'.out p205 hp_p205
                clear H'
                try dsimp only at H
                replace H := Option.bind_eq_some_iff.1 H
                obtain ⟨t207, Hc470, H⟩ := H
                try dsimp only at H
                have Hc47 := Aside0.mk Hc470
                clear Hc470
                have H' := Aside0.mk H
                clear H
                refine hG_.out ?_
                go_wp2_with (first | ((with_reducible refine gate_dst (N := 61) rfl ?_); refine wpList_plain rfl (fun K_ hK_ => ?_); refine op_entry (.tmp 58) rfl rfl (SL.get2 (SL.get4 HS.out)) (.int .i64 p205.1) (.agg #[.int .i64 p205.2.f0, .int .i64 p205.2.f1]) rfl rfl ?_; intro hs_; refine hK_ _ _ ?_; clear hK_ K_; have n2_ := Aside0.mk (SL.get4 (SL.get3 (SL.get4 (SL.get4 (SL.get1 (show SL (iter g3000013 g3000006 t185 zs3000006 zc3000006 (mdel y3000013_101 p205.1) :: _) _ _ from hs_)))))); clear HS hs_; have HS := n2_; clear n2_) | ((with_reducible refine gate_dst (N := 19) rfl ?_); refine wpList_plain rfl (fun K_ hK_ => ?_); refine op_box (S := S) (cs := #[.int .i64 0, .int .i64 0]) (t := 41) (HF.out.keep HK.out) HS.out (by first | (go_simp; done) | (go_simp; rfl)) ?_; intro g3000016 w49 hs_ hk_; refine hK_ _ _ ?_; clear hK_ K_; replace HS := Aside0.mk (hs_); replace HK := Aside0.mk (HK.out.trans hk_)) | ((with_reducible refine gate_store (t := 41) (p := 19) (v := (.tmp 63)) rfl ?_); refine wpList_plain rfl (fun K_ hK_ => ?_); refine op_store (S := S) 41 (.tmp 19) (.tmp 63) rfl g3000016 0 (.agg #[.int .i64 p205.2.f0, .int .i64 p205.2.f1]) [.int .i64 p205.2.f0, .int .i64 p205.2.f1] rfl rfl rfl (by kernel_rfl) (by simp [Value.oneCell']) HS.out (by simp) ?_; intro w50 hs_ hk_; refine hK_ _ _ ?_; clear hK_ K_; replace HS := Aside0.mk ((show SL (cells g3000016 41 [.int .i64 p205.2.f0, .int .i64 p205.2.f1].toArray :: _) _ _ from hs_)); replace HK := Aside0.mk (HK.out.trans hk_); have hb_ := SL.at_ HS.out; have hz3000016_0_2 := ((blk_cell hb_ 0).trans rfl : _ = some (.int .i64 p205.2.f0)); have hz3000016_1_2 := ((blk_cell hb_ 1).trans rfl : _ = some (.int .i64 p205.2.f1)); clear hb_; have hb_ := SL.at_ (SL.get4 HS.out); have hz3000007_0_2 := ((blk_cell hb_ 0).trans rfl : _ = some (.int .i64 y186.f0)); have hz3000007_1_2 := ((blk_cell hb_ 1).trans rfl : _ = some (.int .i64 y186.f1)); clear hb_) | ((with_reducible refine gate_dst (N := 67) rfl ?_); refine goesL_ (some 67) rfl rfl Try.func22 (by kernel_rfl) rfl #[.agg #[.int .i64 y186.f0, .int .i64 y186.f1], .agg #[.int .i64 p205.2.f0, .int .i64 p205.2.f1], .int .i64 a3] rfl (by (try simp only [List.map_toArray, List.map_cons, List.map_nil]); first | done | rfl | (simp; done)) ?_; (with_reducible refine (grid_Near.calls k2 _ _ _ _ _ _ _  Hc47.out).mono ?_); rintro e_ w51 ⟨rfl, hb_⟩; refine ⟨_, rfl, ?_⟩; replace HS := Aside0.mk (HS.out.below hb_); replace HK := Aside0.mk (HK.out.trans (Keep.below hb_)); (try clear hz3000007_0_2 hz3000007_1_2); (try clear hz3000016_0_2 hz3000016_1_2); refine stop_ ?_; intro G_ hG_))
                try simp only [Exit.noGoto_ret, Exit.noGoto_normal, Exit.noGoto_exit]
                have H := H'.out
                clear H'
                by_cases c52 : t207 = true
                · subst c52
                  rw [if_pos rfl] at H
                  replace H := Option.bind_eq_some_iff.1 H
                  obtain ⟨y208, hy2080, H⟩ := H
                  try dsimp only at H
                  have hy208 := Option.some.inj hy2080
                  clear hy2080
                  have Ny208 := Aside0.mk hy208
                  clear hy208
                  by_cases c53 : x12_101.length + y208.length < 17592186044416
                  · rw [if_pos c53] at H
                    have LMc53 := Aside0.mk c53
                    clear c53
                    replace H := Option.bind_eq_some_iff.1 H
                    obtain ⟨y209, hy2090, H⟩ := H
                    try dsimp only at H
                    have hy209 := Option.some.inj hy2090
                    clear hy2090
                    have Ny209 := Aside0.mk hy209
                    clear hy209
                    have H' := Aside0.mk H
                    clear H
                    refine hG_.out ?_
                    go_wp2_with (first | ((with_reducible refine gate_dst (N := 70) rfl ?_); refine wpList_plain rfl (fun K_ hK_ => ?_); refine op_row (S := S) (enc := Value.int .i64) (h1 := fun _ => rfl) 3 y208 #[.int .i64 p205.1] 1 (by rw [← Ny208.out]; rfl) (by rw [← Ny208.out]; rfl) (by decide) (HF.out.keep HK.out) HS.out (by first | (go_simp; done) | (go_simp; rfl)) ?_; intro Az3000017 cz3000017 w54 hs_ hk_; refine hK_ _ _ ?_; clear hK_ K_; replace HS := Aside0.mk ((show SL (row (Kd.int .i64) 3 (.slice Az3000017 1 cz3000017) y208 :: _) _ _ from hs_)); replace HK := Aside0.mk (HK.out.trans hk_)) | ((with_reducible refine gate_dst (N := 71) rfl ?_); refine wpList_plain rfl (fun K_ hK_ => ?_); refine op_append (S := S) (enc := Value.int .i64) (h1 := fun _ => rfl) 0 (.tmp 68) (.tmp 70) 25 3 (.int .i64 0) 8 rfl Try.underlying25 info3 rfl (by decide) (.slice Ax12_101 x12_101.length cx12_101) rfl rfl (HF.out.keep HK.out) (SL.get2 HS.out) (SL.row_c HS.out).2.2 (by have := LMc53.out; have e_ := (SL.row_c HS.out).1; omega) y209 Ny209.out ?_; intro A210 c211 w55 hs_ hk_; refine hK_ _ _ ?_; clear hK_ K_; replace HS := Aside0.mk ((SL.back2 (show SL (row (Kd.int .i64) 3 (.slice A210 y209.length c211) y209 :: _) _ _ from hs_))); replace HK := Aside0.mk (HK.out.trans hk_)))
                    try simp only [Exit.noGoto_ret, Exit.noGoto_normal, Exit.noGoto_exit]
                    replace HS := Aside0.mk (SL.tail (SL.tail HS.out))
                    go_roundg k2
                    case measure => have := HQ1.out; have := HQ2.out; omega
                    case rel => exact ⟨(y209), (A210), (c211), (mdel y3000013_101 p205.1), (by first | rfl | (simp; done) | (simp [*]; done)), H', ⟨by have := HQ1.out; have := HQ2.out; omega⟩, HS, HK⟩
                  · rw [if_neg c53] at H
                    exact absurd H (by simp)
                · replace c52 := Bool.eq_false_iff.mpr c52
                  subst c52
                  rw [if_neg (show ¬ (false = true) by decide)] at H
                  have H' := Aside0.mk H
                  clear H
                  refine hG_.out ?_
                  go_wp2
                  try simp only [Exit.noGoto_ret, Exit.noGoto_normal, Exit.noGoto_exit]
                  replace HS := Aside0.mk (SL.tail HS.out)
                  go_roundg k2
                  case measure => have := HQ1.out; have := HQ2.out; omega
                  case rel => exact ⟨(x12_101), (Ax12_101), (cx12_101), (mdel y3000013_101 p205.1), (by first | rfl | (simp; done) | (simp [*]; done)), H', ⟨by have := HQ1.out; have := HQ2.out; omega⟩, HS, HK⟩
  · replace c7 := Bool.eq_false_iff.mpr c7
    subst c7
    rw [if_neg (show ¬ (false = true) by decide)] at H
    obtain rfl := Option.some.inj H
    have n2_ := Aside0.mk (SL.nil_row (Kd.int .i64) 3 HS.out)
    clear HS
    have HS := n2_
    clear n2_
    refine hG_.out ?_
    go_wp2
    try simp only [Exit.noGoto_ret, Exit.noGoto_normal, Exit.noGoto_exit]
    go_ret
    replace HS := Aside0.mk (SL.tail (SL.get1 (SL.tail (SL.get1 (SL.tail (SL.get1 HS.out))))))
    unfold interest_Set.Post
    exact ⟨none, 0, by first | rfl | (simp; done) | (simp [*]; done), HS.out, HK.out⟩

end Go.Proofs.Ytgcbmhihiacgnaa.XIN
