/- grid.Toward: its walk. -/
import Derived.Test.YtoalpmfkaijomaaTo2
import Derived.Test.YtoalpmfkaijomaaRoundR
set_option linter.unusedSimpArgs false
set_option linter.unusedVariables false
namespace Go.Proofs.YtoalpmfkaijomaaTo
open Go.RowKit Go.Shelf Go.Proofs.Ytoalpmfkaijomaa Go.Proofs.Ytoalpmfkaijomaa.XGR Go.Proofs.YtoalpmfkaijomaaW.PrintWords Go.Proofs.YtoalpmfkaijomaaW.PrintLast Go.Proofs.YtoalpmfkaijomaaW.PrintMore Go.Proofs.YtoalpmfkaijomaaV Go.Proofs.YtoalpmfkaijomaaS
attribute [local go_sem] Oper.semAt_some

def towardL : Nat → Int → Int → List Bool → Int → Int → Int → Int → Int → Option (Int × Int)
  | 0, _, _, _, _, _, _, _, _ => none
  | k + 1, gw, gh, wl, bx, by_, x, y, n => if x = bx ∧ y = by_ then some (x, y) else if n ≤ 0 then some (x, y) else
      (grid_wall.f gw gh wl (step1 x bx) (step1 y by_)).bind fun t => if t = true then some (x, y) else towardL k gw gh wl bx by_ (step1 x bx) (step1 y by_) (wrap64 (n - 1))
def towardF (k : Nat) (gw gh : Int) (wl : List Bool) (x y bx by_ n : Int) : Option (Int × Int) :=
  (grid_In.f gw gh wl x y).bind fun t => if t = true then ((grid_inside.f gw gh wl bx by_).bind fun u => if u = true then towardL k gw gh wl bx by_ x y n else some (x, y)) else some (x, y)
theorem towardL_mono : ∀ k gw gh wl bx by_ x y n r, towardL k gw gh wl bx by_ x y n = some r → towardL (k + 1) gw gh wl bx by_ x y n = some r
  | 0, _, _, _, _, _, _, _, _, _, h => by simp [towardL] at h
  | k + 1, gw, gh, wl, bx, by_, x, y, n, r, h => by
    rw [towardL] at h ⊢
    split at h
    · rw [if_pos (by assumption)]; exact h
    · rw [if_neg (by assumption)]
      split at h
      · rw [if_pos (by assumption)]; exact h
      · rw [if_neg (by assumption)]
        obtain ⟨t, ht, h⟩ := Option.bind_eq_some_iff.1 h
        rw [ht, Option.bind_some]
        split at h
        · rw [if_pos (by assumption)]; exact h
        · rw [if_neg (by assumption)]
          exact towardL_mono k _ _ _ _ _ _ _ _ _ h
theorem towardF_mono (k : Nat) (gw gh : Int) (wl : List Bool) (x y bx by_ n : Int) (r : Int × Int) (h : towardF k gw gh wl x y bx by_ n = some r) : towardF (k + 1) gw gh wl x y bx by_ n = some r := by
  unfold towardF at h ⊢
  obtain ⟨t, ht, h⟩ := Option.bind_eq_some_iff.1 h
  rw [ht, Option.bind_some]
  split at h
  · rw [if_pos (by assumption)]
    obtain ⟨u, hu, h⟩ := Option.bind_eq_some_iff.1 h
    rw [hu, Option.bind_some]
    split at h
    · rw [if_pos (by assumption)]
      exact towardL_mono k _ _ _ _ _ _ _ _ _ h
    · rw [if_neg (by assumption)]
      exact h
  · rw [if_neg (by assumption)]
    exact h
set_option maxHeartbeats 8000000 in
set_option maxRecDepth 100000 in
theorem toward_calls (k : Nat) (a0_0 a0_1 : Int) (A0_2 : Option Addr) (c0_2 : Nat) (l0_2 : List Bool) (a1_0 a1_1 a2_0 a2_1 a3 r1 r2 : Int) (w : World) (hr : Kd.C Kd.bool w A0_2 l0_2.length l0_2) (hc : l0_2.length ≤ c0_2) (h : towardF k a0_0 a0_1 l0_2 a1_0 a1_1 a2_0 a2_1 a3 = some (r1, r2)) :
    Calls Try.prog 15 #[.agg #[.int .i64 a0_0, .int .i64 a0_1, .slice A0_2 l0_2.length c0_2], .agg #[.int .i64 a1_0, .int .i64 a1_1], .agg #[.int .i64 a2_0, .int .i64 a2_1], .int .i64 a3] w fun e w' => e = .returned (.agg #[.int .i64 r1, .int .i64 r2]) ∧ Below w.heap.size w w' := by
  have hu23 := Try.underlying23
  have hu29 := Try.underlying29
  obtain ⟨S, hS⟩ : ∃ S, S = news w := ⟨_, rfl⟩
  have hr0 : RO S w (fun w_ => Kd.C Kd.bool w_ A0_2 l0_2.length l0_2) := by rw [hS]; exact RO.top hr
  have hf : Fresh S w := by rw [hS]; exact fresh_news w
  have HR0_2 := Aside0.mk hr0
  have HC0_2 := Aside0.mk hc
  have HF := Aside0.mk hf
  have HS := Aside0.mk (show SL [] w S from trivial)
  have HK := Aside0.mk (Keep.refl S w)
  have HSN := Aside0.mk hS
  clear hr0 hr hc hf hS
  unfold towardF at h
  obtain ⟨t148, Hc10, H⟩ := Option.bind_eq_some_iff.1 h
  have Hc1 := Aside0.mk Hc10
  clear Hc10 h
  refine callsIn_wide (n := 7).1 ?_
  refine callsIn_of_wp_marks Try.func15 rfl trivial ?_ rfl
  simp only [Try.ntmps15, List.size_toArray, List.length_cons, List.length_nil, Nat.reduceAdd, Nat.reduceSub, Array.replicate_succ, Array.replicate_zero, List.push_toArray, List.append_toArray, List.nil_append, List.cons_append]
  refine wpIn_wide.2 ?_
  by_cases c2 : t148 = true
  · subst c2
    rw [if_pos rfl] at H
    replace H := Option.bind_eq_some_iff.1 H
    obtain ⟨t149, Hc30, H⟩ := H
    have Hc3 := Aside0.mk Hc30
    clear Hc30
    by_cases c4 : t149 = true
    · subst c4
      rw [if_pos rfl] at H
      have HH := Aside0.mk H
      clear H
      try go_wp2_with (first | ((with_reducible refine gate_dst (N := 4) rfl ?_); refine wpList_plain rfl (fun K_ hK_ => ?_); refine op_box (S := S) (cs := #[.int .i64 a0_0, .int .i64 a0_1, .slice A0_2 l0_2.length c0_2]) (t := 29) (HF.out.keep HK.out) HS.out (by first | (go_simp; done) | (go_simp; rfl)) ?_; intro g3000000 w4 hs_ hk_; refine hK_ _ _ ?_; clear hK_ K_; have n1_ := Aside0.mk (HK.out.trans hk_); have n2_ := Aside0.mk (hs_); clear HK HS; have HK := n1_; have HS := n2_; clear n1_ n2_; (try clear hz3000000_0_0 hz3000000_1_0 hz3000000_2_0); have hb_ := SL.at_ HS.out; have hz3000000_0_1 := ((blk_cell hb_ 0).trans rfl : _ = some (.int .i64 a0_0)); have hz3000000_1_1 := ((blk_cell hb_ 1).trans rfl : _ = some (.int .i64 a0_1)); have hz3000000_2_1 := ((blk_cell hb_ 2).trans rfl : _ = some (.slice A0_2 l0_2.length c0_2)); clear hb_) | ((with_reducible refine gate_dst (N := 5) rfl ?_); refine wpList_plain rfl (fun K_ hK_ => ?_); refine op_box (S := S) (cs := #[.int .i64 a1_0, .int .i64 a1_1]) (t := 23) (HF.out.keep HK.out) HS.out (by first | (go_simp; done) | (go_simp; rfl)) ?_; intro g3000001 w5 hs_ hk_; refine hK_ _ _ ?_; clear hK_ K_; have n1_ := Aside0.mk (HK.out.trans hk_); have n2_ := Aside0.mk (hs_); clear HK HS; have HK := n1_; have HS := n2_; clear n1_ n2_; (try clear hz3000000_0_1 hz3000000_1_1 hz3000000_2_1); (try clear hz3000001_0_1 hz3000001_1_1); have hb_ := SL.at_ HS.out; have hz3000001_0_2 := ((blk_cell hb_ 0).trans rfl : _ = some (.int .i64 a1_0)); have hz3000001_1_2 := ((blk_cell hb_ 1).trans rfl : _ = some (.int .i64 a1_1)); clear hb_; have hb_ := SL.at_ (SL.get1 HS.out); have hz3000000_0_2 := ((blk_cell hb_ 0).trans rfl : _ = some (.int .i64 a0_0)); have hz3000000_1_2 := ((blk_cell hb_ 1).trans rfl : _ = some (.int .i64 a0_1)); have hz3000000_2_2 := ((blk_cell hb_ 2).trans rfl : _ = some (.slice A0_2 l0_2.length c0_2)); clear hb_) | ((with_reducible refine gate_dst (N := 6) rfl ?_); refine wpList_plain rfl (fun K_ hK_ => ?_); refine op_box (S := S) (cs := #[.int .i64 a2_0, .int .i64 a2_1]) (t := 23) (HF.out.keep HK.out) HS.out (by first | (go_simp; done) | (go_simp; rfl)) ?_; intro g3000002 w6 hs_ hk_; refine hK_ _ _ ?_; clear hK_ K_; have n1_ := Aside0.mk (HK.out.trans hk_); have n2_ := Aside0.mk (hs_); clear HK HS; have HK := n1_; have HS := n2_; clear n1_ n2_; (try clear hz3000000_0_2 hz3000000_1_2 hz3000000_2_2); (try clear hz3000001_0_2 hz3000001_1_2); (try clear hz3000002_0_2 hz3000002_1_2); have hb_ := SL.at_ HS.out; have hz3000002_0_3 := ((blk_cell hb_ 0).trans rfl : _ = some (.int .i64 a2_0)); have hz3000002_1_3 := ((blk_cell hb_ 1).trans rfl : _ = some (.int .i64 a2_1)); clear hb_; have hb_ := SL.at_ (SL.get1 HS.out); have hz3000001_0_3 := ((blk_cell hb_ 0).trans rfl : _ = some (.int .i64 a1_0)); have hz3000001_1_3 := ((blk_cell hb_ 1).trans rfl : _ = some (.int .i64 a1_1)); clear hb_; have hb_ := SL.at_ (SL.get2 HS.out); have hz3000000_0_3 := ((blk_cell hb_ 0).trans rfl : _ = some (.int .i64 a0_0)); have hz3000000_1_3 := ((blk_cell hb_ 1).trans rfl : _ = some (.int .i64 a0_1)); have hz3000000_2_3 := ((blk_cell hb_ 2).trans rfl : _ = some (.slice A0_2 l0_2.length c0_2)); clear hb_) | ((with_reducible refine gate_dst (N := 7) rfl ?_); refine wpList_plain rfl (fun K_ hK_ => ?_); refine op_box (S := S) (cs := #[.int .i64 a3]) (t := 3) (HF.out.keep HK.out) HS.out (by first | (go_simp; done) | (go_simp; rfl)) ?_; intro g3000003 w7 hs_ hk_; refine hK_ _ _ ?_; clear hK_ K_; have n1_ := Aside0.mk (HK.out.trans hk_); have n2_ := Aside0.mk (hs_); clear HK HS; have HK := n1_; have HS := n2_; clear n1_ n2_; (try clear hz3000000_0_3 hz3000000_1_3 hz3000000_2_3); (try clear hz3000001_0_3 hz3000001_1_3); (try clear hz3000002_0_3 hz3000002_1_3); have hb_ := SL.at_ (SL.get1 HS.out); have hz3000002_0_4 := ((blk_cell hb_ 0).trans rfl : _ = some (.int .i64 a2_0)); have hz3000002_1_4 := ((blk_cell hb_ 1).trans rfl : _ = some (.int .i64 a2_1)); clear hb_; have hb_ := SL.at_ (SL.get2 HS.out); have hz3000001_0_4 := ((blk_cell hb_ 0).trans rfl : _ = some (.int .i64 a1_0)); have hz3000001_1_4 := ((blk_cell hb_ 1).trans rfl : _ = some (.int .i64 a1_1)); clear hb_; have hb_ := SL.at_ (SL.get3 HS.out); have hz3000000_0_4 := ((blk_cell hb_ 0).trans rfl : _ = some (.int .i64 a0_0)); have hz3000000_1_4 := ((blk_cell hb_ 1).trans rfl : _ = some (.int .i64 a0_1)); have hz3000000_2_4 := ((blk_cell hb_ 2).trans rfl : _ = some (.slice A0_2 l0_2.length c0_2)); clear hb_) | ((with_reducible refine gate_dst (N := 8) rfl ?_); refine wpList_plain rfl (fun K_ hK_ => ?_); refine op_box (S := S) (cs := #[.int .i64 0, .int .i64 0]) (t := 23) (HF.out.keep HK.out) HS.out (by first | (go_simp; done) | (go_simp; rfl)) ?_; intro g3000004 w8 hs_ hk_; refine hK_ _ _ ?_; clear hK_ K_; have n1_ := Aside0.mk (HK.out.trans hk_); have n2_ := Aside0.mk (hs_); clear HK HS; have HK := n1_; have HS := n2_; clear n1_ n2_; (try clear hz3000000_0_4 hz3000000_1_4 hz3000000_2_4); (try clear hz3000001_0_4 hz3000001_1_4); (try clear hz3000002_0_4 hz3000002_1_4); have hb_ := SL.at_ (SL.get2 HS.out); have hz3000002_0_5 := ((blk_cell hb_ 0).trans rfl : _ = some (.int .i64 a2_0)); have hz3000002_1_5 := ((blk_cell hb_ 1).trans rfl : _ = some (.int .i64 a2_1)); clear hb_; have hb_ := SL.at_ (SL.get3 HS.out); have hz3000001_0_5 := ((blk_cell hb_ 0).trans rfl : _ = some (.int .i64 a1_0)); have hz3000001_1_5 := ((blk_cell hb_ 1).trans rfl : _ = some (.int .i64 a1_1)); clear hb_; have hb_ := SL.at_ (SL.get4 HS.out); have hz3000000_0_5 := ((blk_cell hb_ 0).trans rfl : _ = some (.int .i64 a0_0)); have hz3000000_1_5 := ((blk_cell hb_ 1).trans rfl : _ = some (.int .i64 a0_1)); have hz3000000_2_5 := ((blk_cell hb_ 2).trans rfl : _ = some (.slice A0_2 l0_2.length c0_2)); clear hb_))
      go_step3
      have hb_ := SL.at_ (SL.get4 HS.out)
      have hq0_0 := ((blk_cell hb_ 0).trans rfl : _ = some (.int .i64 a0_0))
      have hq0_1 := ((blk_cell hb_ 1).trans rfl : _ = some (.int .i64 a0_1))
      have hq0_2 := ((blk_cell hb_ 2).trans rfl : _ = some (.slice A0_2 l0_2.length c0_2))
      clear hb_
      have hb_ := SL.at_ (SL.get3 HS.out)
      have hq1_0 := ((blk_cell hb_ 0).trans rfl : _ = some (.int .i64 a1_0))
      have hq1_1 := ((blk_cell hb_ 1).trans rfl : _ = some (.int .i64 a1_1))
      clear hb_
      have hb_ := SL.at_ (SL.get2 HS.out)
      have hq2_0 := ((blk_cell hb_ 0).trans rfl : _ = some (.int .i64 a2_0))
      have hq2_1 := ((blk_cell hb_ 1).trans rfl : _ = some (.int .i64 a2_1))
      clear hb_
      have hb_ := SL.at_ (SL.get1 HS.out)
      have hq3_0 := ((blk_cell hb_ 0).trans rfl : _ = some (.int .i64 a3))
      clear hb_
      try go_wp2_with (first | ((with_reducible refine gate_dst (N := 23) rfl ?_); refine goesL_ (some 23) rfl rfl Try.func27 (by kernel_rfl) rfl #[.agg #[.int .i64 a1_0, .int .i64 a1_1], .agg #[.int .i64 a2_0, .int .i64 a2_1]] rfl (by (try simp only [List.map_toArray, List.map_cons, List.map_nil]); first | done | rfl | (simp; done)) ?_; refine (way_in S _ _ (HF.out.keep HK.out) HS.out a1_0 a1_1 a2_0 a2_1).mono ?_; rintro e_ w20 ⟨b1, b2, rfl, hsr_, hkr_⟩; refine ⟨_, rfl, ?_⟩; have n1_ := Aside0.mk (HK.out.trans hkr_); have n2_ := Aside0.mk hsr_; clear HK HS; have HK := n1_; have HS := n2_; clear n1_ n2_ hsr_ hkr_) | ((with_reducible refine gate_dst (N := 12) rfl ?_); refine goesL_ (some 12) rfl rfl Try.func17 (by kernel_rfl) rfl #[.agg #[.int .i64 a0_0, .int .i64 a0_1, .slice A0_2 l0_2.length c0_2], .agg #[.int .i64 a1_0, .int .i64 a1_1]] rfl (by (try simp only [List.map_toArray, List.map_cons, List.map_nil]); first | done | rfl | (simp; done)) ?_; (with_reducible refine (grid_In.calls _ _ _ _ _ _ _ _ _ (RO.at_ HR0_2.out HK.out) HC0_2.out Hc1.out).mono ?_); rintro e_ w9 ⟨rfl, hb_⟩; refine ⟨_, rfl, ?_⟩; have n1_ := Aside0.mk (HK.out.trans (Keep.below hb_)); have n2_ := Aside0.mk (HS.out.below hb_); clear HK HS; have HK := n1_; have HS := n2_; clear n1_ n2_; (try clear hz3000000_0_5 hz3000000_1_5 hz3000000_2_5); (try clear hz3000001_0_5 hz3000001_1_5); (try clear hz3000002_0_5 hz3000002_1_5); have hb_ := SL.at_ (SL.get2 HS.out); have hz3000002_0_6 := ((blk_cell hb_ 0).trans rfl : _ = some (.int .i64 a2_0)); have hz3000002_1_6 := ((blk_cell hb_ 1).trans rfl : _ = some (.int .i64 a2_1)); clear hb_; have hb_ := SL.at_ (SL.get3 HS.out); have hz3000001_0_6 := ((blk_cell hb_ 0).trans rfl : _ = some (.int .i64 a1_0)); have hz3000001_1_6 := ((blk_cell hb_ 1).trans rfl : _ = some (.int .i64 a1_1)); clear hb_; have hb_ := SL.at_ (SL.get4 HS.out); have hz3000000_0_6 := ((blk_cell hb_ 0).trans rfl : _ = some (.int .i64 a0_0)); have hz3000000_1_6 := ((blk_cell hb_ 1).trans rfl : _ = some (.int .i64 a0_1)); have hz3000000_2_6 := ((blk_cell hb_ 2).trans rfl : _ = some (.slice A0_2 l0_2.length c0_2)); clear hb_) | ((with_reducible refine gate_dst (N := 17) rfl ?_); (try (refine gate_guard (by rfl) ?_; dsimp only)); refine goesL_ (some 17) rfl rfl Try.func26 (by kernel_rfl) rfl #[.agg #[.int .i64 a0_0, .int .i64 a0_1, .slice A0_2 l0_2.length c0_2], .agg #[.int .i64 a2_0, .int .i64 a2_1]] rfl (by (try simp only [List.map_toArray, List.map_cons, List.map_nil]); first | done | rfl | (simp; done)) ?_; (with_reducible refine (grid_inside.calls _ _ _ _ _ _ _ _ _ (RO.at_ HR0_2.out HK.out) HC0_2.out Hc3.out).mono ?_); rintro e_ w10 ⟨rfl, hb_⟩; refine ⟨_, rfl, ?_⟩; have n1_ := Aside0.mk (HK.out.trans (Keep.below hb_)); have n2_ := Aside0.mk (HS.out.below hb_); clear HK HS; have HK := n1_; have HS := n2_; clear n1_ n2_; (try clear hz3000000_0_6 hz3000000_1_6 hz3000000_2_6); (try clear hz3000001_0_6 hz3000001_1_6); (try clear hz3000002_0_6 hz3000002_1_6); have hb_ := SL.at_ (SL.get2 HS.out); have hz3000002_0_7 := ((blk_cell hb_ 0).trans rfl : _ = some (.int .i64 a2_0)); have hz3000002_1_7 := ((blk_cell hb_ 1).trans rfl : _ = some (.int .i64 a2_1)); clear hb_; have hb_ := SL.at_ (SL.get3 HS.out); have hz3000001_0_7 := ((blk_cell hb_ 0).trans rfl : _ = some (.int .i64 a1_0)); have hz3000001_1_7 := ((blk_cell hb_ 1).trans rfl : _ = some (.int .i64 a1_1)); clear hb_; have hb_ := SL.at_ (SL.get4 HS.out); have hz3000000_0_7 := ((blk_cell hb_ 0).trans rfl : _ = some (.int .i64 a0_0)); have hz3000000_1_7 := ((blk_cell hb_ 1).trans rfl : _ = some (.int .i64 a0_1)); have hz3000000_2_7 := ((blk_cell hb_ 2).trans rfl : _ = some (.slice A0_2 l0_2.length c0_2)); clear hb_))
      go_step3
      try go_wp2_with (first | ((with_reducible refine gate_dst (N := 23) rfl ?_); refine goesL_ (some 23) rfl rfl Try.func27 (by kernel_rfl) rfl #[.agg #[.int .i64 a1_0, .int .i64 a1_1], .agg #[.int .i64 a2_0, .int .i64 a2_1]] rfl (by (try simp only [List.map_toArray, List.map_cons, List.map_nil]); first | done | rfl | (simp; done)) ?_; refine (way_in S _ _ (HF.out.keep HK.out) HS.out a1_0 a1_1 a2_0 a2_1).mono ?_; rintro e_ w20 ⟨b1, b2, rfl, hsr_, hkr_⟩; refine ⟨_, rfl, ?_⟩; have n1_ := Aside0.mk (HK.out.trans hkr_); have n2_ := Aside0.mk hsr_; clear HK HS; have HK := n1_; have HS := n2_; clear n1_ n2_ hsr_ hkr_))
      refine (wpIn_wide (n := 7)).1 ?_
      refine range_way S w HF.out (.tmp 23) 24 b1 b2 a2_0 a2_1 (fun k x y n => towardL k a0_0 a0_1 l0_2 a2_0 a2_1 x y n = some (r1, r2))
        (fun x y n => [cells g3000004 23 [.int .i64 0, .int .i64 0].toArray, cells g3000003 3 [.int .i64 n].toArray, cells g3000002 23 [.int .i64 a2_0, .int .i64 a2_1].toArray, cells g3000001 23 [.int .i64 x, .int .i64 y].toArray, cells g3000000 29 [.int .i64 a0_0, .int .i64 a0_1, .slice A0_2 l0_2.length c0_2].toArray])
        (fun x y => r1 = x ∧ r2 = y) (fun x y => [cells g3000004 23 [.int .i64 0, .int .i64 0].toArray, cells g3000001 23 [.int .i64 x, .int .i64 y].toArray])
        rfl k a1_0 a1_1 a3 HH.out HS.out HK.out ?_ ?_ ?_
      · clear HS HK HH hb_
        intro l R k' x y n W hC hne hS hK
        have HC := Aside0.mk hC
        have HNE := Aside0.mk hne
        have HS := Aside0.mk hS
        have HK := Aside0.mk hK
        clear hC hne hS hK
        have hb_ := SL.at_ (SL.get3 HS.out)
        have hz3_0 := ((blk_cell hb_ 0).trans rfl : _ = some (.int .i64 n))
        clear hb_
        have hb_ := SL.at_ (SL.get6 HS.out)
        have hz0_0 := ((blk_cell hb_ 0).trans rfl : _ = some (.int .i64 a0_0))
        have hz0_1 := ((blk_cell hb_ 1).trans rfl : _ = some (.int .i64 a0_1))
        have hz0_2 := ((blk_cell hb_ 2).trans rfl : _ = some (.slice A0_2 l0_2.length c0_2))
        clear hb_
        simp only [Act.put, List.setIfInBounds_toArray, List.set_cons_zero, List.set_cons_succ]
        gi_wp2
        obtain ⟨g9, hg9⟩ : ∃ g, W.heap.size = g := ⟨_, rfl⟩
        have s1 := SL.alloc (HF.out.keep HK.out) HS.out #[.int .i64 (step1 x a2_0), .int .i64 (step1 y a2_1)] 23
        rw [hg9] at s1 ⊢
        refine ⟨cells g9 23 #[.int .i64 (step1 x a2_0), .int .i64 (step1 y a2_1)] :: cells b1 23 [.int .i64 (step1 x a2_0), .int .i64 (step1 y a2_1)].toArray :: cells b2 23 [.int .i64 a2_0, .int .i64 a2_1].toArray :: [cells g3000004 23 [.int .i64 0, .int .i64 0].toArray, cells g3000003 3 [.int .i64 n].toArray, cells g3000002 23 [.int .i64 a2_0, .int .i64 a2_1].toArray, cells g3000001 23 [.int .i64 x, .int .i64 y].toArray, cells g3000000 29 [.int .i64 a0_0, .int .i64 a0_1, .slice A0_2 l0_2.length c0_2].toArray], by exact s1, Keep.alloc HK.out _, ?_⟩
        clear HS HK s1 hz3_0 hz0_0 hz0_1 hz0_2 hg9
        intro R' W2 hS hK
        have HS := Aside0.mk hS
        have HK := Aside0.mk hK
        clear hS hK
        have hb_ := SL.at_ HS.out
        have hz9_0 := ((blk_cell hb_ 0).trans rfl : _ = some (.int .i64 (step1 x a2_0)))
        have hz9_1 := ((blk_cell hb_ 1).trans rfl : _ = some (.int .i64 (step1 y a2_1)))
        clear hb_
        have hb_ := SL.at_ (SL.get4 HS.out)
        have hz3_0 := ((blk_cell hb_ 0).trans rfl : _ = some (.int .i64 n))
        clear hb_
        have hb_ := SL.at_ (SL.get7 HS.out)
        have hz0_0 := ((blk_cell hb_ 0).trans rfl : _ = some (.int .i64 a0_0))
        have hz0_1 := ((blk_cell hb_ 1).trans rfl : _ = some (.int .i64 a0_1))
        have hz0_2 := ((blk_cell hb_ 2).trans rfl : _ = some (.slice A0_2 l0_2.length c0_2))
        clear hb_
        cases k' with
        | zero => exact absurd HC.out (by simp [towardL])
        | succ k' =>
        have hC := HC.out
        rw [towardL, if_neg HNE.out] at hC
        clear HC
        by_cases hn : n ≤ 0
        · rw [if_pos hn] at hC
          have HC := Aside0.mk hC
          have hn1 : decide (n ≤ 0) = true := decide_eq_true hn
          clear hC hn
          gi_wp2
          refine ⟨trivial, ?_⟩
          gi_wp2
          have hx := HC.out
          simp only [Option.some.injEq, Prod.mk.injEq] at hx
          exact ⟨rfl, x, y, ⟨hx.1.symm, hx.2.symm⟩, SL.cons (fun _ _ h => SL.cons (fun _ _ h => SL.tail h) (SL.tail (SL.tail h))) (SL.tail (SL.tail (SL.tail HS.out))), HK.out⟩
        · rw [if_neg hn] at hC
          obtain ⟨t1, Hc1, hC⟩ := Option.bind_eq_some_iff.1 hC
          have HC := Aside0.mk hC
          have HC1 := Aside0.mk Hc1
          have hn1 : decide (n ≤ 0) = false := decide_eq_false hn
          clear hC hn Hc1
          gi_wp2
          refine ⟨trivial, (CallsIn.inRound l (callsIn_wide.2 (grid_wall.calls _ _ _ _ _ _ _ _ _ (RO.at_ HR0_2.out HK.out) HC0_2.out HC1.out))).mono ?_⟩
          rintro e_ W3 ⟨rfl, hb_⟩
          have n1_ := Aside0.mk (HK.out.trans (Keep.below hb_))
          have n2_ := Aside0.mk (HS.out.below hb_)
          clear HK HS hb_ hz9_0 hz9_1 hz3_0 hz0_0 hz0_1 hz0_2
          have HK := n1_
          have HS := n2_
          clear n1_ n2_
          have hb_ := SL.at_ HS.out
          have hz9_0 := ((blk_cell hb_ 0).trans rfl : _ = some (.int .i64 (step1 x a2_0)))
          have hz9_1 := ((blk_cell hb_ 1).trans rfl : _ = some (.int .i64 (step1 y a2_1)))
          clear hb_
          have hb_ := SL.at_ (SL.get4 HS.out)
          have hz3_0 := ((blk_cell hb_ 0).trans rfl : _ = some (.int .i64 n))
          have hb3 := hb_
          clear hb_
          cases t1 with
          | true =>
            gi_wp2
            have hx := HC.out
            simp only [if_true, Option.some.injEq, Prod.mk.injEq] at hx
            exact ⟨rfl, x, y, ⟨hx.1.symm, hx.2.symm⟩, SL.cons (fun _ _ h => SL.cons (fun _ _ h => SL.tail h) (SL.tail (SL.tail h))) (SL.tail (SL.tail (SL.tail HS.out))), HK.out⟩
          | false =>
            gi_wp2
            refine start_in (l := l) (n := 5) (S := fun w' => w'.cell? ⟨g9, 0, none⟩ = some (.int .i64 (step1 x a2_0)) ∧ w'.cell? ⟨g9, 1, none⟩ = some (.int .i64 (step1 y a2_1)) ∧ w'.cell? ⟨g3000003, 0, none⟩ = some (.int .i64 n)) (ds := [4]) #[false, false, false, false, false] ?_ ?_ (by kernel_rfl) rfl rfl ⟨(((blk_cell (SL.at_ (SL.drew HS.out)) 0).trans rfl)), (((blk_cell (SL.at_ (SL.drew HS.out)) 1).trans rfl)), (((blk_cell (SL.at_ (SL.get4 (SL.drew HS.out))) 0).trans rfl))⟩ (fun hHeld => ?_)
            · rintro ⟨a_, w_, h_⟩
              exact h_
            · intro o ho c
              simp only [List.mem_cons, List.not_mem_nil, or_false] at ho
              rcases ho with rfl | rfl | rfl | rfl | rfl <;> simp
            have n1_ := Aside0.mk (Keep.drew HK.out)
            have n2_ := Aside0.mk (SL.drew HS.out)
            clear HK HS
            have HK := n1_
            have HS := n2_
            clear n1_ n2_
            refine take_ (i := 0) (N := some 32) (v := ?_) (a' := ?_) #[true, false, false, false, false] rfl rfl (by kernel_rfl) (fun _ _ _ h => h) (Or.inl ⟨by rfl, ?_⟩) hHeld ?_ ?_
            rotate_left
            · rintro w' ⟨s0, s1, s2⟩
              go_simp
              with_reducible rfl
            rotate_left
            · simp only [Act.put, List.setIfInBounds_toArray, List.set_cons_zero, List.set_cons_succ, i64_w, i32_w]
              rfl
            refine take_ (i := 1) (N := some 33) (v := ?_) (a' := ?_) #[true, true, false, false, false] rfl rfl (by kernel_rfl) (fun _ _ _ h => h) (Or.inl ⟨by rfl, ?_⟩) hHeld ?_ ?_
            rotate_left
            · rintro w' ⟨s0, s1, s2⟩
              go_simp
              with_reducible rfl
            rotate_left
            · simp only [Act.put, List.setIfInBounds_toArray, List.set_cons_zero, List.set_cons_succ, i64_w, i32_w]
              rfl
            refine pure_ (i := 2) (N := some 34) (v := ?_) (a' := ?_) #[true, true, true, false, false] rfl rfl (by kernel_rfl) (fun _ _ _ h => h) (Or.inl ⟨by rfl, ?_⟩) ?_ ?_
            rotate_left
            · intro w'
              go_simp
              with_reducible rfl
            rotate_left
            · simp only [Act.put, List.setIfInBounds_toArray, List.set_cons_zero, List.set_cons_succ, i64_w, i32_w]
              rfl
            refine one_ (i := 3) (N := none) #[true, true, true, true, false] rfl rfl (by kernel_rfl) (by decide) (fun K hK => ?_)
            refine st_of (by rfl) ?_
            refine op_store (S := S) 23 (.tmp 5) (.tmp 32) rfl g3000001 0 (.agg #[.int .i64 (step1 x a2_0), .int .i64 (step1 y a2_1)]) [.int .i64 (step1 x a2_0), .int .i64 (step1 y a2_1)] rfl rfl rfl (by kernel_rfl) (by simp [Value.oneCell']) (SL.get6 HS.out) (by simp) ?_
            intro w8 hs_ hk_
            have n1_ := Aside0.mk (HK.out.trans hk_)
            have n2_ := Aside0.mk ((SL.back6 (show SL (cells g3000001 23 [.int .i64 (step1 x a2_0), .int .i64 (step1 y a2_1)].toArray :: _) _ _ from hs_)))
            clear HK HS
            have HK := n1_
            have HS := n2_
            clear n1_ n2_
            refine hK.out _ _ ⟨(((blk_cell (SL.at_ HS.out) 0).trans rfl)), (((blk_cell (SL.at_ HS.out) 1).trans rfl)), (((blk_cell (SL.at_ (SL.get4 HS.out)) 0).trans rfl))⟩ (fun hHeld => ?_)
            clear hK K
            refine last_ (i := 4) (N := none) #[true, true, true, true, true] rfl rfl (by kernel_rfl) (by decide) (fun K hK => ?_)
            refine st_of (by rfl) ?_
            refine op_store (S := S) 3 (.tmp 7) (.tmp 34) rfl g3000003 0 (.int .i64 (wrap64 (n - 1))) [.int .i64 (wrap64 (n - 1))] rfl rfl rfl (by kernel_rfl) (by simp [Value.oneCell']) (SL.get4 HS.out) (by simp) ?_
            intro w9 hs_ hk_
            have n1_ := Aside0.mk (HK.out.trans hk_)
            have n2_ := Aside0.mk ((SL.back4 (show SL (cells g3000003 3 [.int .i64 (wrap64 (n - 1))].toArray :: _) _ _ from hs_)))
            clear HK HS
            have HK := n1_
            have HS := n2_
            clear n1_ n2_
            refine hK.out _ _ ?_
            clear hK K
            refine done_ (by kernel_rfl) ?_
            have hx := HC.out
            rw [if_neg (by decide)] at hx
            exact ⟨k', wrap64 (n - 1), Nat.lt_succ_self _, hx, SL.tail HS.out, HK.out⟩
      · intro D k' n W hC hS hK
        have hr : r1 = a2_0 ∧ r2 = a2_1 := by
          cases k' with
          | zero => exact absurd hC (by simp [towardL])
          | succ k' =>
            rw [towardL, if_pos ⟨rfl, rfl⟩] at hC
            simp only [Option.some.injEq, Prod.mk.injEq] at hC
            exact ⟨hC.1.symm, hC.2.symm⟩
        obtain ⟨rfl, rfl⟩ := hr
        clear HS HK HH hb_ hC
        have HS := Aside0.mk (SL.cons (fun _ _ h => SL.cons (fun _ _ h => SL.cons (fun _ _ h => SL.tail h) (SL.tail (SL.tail h))) h) hS)
        have HK := Aside0.mk hK
        clear hS hK
        simp only [Exit.inBlock, Exit.then, Act.put, List.setIfInBounds_toArray, List.set_cons_zero, List.set_cons_succ]
        have hb_ := SL.at_ (SL.get2 HS.out)
        have hz1_0 := ((blk_cell hb_ 0).trans rfl : _ = some (.int .i64 r1))
        have hz1_1 := ((blk_cell hb_ 1).trans rfl : _ = some (.int .i64 r2))
        clear hb_
        try go_wp2_with (first | ((with_reducible refine gate_store (t := 23) (p := 8) (v := (.tmp 35)) rfl ?_); refine wpList_plain rfl (fun K_ hK_ => ?_); refine op_store (S := S) 23 (.tmp 8) (.tmp 35) rfl g3000004 0 (.agg #[.int .i64 r1, .int .i64 r2]) [.int .i64 r1, .int .i64 r2] rfl rfl rfl (by kernel_rfl) (by simp [Value.oneCell']) (SL.get1 HS.out) (by simp) ?_; intro w30 hs_ hk_; refine hK_ _ _ ?_; clear hK_ K_; have n1_ := Aside0.mk (HK.out.trans hk_); have n2_ := Aside0.mk (SL.back1 (show SL (cells g3000004 23 [.int .i64 r1, .int .i64 r2].toArray :: _) _ _ from hs_)); clear HK HS; have HK := n1_; have HS := n2_; clear n1_ n2_))
        have hD := obj_at HS.out
        have hDi := obj_in HS.out
        have hDl : D < w30.heap.size := (Array.getElem?_eq_some_iff.1 hD).1
        have hk3 : Keep S w (w30.putObj D (.deferred none)) := HK.out.trans (keep_putObj hDi hDl _)
        have hs3 := SL.at_ (SL.tail (obj_put HS.out (.deferred none)))
        show LeavesInM Fence.wide 7 Try.prog Try.f15 _ _ _ _ _
        refine ⟨by simp, .inl ⟨D, _, rfl, run_takeDeferred hD, ?_⟩⟩
        refine ⟨.agg #[.int .i64 r1, .int .i64 r2], results_single rfl (.cell g3000004 23 #[.int .i64 r1, .int .i64 r2] (0, 0) _ rfl hs3 Try.underlying23 rfl (by kernel_rfl) .nil), rfl, ?_⟩
        have hS := HSN.out
        subst hS
        exact hk3.to_below
      · intro D x y W hX hS hK
        obtain ⟨rfl, rfl⟩ := hX
        clear HS HK HH hb_
        have HS := Aside0.mk hS
        have HK := Aside0.mk hK
        clear hS hK
        simp only [Act.put, List.setIfInBounds_toArray, List.set_cons_zero, List.set_cons_succ]
        gi_wp2
        have hb_ := SL.at_ (SL.get2 HS.out)
        have hz1_0 := ((blk_cell hb_ 0).trans rfl : _ = some (.int .i64 r1))
        have hz1_1 := ((blk_cell hb_ 1).trans rfl : _ = some (.int .i64 r2))
        clear hb_
        try go_wp2_with (first | ((with_reducible refine gate_store (t := 23) (p := 8) (v := (.tmp 35)) rfl ?_); refine wpList_plain rfl (fun K_ hK_ => ?_); refine op_store (S := S) 23 (.tmp 8) (.tmp 35) rfl g3000004 0 (.agg #[.int .i64 r1, .int .i64 r2]) [.int .i64 r1, .int .i64 r2] rfl rfl rfl (by kernel_rfl) (by simp [Value.oneCell']) (SL.get1 HS.out) (by simp) ?_; intro w30 hs_ hk_; refine hK_ _ _ ?_; clear hK_ K_; have n1_ := Aside0.mk (HK.out.trans hk_); have n2_ := Aside0.mk (SL.back1 (show SL (cells g3000004 23 [.int .i64 r1, .int .i64 r2].toArray :: _) _ _ from hs_)); clear HK HS; have HK := n1_; have HS := n2_; clear n1_ n2_))
        have hD := obj_at HS.out
        have hDi := obj_in HS.out
        have hDl : D < w30.heap.size := (Array.getElem?_eq_some_iff.1 hD).1
        have hk3 : Keep S w (w30.putObj D (.deferred none)) := HK.out.trans (keep_putObj hDi hDl _)
        have hs3 := SL.at_ (SL.tail (obj_put HS.out (.deferred none)))
        show LeavesInM Fence.wide 7 Try.prog Try.f15 _ _ _ _ _
        refine ⟨by simp, .inl ⟨D, _, rfl, run_takeDeferred hD, ?_⟩⟩
        refine ⟨.agg #[.int .i64 r1, .int .i64 r2], results_single rfl (.cell g3000004 23 #[.int .i64 r1, .int .i64 r2] (0, 0) _ rfl hs3 Try.underlying23 rfl (by kernel_rfl) .nil), rfl, ?_⟩
        have hS := HSN.out
        subst hS
        exact hk3.to_below
    · replace c4 := Bool.eq_false_iff.mpr c4
      subst c4
      rw [if_neg (by decide)] at H
      simp only [Option.some.injEq, Prod.mk.injEq] at H
      obtain ⟨rfl, rfl⟩ := H
      try go_wp2_with (first | ((with_reducible refine gate_store (t := 23) (p := 8) (v := (.tmp 20)) rfl ?_); refine wpList_plain rfl (fun K_ hK_ => ?_); refine op_store (S := S) 23 (.tmp 8) (.tmp 20) rfl g3000004 0 (.agg #[.int .i64 a1_0, .int .i64 a1_1]) [.int .i64 a1_0, .int .i64 a1_1] rfl rfl rfl (by kernel_rfl) (by simp [Value.oneCell']) HS.out (by simp) ?_; intro w30 hs_ hk_; refine hK_ _ _ ?_; clear hK_ K_; have n1_ := Aside0.mk (HK.out.trans hk_); have n2_ := Aside0.mk (show SL (cells g3000004 23 [.int .i64 a1_0, .int .i64 a1_1].toArray :: _) _ _ from hs_); clear HK HS; have HK := n1_; have HS := n2_; clear n1_ n2_) | ((with_reducible refine gate_dst (N := 4) rfl ?_); refine wpList_plain rfl (fun K_ hK_ => ?_); refine op_box (S := S) (cs := #[.int .i64 a0_0, .int .i64 a0_1, .slice A0_2 l0_2.length c0_2]) (t := 29) (HF.out.keep HK.out) HS.out (by first | (go_simp; done) | (go_simp; rfl)) ?_; intro g3000000 w4 hs_ hk_; refine hK_ _ _ ?_; clear hK_ K_; have n1_ := Aside0.mk (HK.out.trans hk_); have n2_ := Aside0.mk (hs_); clear HK HS; have HK := n1_; have HS := n2_; clear n1_ n2_; (try clear hz3000000_0_0 hz3000000_1_0 hz3000000_2_0); have hb_ := SL.at_ HS.out; have hz3000000_0_1 := ((blk_cell hb_ 0).trans rfl : _ = some (.int .i64 a0_0)); have hz3000000_1_1 := ((blk_cell hb_ 1).trans rfl : _ = some (.int .i64 a0_1)); have hz3000000_2_1 := ((blk_cell hb_ 2).trans rfl : _ = some (.slice A0_2 l0_2.length c0_2)); clear hb_) | ((with_reducible refine gate_dst (N := 5) rfl ?_); refine wpList_plain rfl (fun K_ hK_ => ?_); refine op_box (S := S) (cs := #[.int .i64 a1_0, .int .i64 a1_1]) (t := 23) (HF.out.keep HK.out) HS.out (by first | (go_simp; done) | (go_simp; rfl)) ?_; intro g3000001 w5 hs_ hk_; refine hK_ _ _ ?_; clear hK_ K_; have n1_ := Aside0.mk (HK.out.trans hk_); have n2_ := Aside0.mk (hs_); clear HK HS; have HK := n1_; have HS := n2_; clear n1_ n2_; (try clear hz3000000_0_1 hz3000000_1_1 hz3000000_2_1); (try clear hz3000001_0_1 hz3000001_1_1); have hb_ := SL.at_ HS.out; have hz3000001_0_2 := ((blk_cell hb_ 0).trans rfl : _ = some (.int .i64 a1_0)); have hz3000001_1_2 := ((blk_cell hb_ 1).trans rfl : _ = some (.int .i64 a1_1)); clear hb_; have hb_ := SL.at_ (SL.get1 HS.out); have hz3000000_0_2 := ((blk_cell hb_ 0).trans rfl : _ = some (.int .i64 a0_0)); have hz3000000_1_2 := ((blk_cell hb_ 1).trans rfl : _ = some (.int .i64 a0_1)); have hz3000000_2_2 := ((blk_cell hb_ 2).trans rfl : _ = some (.slice A0_2 l0_2.length c0_2)); clear hb_) | ((with_reducible refine gate_dst (N := 6) rfl ?_); refine wpList_plain rfl (fun K_ hK_ => ?_); refine op_box (S := S) (cs := #[.int .i64 a2_0, .int .i64 a2_1]) (t := 23) (HF.out.keep HK.out) HS.out (by first | (go_simp; done) | (go_simp; rfl)) ?_; intro g3000002 w6 hs_ hk_; refine hK_ _ _ ?_; clear hK_ K_; have n1_ := Aside0.mk (HK.out.trans hk_); have n2_ := Aside0.mk (hs_); clear HK HS; have HK := n1_; have HS := n2_; clear n1_ n2_; (try clear hz3000000_0_2 hz3000000_1_2 hz3000000_2_2); (try clear hz3000001_0_2 hz3000001_1_2); (try clear hz3000002_0_2 hz3000002_1_2); have hb_ := SL.at_ HS.out; have hz3000002_0_3 := ((blk_cell hb_ 0).trans rfl : _ = some (.int .i64 a2_0)); have hz3000002_1_3 := ((blk_cell hb_ 1).trans rfl : _ = some (.int .i64 a2_1)); clear hb_; have hb_ := SL.at_ (SL.get1 HS.out); have hz3000001_0_3 := ((blk_cell hb_ 0).trans rfl : _ = some (.int .i64 a1_0)); have hz3000001_1_3 := ((blk_cell hb_ 1).trans rfl : _ = some (.int .i64 a1_1)); clear hb_; have hb_ := SL.at_ (SL.get2 HS.out); have hz3000000_0_3 := ((blk_cell hb_ 0).trans rfl : _ = some (.int .i64 a0_0)); have hz3000000_1_3 := ((blk_cell hb_ 1).trans rfl : _ = some (.int .i64 a0_1)); have hz3000000_2_3 := ((blk_cell hb_ 2).trans rfl : _ = some (.slice A0_2 l0_2.length c0_2)); clear hb_) | ((with_reducible refine gate_dst (N := 7) rfl ?_); refine wpList_plain rfl (fun K_ hK_ => ?_); refine op_box (S := S) (cs := #[.int .i64 a3]) (t := 3) (HF.out.keep HK.out) HS.out (by first | (go_simp; done) | (go_simp; rfl)) ?_; intro g3000003 w7 hs_ hk_; refine hK_ _ _ ?_; clear hK_ K_; have n1_ := Aside0.mk (HK.out.trans hk_); have n2_ := Aside0.mk (hs_); clear HK HS; have HK := n1_; have HS := n2_; clear n1_ n2_; (try clear hz3000000_0_3 hz3000000_1_3 hz3000000_2_3); (try clear hz3000001_0_3 hz3000001_1_3); (try clear hz3000002_0_3 hz3000002_1_3); have hb_ := SL.at_ (SL.get1 HS.out); have hz3000002_0_4 := ((blk_cell hb_ 0).trans rfl : _ = some (.int .i64 a2_0)); have hz3000002_1_4 := ((blk_cell hb_ 1).trans rfl : _ = some (.int .i64 a2_1)); clear hb_; have hb_ := SL.at_ (SL.get2 HS.out); have hz3000001_0_4 := ((blk_cell hb_ 0).trans rfl : _ = some (.int .i64 a1_0)); have hz3000001_1_4 := ((blk_cell hb_ 1).trans rfl : _ = some (.int .i64 a1_1)); clear hb_; have hb_ := SL.at_ (SL.get3 HS.out); have hz3000000_0_4 := ((blk_cell hb_ 0).trans rfl : _ = some (.int .i64 a0_0)); have hz3000000_1_4 := ((blk_cell hb_ 1).trans rfl : _ = some (.int .i64 a0_1)); have hz3000000_2_4 := ((blk_cell hb_ 2).trans rfl : _ = some (.slice A0_2 l0_2.length c0_2)); clear hb_) | ((with_reducible refine gate_dst (N := 8) rfl ?_); refine wpList_plain rfl (fun K_ hK_ => ?_); refine op_box (S := S) (cs := #[.int .i64 0, .int .i64 0]) (t := 23) (HF.out.keep HK.out) HS.out (by first | (go_simp; done) | (go_simp; rfl)) ?_; intro g3000004 w8 hs_ hk_; refine hK_ _ _ ?_; clear hK_ K_; have n1_ := Aside0.mk (HK.out.trans hk_); have n2_ := Aside0.mk (hs_); clear HK HS; have HK := n1_; have HS := n2_; clear n1_ n2_; (try clear hz3000000_0_4 hz3000000_1_4 hz3000000_2_4); (try clear hz3000001_0_4 hz3000001_1_4); (try clear hz3000002_0_4 hz3000002_1_4); have hb_ := SL.at_ (SL.get2 HS.out); have hz3000002_0_5 := ((blk_cell hb_ 0).trans rfl : _ = some (.int .i64 a2_0)); have hz3000002_1_5 := ((blk_cell hb_ 1).trans rfl : _ = some (.int .i64 a2_1)); clear hb_; have hb_ := SL.at_ (SL.get3 HS.out); have hz3000001_0_5 := ((blk_cell hb_ 0).trans rfl : _ = some (.int .i64 a1_0)); have hz3000001_1_5 := ((blk_cell hb_ 1).trans rfl : _ = some (.int .i64 a1_1)); clear hb_; have hb_ := SL.at_ (SL.get4 HS.out); have hz3000000_0_5 := ((blk_cell hb_ 0).trans rfl : _ = some (.int .i64 a0_0)); have hz3000000_1_5 := ((blk_cell hb_ 1).trans rfl : _ = some (.int .i64 a0_1)); have hz3000000_2_5 := ((blk_cell hb_ 2).trans rfl : _ = some (.slice A0_2 l0_2.length c0_2)); clear hb_))
      go_step3
      try go_wp2_with (first | ((with_reducible refine gate_store (t := 23) (p := 8) (v := (.tmp 20)) rfl ?_); refine wpList_plain rfl (fun K_ hK_ => ?_); refine op_store (S := S) 23 (.tmp 8) (.tmp 20) rfl g3000004 0 (.agg #[.int .i64 a1_0, .int .i64 a1_1]) [.int .i64 a1_0, .int .i64 a1_1] rfl rfl rfl (by kernel_rfl) (by simp [Value.oneCell']) HS.out (by simp) ?_; intro w30 hs_ hk_; refine hK_ _ _ ?_; clear hK_ K_; have n1_ := Aside0.mk (HK.out.trans hk_); have n2_ := Aside0.mk (show SL (cells g3000004 23 [.int .i64 a1_0, .int .i64 a1_1].toArray :: _) _ _ from hs_); clear HK HS; have HK := n1_; have HS := n2_; clear n1_ n2_) | ((with_reducible refine gate_dst (N := 12) rfl ?_); refine goesL_ (some 12) rfl rfl Try.func17 (by kernel_rfl) rfl #[.agg #[.int .i64 a0_0, .int .i64 a0_1, .slice A0_2 l0_2.length c0_2], .agg #[.int .i64 a1_0, .int .i64 a1_1]] rfl (by (try simp only [List.map_toArray, List.map_cons, List.map_nil]); first | done | rfl | (simp; done)) ?_; (with_reducible refine (grid_In.calls _ _ _ _ _ _ _ _ _ (RO.at_ HR0_2.out HK.out) HC0_2.out Hc1.out).mono ?_); rintro e_ w9 ⟨rfl, hb_⟩; refine ⟨_, rfl, ?_⟩; have n1_ := Aside0.mk (HK.out.trans (Keep.below hb_)); have n2_ := Aside0.mk (HS.out.below hb_); clear HK HS; have HK := n1_; have HS := n2_; clear n1_ n2_; (try clear hz3000000_0_5 hz3000000_1_5 hz3000000_2_5); (try clear hz3000001_0_5 hz3000001_1_5); (try clear hz3000002_0_5 hz3000002_1_5); have hb_ := SL.at_ (SL.get2 HS.out); have hz3000002_0_6 := ((blk_cell hb_ 0).trans rfl : _ = some (.int .i64 a2_0)); have hz3000002_1_6 := ((blk_cell hb_ 1).trans rfl : _ = some (.int .i64 a2_1)); clear hb_; have hb_ := SL.at_ (SL.get3 HS.out); have hz3000001_0_6 := ((blk_cell hb_ 0).trans rfl : _ = some (.int .i64 a1_0)); have hz3000001_1_6 := ((blk_cell hb_ 1).trans rfl : _ = some (.int .i64 a1_1)); clear hb_; have hb_ := SL.at_ (SL.get4 HS.out); have hz3000000_0_6 := ((blk_cell hb_ 0).trans rfl : _ = some (.int .i64 a0_0)); have hz3000000_1_6 := ((blk_cell hb_ 1).trans rfl : _ = some (.int .i64 a0_1)); have hz3000000_2_6 := ((blk_cell hb_ 2).trans rfl : _ = some (.slice A0_2 l0_2.length c0_2)); clear hb_) | ((with_reducible refine gate_dst (N := 17) rfl ?_); (try (refine gate_guard (by rfl) ?_; dsimp only)); refine goesL_ (some 17) rfl rfl Try.func26 (by kernel_rfl) rfl #[.agg #[.int .i64 a0_0, .int .i64 a0_1, .slice A0_2 l0_2.length c0_2], .agg #[.int .i64 a2_0, .int .i64 a2_1]] rfl (by (try simp only [List.map_toArray, List.map_cons, List.map_nil]); first | done | rfl | (simp; done)) ?_; (with_reducible refine (grid_inside.calls _ _ _ _ _ _ _ _ _ (RO.at_ HR0_2.out HK.out) HC0_2.out Hc3.out).mono ?_); rintro e_ w10 ⟨rfl, hb_⟩; refine ⟨_, rfl, ?_⟩; have n1_ := Aside0.mk (HK.out.trans (Keep.below hb_)); have n2_ := Aside0.mk (HS.out.below hb_); clear HK HS; have HK := n1_; have HS := n2_; clear n1_ n2_; (try clear hz3000000_0_6 hz3000000_1_6 hz3000000_2_6); (try clear hz3000001_0_6 hz3000001_1_6); (try clear hz3000002_0_6 hz3000002_1_6); have hb_ := SL.at_ (SL.get2 HS.out); have hz3000002_0_7 := ((blk_cell hb_ 0).trans rfl : _ = some (.int .i64 a2_0)); have hz3000002_1_7 := ((blk_cell hb_ 1).trans rfl : _ = some (.int .i64 a2_1)); clear hb_; have hb_ := SL.at_ (SL.get3 HS.out); have hz3000001_0_7 := ((blk_cell hb_ 0).trans rfl : _ = some (.int .i64 a1_0)); have hz3000001_1_7 := ((blk_cell hb_ 1).trans rfl : _ = some (.int .i64 a1_1)); clear hb_; have hb_ := SL.at_ (SL.get4 HS.out); have hz3000000_0_7 := ((blk_cell hb_ 0).trans rfl : _ = some (.int .i64 a0_0)); have hz3000000_1_7 := ((blk_cell hb_ 1).trans rfl : _ = some (.int .i64 a0_1)); have hz3000000_2_7 := ((blk_cell hb_ 2).trans rfl : _ = some (.slice A0_2 l0_2.length c0_2)); clear hb_))
      have hs3 := SL.at_ HS.out
      show LeavesInM Fence.wide 7 Try.prog Try.f15 _ _ _ _ _
      refine ⟨.agg #[.int .i64 a1_0, .int .i64 a1_1], results_single rfl (.cell g3000004 23 #[.int .i64 a1_0, .int .i64 a1_1] (0, 0) _ rfl hs3 Try.underlying23 rfl (by kernel_rfl) .nil), rfl, ?_⟩
      have hS := HSN.out
      subst hS
      exact HK.out.to_below
  · replace c2 := Bool.eq_false_iff.mpr c2
    subst c2
    rw [if_neg (by decide)] at H
    simp only [Option.some.injEq, Prod.mk.injEq] at H
    obtain ⟨rfl, rfl⟩ := H
    try go_wp2_with (first | ((with_reducible refine gate_store (t := 23) (p := 8) (v := (.tmp 20)) rfl ?_); refine wpList_plain rfl (fun K_ hK_ => ?_); refine op_store (S := S) 23 (.tmp 8) (.tmp 20) rfl g3000004 0 (.agg #[.int .i64 a1_0, .int .i64 a1_1]) [.int .i64 a1_0, .int .i64 a1_1] rfl rfl rfl (by kernel_rfl) (by simp [Value.oneCell']) HS.out (by simp) ?_; intro w30 hs_ hk_; refine hK_ _ _ ?_; clear hK_ K_; have n1_ := Aside0.mk (HK.out.trans hk_); have n2_ := Aside0.mk (show SL (cells g3000004 23 [.int .i64 a1_0, .int .i64 a1_1].toArray :: _) _ _ from hs_); clear HK HS; have HK := n1_; have HS := n2_; clear n1_ n2_) | ((with_reducible refine gate_dst (N := 4) rfl ?_); refine wpList_plain rfl (fun K_ hK_ => ?_); refine op_box (S := S) (cs := #[.int .i64 a0_0, .int .i64 a0_1, .slice A0_2 l0_2.length c0_2]) (t := 29) (HF.out.keep HK.out) HS.out (by first | (go_simp; done) | (go_simp; rfl)) ?_; intro g3000000 w4 hs_ hk_; refine hK_ _ _ ?_; clear hK_ K_; have n1_ := Aside0.mk (HK.out.trans hk_); have n2_ := Aside0.mk (hs_); clear HK HS; have HK := n1_; have HS := n2_; clear n1_ n2_; (try clear hz3000000_0_0 hz3000000_1_0 hz3000000_2_0); have hb_ := SL.at_ HS.out; have hz3000000_0_1 := ((blk_cell hb_ 0).trans rfl : _ = some (.int .i64 a0_0)); have hz3000000_1_1 := ((blk_cell hb_ 1).trans rfl : _ = some (.int .i64 a0_1)); have hz3000000_2_1 := ((blk_cell hb_ 2).trans rfl : _ = some (.slice A0_2 l0_2.length c0_2)); clear hb_) | ((with_reducible refine gate_dst (N := 5) rfl ?_); refine wpList_plain rfl (fun K_ hK_ => ?_); refine op_box (S := S) (cs := #[.int .i64 a1_0, .int .i64 a1_1]) (t := 23) (HF.out.keep HK.out) HS.out (by first | (go_simp; done) | (go_simp; rfl)) ?_; intro g3000001 w5 hs_ hk_; refine hK_ _ _ ?_; clear hK_ K_; have n1_ := Aside0.mk (HK.out.trans hk_); have n2_ := Aside0.mk (hs_); clear HK HS; have HK := n1_; have HS := n2_; clear n1_ n2_; (try clear hz3000000_0_1 hz3000000_1_1 hz3000000_2_1); (try clear hz3000001_0_1 hz3000001_1_1); have hb_ := SL.at_ HS.out; have hz3000001_0_2 := ((blk_cell hb_ 0).trans rfl : _ = some (.int .i64 a1_0)); have hz3000001_1_2 := ((blk_cell hb_ 1).trans rfl : _ = some (.int .i64 a1_1)); clear hb_; have hb_ := SL.at_ (SL.get1 HS.out); have hz3000000_0_2 := ((blk_cell hb_ 0).trans rfl : _ = some (.int .i64 a0_0)); have hz3000000_1_2 := ((blk_cell hb_ 1).trans rfl : _ = some (.int .i64 a0_1)); have hz3000000_2_2 := ((blk_cell hb_ 2).trans rfl : _ = some (.slice A0_2 l0_2.length c0_2)); clear hb_) | ((with_reducible refine gate_dst (N := 6) rfl ?_); refine wpList_plain rfl (fun K_ hK_ => ?_); refine op_box (S := S) (cs := #[.int .i64 a2_0, .int .i64 a2_1]) (t := 23) (HF.out.keep HK.out) HS.out (by first | (go_simp; done) | (go_simp; rfl)) ?_; intro g3000002 w6 hs_ hk_; refine hK_ _ _ ?_; clear hK_ K_; have n1_ := Aside0.mk (HK.out.trans hk_); have n2_ := Aside0.mk (hs_); clear HK HS; have HK := n1_; have HS := n2_; clear n1_ n2_; (try clear hz3000000_0_2 hz3000000_1_2 hz3000000_2_2); (try clear hz3000001_0_2 hz3000001_1_2); (try clear hz3000002_0_2 hz3000002_1_2); have hb_ := SL.at_ HS.out; have hz3000002_0_3 := ((blk_cell hb_ 0).trans rfl : _ = some (.int .i64 a2_0)); have hz3000002_1_3 := ((blk_cell hb_ 1).trans rfl : _ = some (.int .i64 a2_1)); clear hb_; have hb_ := SL.at_ (SL.get1 HS.out); have hz3000001_0_3 := ((blk_cell hb_ 0).trans rfl : _ = some (.int .i64 a1_0)); have hz3000001_1_3 := ((blk_cell hb_ 1).trans rfl : _ = some (.int .i64 a1_1)); clear hb_; have hb_ := SL.at_ (SL.get2 HS.out); have hz3000000_0_3 := ((blk_cell hb_ 0).trans rfl : _ = some (.int .i64 a0_0)); have hz3000000_1_3 := ((blk_cell hb_ 1).trans rfl : _ = some (.int .i64 a0_1)); have hz3000000_2_3 := ((blk_cell hb_ 2).trans rfl : _ = some (.slice A0_2 l0_2.length c0_2)); clear hb_) | ((with_reducible refine gate_dst (N := 7) rfl ?_); refine wpList_plain rfl (fun K_ hK_ => ?_); refine op_box (S := S) (cs := #[.int .i64 a3]) (t := 3) (HF.out.keep HK.out) HS.out (by first | (go_simp; done) | (go_simp; rfl)) ?_; intro g3000003 w7 hs_ hk_; refine hK_ _ _ ?_; clear hK_ K_; have n1_ := Aside0.mk (HK.out.trans hk_); have n2_ := Aside0.mk (hs_); clear HK HS; have HK := n1_; have HS := n2_; clear n1_ n2_; (try clear hz3000000_0_3 hz3000000_1_3 hz3000000_2_3); (try clear hz3000001_0_3 hz3000001_1_3); (try clear hz3000002_0_3 hz3000002_1_3); have hb_ := SL.at_ (SL.get1 HS.out); have hz3000002_0_4 := ((blk_cell hb_ 0).trans rfl : _ = some (.int .i64 a2_0)); have hz3000002_1_4 := ((blk_cell hb_ 1).trans rfl : _ = some (.int .i64 a2_1)); clear hb_; have hb_ := SL.at_ (SL.get2 HS.out); have hz3000001_0_4 := ((blk_cell hb_ 0).trans rfl : _ = some (.int .i64 a1_0)); have hz3000001_1_4 := ((blk_cell hb_ 1).trans rfl : _ = some (.int .i64 a1_1)); clear hb_; have hb_ := SL.at_ (SL.get3 HS.out); have hz3000000_0_4 := ((blk_cell hb_ 0).trans rfl : _ = some (.int .i64 a0_0)); have hz3000000_1_4 := ((blk_cell hb_ 1).trans rfl : _ = some (.int .i64 a0_1)); have hz3000000_2_4 := ((blk_cell hb_ 2).trans rfl : _ = some (.slice A0_2 l0_2.length c0_2)); clear hb_) | ((with_reducible refine gate_dst (N := 8) rfl ?_); refine wpList_plain rfl (fun K_ hK_ => ?_); refine op_box (S := S) (cs := #[.int .i64 0, .int .i64 0]) (t := 23) (HF.out.keep HK.out) HS.out (by first | (go_simp; done) | (go_simp; rfl)) ?_; intro g3000004 w8 hs_ hk_; refine hK_ _ _ ?_; clear hK_ K_; have n1_ := Aside0.mk (HK.out.trans hk_); have n2_ := Aside0.mk (hs_); clear HK HS; have HK := n1_; have HS := n2_; clear n1_ n2_; (try clear hz3000000_0_4 hz3000000_1_4 hz3000000_2_4); (try clear hz3000001_0_4 hz3000001_1_4); (try clear hz3000002_0_4 hz3000002_1_4); have hb_ := SL.at_ (SL.get2 HS.out); have hz3000002_0_5 := ((blk_cell hb_ 0).trans rfl : _ = some (.int .i64 a2_0)); have hz3000002_1_5 := ((blk_cell hb_ 1).trans rfl : _ = some (.int .i64 a2_1)); clear hb_; have hb_ := SL.at_ (SL.get3 HS.out); have hz3000001_0_5 := ((blk_cell hb_ 0).trans rfl : _ = some (.int .i64 a1_0)); have hz3000001_1_5 := ((blk_cell hb_ 1).trans rfl : _ = some (.int .i64 a1_1)); clear hb_; have hb_ := SL.at_ (SL.get4 HS.out); have hz3000000_0_5 := ((blk_cell hb_ 0).trans rfl : _ = some (.int .i64 a0_0)); have hz3000000_1_5 := ((blk_cell hb_ 1).trans rfl : _ = some (.int .i64 a0_1)); have hz3000000_2_5 := ((blk_cell hb_ 2).trans rfl : _ = some (.slice A0_2 l0_2.length c0_2)); clear hb_))
    go_step3
    try go_wp2_with (first | ((with_reducible refine gate_store (t := 23) (p := 8) (v := (.tmp 20)) rfl ?_); refine wpList_plain rfl (fun K_ hK_ => ?_); refine op_store (S := S) 23 (.tmp 8) (.tmp 20) rfl g3000004 0 (.agg #[.int .i64 a1_0, .int .i64 a1_1]) [.int .i64 a1_0, .int .i64 a1_1] rfl rfl rfl (by kernel_rfl) (by simp [Value.oneCell']) HS.out (by simp) ?_; intro w30 hs_ hk_; refine hK_ _ _ ?_; clear hK_ K_; have n1_ := Aside0.mk (HK.out.trans hk_); have n2_ := Aside0.mk (show SL (cells g3000004 23 [.int .i64 a1_0, .int .i64 a1_1].toArray :: _) _ _ from hs_); clear HK HS; have HK := n1_; have HS := n2_; clear n1_ n2_) | ((with_reducible refine gate_dst (N := 12) rfl ?_); refine goesL_ (some 12) rfl rfl Try.func17 (by kernel_rfl) rfl #[.agg #[.int .i64 a0_0, .int .i64 a0_1, .slice A0_2 l0_2.length c0_2], .agg #[.int .i64 a1_0, .int .i64 a1_1]] rfl (by (try simp only [List.map_toArray, List.map_cons, List.map_nil]); first | done | rfl | (simp; done)) ?_; (with_reducible refine (grid_In.calls _ _ _ _ _ _ _ _ _ (RO.at_ HR0_2.out HK.out) HC0_2.out Hc1.out).mono ?_); rintro e_ w9 ⟨rfl, hb_⟩; refine ⟨_, rfl, ?_⟩; have n1_ := Aside0.mk (HK.out.trans (Keep.below hb_)); have n2_ := Aside0.mk (HS.out.below hb_); clear HK HS; have HK := n1_; have HS := n2_; clear n1_ n2_; (try clear hz3000000_0_5 hz3000000_1_5 hz3000000_2_5); (try clear hz3000001_0_5 hz3000001_1_5); (try clear hz3000002_0_5 hz3000002_1_5); have hb_ := SL.at_ (SL.get2 HS.out); have hz3000002_0_6 := ((blk_cell hb_ 0).trans rfl : _ = some (.int .i64 a2_0)); have hz3000002_1_6 := ((blk_cell hb_ 1).trans rfl : _ = some (.int .i64 a2_1)); clear hb_; have hb_ := SL.at_ (SL.get3 HS.out); have hz3000001_0_6 := ((blk_cell hb_ 0).trans rfl : _ = some (.int .i64 a1_0)); have hz3000001_1_6 := ((blk_cell hb_ 1).trans rfl : _ = some (.int .i64 a1_1)); clear hb_; have hb_ := SL.at_ (SL.get4 HS.out); have hz3000000_0_6 := ((blk_cell hb_ 0).trans rfl : _ = some (.int .i64 a0_0)); have hz3000000_1_6 := ((blk_cell hb_ 1).trans rfl : _ = some (.int .i64 a0_1)); have hz3000000_2_6 := ((blk_cell hb_ 2).trans rfl : _ = some (.slice A0_2 l0_2.length c0_2)); clear hb_) | ((with_reducible refine gate_dst (N := 17) rfl ?_); (try (refine gate_guard (by rfl) ?_; dsimp only)); refine goesL_ (some 17) rfl rfl Try.func26 (by kernel_rfl) rfl #[.agg #[.int .i64 a0_0, .int .i64 a0_1, .slice A0_2 l0_2.length c0_2], .agg #[.int .i64 a2_0, .int .i64 a2_1]] rfl (by (try simp only [List.map_toArray, List.map_cons, List.map_nil]); first | done | rfl | (simp; done)) ?_; (with_reducible refine (grid_inside.calls _ _ _ _ _ _ _ _ _ (RO.at_ HR0_2.out HK.out) HC0_2.out Hc3.out).mono ?_); rintro e_ w10 ⟨rfl, hb_⟩; refine ⟨_, rfl, ?_⟩; have n1_ := Aside0.mk (HK.out.trans (Keep.below hb_)); have n2_ := Aside0.mk (HS.out.below hb_); clear HK HS; have HK := n1_; have HS := n2_; clear n1_ n2_; (try clear hz3000000_0_6 hz3000000_1_6 hz3000000_2_6); (try clear hz3000001_0_6 hz3000001_1_6); (try clear hz3000002_0_6 hz3000002_1_6); have hb_ := SL.at_ (SL.get2 HS.out); have hz3000002_0_7 := ((blk_cell hb_ 0).trans rfl : _ = some (.int .i64 a2_0)); have hz3000002_1_7 := ((blk_cell hb_ 1).trans rfl : _ = some (.int .i64 a2_1)); clear hb_; have hb_ := SL.at_ (SL.get3 HS.out); have hz3000001_0_7 := ((blk_cell hb_ 0).trans rfl : _ = some (.int .i64 a1_0)); have hz3000001_1_7 := ((blk_cell hb_ 1).trans rfl : _ = some (.int .i64 a1_1)); clear hb_; have hb_ := SL.at_ (SL.get4 HS.out); have hz3000000_0_7 := ((blk_cell hb_ 0).trans rfl : _ = some (.int .i64 a0_0)); have hz3000000_1_7 := ((blk_cell hb_ 1).trans rfl : _ = some (.int .i64 a0_1)); have hz3000000_2_7 := ((blk_cell hb_ 2).trans rfl : _ = some (.slice A0_2 l0_2.length c0_2)); clear hb_))
    have hs3 := SL.at_ HS.out
    show LeavesInM Fence.wide 7 Try.prog Try.f15 _ _ _ _ _
    refine ⟨.agg #[.int .i64 a1_0, .int .i64 a1_1], results_single rfl (.cell g3000004 23 #[.int .i64 a1_0, .int .i64 a1_1] (0, 0) _ rfl hs3 Try.underlying23 rfl (by kernel_rfl) .nil), rfl, ?_⟩
    have hS := HSN.out
    subst hS
    exact HK.out.to_below
end Go.Proofs.YtoalpmfkaijomaaTo
