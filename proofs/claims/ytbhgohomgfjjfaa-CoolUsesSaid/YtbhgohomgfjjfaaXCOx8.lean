-- Written by xprint.py (a program of this session) for this claim
import Derived.Test.YtbhgohomgfjjfaaSL5
import Derived.Test.YtbhgohomgfjjfaaXCOx0
import Derived.Test.YtbhgohomgfjjfaaXCOx2
import Derived.Test.YtbhgohomgfjjfaaXCOx3
namespace Go.Proofs.Ytbhgohomgfjjfaa.XCO
open Go.Proofs.YtbhgohomgfjjfaaV Go.Proofs.YtbhgohomgfjjfaaS
open Go.RowKit Go.Proofs.YtbhgohomgfjjfaaW.PrintWords Go.Proofs.YtbhgohomgfjjfaaW.PrintLast Go.Proofs.YtbhgohomgfjjfaaW.PrintMore
attribute [local go_sem] max2_int min2_int max_two min_two max_three min_three max_four min_four   -- for this text's walks alone
set_option linter.unusedVariables false
set_option linter.unusedSimpArgs false

/-! ### cool_Next: function 21 -/
def cool_Next.f (k : Nat) (l0 : List (S35)) (a1_0 : Int) (a1_1 : Int) (a1_2 : Int) (a1_3 : Int) (a1_4 : Int) (a1_5 : Int) (a1_6 : Bool) (l1_7 : List (S76)) (a2 : Int) : Option (Int) := (cool_Ready.f k l0 a1_0 a1_1 a1_2 a1_3 a1_4 a1_5 a1_6 l1_7 a2).bind fun t330 => (if t330 > 0 then (some a2) else (if a1_3 < 1 then (some 9223372036854775807) else ((cool_away.f k l0 a1_0 a2).bind fun t331 => (if 0 < (t331.length : Int) then (some (rd t331 0)) else (none)))))
theorem cool_Next.mono : ∀ a0 a1 a2 a3 a4 a5 a6 a7 a8 a9 k, LeO (cool_Next.f k a0 a1 a2 a3 a4 a5 a6 a7 a8 a9) (cool_Next.f (k + 1) a0 a1 a2 a3 a4 a5 a6 a7 a8 a9) := by
  intro a0 a1 a2 a3 a4 a5 a6 a7 a8 a9 k
  unfold cool_Next.f
  repeat' first
      | (with_reducible exact cool_Ready.mono _ _ _ _ _ _ _ _ _ _ _)
      | (with_reducible exact cool_away.mono _ _ _ _)
      | (with_reducible exact LeO.refl _)
      | (with_reducible exact LeO.none _)
      | (with_reducible refine LeO.ite ?_ ?_)
      | (with_reducible refine everyOf_le (fun _ => ?_))
      | (with_reducible refine LeO.bind ?_ (fun _ => ?_))
      | exact cool_Ready.mono _ _ _ _ _ _ _ _ _ _ _
      | exact cool_away.mono _ _ _ _
      | exact LeO.none _
      | refine LeO.ite ?_ ?_
      | refine LeO.bind ?_ (fun _ => ?_)
def cool_Next.Post (r : Int) (S : Nat → Prop) (L : List Asr) (w : World) (e : Ending) (w' : World) : Prop := e = .returned (.int .i64 r) ∧ SL (L) w' S ∧ Keep S w w'
set_option maxHeartbeats 8000000 in
set_option maxRecDepth 100000 in
theorem cool_Next.slcalls (k : Nat) (A0 : Option Addr) (c0 : Nat) (l0 : List (S35)) (a1_0 : Int) (a1_1 : Int) (a1_2 : Int) (a1_3 : Int) (a1_4 : Int) (a1_5 : Int) (a1_6 : Bool) (A1_7 : Option Addr) (c1_7 : Nat) (l1_7 : List (S76)) (a2 : Int) (r : Int) (S : Nat → Prop) (L : List Asr) (w : World) (hf : Fresh S w) (hs : SL (L) w S) (hr0 : RO S w (fun w_ => Kd.C k35 w_ A0 l0.length l0)) (hc0 : l0.length ≤ c0) (hr1_7 : RO S w (fun w_ => Kd.C k76 w_ A1_7 l1_7.length l1_7)) (hc1_7 : l1_7.length ≤ c1_7) (h : cool_Next.f k l0 a1_0 a1_1 a1_2 a1_3 a1_4 a1_5 a1_6 l1_7 a2 = some r) :
    Calls Try.prog 21 #[.slice A0 l0.length c0, .agg #[.int .i64 a1_0, .int .i64 a1_1, .int .i64 a1_2, .int .i64 a1_3, .int .i64 a1_4, .int .i64 a1_5, .bool a1_6, .slice A1_7 l1_7.length c1_7], .int .i64 a2] w (cool_Next.Post r S L w) := by
  have HR0 := Aside0.mk hr0
  have HC0 := Aside0.mk hc0
  clear hr0 hc0
  have HR1_7 := Aside0.mk hr1_7
  have HC1_7 := Aside0.mk hc1_7
  clear hr1_7 hc1_7
  have HF := Aside0.mk hf
  have HS := Aside0.mk hs
  have HK := Aside0.mk (Keep.refl S w)
  clear hf hs
  have hu25 := Try.underlying25
  have H : ((cool_Ready.f k l0 a1_0 a1_1 a1_2 a1_3 a1_4 a1_5 a1_6 l1_7 a2).bind fun t330 => (if t330 > 0 then (some a2) else (if a1_3 < 1 then (some 9223372036854775807) else ((cool_away.f k l0 a1_0 a2).bind fun t331 => (if 0 < (t331.length : Int) then (some (rd t331 0)) else (none)))))) = some r := h
  clear h
  replace H := Option.bind_eq_some_iff.1 H
  obtain ⟨t330, Hc10, H⟩ := H
  try dsimp only at H
  have Hc1 := Aside0.mk Hc10
  clear Hc10
  by_cases c2 : t330 > 0
  · rw [if_pos c2] at H
    have c2b0 : decide (0 < t330) = true := decide_eq_true c2
    clear c2
    obtain rfl := Option.some.inj H
    go_enter Try.func21, Try.ntmps21
    go_wp2_with (first | ((with_reducible refine gate_dst (N := 4) rfl ?_); refine wpList_plain rfl (fun K_ hK_ => ?_); refine op_box (S := S) (cs := #[.int .i64 a1_0, .int .i64 a1_1, .int .i64 a1_2, .int .i64 a1_3, .int .i64 a1_4, .int .i64 a1_5, .bool a1_6, .slice A1_7 l1_7.length c1_7]) (t := 25) (HF.out.keep HK.out) HS.out (by first | (go_simp; done) | (go_simp; rfl)) ?_; intro g3000022 w3 hs_ hk_; refine hK_ _ _ ?_; clear hK_ K_; replace HS := Aside0.mk (hs_); replace HK := Aside0.mk (HK.out.trans hk_); have hb_ := SL.at_ HS.out; have hz3000022_0_1 := ((blk_cell hb_ 0).trans rfl : _ = some (.int .i64 a1_0)); have hz3000022_1_1 := ((blk_cell hb_ 1).trans rfl : _ = some (.int .i64 a1_1)); have hz3000022_2_1 := ((blk_cell hb_ 2).trans rfl : _ = some (.int .i64 a1_2)); have hz3000022_3_1 := ((blk_cell hb_ 3).trans rfl : _ = some (.int .i64 a1_3)); have hz3000022_4_1 := ((blk_cell hb_ 4).trans rfl : _ = some (.int .i64 a1_4)); have hz3000022_5_1 := ((blk_cell hb_ 5).trans rfl : _ = some (.int .i64 a1_5)); have hz3000022_6_1 := ((blk_cell hb_ 6).trans rfl : _ = some (.bool a1_6)); have hz3000022_7_1 := ((blk_cell hb_ 7).trans rfl : _ = some (.slice A1_7 l1_7.length c1_7)); clear hb_) | ((with_reducible refine gate_dst (N := 11) rfl ?_); refine goesL_ (some 11) rfl rfl Try.func19 (by kernel_rfl) rfl #[.slice A0 l0.length c0, .agg #[.int .i64 a1_0, .int .i64 a1_1, .int .i64 a1_2, .int .i64 a1_3, .int .i64 a1_4, .int .i64 a1_5, .bool a1_6, .slice A1_7 l1_7.length c1_7], .int .i64 a2] rfl (by (try simp only [List.map_toArray, List.map_cons, List.map_nil]); first | done | rfl | (simp; done)) ?_; (with_reducible refine (cool_Ready.calls k _ _ _ _ _ _ _ _ _ _ _ _ _ _ _ _ (RO.at_ HR0.out HK.out) HC0.out (RO.at_ HR1_7.out HK.out) HC1_7.out Hc1.out).mono ?_); rintro e_ w4 ⟨rfl, hb_⟩; refine ⟨_, rfl, ?_⟩; replace HS := Aside0.mk (HS.out.below hb_); replace HK := Aside0.mk (HK.out.trans (Keep.below hb_)); (try clear hz3000022_0_1 hz3000022_1_1 hz3000022_2_1 hz3000022_3_1 hz3000022_4_1 hz3000022_5_1 hz3000022_6_1 hz3000022_7_1)))
    go_ret
    replace HS := Aside0.mk (SL.tail HS.out)
    unfold cool_Next.Post
    exact ⟨by first | rfl | (simp; done) | (simp [*]; done) | (simp at c2b0 ⊢; first | exact c2b0 | (simp [c2b0]; done)), HS.out, HK.out⟩
  · rw [if_neg c2] at H
    have c2b0 : decide (0 < t330) = false := decide_eq_false c2
    clear c2
    by_cases c5 : a1_3 < 1
    · rw [if_pos c5] at H
      have c5b0 : decide (a1_3 < 1) = true := decide_eq_true c5
      clear c5
      obtain rfl := Option.some.inj H
      go_enter Try.func21, Try.ntmps21
      go_wp2_with (first | ((with_reducible refine gate_dst (N := 4) rfl ?_); refine wpList_plain rfl (fun K_ hK_ => ?_); refine op_box (S := S) (cs := #[.int .i64 a1_0, .int .i64 a1_1, .int .i64 a1_2, .int .i64 a1_3, .int .i64 a1_4, .int .i64 a1_5, .bool a1_6, .slice A1_7 l1_7.length c1_7]) (t := 25) (HF.out.keep HK.out) HS.out (by first | (go_simp; done) | (go_simp; rfl)) ?_; intro g3000022 w6 hs_ hk_; refine hK_ _ _ ?_; clear hK_ K_; replace HS := Aside0.mk (hs_); replace HK := Aside0.mk (HK.out.trans hk_); have hb_ := SL.at_ HS.out; have hz3000022_0_1 := ((blk_cell hb_ 0).trans rfl : _ = some (.int .i64 a1_0)); have hz3000022_1_1 := ((blk_cell hb_ 1).trans rfl : _ = some (.int .i64 a1_1)); have hz3000022_2_1 := ((blk_cell hb_ 2).trans rfl : _ = some (.int .i64 a1_2)); have hz3000022_3_1 := ((blk_cell hb_ 3).trans rfl : _ = some (.int .i64 a1_3)); have hz3000022_4_1 := ((blk_cell hb_ 4).trans rfl : _ = some (.int .i64 a1_4)); have hz3000022_5_1 := ((blk_cell hb_ 5).trans rfl : _ = some (.int .i64 a1_5)); have hz3000022_6_1 := ((blk_cell hb_ 6).trans rfl : _ = some (.bool a1_6)); have hz3000022_7_1 := ((blk_cell hb_ 7).trans rfl : _ = some (.slice A1_7 l1_7.length c1_7)); clear hb_) | ((with_reducible refine gate_dst (N := 11) rfl ?_); refine goesL_ (some 11) rfl rfl Try.func19 (by kernel_rfl) rfl #[.slice A0 l0.length c0, .agg #[.int .i64 a1_0, .int .i64 a1_1, .int .i64 a1_2, .int .i64 a1_3, .int .i64 a1_4, .int .i64 a1_5, .bool a1_6, .slice A1_7 l1_7.length c1_7], .int .i64 a2] rfl (by (try simp only [List.map_toArray, List.map_cons, List.map_nil]); first | done | rfl | (simp; done)) ?_; (with_reducible refine (cool_Ready.calls k _ _ _ _ _ _ _ _ _ _ _ _ _ _ _ _ (RO.at_ HR0.out HK.out) HC0.out (RO.at_ HR1_7.out HK.out) HC1_7.out Hc1.out).mono ?_); rintro e_ w7 ⟨rfl, hb_⟩; refine ⟨_, rfl, ?_⟩; replace HS := Aside0.mk (HS.out.below hb_); replace HK := Aside0.mk (HK.out.trans (Keep.below hb_)); (try clear hz3000022_0_1 hz3000022_1_1 hz3000022_2_1 hz3000022_3_1 hz3000022_4_1 hz3000022_5_1 hz3000022_6_1 hz3000022_7_1); have hb_ := SL.at_ HS.out; have hz3000022_0_2 := ((blk_cell hb_ 0).trans rfl : _ = some (.int .i64 a1_0)); have hz3000022_1_2 := ((blk_cell hb_ 1).trans rfl : _ = some (.int .i64 a1_1)); have hz3000022_2_2 := ((blk_cell hb_ 2).trans rfl : _ = some (.int .i64 a1_2)); have hz3000022_3_2 := ((blk_cell hb_ 3).trans rfl : _ = some (.int .i64 a1_3)); have hz3000022_4_2 := ((blk_cell hb_ 4).trans rfl : _ = some (.int .i64 a1_4)); have hz3000022_5_2 := ((blk_cell hb_ 5).trans rfl : _ = some (.int .i64 a1_5)); have hz3000022_6_2 := ((blk_cell hb_ 6).trans rfl : _ = some (.bool a1_6)); have hz3000022_7_2 := ((blk_cell hb_ 7).trans rfl : _ = some (.slice A1_7 l1_7.length c1_7)); clear hb_))
      go_ret
      replace HS := Aside0.mk (SL.tail HS.out)
      unfold cool_Next.Post
      exact ⟨by first | rfl | (simp; done) | (simp [*]; done) | (simp at c5b0 ⊢; first | exact c5b0 | (simp [c5b0]; done)), HS.out, HK.out⟩
    · rw [if_neg c5] at H
      have c5b0 : decide (a1_3 < 1) = false := decide_eq_false c5
      clear c5
      replace H := Option.bind_eq_some_iff.1 H
      obtain ⟨t331, Hc80, H⟩ := H
      try dsimp only at H
      have Hc8 := Aside0.mk Hc80
      clear Hc80
      by_cases c9 : 0 < (t331.length : Int)
      · rw [if_pos c9] at H
        have c9b0 : decide (0 < (t331.length : Int)) = true := decide_eq_true c9
        have c9b1 : decide (0 < t331.length) = true := decide_eq_true (by omega)
        clear c9
        obtain rfl := Option.some.inj H
        go_enter Try.func21, Try.ntmps21
        go_wp2_with (first | ((with_reducible refine gate_dst (N := 4) rfl ?_); refine wpList_plain rfl (fun K_ hK_ => ?_); refine op_box (S := S) (cs := #[.int .i64 a1_0, .int .i64 a1_1, .int .i64 a1_2, .int .i64 a1_3, .int .i64 a1_4, .int .i64 a1_5, .bool a1_6, .slice A1_7 l1_7.length c1_7]) (t := 25) (HF.out.keep HK.out) HS.out (by first | (go_simp; done) | (go_simp; rfl)) ?_; intro g3000022 w10 hs_ hk_; refine hK_ _ _ ?_; clear hK_ K_; replace HS := Aside0.mk (hs_); replace HK := Aside0.mk (HK.out.trans hk_); have hb_ := SL.at_ HS.out; have hz3000022_0_1 := ((blk_cell hb_ 0).trans rfl : _ = some (.int .i64 a1_0)); have hz3000022_1_1 := ((blk_cell hb_ 1).trans rfl : _ = some (.int .i64 a1_1)); have hz3000022_2_1 := ((blk_cell hb_ 2).trans rfl : _ = some (.int .i64 a1_2)); have hz3000022_3_1 := ((blk_cell hb_ 3).trans rfl : _ = some (.int .i64 a1_3)); have hz3000022_4_1 := ((blk_cell hb_ 4).trans rfl : _ = some (.int .i64 a1_4)); have hz3000022_5_1 := ((blk_cell hb_ 5).trans rfl : _ = some (.int .i64 a1_5)); have hz3000022_6_1 := ((blk_cell hb_ 6).trans rfl : _ = some (.bool a1_6)); have hz3000022_7_1 := ((blk_cell hb_ 7).trans rfl : _ = some (.slice A1_7 l1_7.length c1_7)); clear hb_) | ((with_reducible refine gate_dst (N := 11) rfl ?_); refine goesL_ (some 11) rfl rfl Try.func19 (by kernel_rfl) rfl #[.slice A0 l0.length c0, .agg #[.int .i64 a1_0, .int .i64 a1_1, .int .i64 a1_2, .int .i64 a1_3, .int .i64 a1_4, .int .i64 a1_5, .bool a1_6, .slice A1_7 l1_7.length c1_7], .int .i64 a2] rfl (by (try simp only [List.map_toArray, List.map_cons, List.map_nil]); first | done | rfl | (simp; done)) ?_; (with_reducible refine (cool_Ready.calls k _ _ _ _ _ _ _ _ _ _ _ _ _ _ _ _ (RO.at_ HR0.out HK.out) HC0.out (RO.at_ HR1_7.out HK.out) HC1_7.out Hc1.out).mono ?_); rintro e_ w11 ⟨rfl, hb_⟩; refine ⟨_, rfl, ?_⟩; replace HS := Aside0.mk (HS.out.below hb_); replace HK := Aside0.mk (HK.out.trans (Keep.below hb_)); (try clear hz3000022_0_1 hz3000022_1_1 hz3000022_2_1 hz3000022_3_1 hz3000022_4_1 hz3000022_5_1 hz3000022_6_1 hz3000022_7_1); have hb_ := SL.at_ HS.out; have hz3000022_0_2 := ((blk_cell hb_ 0).trans rfl : _ = some (.int .i64 a1_0)); have hz3000022_1_2 := ((blk_cell hb_ 1).trans rfl : _ = some (.int .i64 a1_1)); have hz3000022_2_2 := ((blk_cell hb_ 2).trans rfl : _ = some (.int .i64 a1_2)); have hz3000022_3_2 := ((blk_cell hb_ 3).trans rfl : _ = some (.int .i64 a1_3)); have hz3000022_4_2 := ((blk_cell hb_ 4).trans rfl : _ = some (.int .i64 a1_4)); have hz3000022_5_2 := ((blk_cell hb_ 5).trans rfl : _ = some (.int .i64 a1_5)); have hz3000022_6_2 := ((blk_cell hb_ 6).trans rfl : _ = some (.bool a1_6)); have hz3000022_7_2 := ((blk_cell hb_ 7).trans rfl : _ = some (.slice A1_7 l1_7.length c1_7)); clear hb_) | ((with_reducible refine gate_dst (N := 22) rfl ?_); refine goesL_ (some 22) rfl rfl Try.func23 (by kernel_rfl) rfl #[.slice A0 l0.length c0, .int .i64 a1_0, .int .i64 a2] rfl (by (try simp only [List.map_toArray, List.map_cons, List.map_nil]); first | done | rfl | (simp; done)) ?_; (with_reducible refine (cool_away.calls k _ _ _ _ _ _ _ (RO.at_ HR0.out HK.out) HC0.out Hc8.out).mono ?_); rintro e_ w12 ⟨v3000023_, rfl, ho3000023_, hb_⟩; refine ⟨_, rfl, ?_⟩; have hs_ := (SL.new (HF.out.keep HK.out) HS.out hb_ (row_of_R ho3000023_)).1; obtain ⟨Az3000023, cz3000023, e2_, _, _⟩ := SL.row_reads hs_; subst e2_; replace HS := Aside0.mk (hs_); replace HK := Aside0.mk (HK.out.trans (Keep.below hb_)); (try clear hz3000022_0_2 hz3000022_1_2 hz3000022_2_2 hz3000022_3_2 hz3000022_4_2 hz3000022_5_2 hz3000022_6_2 hz3000022_7_2); have pq332 : 0 ≤ (0 : Int) := (by omega); have qq332 : 0 < ((t331.length : Int) : Int) := of_decide_eq_true (by first | (with_reducible assumption) | assumption); obtain ⟨adq332, eq332, hxq332_0⟩ := Kd.at_int (SL.row_c HS.out).2.2 0 pq332 qq332; cases eq332; (try rw [show ((0 : Int)).toNat = 0 from rfl] at hxq332_0); (try rw [Addr.add_zero'] at hxq332_0); have qiq332 : (0 < t331.length) = True := eq_true (by omega); replace pq332 := eq_true pq332; replace qq332 := eq_true qq332))
        go_ret
        replace HS := Aside0.mk (SL.tail (SL.tail HS.out))
        unfold cool_Next.Post
        exact ⟨by first | rfl | (simp; done) | (simp [*]; done) | (simp at c9b0 ⊢; first | exact c9b0 | (simp [c9b0]; done)), HS.out, HK.out⟩
      · rw [if_neg c9] at H
        exact absurd H (by simp)
theorem cool_Next.calls (k : Nat) (A0 : Option Addr) (c0 : Nat) (l0 : List (S35)) (a1_0 : Int) (a1_1 : Int) (a1_2 : Int) (a1_3 : Int) (a1_4 : Int) (a1_5 : Int) (a1_6 : Bool) (A1_7 : Option Addr) (c1_7 : Nat) (l1_7 : List (S76)) (a2 : Int) (r : Int) (w : World) (hr0 : Kd.C k35 w A0 l0.length l0) (hc0 : l0.length ≤ c0) (hr1_7 : Kd.C k76 w A1_7 l1_7.length l1_7) (hc1_7 : l1_7.length ≤ c1_7) (h : cool_Next.f k l0 a1_0 a1_1 a1_2 a1_3 a1_4 a1_5 a1_6 l1_7 a2 = some r) :
    Calls Try.prog 21 #[.slice A0 l0.length c0, .agg #[.int .i64 a1_0, .int .i64 a1_1, .int .i64 a1_2, .int .i64 a1_3, .int .i64 a1_4, .int .i64 a1_5, .bool a1_6, .slice A1_7 l1_7.length c1_7], .int .i64 a2] w fun e w' => e = .returned (.int .i64 r) ∧ Below w.heap.size w w' :=
  (cool_Next.slcalls k A0 c0 l0 a1_0 a1_1 a1_2 a1_3 a1_4 a1_5 a1_6 A1_7 c1_7 l1_7 a2 r (news w) [] w (fresh_news w) trivial (RO.top hr0) hc0 (RO.top hr1_7) hc1_7 h).mono fun _ _ h => ⟨h.1, h.2.2.to_below⟩

end Go.Proofs.Ytbhgohomgfjjfaa.XCO
