-- Written by xprint.py (a program of this session) for this claim
import Derived.Test.YtiadhonhjnbliaaSq
import Derived.Test.YtiadhonhjnbliaaSL5
import Derived.Test.YtiadhonhjnbliaaSL4
import Derived.Test.YtiadhonhjnbliaaXZTx0
import Derived.Test.YtiadhonhjnbliaaXZTx20
namespace Go.Proofs.Ytiadhonhjnbliaa.XZT
open Go.Proofs.YtiadhonhjnbliaaV Go.Proofs.YtiadhonhjnbliaaS
open Go.RowKit Go.Proofs.YtiadhonhjnbliaaW.PrintWords Go.Proofs.YtiadhonhjnbliaaW.PrintLast Go.Proofs.YtiadhonhjnbliaaW.PrintMore
attribute [local go_sem] max2_int min2_int max_two min_two max_three min_three max_four min_four   -- for this text's walks alone
set_option linter.unusedVariables false
set_option linter.unusedSimpArgs false

/-! ### barrowref33_Right: function 20 -/
mutual
def barrowref33_Right.l0 : Nat → (List (S37)) → Int → Option (Bool)
 | 0, _, _ => none
 | k + 1, l0, x3_0 => if x3_0 < (l0.length : Int) then (if 0 ≤ x3_0 then ((barrowref33_one.f ((rd_T37 l0 x3_0).f0) ((rd_T37 l0 x3_0).f1.f0) ((rd_T37 l0 x3_0).f1.f1.f0) ((rd_T37 l0 x3_0).f1.f1.f1) ((rd_T37 l0 x3_0).f1.f2.f0) ((rd_T37 l0 x3_0).f1.f2.f1) ((rd_T37 l0 x3_0).f1.f3) ((rd_T37 l0 x3_0).f1.f4) ((rd_T37 l0 x3_0).f2) ((rd_T37 l0 x3_0).f3) ((rd_T37 l0 x3_0).f4) ((rd_T37 l0 x3_0).f5.f0) ((rd_T37 l0 x3_0).f5.f1) ((rd_T37 l0 x3_0).f5.f2) ((rd_T37 l0 x3_0).f6) ((rd_T37 l0 x3_0).f7)).bind fun t525 => (if t525 = true then (if ((rd_T37 l0 x3_0).f0) < 1 then (barrowref33_Right.l199 k l0 x3_0 true) else (if x3_0 > 0 then ((some (wrap64 (x3_0 - 1) : Int)).bind fun j528 => (if 0 ≤ j528 then (if j528 < (l0.length : Int) then (barrowref33_Right.l199 k l0 x3_0 (decide (((rd_T37 l0 x3_0).f0) ≤ ((rd_T37 l0 j528).f0)))) else (none)) else (none))) else (barrowref33_Right.l199 k l0 x3_0 false))) else (barrowref33_Right.l199 k l0 x3_0 true))) else (none)) else (if (l0.length : Int) ≤ 32 then (some true) else (some false))
def barrowref33_Right.l199 : Nat → (List (S37)) → Int → Bool → Option (Bool)
 | 0, _, _, _ => none
 | k + 1, l0, x3_0, x43_199 => if x43_199 = true then (some false) else (barrowref33_Right.l0 k l0 (wrap64 (x3_0 + 1)))
end
def barrowref33_Right.f (k : Nat) (l0 : List (S37)) : Option (Bool) := barrowref33_Right.l0 k l0 0
theorem barrowref33_Right.mono_l : ∀ k, (∀ y0 y1, LeO (barrowref33_Right.l0 k y0 y1) (barrowref33_Right.l0 (k + 1) y0 y1)) ∧ (∀ y0 y1 y2, LeO (barrowref33_Right.l199 k y0 y1 y2) (barrowref33_Right.l199 (k + 1) y0 y1 y2))
 | 0 => ⟨fun _ _ r h => by simp [barrowref33_Right.l0] at h, fun _ _ _ r h => by simp [barrowref33_Right.l199] at h⟩
 | k + 1 => by
  obtain ⟨ih0, ih1⟩ := barrowref33_Right.mono_l k
  refine ⟨?_, ?_⟩
  ·intro y0 y1
   unfold barrowref33_Right.l0
   repeat' first
   | (with_reducible exact ih0 _ _)
   | (with_reducible exact ih1 _ _ _)
   | (with_reducible exact LeO.refl _)
   | (with_reducible exact LeO.none _)
   | (with_reducible refine LeO.ite ?_ ?_)
   | (with_reducible refine everyOf_le (fun _ => ?_))
   | (with_reducible refine LeO.bind ?_ (fun _ => ?_))
   | exact ih0 _ _
   | exact ih1 _ _ _
   | exact LeO.none _
   | refine LeO.ite ?_ ?_
   | refine LeO.bind ?_ (fun _ => ?_)
  ·intro y0 y1 y2
   unfold barrowref33_Right.l199
   repeat' first
   | (with_reducible exact ih0 _ _)
   | (with_reducible exact ih1 _ _ _)
   | (with_reducible exact LeO.refl _)
   | (with_reducible exact LeO.none _)
   | (with_reducible refine LeO.ite ?_ ?_)
   | (with_reducible refine everyOf_le (fun _ => ?_))
   | (with_reducible refine LeO.bind ?_ (fun _ => ?_))
   | exact ih0 _ _
   | exact ih1 _ _ _
   | exact LeO.none _
   | refine LeO.ite ?_ ?_
   | refine LeO.bind ?_ (fun _ => ?_)
theorem barrowref33_Right.mono : ∀ a0 k, LeO (barrowref33_Right.f k a0) (barrowref33_Right.f (k + 1) a0) := by
 intro a0 k
 obtain ⟨ih0, ih1⟩ := barrowref33_Right.mono_l k
 unfold barrowref33_Right.f
 repeat' first
   | (with_reducible exact ih0 _ _)
   | (with_reducible exact ih1 _ _ _)
   | (with_reducible exact LeO.refl _)
   | (with_reducible exact LeO.none _)
   | (with_reducible refine LeO.ite ?_ ?_)
   | (with_reducible refine everyOf_le (fun _ => ?_))
   | (with_reducible refine LeO.bind ?_ (fun _ => ?_))
   | exact ih0 _ _
   | exact ih1 _ _ _
   | exact LeO.none _
   | refine LeO.ite ?_ ?_
   | refine LeO.bind ?_ (fun _ => ?_)
def barrowref33_Right.T5 : Bool × List (List Nat × List Nat) := (true, [([], []), ([0], [0]), ([1], [1]), ([2], [2]), ([2], [2]), ([3, 4, 2], [2, 3, 4]), ([5, 2], [2, 5]), ([6, 2], [2, 6]), ([7, 2], [2, 7]), ([2, 8], [2, 8]), ([9, 2], [9]), ([10], [10]), ([11, 10], [10, 11]), ([12, 10, 10], [10, 12]), ([13], [13]), ([13], [13]), ([14, 15, 13], [13, 14, 15]), ([16, 13], [13, 16]), ([17, 13], [13, 17]), ([13], [13]), ([13], [13]), ([20, 13], [13, 20]), ([19, 21, 13], [13, 19, 21]), ([22, 13], [13, 22]), ([23, 13], [13, 23]), ([18, 24, 13], [13, 18, 24]), ([13, 25, 10], [10, 13, 25]), ([10, 26], [10, 26])])
def barrowref33_Right.B5 : List Nat := [0, 1, 3, 7, 7, 31, 63, 127, 255, 511, 1023, 2047, 4095, 8191, 16383, 16383, 65535, 131071, 262143, 16383, 16383, 1064959, 3686399, 7880703, 16269311, 33554431, 67108863, 134217727]
theorem barrowref33_Right.tab5 : rtab .any (opsOf Try.f20 5) = barrowref33_Right.T5 := by kernel_rfl
theorem barrowref33_Right.bits5 : waitsOk barrowref33_Right.T5.2 barrowref33_Right.B5 = true := by kernel_rfl
def barrowref33_Right.Post (r : Bool) (S : Nat → Prop) (L : List Asr) (w : World) (e : Ending) (w' : World) : Prop := e = .returned (.bool r) ∧ SL (L) w' S ∧ Keep S w w'
set_option maxHeartbeats 8000000 in
set_option maxRecDepth 100000 in
theorem barrowref33_Right.slcalls (k : Nat) (A0 : Option Addr) (c0 : Nat) (l0 : List (S37)) (r : Bool) (S : Nat → Prop) (L : List Asr) (w : World) (hf : Fresh S w) (hs : SL (L) w S) (hr0 : RO S w (fun w_ => Kd.C k37 w_ A0 l0.length l0)) (hc0 : l0.length ≤ c0) (h : barrowref33_Right.f k l0 = some r) :
  Calls Try.prog 20 #[.slice A0 l0.length c0] w (barrowref33_Right.Post r S L w) := by
 have HR0 := Aside0.mk hr0
 have HC0 := Aside0.mk hc0
 clear hr0 hc0
 have HF := Aside0.mk hf
 have HS := Aside0.mk hs
 have HK := Aside0.mk (Keep.refl S w)
 clear hf hs
 have hu37 := Try.underlying37
 have H : (barrowref33_Right.l0 k l0 0) = some r := h
 clear h
 have H' := Aside0.mk H
 clear H
 go_enter Try.func20, Try.ntmps20
 go_wp2
 go_loopg [3] k (fun kq v3 w' => ∃ (x3_0 : Int), v3 = .int .i64 x3_0 ∧ Aside0 (barrowref33_Right.l0 kq l0 x3_0 = some r) ∧ Aside0 (kq ≤ k) ∧ Aside0 (SL (L) w' S) ∧ Aside0 (Keep S w w'))
 case atStart => exact ⟨(0), (by first | rfl | (simp; done) | (simp [*]; done)), H', ⟨Nat.le_refl _⟩, HS, HK⟩
 case round =>
  clear H' HS HK
  obtain ⟨x3_0, rfl, HA, HQ1, HS, HK⟩ := hrel
  cases gk with
  | zero => exact absurd HA.out (by simp [barrowref33_Right.l0])
  | succ k1 =>
   have H := HA.out
   clear HA
   simp only [barrowref33_Right.l0] at H
   by_cases c1 : x3_0 < (l0.length : Int)
   ·rw [if_pos c1] at H
    have c1b0 : decide (x3_0 < (l0.length : Int)) = true := decide_eq_true c1
    clear c1
    by_cases c2 : 0 ≤ x3_0
    ·rw [if_pos c2] at H
     have c2b0 : decide (0 ≤ x3_0) = true := decide_eq_true c2
     clear c2
     replace H := Option.bind_eq_some_iff.1 H
     obtain ⟨t525, Hc30, H⟩ := H
     try dsimp only at H
     have Hc3 := Aside0.mk Hc30
     clear Hc30
     have H' := Aside0.mk H
     clear H
     have pq524 : 0 ≤ (x3_0 : Int) := of_decide_eq_true (by first | (with_reducible assumption) | assumption)
     have qq524 : x3_0 < ((l0.length : Int) : Int) := of_decide_eq_true (by first | (with_reducible assumption) | assumption)
     obtain ⟨adq524, eq524, hxq524_0, hxq524_1, hxq524_2, hxq524_3, hxq524_4, hxq524_5, hxq524_6, hxq524_7, hxq524_8, hxq524_9, hxq524_10, hxq524_11, hxq524_12, hxq524_13, hxq524_14, hxq524_15⟩ := at_T37 (RO.at_ HR0.out HK.out) x3_0 pq524 qq524
     cases eq524
     replace pq524 := eq_true pq524
     replace qq524 := eq_true qq524
     try go_upto_region 5 with (first | ((with_reducible refine gate_dst (N := 14) rfl ?_); refine wpList_loadA rfl 37 (.tmp 13) rfl _ rfl _ _ (ats_of hxq524_0 (atk_cons hxq524_1 (atk_cons hxq524_2 (atk_cons hxq524_3 (atk_cons hxq524_4 (atk_cons hxq524_5 (atk_cons hxq524_6 (atk_cons hxq524_7 (atk_cons hxq524_8 (atk_cons hxq524_9 (atk_cons hxq524_10 (atk_cons hxq524_11 (atk_cons hxq524_12 (atk_cons hxq524_13 (atk_cons hxq524_14 (atk_cons hxq524_15 atk_nil)))))))))))))))) Try.underlying37 rfl (by kernel_rfl) ?_) | ((with_reducible refine gate_dst (N := 15) rfl ?_); refine goesL_ (some 15) rfl rfl Try.func31 (by kernel_rfl) rfl #[.agg #[.int .i64 ((rd_T37 l0 x3_0).f0), .int .i64 ((rd_T37 l0 x3_0).f1.f0), .int .i64 ((rd_T37 l0 x3_0).f1.f1.f0), .int .i64 ((rd_T37 l0 x3_0).f1.f1.f1), .int .i64 ((rd_T37 l0 x3_0).f1.f2.f0), .int .i64 ((rd_T37 l0 x3_0).f1.f2.f1), .int .i64 ((rd_T37 l0 x3_0).f1.f3), .int .i64 ((rd_T37 l0 x3_0).f1.f4), .int .i64 ((rd_T37 l0 x3_0).f2), .int .i64 ((rd_T37 l0 x3_0).f3), .int .i64 ((rd_T37 l0 x3_0).f4), .int .i64 ((rd_T37 l0 x3_0).f5.f0), .int .i64 ((rd_T37 l0 x3_0).f5.f1), .int .i64 ((rd_T37 l0 x3_0).f5.f2), .int .i64 ((rd_T37 l0 x3_0).f6), .int .i64 ((rd_T37 l0 x3_0).f7)]] rfl (by (try simp only [List.map_toArray, List.map_cons, List.map_nil]); first | done | rfl | (simp; done)) ?_; (with_reducible refine (barrowref33_one.calls _ _ _ _ _ _ _ _ _ _ _ _ _ _ _ _ _ _  Hc3.out).mono ?_); rintro e_ w4 ⟨rfl, hb_⟩; refine ⟨_, rfl, ?_⟩; replace HS := Aside0.mk (HS.out.below hb_); replace HK := Aside0.mk (HK.out.trans (Keep.below hb_))))
     (try simp only [Act.put, sT, sZ, sS])
     go_cut [43] (fun v43 wc => ∃ (kq : Nat) (x43_199 : Bool), v43 = .bool x43_199 ∧ Aside0 (barrowref33_Right.l199 kq l0 x3_0 x43_199 = some r) ∧ Aside0 (kq ≤ k1) ∧ Aside0 (SL (L) wc S) ∧ Aside0 (Keep S w wc))
     case first =>
      have H := H'.out
      clear H'
      by_cases c5 : t525 = true
      ·subst c5
       rw [if_pos rfl] at H
       by_cases c6 : ((rd_T37 l0 x3_0).f0) < 1
       ·rw [if_pos c6] at H
        have c6b0 : decide (((rd_T37 l0 x3_0).f0) < 1) = true := decide_eq_true c6
        clear c6
        have H' := Aside0.mk H
        clear H
        try go_wp2
        have pq526 : 0 ≤ (x3_0 : Int) := of_decide_eq_true (by first | (with_reducible assumption) | assumption)
        have qq526 : x3_0 < ((l0.length : Int) : Int) := of_decide_eq_true (by first | (with_reducible assumption) | assumption)
        obtain ⟨adq526, eq526, hxq526_0, hxq526_1, hxq526_2, hxq526_3, hxq526_4, hxq526_5, hxq526_6, hxq526_7, hxq526_8, hxq526_9, hxq526_10, hxq526_11, hxq526_12, hxq526_13, hxq526_14, hxq526_15⟩ := at_T37 (RO.at_ HR0.out HK.out) x3_0 pq526 qq526
        obtain rfl : adq524 = adq526 := (by injection eq526)
        replace pq526 := eq_true pq526
        replace qq526 := eq_true qq526
        refine start_ (n := 28) (S := fun w' => w'.cell? (adq524.add (x3_0.toNat * 16)) = some (.int .i64 ((rd_T37 l0 x3_0).f0)) ∧ w'.cell? ⟨(adq524.add (x3_0.toNat * 16)).block, (adq524.add (x3_0.toNat * 16)).off + 1, none⟩ = some (.int .i64 ((rd_T37 l0 x3_0).f1.f0)) ∧ w'.cell? ⟨(adq524.add (x3_0.toNat * 16)).block, (adq524.add (x3_0.toNat * 16)).off + 2, none⟩ = some (.int .i64 ((rd_T37 l0 x3_0).f1.f1.f0)) ∧ w'.cell? ⟨(adq524.add (x3_0.toNat * 16)).block, (adq524.add (x3_0.toNat * 16)).off + 3, none⟩ = some (.int .i64 ((rd_T37 l0 x3_0).f1.f1.f1)) ∧ w'.cell? ⟨(adq524.add (x3_0.toNat * 16)).block, (adq524.add (x3_0.toNat * 16)).off + 4, none⟩ = some (.int .i64 ((rd_T37 l0 x3_0).f1.f2.f0)) ∧ w'.cell? ⟨(adq524.add (x3_0.toNat * 16)).block, (adq524.add (x3_0.toNat * 16)).off + 5, none⟩ = some (.int .i64 ((rd_T37 l0 x3_0).f1.f2.f1)) ∧ w'.cell? ⟨(adq524.add (x3_0.toNat * 16)).block, (adq524.add (x3_0.toNat * 16)).off + 6, none⟩ = some (.int .i64 ((rd_T37 l0 x3_0).f1.f3)) ∧ w'.cell? ⟨(adq524.add (x3_0.toNat * 16)).block, (adq524.add (x3_0.toNat * 16)).off + 7, none⟩ = some (.int .i64 ((rd_T37 l0 x3_0).f1.f4)) ∧ w'.cell? ⟨(adq524.add (x3_0.toNat * 16)).block, (adq524.add (x3_0.toNat * 16)).off + 8, none⟩ = some (.int .i64 ((rd_T37 l0 x3_0).f2)) ∧ w'.cell? ⟨(adq524.add (x3_0.toNat * 16)).block, (adq524.add (x3_0.toNat * 16)).off + 9, none⟩ = some (.int .i64 ((rd_T37 l0 x3_0).f3)) ∧ w'.cell? ⟨(adq524.add (x3_0.toNat * 16)).block, (adq524.add (x3_0.toNat * 16)).off + 10, none⟩ = some (.int .i64 ((rd_T37 l0 x3_0).f4)) ∧ w'.cell? ⟨(adq524.add (x3_0.toNat * 16)).block, (adq524.add (x3_0.toNat * 16)).off + 11, none⟩ = some (.int .i64 ((rd_T37 l0 x3_0).f5.f0)) ∧ w'.cell? ⟨(adq524.add (x3_0.toNat * 16)).block, (adq524.add (x3_0.toNat * 16)).off + 12, none⟩ = some (.int .i64 ((rd_T37 l0 x3_0).f5.f1)) ∧ w'.cell? ⟨(adq524.add (x3_0.toNat * 16)).block, (adq524.add (x3_0.toNat * 16)).off + 13, none⟩ = some (.int .i64 ((rd_T37 l0 x3_0).f5.f2)) ∧ w'.cell? ⟨(adq524.add (x3_0.toNat * 16)).block, (adq524.add (x3_0.toNat * 16)).off + 14, none⟩ = some (.int .i64 ((rd_T37 l0 x3_0).f6)) ∧ w'.cell? ⟨(adq524.add (x3_0.toNat * 16)).block, (adq524.add (x3_0.toNat * 16)).off + 15, none⟩ = some (.int .i64 ((rd_T37 l0 x3_0).f7))) (ds := []) #[O,O,O,O,O,O,O,O,O,O,O,O,O,O,O,O,O,O,O,O,O,O,O,O,O,O,O,O] (by kernel_rfl) rfl rfl ⟨(by obtain ⟨a_, e_, h0_, h1_, h2_, h3_, h4_, h5_, h6_, h7_, h8_, h9_, h10_, h11_, h12_, h13_, h14_, h15_⟩ := at_T37 (RO.at_ HR0.out HK.out) x3_0 (of_eq_true pq526) (of_eq_true qq526); obtain rfl := Option.some.inj e_; exact h0_), (by obtain ⟨a_, e_, h0_, h1_, h2_, h3_, h4_, h5_, h6_, h7_, h8_, h9_, h10_, h11_, h12_, h13_, h14_, h15_⟩ := at_T37 (RO.at_ HR0.out HK.out) x3_0 (of_eq_true pq526) (of_eq_true qq526); obtain rfl := Option.some.inj e_; exact h1_), (by obtain ⟨a_, e_, h0_, h1_, h2_, h3_, h4_, h5_, h6_, h7_, h8_, h9_, h10_, h11_, h12_, h13_, h14_, h15_⟩ := at_T37 (RO.at_ HR0.out HK.out) x3_0 (of_eq_true pq526) (of_eq_true qq526); obtain rfl := Option.some.inj e_; exact h2_), (by obtain ⟨a_, e_, h0_, h1_, h2_, h3_, h4_, h5_, h6_, h7_, h8_, h9_, h10_, h11_, h12_, h13_, h14_, h15_⟩ := at_T37 (RO.at_ HR0.out HK.out) x3_0 (of_eq_true pq526) (of_eq_true qq526); obtain rfl := Option.some.inj e_; exact h3_), (by obtain ⟨a_, e_, h0_, h1_, h2_, h3_, h4_, h5_, h6_, h7_, h8_, h9_, h10_, h11_, h12_, h13_, h14_, h15_⟩ := at_T37 (RO.at_ HR0.out HK.out) x3_0 (of_eq_true pq526) (of_eq_true qq526); obtain rfl := Option.some.inj e_; exact h4_), (by obtain ⟨a_, e_, h0_, h1_, h2_, h3_, h4_, h5_, h6_, h7_, h8_, h9_, h10_, h11_, h12_, h13_, h14_, h15_⟩ := at_T37 (RO.at_ HR0.out HK.out) x3_0 (of_eq_true pq526) (of_eq_true qq526); obtain rfl := Option.some.inj e_; exact h5_), (by obtain ⟨a_, e_, h0_, h1_, h2_, h3_, h4_, h5_, h6_, h7_, h8_, h9_, h10_, h11_, h12_, h13_, h14_, h15_⟩ := at_T37 (RO.at_ HR0.out HK.out) x3_0 (of_eq_true pq526) (of_eq_true qq526); obtain rfl := Option.some.inj e_; exact h6_), (by obtain ⟨a_, e_, h0_, h1_, h2_, h3_, h4_, h5_, h6_, h7_, h8_, h9_, h10_, h11_, h12_, h13_, h14_, h15_⟩ := at_T37 (RO.at_ HR0.out HK.out) x3_0 (of_eq_true pq526) (of_eq_true qq526); obtain rfl := Option.some.inj e_; exact h7_), (by obtain ⟨a_, e_, h0_, h1_, h2_, h3_, h4_, h5_, h6_, h7_, h8_, h9_, h10_, h11_, h12_, h13_, h14_, h15_⟩ := at_T37 (RO.at_ HR0.out HK.out) x3_0 (of_eq_true pq526) (of_eq_true qq526); obtain rfl := Option.some.inj e_; exact h8_), (by obtain ⟨a_, e_, h0_, h1_, h2_, h3_, h4_, h5_, h6_, h7_, h8_, h9_, h10_, h11_, h12_, h13_, h14_, h15_⟩ := at_T37 (RO.at_ HR0.out HK.out) x3_0 (of_eq_true pq526) (of_eq_true qq526); obtain rfl := Option.some.inj e_; exact h9_), (by obtain ⟨a_, e_, h0_, h1_, h2_, h3_, h4_, h5_, h6_, h7_, h8_, h9_, h10_, h11_, h12_, h13_, h14_, h15_⟩ := at_T37 (RO.at_ HR0.out HK.out) x3_0 (of_eq_true pq526) (of_eq_true qq526); obtain rfl := Option.some.inj e_; exact h10_), (by obtain ⟨a_, e_, h0_, h1_, h2_, h3_, h4_, h5_, h6_, h7_, h8_, h9_, h10_, h11_, h12_, h13_, h14_, h15_⟩ := at_T37 (RO.at_ HR0.out HK.out) x3_0 (of_eq_true pq526) (of_eq_true qq526); obtain rfl := Option.some.inj e_; exact h11_), (by obtain ⟨a_, e_, h0_, h1_, h2_, h3_, h4_, h5_, h6_, h7_, h8_, h9_, h10_, h11_, h12_, h13_, h14_, h15_⟩ := at_T37 (RO.at_ HR0.out HK.out) x3_0 (of_eq_true pq526) (of_eq_true qq526); obtain rfl := Option.some.inj e_; exact h12_), (by obtain ⟨a_, e_, h0_, h1_, h2_, h3_, h4_, h5_, h6_, h7_, h8_, h9_, h10_, h11_, h12_, h13_, h14_, h15_⟩ := at_T37 (RO.at_ HR0.out HK.out) x3_0 (of_eq_true pq526) (of_eq_true qq526); obtain rfl := Option.some.inj e_; exact h13_), (by obtain ⟨a_, e_, h0_, h1_, h2_, h3_, h4_, h5_, h6_, h7_, h8_, h9_, h10_, h11_, h12_, h13_, h14_, h15_⟩ := at_T37 (RO.at_ HR0.out HK.out) x3_0 (of_eq_true pq526) (of_eq_true qq526); obtain rfl := Option.some.inj e_; exact h14_), (by obtain ⟨a_, e_, h0_, h1_, h2_, h3_, h4_, h5_, h6_, h7_, h8_, h9_, h10_, h11_, h12_, h13_, h14_, h15_⟩ := at_T37 (RO.at_ HR0.out HK.out) x3_0 (of_eq_true pq526) (of_eq_true qq526); obtain rfl := Option.some.inj e_; exact h15_)⟩ (fun hHeld => ?_); refine with_tabW barrowref33_Right.tab5 barrowref33_Right.bits5 (fun HT_ HW_ => ?_)
        replace HK := Aside0.mk (Keep.drew HK.out)
        replace HS := Aside0.mk (SL.drew HS.out)
        refine pure_ (i := 0) (N := some 16) (v := ?_) (a' := ?_) #[I,O,O,O,O,O,O,O,O,O,O,O,O,O,O,O,O,O,O,O,O,O,O,O,O,O,O,O] rfl rfl (any_of HT_.out (by kernel_rfl)) (fun _ _ _ h => h) (Or.inl ⟨by rfl, ?_⟩) ?_ ?_; rotate_left; · (intro w'; go_simp; with_reducible rfl)
        rotate_left; · (simp only [Act.put, sT, sZ, sS, i64_w, i32_w]; rfl)
        refine pure_ (i := 1) (N := some 17) (v := ?_) (a' := ?_) #[I,I,O,O,O,O,O,O,O,O,O,O,O,O,O,O,O,O,O,O,O,O,O,O,O,O,O,O] rfl rfl (any_of HT_.out (by kernel_rfl)) (fun _ _ _ h => h) (Or.inl ⟨by rfl, ?_⟩) ?_ ?_; rotate_left; · (intro w'; go_simp; with_reducible rfl)
        rotate_left; · (simp only [Act.put, sT, sZ, sS, i64_w, i32_w]; rfl)
        refine pure_ (i := 2) (N := some 18) (v := ?_) (a' := ?_) #[I,I,I,O,O,O,O,O,O,O,O,O,O,O,O,O,O,O,O,O,O,O,O,O,O,O,O,O] rfl rfl (any_of HT_.out (by kernel_rfl)) (fun _ _ _ h => h) (Or.inl ⟨by rfl, ?_⟩) ?_ ?_; rotate_left; · (intro w'; go_simp; with_reducible rfl)
        rotate_left; · (simp only [Act.put, sT, sZ, sS, i64_w, i32_w]; rfl)
        refine pure_ (i := 3) (N := some 19) (v := ?_) (a' := ?_) #[I,I,I,I,O,O,O,O,O,O,O,O,O,O,O,O,O,O,O,O,O,O,O,O,O,O,O,O] rfl rfl (any_of HT_.out (by kernel_rfl)) (fun _ _ _ h => h) (Or.inl ⟨by rfl, ?_⟩) ?_ ?_; rotate_left; · (intro w'; go_simp; with_reducible rfl)
        rotate_left; · (simp only [Act.put, sT, sZ, sS, i64_w, i32_w]; rfl)
        refine pure_ (i := 4) (N := some 20) (v := ?_) (a' := ?_) #[I,I,I,I,I,O,O,O,O,O,O,O,O,O,O,O,O,O,O,O,O,O,O,O,O,O,O,O] rfl rfl (any_of HT_.out (by kernel_rfl)) (fun _ _ _ h => h) (Or.inl ⟨by rfl, ?_⟩) ?_ ?_; rotate_left; · (intro w'; go_simp; with_reducible rfl)
        rotate_left; · (simp only [Act.put, sT, sZ, sS, i64_w, i32_w]; rfl)
        refine pure_ (i := 5) (N := some 21) (v := ?_) (a' := ?_) #[I,I,I,I,I,I,O,O,O,O,O,O,O,O,O,O,O,O,O,O,O,O,O,O,O,O,O,O] rfl rfl (any_of HT_.out (by kernel_rfl)) (fun _ _ _ h => h) (Or.inl ⟨by rfl, ?_⟩) ?_ ?_; rotate_left; · (intro w'; go_simp; with_reducible rfl)
        rotate_left; · (simp only [Act.put, sT, sZ, sS, i64_w, i32_w]; rfl)
        refine pure_ (i := 6) (N := some 22) (v := ?_) (a' := ?_) #[I,I,I,I,I,I,I,O,O,O,O,O,O,O,O,O,O,O,O,O,O,O,O,O,O,O,O,O] rfl rfl (any_of HT_.out (by kernel_rfl)) (fun _ _ _ h => h) (Or.inl ⟨by rfl, ?_⟩) ?_ ?_; rotate_left; · (intro w'; go_simp; with_reducible rfl)
        rotate_left; · (simp only [Act.put, sT, sZ, sS, i64_w, i32_w]; rfl)
        refine take_ (i := 7) (N := some 23) (v := ?_) (a' := ?_) #[I,I,I,I,I,I,I,I,O,O,O,O,O,O,O,O,O,O,O,O,O,O,O,O,O,O,O,O] rfl rfl (take_ofW HT_.out HW_.out (by kernel_rfl)) (fun _ _ _ h => h) (Or.inl ⟨by rfl, ?_⟩) hHeld ?_ ?_; rotate_left
        ·rintro w' ⟨s0, s1, s2, s3, s4, s5, s6, s7, s8, s9, s10, s11, s12, s13, s14, s15⟩
         go_simp
         with_reducible rfl
        rotate_left; · (simp only [Act.put, sT, sZ, sS, i64_w, i32_w]; rfl)
        refine pure_ (i := 8) (N := some 24) (v := ?_) (a' := ?_) #[I,I,I,I,I,I,I,I,I,O,O,O,O,O,O,O,O,O,O,O,O,O,O,O,O,O,O,O] rfl rfl (any_of HT_.out (by kernel_rfl)) (fun _ _ _ h => h) (Or.inl ⟨by rfl, ?_⟩) ?_ ?_; rotate_left; · (intro w'; go_simp; with_reducible rfl)
        rotate_left; · (simp only [Act.put, sT, sZ, sS, i64_w, i32_w]; rfl)
        refine pure_ (i := 9) (N := some 25) (v := ?_) (a' := ?_) #[I,I,I,I,I,I,I,I,I,I,O,O,O,O,O,O,O,O,O,O,O,O,O,O,O,O,O,O] rfl rfl (any_of HT_.out (by kernel_rfl)) (fun _ _ _ h => h) (Or.inl ⟨by rfl, ?_⟩) ?_ ?_; rotate_left; · (intro w'; go_simp; with_reducible rfl)
        rotate_left; · (simp only [Act.put, sT, sZ, sS, i64_w, i32_w]; rfl)
        refine pure_ (i := 10) (N := some 26) (v := ?_) (a' := ?_) #[I,I,I,I,I,I,I,I,I,I,I,O,O,O,O,O,O,O,O,O,O,O,O,O,O,O,O,O] rfl rfl (any_of HT_.out (by kernel_rfl)) (fun _ _ _ h => h) (Or.inl ⟨by rfl, ?_⟩) ?_ ?_; rotate_left; · (intro w'; go_simp; with_reducible rfl)
        rotate_left; · (simp only [Act.put, sT, sZ, sS, i64_w, i32_w]; rfl)
        refine pure_ (i := 11) (N := some 27) (v := undef) (a' := ?_) #[I,I,I,I,I,I,I,I,I,I,I,I,O,O,O,O,O,O,O,O,O,O,O,O,O,O,O,O] rfl rfl (any_of HT_.out (by kernel_rfl)) (fun _ _ _ h => h) (Or.inr ⟨by rfl, rfl⟩) ?_ ?_; rotate_left; · (simp only [Act.put, sT, sZ, sS, i64_w, i32_w]; rfl)
        refine pure_ (i := 12) (N := some 28) (v := undef) (a' := ?_) #[I,I,I,I,I,I,I,I,I,I,I,I,I,O,O,O,O,O,O,O,O,O,O,O,O,O,O,O] rfl rfl (any_of HT_.out (by kernel_rfl)) (fun _ _ _ h => h) (Or.inr ⟨by rfl, rfl⟩) ?_ ?_; rotate_left; · (simp only [Act.put, sT, sZ, sS, i64_w, i32_w]; rfl)
        refine pure_ (i := 13) (N := some 29) (v := undef) (a' := ?_) #[I,I,I,I,I,I,I,I,I,I,I,I,I,I,O,O,O,O,O,O,O,O,O,O,O,O,O,O] rfl rfl (any_of HT_.out (by kernel_rfl)) (fun _ _ _ h => h) (Or.inr ⟨by rfl, rfl⟩) ?_ ?_; rotate_left; · (simp only [Act.put, sT, sZ, sS, i64_w, i32_w]; rfl)
        refine pure_ (i := 14) (N := some 30) (v := undef) (a' := ?_) #[I,I,I,I,I,I,I,I,I,I,I,I,I,I,I,O,O,O,O,O,O,O,O,O,O,O,O,O] rfl rfl (any_of HT_.out (by kernel_rfl)) (fun _ _ _ h => h) (Or.inr ⟨by rfl, rfl⟩) ?_ ?_; rotate_left; · (simp only [Act.put, sT, sZ, sS, i64_w, i32_w]; rfl)
        refine pure_ (i := 15) (N := some 31) (v := undef) (a' := ?_) #[I,I,I,I,I,I,I,I,I,I,I,I,I,I,I,I,O,O,O,O,O,O,O,O,O,O,O,O] rfl rfl (any_of HT_.out (by kernel_rfl)) (fun _ _ _ h => h) (Or.inr ⟨by rfl, rfl⟩) ?_ ?_; rotate_left; · (simp only [Act.put, sT, sZ, sS, i64_w, i32_w]; rfl)
        refine pure_ (i := 16) (N := some 32) (v := undef) (a' := ?_) #[I,I,I,I,I,I,I,I,I,I,I,I,I,I,I,I,I,O,O,O,O,O,O,O,O,O,O,O] rfl rfl (any_of HT_.out (by kernel_rfl)) (fun _ _ _ h => h) (Or.inr ⟨by rfl, rfl⟩) ?_ ?_; rotate_left; · (simp only [Act.put, sT, sZ, sS, i64_w, i32_w]; rfl)
        refine pure_ (i := 17) (N := some 33) (v := undef) (a' := ?_) #[I,I,I,I,I,I,I,I,I,I,I,I,I,I,I,I,I,I,O,O,O,O,O,O,O,O,O,O] rfl rfl (any_of HT_.out (by kernel_rfl)) (fun _ _ _ h => h) (Or.inr ⟨by rfl, rfl⟩) ?_ ?_; rotate_left; · (simp only [Act.put, sT, sZ, sS, i64_w, i32_w]; rfl)
        refine pure_ (i := 18) (N := some 34) (v := undef) (a' := ?_) #[I,I,I,I,I,I,I,I,I,I,I,I,I,I,I,I,I,I,I,O,O,O,O,O,O,O,O,O] rfl rfl (any_of HT_.out (by kernel_rfl)) (fun _ _ _ h => h) (Or.inr ⟨by rfl, rfl⟩) ?_ ?_; rotate_left; · (simp only [Act.put, sT, sZ, sS, i64_w, i32_w]; rfl)
        refine pure_ (i := 19) (N := some 35) (v := undef) (a' := ?_) #[I,I,I,I,I,I,I,I,I,I,I,I,I,I,I,I,I,I,I,I,O,O,O,O,O,O,O,O] rfl rfl (any_of HT_.out (by kernel_rfl)) (fun _ _ _ h => h) (Or.inr ⟨by rfl, rfl⟩) ?_ ?_; rotate_left; · (simp only [Act.put, sT, sZ, sS, i64_w, i32_w]; rfl)
        refine pure_ (i := 20) (N := some 36) (v := undef) (a' := ?_) #[I,I,I,I,I,I,I,I,I,I,I,I,I,I,I,I,I,I,I,I,I,O,O,O,O,O,O,O] rfl rfl (any_of HT_.out (by kernel_rfl)) (fun _ _ _ h => h) (Or.inr ⟨by rfl, rfl⟩) ?_ ?_; rotate_left; · (simp only [Act.put, sT, sZ, sS, i64_w, i32_w]; rfl)
        refine pure_ (i := 21) (N := some 37) (v := undef) (a' := ?_) #[I,I,I,I,I,I,I,I,I,I,I,I,I,I,I,I,I,I,I,I,I,I,O,O,O,O,O,O] rfl rfl (any_of HT_.out (by kernel_rfl)) (fun _ _ _ h => h) (Or.inr ⟨by rfl, rfl⟩) ?_ ?_; rotate_left; · (simp only [Act.put, sT, sZ, sS, i64_w, i32_w]; rfl)
        refine pure_ (i := 22) (N := some 38) (v := undef) (a' := ?_) #[I,I,I,I,I,I,I,I,I,I,I,I,I,I,I,I,I,I,I,I,I,I,I,O,O,O,O,O] rfl rfl (any_of HT_.out (by kernel_rfl)) (fun _ _ _ h => h) (Or.inr ⟨by rfl, rfl⟩) ?_ ?_; rotate_left; · (simp only [Act.put, sT, sZ, sS, i64_w, i32_w]; rfl)
        refine pure_ (i := 23) (N := some 39) (v := undef) (a' := ?_) #[I,I,I,I,I,I,I,I,I,I,I,I,I,I,I,I,I,I,I,I,I,I,I,I,O,O,O,O] rfl rfl (any_of HT_.out (by kernel_rfl)) (fun _ _ _ h => h) (Or.inr ⟨by rfl, rfl⟩) ?_ ?_; rotate_left; · (simp only [Act.put, sT, sZ, sS, i64_w, i32_w]; rfl)
        refine pure_ (i := 24) (N := some 40) (v := undef) (a' := ?_) #[I,I,I,I,I,I,I,I,I,I,I,I,I,I,I,I,I,I,I,I,I,I,I,I,I,O,O,O] rfl rfl (any_of HT_.out (by kernel_rfl)) (fun _ _ _ h => h) (Or.inr ⟨by rfl, rfl⟩) ?_ ?_; rotate_left; · (simp only [Act.put, sT, sZ, sS, i64_w, i32_w]; rfl)
        refine pure_ (i := 25) (N := some 41) (v := undef) (a' := ?_) #[I,I,I,I,I,I,I,I,I,I,I,I,I,I,I,I,I,I,I,I,I,I,I,I,I,I,O,O] rfl rfl (any_of HT_.out (by kernel_rfl)) (fun _ _ _ h => h) (Or.inr ⟨by rfl, rfl⟩) ?_ ?_; rotate_left; · (simp only [Act.put, sT, sZ, sS, i64_w, i32_w]; rfl)
        refine pure_ (i := 26) (N := some 42) (v := undef) (a' := ?_) #[I,I,I,I,I,I,I,I,I,I,I,I,I,I,I,I,I,I,I,I,I,I,I,I,I,I,I,O] rfl rfl (any_of HT_.out (by kernel_rfl)) (fun _ _ _ h => h) (Or.inr ⟨by rfl, rfl⟩) ?_ ?_; rotate_left; · (simp only [Act.put, sT, sZ, sS, i64_w, i32_w]; rfl)
        refine pure_ (i := 27) (N := some 43) (v := ?_) (a' := ?_) #[I,I,I,I,I,I,I,I,I,I,I,I,I,I,I,I,I,I,I,I,I,I,I,I,I,I,I,I] rfl rfl (any_of HT_.out (by kernel_rfl)) (fun _ _ _ h => h) (Or.inl ⟨by rfl, ?_⟩) ?_ ?_; rotate_left; · (intro w'; go_simp; with_reducible rfl)
        rotate_left; · (simp only [Act.put, sT, sZ, sS, i64_w, i32_w]; rfl)
        refine done_ (done_of HT_.out (by kernel_rfl)) ?_
        try go_wp2
        go_meet
        case rel => exact ⟨k1, (true), (by first | rfl | (simp; done) | (simp [*]; done)), H', ⟨by have := HQ1.out; omega⟩, HS, HK⟩
       ·rw [if_neg c6] at H
        have c6b0 : decide (((rd_T37 l0 x3_0).f0) < 1) = false := decide_eq_false c6
        clear c6
        by_cases c7 : x3_0 > 0
        ·rw [if_pos c7] at H
         have c7b0 : decide (0 < x3_0) = true := decide_eq_true c7
         clear c7
         replace H := Option.bind_eq_some_iff.1 H
         obtain ⟨j528, hj5280, H⟩ := H
         try dsimp only at H
         have hj528 := Option.some.inj hj5280
         clear hj5280
         have hj528w : (IntKind.i64.wrap (x3_0 - 1)) = j528 := (i64_w _).trans hj528
         by_cases c8 : 0 ≤ j528
         ·rw [if_pos c8] at H
          have c8b0 : decide (0 ≤ j528) = true := decide_eq_true c8
          clear c8
          by_cases c9 : j528 < (l0.length : Int)
          ·rw [if_pos c9] at H
           have c9b0 : decide (j528 < (l0.length : Int)) = true := decide_eq_true c9
           clear c9
           have H' := Aside0.mk H
           clear H
           try go_wp2
           have pq526 : 0 ≤ (x3_0 : Int) := of_decide_eq_true (by first | (with_reducible assumption) | assumption)
           have qq526 : x3_0 < ((l0.length : Int) : Int) := of_decide_eq_true (by first | (with_reducible assumption) | assumption)
           obtain ⟨adq526, eq526, hxq526_0, hxq526_1, hxq526_2, hxq526_3, hxq526_4, hxq526_5, hxq526_6, hxq526_7, hxq526_8, hxq526_9, hxq526_10, hxq526_11, hxq526_12, hxq526_13, hxq526_14, hxq526_15⟩ := at_T37 (RO.at_ HR0.out HK.out) x3_0 pq526 qq526
           obtain rfl : adq524 = adq526 := (by injection eq526)
           replace pq526 := eq_true pq526
           replace qq526 := eq_true qq526
           have pq527 : 0 ≤ (x3_0 : Int) := of_decide_eq_true (by first | (with_reducible assumption) | assumption)
           have qq527 : x3_0 < ((l0.length : Int) : Int) := of_decide_eq_true (by first | (with_reducible assumption) | assumption)
           obtain ⟨adq527, eq527, hxq527_0, hxq527_1, hxq527_2, hxq527_3, hxq527_4, hxq527_5, hxq527_6, hxq527_7, hxq527_8, hxq527_9, hxq527_10, hxq527_11, hxq527_12, hxq527_13, hxq527_14, hxq527_15⟩ := at_T37 (RO.at_ HR0.out HK.out) x3_0 pq527 qq527
           obtain rfl : adq524 = adq527 := (by injection eq527)
           replace pq527 := eq_true pq527
           replace qq527 := eq_true qq527
           have pq529 : 0 ≤ (j528 : Int) := of_decide_eq_true (by first | (with_reducible assumption) | assumption)
           have qq529 : j528 < ((l0.length : Int) : Int) := of_decide_eq_true (by first | (with_reducible assumption) | assumption)
           obtain ⟨adq529, eq529, hxq529_0, hxq529_1, hxq529_2, hxq529_3, hxq529_4, hxq529_5, hxq529_6, hxq529_7, hxq529_8, hxq529_9, hxq529_10, hxq529_11, hxq529_12, hxq529_13, hxq529_14, hxq529_15⟩ := at_T37 (RO.at_ HR0.out HK.out) j528 pq529 qq529
           obtain rfl : adq524 = adq529 := (by injection eq529)
           replace pq529 := eq_true pq529
           replace qq529 := eq_true qq529
           refine start_ (n := 28) (S := fun w' => w'.cell? (adq524.add (x3_0.toNat * 16)) = some (.int .i64 ((rd_T37 l0 x3_0).f0)) ∧ w'.cell? ⟨(adq524.add (x3_0.toNat * 16)).block, (adq524.add (x3_0.toNat * 16)).off + 1, none⟩ = some (.int .i64 ((rd_T37 l0 x3_0).f1.f0)) ∧ w'.cell? ⟨(adq524.add (x3_0.toNat * 16)).block, (adq524.add (x3_0.toNat * 16)).off + 2, none⟩ = some (.int .i64 ((rd_T37 l0 x3_0).f1.f1.f0)) ∧ w'.cell? ⟨(adq524.add (x3_0.toNat * 16)).block, (adq524.add (x3_0.toNat * 16)).off + 3, none⟩ = some (.int .i64 ((rd_T37 l0 x3_0).f1.f1.f1)) ∧ w'.cell? ⟨(adq524.add (x3_0.toNat * 16)).block, (adq524.add (x3_0.toNat * 16)).off + 4, none⟩ = some (.int .i64 ((rd_T37 l0 x3_0).f1.f2.f0)) ∧ w'.cell? ⟨(adq524.add (x3_0.toNat * 16)).block, (adq524.add (x3_0.toNat * 16)).off + 5, none⟩ = some (.int .i64 ((rd_T37 l0 x3_0).f1.f2.f1)) ∧ w'.cell? ⟨(adq524.add (x3_0.toNat * 16)).block, (adq524.add (x3_0.toNat * 16)).off + 6, none⟩ = some (.int .i64 ((rd_T37 l0 x3_0).f1.f3)) ∧ w'.cell? ⟨(adq524.add (x3_0.toNat * 16)).block, (adq524.add (x3_0.toNat * 16)).off + 7, none⟩ = some (.int .i64 ((rd_T37 l0 x3_0).f1.f4)) ∧ w'.cell? ⟨(adq524.add (x3_0.toNat * 16)).block, (adq524.add (x3_0.toNat * 16)).off + 8, none⟩ = some (.int .i64 ((rd_T37 l0 x3_0).f2)) ∧ w'.cell? ⟨(adq524.add (x3_0.toNat * 16)).block, (adq524.add (x3_0.toNat * 16)).off + 9, none⟩ = some (.int .i64 ((rd_T37 l0 x3_0).f3)) ∧ w'.cell? ⟨(adq524.add (x3_0.toNat * 16)).block, (adq524.add (x3_0.toNat * 16)).off + 10, none⟩ = some (.int .i64 ((rd_T37 l0 x3_0).f4)) ∧ w'.cell? ⟨(adq524.add (x3_0.toNat * 16)).block, (adq524.add (x3_0.toNat * 16)).off + 11, none⟩ = some (.int .i64 ((rd_T37 l0 x3_0).f5.f0)) ∧ w'.cell? ⟨(adq524.add (x3_0.toNat * 16)).block, (adq524.add (x3_0.toNat * 16)).off + 12, none⟩ = some (.int .i64 ((rd_T37 l0 x3_0).f5.f1)) ∧ w'.cell? ⟨(adq524.add (x3_0.toNat * 16)).block, (adq524.add (x3_0.toNat * 16)).off + 13, none⟩ = some (.int .i64 ((rd_T37 l0 x3_0).f5.f2)) ∧ w'.cell? ⟨(adq524.add (x3_0.toNat * 16)).block, (adq524.add (x3_0.toNat * 16)).off + 14, none⟩ = some (.int .i64 ((rd_T37 l0 x3_0).f6)) ∧ w'.cell? ⟨(adq524.add (x3_0.toNat * 16)).block, (adq524.add (x3_0.toNat * 16)).off + 15, none⟩ = some (.int .i64 ((rd_T37 l0 x3_0).f7)) ∧ w'.cell? (adq524.add (x3_0.toNat * 16)) = some (.int .i64 ((rd_T37 l0 x3_0).f0)) ∧ w'.cell? ⟨(adq524.add (x3_0.toNat * 16)).block, (adq524.add (x3_0.toNat * 16)).off + 1, none⟩ = some (.int .i64 ((rd_T37 l0 x3_0).f1.f0)) ∧ w'.cell? ⟨(adq524.add (x3_0.toNat * 16)).block, (adq524.add (x3_0.toNat * 16)).off + 2, none⟩ = some (.int .i64 ((rd_T37 l0 x3_0).f1.f1.f0)) ∧ w'.cell? ⟨(adq524.add (x3_0.toNat * 16)).block, (adq524.add (x3_0.toNat * 16)).off + 3, none⟩ = some (.int .i64 ((rd_T37 l0 x3_0).f1.f1.f1)) ∧ w'.cell? ⟨(adq524.add (x3_0.toNat * 16)).block, (adq524.add (x3_0.toNat * 16)).off + 4, none⟩ = some (.int .i64 ((rd_T37 l0 x3_0).f1.f2.f0)) ∧ w'.cell? ⟨(adq524.add (x3_0.toNat * 16)).block, (adq524.add (x3_0.toNat * 16)).off + 5, none⟩ = some (.int .i64 ((rd_T37 l0 x3_0).f1.f2.f1)) ∧ w'.cell? ⟨(adq524.add (x3_0.toNat * 16)).block, (adq524.add (x3_0.toNat * 16)).off + 6, none⟩ = some (.int .i64 ((rd_T37 l0 x3_0).f1.f3)) ∧ w'.cell? ⟨(adq524.add (x3_0.toNat * 16)).block, (adq524.add (x3_0.toNat * 16)).off + 7, none⟩ = some (.int .i64 ((rd_T37 l0 x3_0).f1.f4)) ∧ w'.cell? ⟨(adq524.add (x3_0.toNat * 16)).block, (adq524.add (x3_0.toNat * 16)).off + 8, none⟩ = some (.int .i64 ((rd_T37 l0 x3_0).f2)) ∧ w'.cell? ⟨(adq524.add (x3_0.toNat * 16)).block, (adq524.add (x3_0.toNat * 16)).off + 9, none⟩ = some (.int .i64 ((rd_T37 l0 x3_0).f3)) ∧ w'.cell? ⟨(adq524.add (x3_0.toNat * 16)).block, (adq524.add (x3_0.toNat * 16)).off + 10, none⟩ = some (.int .i64 ((rd_T37 l0 x3_0).f4)) ∧ w'.cell? ⟨(adq524.add (x3_0.toNat * 16)).block, (adq524.add (x3_0.toNat * 16)).off + 11, none⟩ = some (.int .i64 ((rd_T37 l0 x3_0).f5.f0)) ∧ w'.cell? ⟨(adq524.add (x3_0.toNat * 16)).block, (adq524.add (x3_0.toNat * 16)).off + 12, none⟩ = some (.int .i64 ((rd_T37 l0 x3_0).f5.f1)) ∧ w'.cell? ⟨(adq524.add (x3_0.toNat * 16)).block, (adq524.add (x3_0.toNat * 16)).off + 13, none⟩ = some (.int .i64 ((rd_T37 l0 x3_0).f5.f2)) ∧ w'.cell? ⟨(adq524.add (x3_0.toNat * 16)).block, (adq524.add (x3_0.toNat * 16)).off + 14, none⟩ = some (.int .i64 ((rd_T37 l0 x3_0).f6)) ∧ w'.cell? ⟨(adq524.add (x3_0.toNat * 16)).block, (adq524.add (x3_0.toNat * 16)).off + 15, none⟩ = some (.int .i64 ((rd_T37 l0 x3_0).f7)) ∧ w'.cell? (adq524.add (j528.toNat * 16)) = some (.int .i64 ((rd_T37 l0 j528).f0)) ∧ w'.cell? ⟨(adq524.add (j528.toNat * 16)).block, (adq524.add (j528.toNat * 16)).off + 1, none⟩ = some (.int .i64 ((rd_T37 l0 j528).f1.f0)) ∧ w'.cell? ⟨(adq524.add (j528.toNat * 16)).block, (adq524.add (j528.toNat * 16)).off + 2, none⟩ = some (.int .i64 ((rd_T37 l0 j528).f1.f1.f0)) ∧ w'.cell? ⟨(adq524.add (j528.toNat * 16)).block, (adq524.add (j528.toNat * 16)).off + 3, none⟩ = some (.int .i64 ((rd_T37 l0 j528).f1.f1.f1)) ∧ w'.cell? ⟨(adq524.add (j528.toNat * 16)).block, (adq524.add (j528.toNat * 16)).off + 4, none⟩ = some (.int .i64 ((rd_T37 l0 j528).f1.f2.f0)) ∧ w'.cell? ⟨(adq524.add (j528.toNat * 16)).block, (adq524.add (j528.toNat * 16)).off + 5, none⟩ = some (.int .i64 ((rd_T37 l0 j528).f1.f2.f1)) ∧ w'.cell? ⟨(adq524.add (j528.toNat * 16)).block, (adq524.add (j528.toNat * 16)).off + 6, none⟩ = some (.int .i64 ((rd_T37 l0 j528).f1.f3)) ∧ w'.cell? ⟨(adq524.add (j528.toNat * 16)).block, (adq524.add (j528.toNat * 16)).off + 7, none⟩ = some (.int .i64 ((rd_T37 l0 j528).f1.f4)) ∧ w'.cell? ⟨(adq524.add (j528.toNat * 16)).block, (adq524.add (j528.toNat * 16)).off + 8, none⟩ = some (.int .i64 ((rd_T37 l0 j528).f2)) ∧ w'.cell? ⟨(adq524.add (j528.toNat * 16)).block, (adq524.add (j528.toNat * 16)).off + 9, none⟩ = some (.int .i64 ((rd_T37 l0 j528).f3)) ∧ w'.cell? ⟨(adq524.add (j528.toNat * 16)).block, (adq524.add (j528.toNat * 16)).off + 10, none⟩ = some (.int .i64 ((rd_T37 l0 j528).f4)) ∧ w'.cell? ⟨(adq524.add (j528.toNat * 16)).block, (adq524.add (j528.toNat * 16)).off + 11, none⟩ = some (.int .i64 ((rd_T37 l0 j528).f5.f0)) ∧ w'.cell? ⟨(adq524.add (j528.toNat * 16)).block, (adq524.add (j528.toNat * 16)).off + 12, none⟩ = some (.int .i64 ((rd_T37 l0 j528).f5.f1)) ∧ w'.cell? ⟨(adq524.add (j528.toNat * 16)).block, (adq524.add (j528.toNat * 16)).off + 13, none⟩ = some (.int .i64 ((rd_T37 l0 j528).f5.f2)) ∧ w'.cell? ⟨(adq524.add (j528.toNat * 16)).block, (adq524.add (j528.toNat * 16)).off + 14, none⟩ = some (.int .i64 ((rd_T37 l0 j528).f6)) ∧ w'.cell? ⟨(adq524.add (j528.toNat * 16)).block, (adq524.add (j528.toNat * 16)).off + 15, none⟩ = some (.int .i64 ((rd_T37 l0 j528).f7))) (ds := []) #[O,O,O,O,O,O,O,O,O,O,O,O,O,O,O,O,O,O,O,O,O,O,O,O,O,O,O,O] (by kernel_rfl) rfl rfl ⟨(by obtain ⟨a_, e_, h0_, h1_, h2_, h3_, h4_, h5_, h6_, h7_, h8_, h9_, h10_, h11_, h12_, h13_, h14_, h15_⟩ := at_T37 (RO.at_ HR0.out HK.out) x3_0 (of_eq_true pq526) (of_eq_true qq526); obtain rfl := Option.some.inj e_; exact h0_), (by obtain ⟨a_, e_, h0_, h1_, h2_, h3_, h4_, h5_, h6_, h7_, h8_, h9_, h10_, h11_, h12_, h13_, h14_, h15_⟩ := at_T37 (RO.at_ HR0.out HK.out) x3_0 (of_eq_true pq526) (of_eq_true qq526); obtain rfl := Option.some.inj e_; exact h1_), (by obtain ⟨a_, e_, h0_, h1_, h2_, h3_, h4_, h5_, h6_, h7_, h8_, h9_, h10_, h11_, h12_, h13_, h14_, h15_⟩ := at_T37 (RO.at_ HR0.out HK.out) x3_0 (of_eq_true pq526) (of_eq_true qq526); obtain rfl := Option.some.inj e_; exact h2_), (by obtain ⟨a_, e_, h0_, h1_, h2_, h3_, h4_, h5_, h6_, h7_, h8_, h9_, h10_, h11_, h12_, h13_, h14_, h15_⟩ := at_T37 (RO.at_ HR0.out HK.out) x3_0 (of_eq_true pq526) (of_eq_true qq526); obtain rfl := Option.some.inj e_; exact h3_), (by obtain ⟨a_, e_, h0_, h1_, h2_, h3_, h4_, h5_, h6_, h7_, h8_, h9_, h10_, h11_, h12_, h13_, h14_, h15_⟩ := at_T37 (RO.at_ HR0.out HK.out) x3_0 (of_eq_true pq526) (of_eq_true qq526); obtain rfl := Option.some.inj e_; exact h4_), (by obtain ⟨a_, e_, h0_, h1_, h2_, h3_, h4_, h5_, h6_, h7_, h8_, h9_, h10_, h11_, h12_, h13_, h14_, h15_⟩ := at_T37 (RO.at_ HR0.out HK.out) x3_0 (of_eq_true pq526) (of_eq_true qq526); obtain rfl := Option.some.inj e_; exact h5_), (by obtain ⟨a_, e_, h0_, h1_, h2_, h3_, h4_, h5_, h6_, h7_, h8_, h9_, h10_, h11_, h12_, h13_, h14_, h15_⟩ := at_T37 (RO.at_ HR0.out HK.out) x3_0 (of_eq_true pq526) (of_eq_true qq526); obtain rfl := Option.some.inj e_; exact h6_), (by obtain ⟨a_, e_, h0_, h1_, h2_, h3_, h4_, h5_, h6_, h7_, h8_, h9_, h10_, h11_, h12_, h13_, h14_, h15_⟩ := at_T37 (RO.at_ HR0.out HK.out) x3_0 (of_eq_true pq526) (of_eq_true qq526); obtain rfl := Option.some.inj e_; exact h7_), (by obtain ⟨a_, e_, h0_, h1_, h2_, h3_, h4_, h5_, h6_, h7_, h8_, h9_, h10_, h11_, h12_, h13_, h14_, h15_⟩ := at_T37 (RO.at_ HR0.out HK.out) x3_0 (of_eq_true pq526) (of_eq_true qq526); obtain rfl := Option.some.inj e_; exact h8_), (by obtain ⟨a_, e_, h0_, h1_, h2_, h3_, h4_, h5_, h6_, h7_, h8_, h9_, h10_, h11_, h12_, h13_, h14_, h15_⟩ := at_T37 (RO.at_ HR0.out HK.out) x3_0 (of_eq_true pq526) (of_eq_true qq526); obtain rfl := Option.some.inj e_; exact h9_), (by obtain ⟨a_, e_, h0_, h1_, h2_, h3_, h4_, h5_, h6_, h7_, h8_, h9_, h10_, h11_, h12_, h13_, h14_, h15_⟩ := at_T37 (RO.at_ HR0.out HK.out) x3_0 (of_eq_true pq526) (of_eq_true qq526); obtain rfl := Option.some.inj e_; exact h10_), (by obtain ⟨a_, e_, h0_, h1_, h2_, h3_, h4_, h5_, h6_, h7_, h8_, h9_, h10_, h11_, h12_, h13_, h14_, h15_⟩ := at_T37 (RO.at_ HR0.out HK.out) x3_0 (of_eq_true pq526) (of_eq_true qq526); obtain rfl := Option.some.inj e_; exact h11_), (by obtain ⟨a_, e_, h0_, h1_, h2_, h3_, h4_, h5_, h6_, h7_, h8_, h9_, h10_, h11_, h12_, h13_, h14_, h15_⟩ := at_T37 (RO.at_ HR0.out HK.out) x3_0 (of_eq_true pq526) (of_eq_true qq526); obtain rfl := Option.some.inj e_; exact h12_), (by obtain ⟨a_, e_, h0_, h1_, h2_, h3_, h4_, h5_, h6_, h7_, h8_, h9_, h10_, h11_, h12_, h13_, h14_, h15_⟩ := at_T37 (RO.at_ HR0.out HK.out) x3_0 (of_eq_true pq526) (of_eq_true qq526); obtain rfl := Option.some.inj e_; exact h13_), (by obtain ⟨a_, e_, h0_, h1_, h2_, h3_, h4_, h5_, h6_, h7_, h8_, h9_, h10_, h11_, h12_, h13_, h14_, h15_⟩ := at_T37 (RO.at_ HR0.out HK.out) x3_0 (of_eq_true pq526) (of_eq_true qq526); obtain rfl := Option.some.inj e_; exact h14_), (by obtain ⟨a_, e_, h0_, h1_, h2_, h3_, h4_, h5_, h6_, h7_, h8_, h9_, h10_, h11_, h12_, h13_, h14_, h15_⟩ := at_T37 (RO.at_ HR0.out HK.out) x3_0 (of_eq_true pq526) (of_eq_true qq526); obtain rfl := Option.some.inj e_; exact h15_), (by obtain ⟨a_, e_, h0_, h1_, h2_, h3_, h4_, h5_, h6_, h7_, h8_, h9_, h10_, h11_, h12_, h13_, h14_, h15_⟩ := at_T37 (RO.at_ HR0.out HK.out) x3_0 (of_eq_true pq527) (of_eq_true qq527); obtain rfl := Option.some.inj e_; exact h0_), (by obtain ⟨a_, e_, h0_, h1_, h2_, h3_, h4_, h5_, h6_, h7_, h8_, h9_, h10_, h11_, h12_, h13_, h14_, h15_⟩ := at_T37 (RO.at_ HR0.out HK.out) x3_0 (of_eq_true pq527) (of_eq_true qq527); obtain rfl := Option.some.inj e_; exact h1_), (by obtain ⟨a_, e_, h0_, h1_, h2_, h3_, h4_, h5_, h6_, h7_, h8_, h9_, h10_, h11_, h12_, h13_, h14_, h15_⟩ := at_T37 (RO.at_ HR0.out HK.out) x3_0 (of_eq_true pq527) (of_eq_true qq527); obtain rfl := Option.some.inj e_; exact h2_), (by obtain ⟨a_, e_, h0_, h1_, h2_, h3_, h4_, h5_, h6_, h7_, h8_, h9_, h10_, h11_, h12_, h13_, h14_, h15_⟩ := at_T37 (RO.at_ HR0.out HK.out) x3_0 (of_eq_true pq527) (of_eq_true qq527); obtain rfl := Option.some.inj e_; exact h3_), (by obtain ⟨a_, e_, h0_, h1_, h2_, h3_, h4_, h5_, h6_, h7_, h8_, h9_, h10_, h11_, h12_, h13_, h14_, h15_⟩ := at_T37 (RO.at_ HR0.out HK.out) x3_0 (of_eq_true pq527) (of_eq_true qq527); obtain rfl := Option.some.inj e_; exact h4_), (by obtain ⟨a_, e_, h0_, h1_, h2_, h3_, h4_, h5_, h6_, h7_, h8_, h9_, h10_, h11_, h12_, h13_, h14_, h15_⟩ := at_T37 (RO.at_ HR0.out HK.out) x3_0 (of_eq_true pq527) (of_eq_true qq527); obtain rfl := Option.some.inj e_; exact h5_), (by obtain ⟨a_, e_, h0_, h1_, h2_, h3_, h4_, h5_, h6_, h7_, h8_, h9_, h10_, h11_, h12_, h13_, h14_, h15_⟩ := at_T37 (RO.at_ HR0.out HK.out) x3_0 (of_eq_true pq527) (of_eq_true qq527); obtain rfl := Option.some.inj e_; exact h6_), (by obtain ⟨a_, e_, h0_, h1_, h2_, h3_, h4_, h5_, h6_, h7_, h8_, h9_, h10_, h11_, h12_, h13_, h14_, h15_⟩ := at_T37 (RO.at_ HR0.out HK.out) x3_0 (of_eq_true pq527) (of_eq_true qq527); obtain rfl := Option.some.inj e_; exact h7_), (by obtain ⟨a_, e_, h0_, h1_, h2_, h3_, h4_, h5_, h6_, h7_, h8_, h9_, h10_, h11_, h12_, h13_, h14_, h15_⟩ := at_T37 (RO.at_ HR0.out HK.out) x3_0 (of_eq_true pq527) (of_eq_true qq527); obtain rfl := Option.some.inj e_; exact h8_), (by obtain ⟨a_, e_, h0_, h1_, h2_, h3_, h4_, h5_, h6_, h7_, h8_, h9_, h10_, h11_, h12_, h13_, h14_, h15_⟩ := at_T37 (RO.at_ HR0.out HK.out) x3_0 (of_eq_true pq527) (of_eq_true qq527); obtain rfl := Option.some.inj e_; exact h9_), (by obtain ⟨a_, e_, h0_, h1_, h2_, h3_, h4_, h5_, h6_, h7_, h8_, h9_, h10_, h11_, h12_, h13_, h14_, h15_⟩ := at_T37 (RO.at_ HR0.out HK.out) x3_0 (of_eq_true pq527) (of_eq_true qq527); obtain rfl := Option.some.inj e_; exact h10_), (by obtain ⟨a_, e_, h0_, h1_, h2_, h3_, h4_, h5_, h6_, h7_, h8_, h9_, h10_, h11_, h12_, h13_, h14_, h15_⟩ := at_T37 (RO.at_ HR0.out HK.out) x3_0 (of_eq_true pq527) (of_eq_true qq527); obtain rfl := Option.some.inj e_; exact h11_), (by obtain ⟨a_, e_, h0_, h1_, h2_, h3_, h4_, h5_, h6_, h7_, h8_, h9_, h10_, h11_, h12_, h13_, h14_, h15_⟩ := at_T37 (RO.at_ HR0.out HK.out) x3_0 (of_eq_true pq527) (of_eq_true qq527); obtain rfl := Option.some.inj e_; exact h12_), (by obtain ⟨a_, e_, h0_, h1_, h2_, h3_, h4_, h5_, h6_, h7_, h8_, h9_, h10_, h11_, h12_, h13_, h14_, h15_⟩ := at_T37 (RO.at_ HR0.out HK.out) x3_0 (of_eq_true pq527) (of_eq_true qq527); obtain rfl := Option.some.inj e_; exact h13_), (by obtain ⟨a_, e_, h0_, h1_, h2_, h3_, h4_, h5_, h6_, h7_, h8_, h9_, h10_, h11_, h12_, h13_, h14_, h15_⟩ := at_T37 (RO.at_ HR0.out HK.out) x3_0 (of_eq_true pq527) (of_eq_true qq527); obtain rfl := Option.some.inj e_; exact h14_), (by obtain ⟨a_, e_, h0_, h1_, h2_, h3_, h4_, h5_, h6_, h7_, h8_, h9_, h10_, h11_, h12_, h13_, h14_, h15_⟩ := at_T37 (RO.at_ HR0.out HK.out) x3_0 (of_eq_true pq527) (of_eq_true qq527); obtain rfl := Option.some.inj e_; exact h15_), (by obtain ⟨a_, e_, h0_, h1_, h2_, h3_, h4_, h5_, h6_, h7_, h8_, h9_, h10_, h11_, h12_, h13_, h14_, h15_⟩ := at_T37 (RO.at_ HR0.out HK.out) j528 (of_eq_true pq529) (of_eq_true qq529); obtain rfl := Option.some.inj e_; exact h0_), (by obtain ⟨a_, e_, h0_, h1_, h2_, h3_, h4_, h5_, h6_, h7_, h8_, h9_, h10_, h11_, h12_, h13_, h14_, h15_⟩ := at_T37 (RO.at_ HR0.out HK.out) j528 (of_eq_true pq529) (of_eq_true qq529); obtain rfl := Option.some.inj e_; exact h1_), (by obtain ⟨a_, e_, h0_, h1_, h2_, h3_, h4_, h5_, h6_, h7_, h8_, h9_, h10_, h11_, h12_, h13_, h14_, h15_⟩ := at_T37 (RO.at_ HR0.out HK.out) j528 (of_eq_true pq529) (of_eq_true qq529); obtain rfl := Option.some.inj e_; exact h2_), (by obtain ⟨a_, e_, h0_, h1_, h2_, h3_, h4_, h5_, h6_, h7_, h8_, h9_, h10_, h11_, h12_, h13_, h14_, h15_⟩ := at_T37 (RO.at_ HR0.out HK.out) j528 (of_eq_true pq529) (of_eq_true qq529); obtain rfl := Option.some.inj e_; exact h3_), (by obtain ⟨a_, e_, h0_, h1_, h2_, h3_, h4_, h5_, h6_, h7_, h8_, h9_, h10_, h11_, h12_, h13_, h14_, h15_⟩ := at_T37 (RO.at_ HR0.out HK.out) j528 (of_eq_true pq529) (of_eq_true qq529); obtain rfl := Option.some.inj e_; exact h4_), (by obtain ⟨a_, e_, h0_, h1_, h2_, h3_, h4_, h5_, h6_, h7_, h8_, h9_, h10_, h11_, h12_, h13_, h14_, h15_⟩ := at_T37 (RO.at_ HR0.out HK.out) j528 (of_eq_true pq529) (of_eq_true qq529); obtain rfl := Option.some.inj e_; exact h5_), (by obtain ⟨a_, e_, h0_, h1_, h2_, h3_, h4_, h5_, h6_, h7_, h8_, h9_, h10_, h11_, h12_, h13_, h14_, h15_⟩ := at_T37 (RO.at_ HR0.out HK.out) j528 (of_eq_true pq529) (of_eq_true qq529); obtain rfl := Option.some.inj e_; exact h6_), (by obtain ⟨a_, e_, h0_, h1_, h2_, h3_, h4_, h5_, h6_, h7_, h8_, h9_, h10_, h11_, h12_, h13_, h14_, h15_⟩ := at_T37 (RO.at_ HR0.out HK.out) j528 (of_eq_true pq529) (of_eq_true qq529); obtain rfl := Option.some.inj e_; exact h7_), (by obtain ⟨a_, e_, h0_, h1_, h2_, h3_, h4_, h5_, h6_, h7_, h8_, h9_, h10_, h11_, h12_, h13_, h14_, h15_⟩ := at_T37 (RO.at_ HR0.out HK.out) j528 (of_eq_true pq529) (of_eq_true qq529); obtain rfl := Option.some.inj e_; exact h8_), (by obtain ⟨a_, e_, h0_, h1_, h2_, h3_, h4_, h5_, h6_, h7_, h8_, h9_, h10_, h11_, h12_, h13_, h14_, h15_⟩ := at_T37 (RO.at_ HR0.out HK.out) j528 (of_eq_true pq529) (of_eq_true qq529); obtain rfl := Option.some.inj e_; exact h9_), (by obtain ⟨a_, e_, h0_, h1_, h2_, h3_, h4_, h5_, h6_, h7_, h8_, h9_, h10_, h11_, h12_, h13_, h14_, h15_⟩ := at_T37 (RO.at_ HR0.out HK.out) j528 (of_eq_true pq529) (of_eq_true qq529); obtain rfl := Option.some.inj e_; exact h10_), (by obtain ⟨a_, e_, h0_, h1_, h2_, h3_, h4_, h5_, h6_, h7_, h8_, h9_, h10_, h11_, h12_, h13_, h14_, h15_⟩ := at_T37 (RO.at_ HR0.out HK.out) j528 (of_eq_true pq529) (of_eq_true qq529); obtain rfl := Option.some.inj e_; exact h11_), (by obtain ⟨a_, e_, h0_, h1_, h2_, h3_, h4_, h5_, h6_, h7_, h8_, h9_, h10_, h11_, h12_, h13_, h14_, h15_⟩ := at_T37 (RO.at_ HR0.out HK.out) j528 (of_eq_true pq529) (of_eq_true qq529); obtain rfl := Option.some.inj e_; exact h12_), (by obtain ⟨a_, e_, h0_, h1_, h2_, h3_, h4_, h5_, h6_, h7_, h8_, h9_, h10_, h11_, h12_, h13_, h14_, h15_⟩ := at_T37 (RO.at_ HR0.out HK.out) j528 (of_eq_true pq529) (of_eq_true qq529); obtain rfl := Option.some.inj e_; exact h13_), (by obtain ⟨a_, e_, h0_, h1_, h2_, h3_, h4_, h5_, h6_, h7_, h8_, h9_, h10_, h11_, h12_, h13_, h14_, h15_⟩ := at_T37 (RO.at_ HR0.out HK.out) j528 (of_eq_true pq529) (of_eq_true qq529); obtain rfl := Option.some.inj e_; exact h14_), (by obtain ⟨a_, e_, h0_, h1_, h2_, h3_, h4_, h5_, h6_, h7_, h8_, h9_, h10_, h11_, h12_, h13_, h14_, h15_⟩ := at_T37 (RO.at_ HR0.out HK.out) j528 (of_eq_true pq529) (of_eq_true qq529); obtain rfl := Option.some.inj e_; exact h15_)⟩ (fun hHeld => ?_); refine with_tabW barrowref33_Right.tab5 barrowref33_Right.bits5 (fun HT_ HW_ => ?_)
           replace HK := Aside0.mk (Keep.drew HK.out)
           replace HS := Aside0.mk (SL.drew HS.out)
           refine pure_ (i := 0) (N := some 16) (v := ?_) (a' := ?_) #[I,O,O,O,O,O,O,O,O,O,O,O,O,O,O,O,O,O,O,O,O,O,O,O,O,O,O,O] rfl rfl (any_of HT_.out (by kernel_rfl)) (fun _ _ _ h => h) (Or.inl ⟨by rfl, ?_⟩) ?_ ?_; rotate_left; · (intro w'; go_simp; with_reducible rfl)
           rotate_left; · (simp only [Act.put, sT, sZ, sS, i64_w, i32_w]; rfl)
           refine pure_ (i := 1) (N := some 17) (v := ?_) (a' := ?_) #[I,I,O,O,O,O,O,O,O,O,O,O,O,O,O,O,O,O,O,O,O,O,O,O,O,O,O,O] rfl rfl (any_of HT_.out (by kernel_rfl)) (fun _ _ _ h => h) (Or.inl ⟨by rfl, ?_⟩) ?_ ?_; rotate_left; · (intro w'; go_simp; with_reducible rfl)
           rotate_left; · (simp only [Act.put, sT, sZ, sS, i64_w, i32_w]; rfl)
           refine pure_ (i := 2) (N := some 18) (v := ?_) (a' := ?_) #[I,I,I,O,O,O,O,O,O,O,O,O,O,O,O,O,O,O,O,O,O,O,O,O,O,O,O,O] rfl rfl (any_of HT_.out (by kernel_rfl)) (fun _ _ _ h => h) (Or.inl ⟨by rfl, ?_⟩) ?_ ?_; rotate_left; · (intro w'; go_simp; with_reducible rfl)
           rotate_left; · (simp only [Act.put, sT, sZ, sS, i64_w, i32_w]; rfl)
           refine pure_ (i := 3) (N := some 19) (v := ?_) (a' := ?_) #[I,I,I,I,O,O,O,O,O,O,O,O,O,O,O,O,O,O,O,O,O,O,O,O,O,O,O,O] rfl rfl (any_of HT_.out (by kernel_rfl)) (fun _ _ _ h => h) (Or.inl ⟨by rfl, ?_⟩) ?_ ?_; rotate_left; · (intro w'; go_simp; with_reducible rfl)
           rotate_left; · (simp only [Act.put, sT, sZ, sS, i64_w, i32_w]; rfl)
           refine pure_ (i := 4) (N := some 20) (v := ?_) (a' := ?_) #[I,I,I,I,I,O,O,O,O,O,O,O,O,O,O,O,O,O,O,O,O,O,O,O,O,O,O,O] rfl rfl (any_of HT_.out (by kernel_rfl)) (fun _ _ _ h => h) (Or.inl ⟨by rfl, ?_⟩) ?_ ?_; rotate_left; · (intro w'; go_simp; with_reducible rfl)
           rotate_left; · (simp only [Act.put, sT, sZ, sS, i64_w, i32_w]; rfl)
           refine pure_ (i := 5) (N := some 21) (v := ?_) (a' := ?_) #[I,I,I,I,I,I,O,O,O,O,O,O,O,O,O,O,O,O,O,O,O,O,O,O,O,O,O,O] rfl rfl (any_of HT_.out (by kernel_rfl)) (fun _ _ _ h => h) (Or.inl ⟨by rfl, ?_⟩) ?_ ?_; rotate_left; · (intro w'; go_simp; with_reducible rfl)
           rotate_left; · (simp only [Act.put, sT, sZ, sS, i64_w, i32_w]; rfl)
           refine pure_ (i := 6) (N := some 22) (v := ?_) (a' := ?_) #[I,I,I,I,I,I,I,O,O,O,O,O,O,O,O,O,O,O,O,O,O,O,O,O,O,O,O,O] rfl rfl (any_of HT_.out (by kernel_rfl)) (fun _ _ _ h => h) (Or.inl ⟨by rfl, ?_⟩) ?_ ?_; rotate_left; · (intro w'; go_simp; with_reducible rfl)
           rotate_left; · (simp only [Act.put, sT, sZ, sS, i64_w, i32_w]; rfl)
           refine take_ (i := 7) (N := some 23) (v := ?_) (a' := ?_) #[I,I,I,I,I,I,I,I,O,O,O,O,O,O,O,O,O,O,O,O,O,O,O,O,O,O,O,O] rfl rfl (take_ofW HT_.out HW_.out (by kernel_rfl)) (fun _ _ _ h => h) (Or.inl ⟨by rfl, ?_⟩) hHeld ?_ ?_; rotate_left
           ·rintro w' ⟨s0, s1, s2, s3, s4, s5, s6, s7, s8, s9, s10, s11, s12, s13, s14, s15, s16, s17, s18, s19, s20, s21, s22, s23, s24, s25, s26, s27, s28, s29, s30, s31, s32, s33, s34, s35, s36, s37, s38, s39, s40, s41, s42, s43, s44, s45, s46, s47⟩
            go_simp
            with_reducible rfl
           rotate_left; · (simp only [Act.put, sT, sZ, sS, i64_w, i32_w]; rfl)
           refine pure_ (i := 8) (N := some 24) (v := ?_) (a' := ?_) #[I,I,I,I,I,I,I,I,I,O,O,O,O,O,O,O,O,O,O,O,O,O,O,O,O,O,O,O] rfl rfl (any_of HT_.out (by kernel_rfl)) (fun _ _ _ h => h) (Or.inl ⟨by rfl, ?_⟩) ?_ ?_; rotate_left; · (intro w'; go_simp; with_reducible rfl)
           rotate_left; · (simp only [Act.put, sT, sZ, sS, i64_w, i32_w]; rfl)
           refine pure_ (i := 9) (N := some 25) (v := ?_) (a' := ?_) #[I,I,I,I,I,I,I,I,I,I,O,O,O,O,O,O,O,O,O,O,O,O,O,O,O,O,O,O] rfl rfl (any_of HT_.out (by kernel_rfl)) (fun _ _ _ h => h) (Or.inl ⟨by rfl, ?_⟩) ?_ ?_; rotate_left; · (intro w'; go_simp; with_reducible rfl)
           rotate_left; · (simp only [Act.put, sT, sZ, sS, i64_w, i32_w]; rfl)
           refine pure_ (i := 10) (N := some 26) (v := ?_) (a' := ?_) #[I,I,I,I,I,I,I,I,I,I,I,O,O,O,O,O,O,O,O,O,O,O,O,O,O,O,O,O] rfl rfl (any_of HT_.out (by kernel_rfl)) (fun _ _ _ h => h) (Or.inl ⟨by rfl, ?_⟩) ?_ ?_; rotate_left; · (intro w'; go_simp; with_reducible rfl)
           rotate_left; · (simp only [Act.put, sT, sZ, sS, i64_w, i32_w]; rfl)
           refine pure_ (i := 11) (N := some 27) (v := ?_) (a' := ?_) #[I,I,I,I,I,I,I,I,I,I,I,I,O,O,O,O,O,O,O,O,O,O,O,O,O,O,O,O] rfl rfl (any_of HT_.out (by kernel_rfl)) (fun _ _ _ h => h) (Or.inl ⟨by rfl, ?_⟩) ?_ ?_; rotate_left; · (intro w'; go_simp; with_reducible rfl)
           rotate_left; · (simp only [Act.put, sT, sZ, sS, i64_w, i32_w]; rfl)
           refine pure_ (i := 12) (N := some 28) (v := ?_) (a' := ?_) #[I,I,I,I,I,I,I,I,I,I,I,I,I,O,O,O,O,O,O,O,O,O,O,O,O,O,O,O] rfl rfl (any_of HT_.out (by kernel_rfl)) (fun _ _ _ h => h) (Or.inl ⟨by rfl, ?_⟩) ?_ ?_; rotate_left; · (intro w'; go_simp; with_reducible rfl)
           rotate_left; · (simp only [Act.put, sT, sZ, sS, i64_w, i32_w]; rfl)
           refine pure_ (i := 13) (N := some 29) (v := ?_) (a' := ?_) #[I,I,I,I,I,I,I,I,I,I,I,I,I,I,O,O,O,O,O,O,O,O,O,O,O,O,O,O] rfl rfl (any_of HT_.out (by kernel_rfl)) (fun _ _ _ h => h) (Or.inl ⟨by rfl, ?_⟩) ?_ ?_; rotate_left; · (intro w'; go_simp; with_reducible rfl)
           rotate_left; · (simp only [Act.put, sT, sZ, sS, i64_w, i32_w]; rfl)
           refine pure_ (i := 14) (N := some 30) (v := ?_) (a' := ?_) #[I,I,I,I,I,I,I,I,I,I,I,I,I,I,I,O,O,O,O,O,O,O,O,O,O,O,O,O] rfl rfl (any_of HT_.out (by kernel_rfl)) (fun _ _ _ h => h) (Or.inl ⟨by rfl, ?_⟩) ?_ ?_; rotate_left; · (intro w'; go_simp; with_reducible rfl)
           rotate_left; · (simp only [Act.put, sT, sZ, sS, i64_w, i32_w]; rfl)
           refine pure_ (i := 15) (N := some 31) (v := ?_) (a' := ?_) #[I,I,I,I,I,I,I,I,I,I,I,I,I,I,I,I,O,O,O,O,O,O,O,O,O,O,O,O] rfl rfl (any_of HT_.out (by kernel_rfl)) (fun _ _ _ h => h) (Or.inl ⟨by rfl, ?_⟩) ?_ ?_; rotate_left; · (intro w'; go_simp; with_reducible rfl)
           rotate_left; · (simp only [Act.put, sT, sZ, sS, i64_w, i32_w]; rfl)
           refine pure_ (i := 16) (N := some 32) (v := ?_) (a' := ?_) #[I,I,I,I,I,I,I,I,I,I,I,I,I,I,I,I,I,O,O,O,O,O,O,O,O,O,O,O] rfl rfl (any_of HT_.out (by kernel_rfl)) (fun _ _ _ h => h) (Or.inl ⟨by rfl, ?_⟩) ?_ ?_; rotate_left; · (intro w'; go_simp; with_reducible rfl)
           rotate_left; · (simp only [Act.put, sT, sZ, sS, i64_w, i32_w]; rfl)
           refine pure_ (i := 17) (N := some 33) (v := ?_) (a' := ?_) #[I,I,I,I,I,I,I,I,I,I,I,I,I,I,I,I,I,I,O,O,O,O,O,O,O,O,O,O] rfl rfl (any_of HT_.out (by kernel_rfl)) (fun _ _ _ h => h) (Or.inl ⟨by rfl, ?_⟩) ?_ ?_; rotate_left; · (intro w'; go_simp; with_reducible rfl)
           rotate_left; · (simp only [Act.put, sT, sZ, sS, i64_w, i32_w]; rfl)
           refine pure_ (i := 19) (N := some 35) (v := ?_) (a' := ?_) #[I,I,I,I,I,I,I,I,I,I,I,I,I,I,I,I,I,I,O,I,O,O,O,O,O,O,O,O] rfl rfl (any_of HT_.out (by kernel_rfl)) (fun _ _ _ h => h) (Or.inl ⟨by rfl, ?_⟩) ?_ ?_; rotate_left; · (intro w'; go_simp; with_reducible rfl)
           rotate_left; · (simp only [Act.put, sT, sZ, sS, i64_w, i32_w]; rfl)
           refine pure_ (i := 20) (N := some 36) (v := ?_) (a' := ?_) #[I,I,I,I,I,I,I,I,I,I,I,I,I,I,I,I,I,I,O,I,I,O,O,O,O,O,O,O] rfl rfl (any_of HT_.out (by kernel_rfl)) (fun _ _ _ h => h) (Or.inl ⟨by rfl, ?_⟩) ?_ ?_; rotate_left; · (intro w'; go_simp; with_reducible rfl)
           rotate_left; · (simp only [Act.put, sT, sZ, sS, i64_w, i32_w]; rfl)
           refine pure_ (i := 21) (N := some 37) (v := ?_) (a' := ?_) #[I,I,I,I,I,I,I,I,I,I,I,I,I,I,I,I,I,I,O,I,I,I,O,O,O,O,O,O] rfl rfl (any_of HT_.out (by kernel_rfl)) (fun _ _ _ h => h) (Or.inl ⟨by rfl, ?_⟩) ?_ ?_; rotate_left; · (intro w'; go_simp; with_reducible rfl)
           rotate_left; · (simp only [Act.put, sT, sZ, sS, i64_w, i32_w]; rfl)
           refine pure_ (i := 22) (N := some 38) (v := ?_) (a' := ?_) #[I,I,I,I,I,I,I,I,I,I,I,I,I,I,I,I,I,I,O,I,I,I,I,O,O,O,O,O] rfl rfl (any_of HT_.out (by kernel_rfl)) (fun _ _ _ h => h) (Or.inl ⟨by rfl, ?_⟩) ?_ ?_; rotate_left; · (intro w'; go_simp; with_reducible rfl)
           rotate_left; · (simp only [Act.put, sT, sZ, sS, i64_w, i32_w]; rfl)
           refine pure_ (i := 23) (N := some 39) (v := ?_) (a' := ?_) #[I,I,I,I,I,I,I,I,I,I,I,I,I,I,I,I,I,I,O,I,I,I,I,I,O,O,O,O] rfl rfl (any_of HT_.out (by kernel_rfl)) (fun _ _ _ h => h) (Or.inl ⟨by rfl, ?_⟩) ?_ ?_; rotate_left; · (intro w'; go_simp; with_reducible rfl)
           rotate_left; · (simp only [Act.put, sT, sZ, sS, i64_w, i32_w]; rfl)
           refine take_ (i := 18) (N := some 34) (v := ?_) (a' := ?_) #[I,I,I,I,I,I,I,I,I,I,I,I,I,I,I,I,I,I,I,I,I,I,I,I,O,O,O,O] rfl rfl (take_ofW HT_.out HW_.out (by kernel_rfl)) (fun _ _ _ h => h) (Or.inl ⟨by rfl, ?_⟩) hHeld ?_ ?_; rotate_left
           ·rintro w' ⟨s0, s1, s2, s3, s4, s5, s6, s7, s8, s9, s10, s11, s12, s13, s14, s15, s16, s17, s18, s19, s20, s21, s22, s23, s24, s25, s26, s27, s28, s29, s30, s31, s32, s33, s34, s35, s36, s37, s38, s39, s40, s41, s42, s43, s44, s45, s46, s47⟩
            go_simp
            with_reducible rfl
           rotate_left; · (simp only [Act.put, sT, sZ, sS, i64_w, i32_w]; rfl)
           refine take_ (i := 24) (N := some 40) (v := ?_) (a' := ?_) #[I,I,I,I,I,I,I,I,I,I,I,I,I,I,I,I,I,I,I,I,I,I,I,I,I,O,O,O] rfl rfl (take_ofW HT_.out HW_.out (by kernel_rfl)) (fun _ _ _ h => h) (Or.inl ⟨by rfl, ?_⟩) hHeld ?_ ?_; rotate_left
           ·rintro w' ⟨s0, s1, s2, s3, s4, s5, s6, s7, s8, s9, s10, s11, s12, s13, s14, s15, s16, s17, s18, s19, s20, s21, s22, s23, s24, s25, s26, s27, s28, s29, s30, s31, s32, s33, s34, s35, s36, s37, s38, s39, s40, s41, s42, s43, s44, s45, s46, s47⟩
            go_simp
            with_reducible rfl
           rotate_left; · (simp only [Act.put, sT, sZ, sS, i64_w, i32_w]; rfl)
           refine pure_ (i := 25) (N := some 41) (v := ?_) (a' := ?_) #[I,I,I,I,I,I,I,I,I,I,I,I,I,I,I,I,I,I,I,I,I,I,I,I,I,I,O,O] rfl rfl (any_of HT_.out (by kernel_rfl)) (fun _ _ _ h => h) (Or.inl ⟨by rfl, ?_⟩) ?_ ?_; rotate_left; · (intro w'; go_simp; with_reducible rfl)
           rotate_left; · (simp only [Act.put, sT, sZ, sS, i64_w, i32_w]; rfl)
           refine pure_ (i := 26) (N := some 42) (v := ?_) (a' := ?_) #[I,I,I,I,I,I,I,I,I,I,I,I,I,I,I,I,I,I,I,I,I,I,I,I,I,I,I,O] rfl rfl (any_of HT_.out (by kernel_rfl)) (fun _ _ _ h => h) (Or.inl ⟨by rfl, ?_⟩) ?_ ?_; rotate_left; · (intro w'; go_simp; with_reducible rfl)
           rotate_left; · (simp only [Act.put, sT, sZ, sS, i64_w, i32_w]; rfl)
           refine pure_ (i := 27) (N := some 43) (v := ?_) (a' := ?_) #[I,I,I,I,I,I,I,I,I,I,I,I,I,I,I,I,I,I,I,I,I,I,I,I,I,I,I,I] rfl rfl (any_of HT_.out (by kernel_rfl)) (fun _ _ _ h => h) (Or.inl ⟨by rfl, ?_⟩) ?_ ?_; rotate_left; · (intro w'; go_simp; with_reducible rfl)
           rotate_left; · (simp only [Act.put, sT, sZ, sS, i64_w, i32_w]; rfl)
           refine done_ (done_of HT_.out (by kernel_rfl)) ?_
           try go_wp2
           go_meet
           case rel => exact ⟨k1, (decide (((rd_T37 l0 x3_0).f0) ≤ ((rd_T37 l0 j528).f0))), (by first | rfl | (simp; done) | (simp [*]; done)), H', ⟨by have := HQ1.out; omega⟩, HS, HK⟩
          ·rw [if_neg c9] at H
           exact absurd H (by simp)
         ·rw [if_neg c8] at H
          exact absurd H (by simp)
        ·rw [if_neg c7] at H
         have c7b0 : decide (0 < x3_0) = false := decide_eq_false c7
         clear c7
         have H' := Aside0.mk H
         clear H
         try go_wp2
         have pq526 : 0 ≤ (x3_0 : Int) := of_decide_eq_true (by first | (with_reducible assumption) | assumption)
         have qq526 : x3_0 < ((l0.length : Int) : Int) := of_decide_eq_true (by first | (with_reducible assumption) | assumption)
         obtain ⟨adq526, eq526, hxq526_0, hxq526_1, hxq526_2, hxq526_3, hxq526_4, hxq526_5, hxq526_6, hxq526_7, hxq526_8, hxq526_9, hxq526_10, hxq526_11, hxq526_12, hxq526_13, hxq526_14, hxq526_15⟩ := at_T37 (RO.at_ HR0.out HK.out) x3_0 pq526 qq526
         obtain rfl : adq524 = adq526 := (by injection eq526)
         replace pq526 := eq_true pq526
         replace qq526 := eq_true qq526
         refine start_ (n := 28) (S := fun w' => w'.cell? (adq524.add (x3_0.toNat * 16)) = some (.int .i64 ((rd_T37 l0 x3_0).f0)) ∧ w'.cell? ⟨(adq524.add (x3_0.toNat * 16)).block, (adq524.add (x3_0.toNat * 16)).off + 1, none⟩ = some (.int .i64 ((rd_T37 l0 x3_0).f1.f0)) ∧ w'.cell? ⟨(adq524.add (x3_0.toNat * 16)).block, (adq524.add (x3_0.toNat * 16)).off + 2, none⟩ = some (.int .i64 ((rd_T37 l0 x3_0).f1.f1.f0)) ∧ w'.cell? ⟨(adq524.add (x3_0.toNat * 16)).block, (adq524.add (x3_0.toNat * 16)).off + 3, none⟩ = some (.int .i64 ((rd_T37 l0 x3_0).f1.f1.f1)) ∧ w'.cell? ⟨(adq524.add (x3_0.toNat * 16)).block, (adq524.add (x3_0.toNat * 16)).off + 4, none⟩ = some (.int .i64 ((rd_T37 l0 x3_0).f1.f2.f0)) ∧ w'.cell? ⟨(adq524.add (x3_0.toNat * 16)).block, (adq524.add (x3_0.toNat * 16)).off + 5, none⟩ = some (.int .i64 ((rd_T37 l0 x3_0).f1.f2.f1)) ∧ w'.cell? ⟨(adq524.add (x3_0.toNat * 16)).block, (adq524.add (x3_0.toNat * 16)).off + 6, none⟩ = some (.int .i64 ((rd_T37 l0 x3_0).f1.f3)) ∧ w'.cell? ⟨(adq524.add (x3_0.toNat * 16)).block, (adq524.add (x3_0.toNat * 16)).off + 7, none⟩ = some (.int .i64 ((rd_T37 l0 x3_0).f1.f4)) ∧ w'.cell? ⟨(adq524.add (x3_0.toNat * 16)).block, (adq524.add (x3_0.toNat * 16)).off + 8, none⟩ = some (.int .i64 ((rd_T37 l0 x3_0).f2)) ∧ w'.cell? ⟨(adq524.add (x3_0.toNat * 16)).block, (adq524.add (x3_0.toNat * 16)).off + 9, none⟩ = some (.int .i64 ((rd_T37 l0 x3_0).f3)) ∧ w'.cell? ⟨(adq524.add (x3_0.toNat * 16)).block, (adq524.add (x3_0.toNat * 16)).off + 10, none⟩ = some (.int .i64 ((rd_T37 l0 x3_0).f4)) ∧ w'.cell? ⟨(adq524.add (x3_0.toNat * 16)).block, (adq524.add (x3_0.toNat * 16)).off + 11, none⟩ = some (.int .i64 ((rd_T37 l0 x3_0).f5.f0)) ∧ w'.cell? ⟨(adq524.add (x3_0.toNat * 16)).block, (adq524.add (x3_0.toNat * 16)).off + 12, none⟩ = some (.int .i64 ((rd_T37 l0 x3_0).f5.f1)) ∧ w'.cell? ⟨(adq524.add (x3_0.toNat * 16)).block, (adq524.add (x3_0.toNat * 16)).off + 13, none⟩ = some (.int .i64 ((rd_T37 l0 x3_0).f5.f2)) ∧ w'.cell? ⟨(adq524.add (x3_0.toNat * 16)).block, (adq524.add (x3_0.toNat * 16)).off + 14, none⟩ = some (.int .i64 ((rd_T37 l0 x3_0).f6)) ∧ w'.cell? ⟨(adq524.add (x3_0.toNat * 16)).block, (adq524.add (x3_0.toNat * 16)).off + 15, none⟩ = some (.int .i64 ((rd_T37 l0 x3_0).f7))) (ds := []) #[O,O,O,O,O,O,O,O,O,O,O,O,O,O,O,O,O,O,O,O,O,O,O,O,O,O,O,O] (by kernel_rfl) rfl rfl ⟨(by obtain ⟨a_, e_, h0_, h1_, h2_, h3_, h4_, h5_, h6_, h7_, h8_, h9_, h10_, h11_, h12_, h13_, h14_, h15_⟩ := at_T37 (RO.at_ HR0.out HK.out) x3_0 (of_eq_true pq526) (of_eq_true qq526); obtain rfl := Option.some.inj e_; exact h0_), (by obtain ⟨a_, e_, h0_, h1_, h2_, h3_, h4_, h5_, h6_, h7_, h8_, h9_, h10_, h11_, h12_, h13_, h14_, h15_⟩ := at_T37 (RO.at_ HR0.out HK.out) x3_0 (of_eq_true pq526) (of_eq_true qq526); obtain rfl := Option.some.inj e_; exact h1_), (by obtain ⟨a_, e_, h0_, h1_, h2_, h3_, h4_, h5_, h6_, h7_, h8_, h9_, h10_, h11_, h12_, h13_, h14_, h15_⟩ := at_T37 (RO.at_ HR0.out HK.out) x3_0 (of_eq_true pq526) (of_eq_true qq526); obtain rfl := Option.some.inj e_; exact h2_), (by obtain ⟨a_, e_, h0_, h1_, h2_, h3_, h4_, h5_, h6_, h7_, h8_, h9_, h10_, h11_, h12_, h13_, h14_, h15_⟩ := at_T37 (RO.at_ HR0.out HK.out) x3_0 (of_eq_true pq526) (of_eq_true qq526); obtain rfl := Option.some.inj e_; exact h3_), (by obtain ⟨a_, e_, h0_, h1_, h2_, h3_, h4_, h5_, h6_, h7_, h8_, h9_, h10_, h11_, h12_, h13_, h14_, h15_⟩ := at_T37 (RO.at_ HR0.out HK.out) x3_0 (of_eq_true pq526) (of_eq_true qq526); obtain rfl := Option.some.inj e_; exact h4_), (by obtain ⟨a_, e_, h0_, h1_, h2_, h3_, h4_, h5_, h6_, h7_, h8_, h9_, h10_, h11_, h12_, h13_, h14_, h15_⟩ := at_T37 (RO.at_ HR0.out HK.out) x3_0 (of_eq_true pq526) (of_eq_true qq526); obtain rfl := Option.some.inj e_; exact h5_), (by obtain ⟨a_, e_, h0_, h1_, h2_, h3_, h4_, h5_, h6_, h7_, h8_, h9_, h10_, h11_, h12_, h13_, h14_, h15_⟩ := at_T37 (RO.at_ HR0.out HK.out) x3_0 (of_eq_true pq526) (of_eq_true qq526); obtain rfl := Option.some.inj e_; exact h6_), (by obtain ⟨a_, e_, h0_, h1_, h2_, h3_, h4_, h5_, h6_, h7_, h8_, h9_, h10_, h11_, h12_, h13_, h14_, h15_⟩ := at_T37 (RO.at_ HR0.out HK.out) x3_0 (of_eq_true pq526) (of_eq_true qq526); obtain rfl := Option.some.inj e_; exact h7_), (by obtain ⟨a_, e_, h0_, h1_, h2_, h3_, h4_, h5_, h6_, h7_, h8_, h9_, h10_, h11_, h12_, h13_, h14_, h15_⟩ := at_T37 (RO.at_ HR0.out HK.out) x3_0 (of_eq_true pq526) (of_eq_true qq526); obtain rfl := Option.some.inj e_; exact h8_), (by obtain ⟨a_, e_, h0_, h1_, h2_, h3_, h4_, h5_, h6_, h7_, h8_, h9_, h10_, h11_, h12_, h13_, h14_, h15_⟩ := at_T37 (RO.at_ HR0.out HK.out) x3_0 (of_eq_true pq526) (of_eq_true qq526); obtain rfl := Option.some.inj e_; exact h9_), (by obtain ⟨a_, e_, h0_, h1_, h2_, h3_, h4_, h5_, h6_, h7_, h8_, h9_, h10_, h11_, h12_, h13_, h14_, h15_⟩ := at_T37 (RO.at_ HR0.out HK.out) x3_0 (of_eq_true pq526) (of_eq_true qq526); obtain rfl := Option.some.inj e_; exact h10_), (by obtain ⟨a_, e_, h0_, h1_, h2_, h3_, h4_, h5_, h6_, h7_, h8_, h9_, h10_, h11_, h12_, h13_, h14_, h15_⟩ := at_T37 (RO.at_ HR0.out HK.out) x3_0 (of_eq_true pq526) (of_eq_true qq526); obtain rfl := Option.some.inj e_; exact h11_), (by obtain ⟨a_, e_, h0_, h1_, h2_, h3_, h4_, h5_, h6_, h7_, h8_, h9_, h10_, h11_, h12_, h13_, h14_, h15_⟩ := at_T37 (RO.at_ HR0.out HK.out) x3_0 (of_eq_true pq526) (of_eq_true qq526); obtain rfl := Option.some.inj e_; exact h12_), (by obtain ⟨a_, e_, h0_, h1_, h2_, h3_, h4_, h5_, h6_, h7_, h8_, h9_, h10_, h11_, h12_, h13_, h14_, h15_⟩ := at_T37 (RO.at_ HR0.out HK.out) x3_0 (of_eq_true pq526) (of_eq_true qq526); obtain rfl := Option.some.inj e_; exact h13_), (by obtain ⟨a_, e_, h0_, h1_, h2_, h3_, h4_, h5_, h6_, h7_, h8_, h9_, h10_, h11_, h12_, h13_, h14_, h15_⟩ := at_T37 (RO.at_ HR0.out HK.out) x3_0 (of_eq_true pq526) (of_eq_true qq526); obtain rfl := Option.some.inj e_; exact h14_), (by obtain ⟨a_, e_, h0_, h1_, h2_, h3_, h4_, h5_, h6_, h7_, h8_, h9_, h10_, h11_, h12_, h13_, h14_, h15_⟩ := at_T37 (RO.at_ HR0.out HK.out) x3_0 (of_eq_true pq526) (of_eq_true qq526); obtain rfl := Option.some.inj e_; exact h15_)⟩ (fun hHeld => ?_); refine with_tabW barrowref33_Right.tab5 barrowref33_Right.bits5 (fun HT_ HW_ => ?_)
         replace HK := Aside0.mk (Keep.drew HK.out)
         replace HS := Aside0.mk (SL.drew HS.out)
         refine pure_ (i := 0) (N := some 16) (v := ?_) (a' := ?_) #[I,O,O,O,O,O,O,O,O,O,O,O,O,O,O,O,O,O,O,O,O,O,O,O,O,O,O,O] rfl rfl (any_of HT_.out (by kernel_rfl)) (fun _ _ _ h => h) (Or.inl ⟨by rfl, ?_⟩) ?_ ?_; rotate_left; · (intro w'; go_simp; with_reducible rfl)
         rotate_left; · (simp only [Act.put, sT, sZ, sS, i64_w, i32_w]; rfl)
         refine pure_ (i := 1) (N := some 17) (v := ?_) (a' := ?_) #[I,I,O,O,O,O,O,O,O,O,O,O,O,O,O,O,O,O,O,O,O,O,O,O,O,O,O,O] rfl rfl (any_of HT_.out (by kernel_rfl)) (fun _ _ _ h => h) (Or.inl ⟨by rfl, ?_⟩) ?_ ?_; rotate_left; · (intro w'; go_simp; with_reducible rfl)
         rotate_left; · (simp only [Act.put, sT, sZ, sS, i64_w, i32_w]; rfl)
         refine pure_ (i := 2) (N := some 18) (v := ?_) (a' := ?_) #[I,I,I,O,O,O,O,O,O,O,O,O,O,O,O,O,O,O,O,O,O,O,O,O,O,O,O,O] rfl rfl (any_of HT_.out (by kernel_rfl)) (fun _ _ _ h => h) (Or.inl ⟨by rfl, ?_⟩) ?_ ?_; rotate_left; · (intro w'; go_simp; with_reducible rfl)
         rotate_left; · (simp only [Act.put, sT, sZ, sS, i64_w, i32_w]; rfl)
         refine pure_ (i := 3) (N := some 19) (v := ?_) (a' := ?_) #[I,I,I,I,O,O,O,O,O,O,O,O,O,O,O,O,O,O,O,O,O,O,O,O,O,O,O,O] rfl rfl (any_of HT_.out (by kernel_rfl)) (fun _ _ _ h => h) (Or.inl ⟨by rfl, ?_⟩) ?_ ?_; rotate_left; · (intro w'; go_simp; with_reducible rfl)
         rotate_left; · (simp only [Act.put, sT, sZ, sS, i64_w, i32_w]; rfl)
         refine pure_ (i := 4) (N := some 20) (v := ?_) (a' := ?_) #[I,I,I,I,I,O,O,O,O,O,O,O,O,O,O,O,O,O,O,O,O,O,O,O,O,O,O,O] rfl rfl (any_of HT_.out (by kernel_rfl)) (fun _ _ _ h => h) (Or.inl ⟨by rfl, ?_⟩) ?_ ?_; rotate_left; · (intro w'; go_simp; with_reducible rfl)
         rotate_left; · (simp only [Act.put, sT, sZ, sS, i64_w, i32_w]; rfl)
         refine pure_ (i := 5) (N := some 21) (v := ?_) (a' := ?_) #[I,I,I,I,I,I,O,O,O,O,O,O,O,O,O,O,O,O,O,O,O,O,O,O,O,O,O,O] rfl rfl (any_of HT_.out (by kernel_rfl)) (fun _ _ _ h => h) (Or.inl ⟨by rfl, ?_⟩) ?_ ?_; rotate_left; · (intro w'; go_simp; with_reducible rfl)
         rotate_left; · (simp only [Act.put, sT, sZ, sS, i64_w, i32_w]; rfl)
         refine pure_ (i := 6) (N := some 22) (v := ?_) (a' := ?_) #[I,I,I,I,I,I,I,O,O,O,O,O,O,O,O,O,O,O,O,O,O,O,O,O,O,O,O,O] rfl rfl (any_of HT_.out (by kernel_rfl)) (fun _ _ _ h => h) (Or.inl ⟨by rfl, ?_⟩) ?_ ?_; rotate_left; · (intro w'; go_simp; with_reducible rfl)
         rotate_left; · (simp only [Act.put, sT, sZ, sS, i64_w, i32_w]; rfl)
         refine take_ (i := 7) (N := some 23) (v := ?_) (a' := ?_) #[I,I,I,I,I,I,I,I,O,O,O,O,O,O,O,O,O,O,O,O,O,O,O,O,O,O,O,O] rfl rfl (take_ofW HT_.out HW_.out (by kernel_rfl)) (fun _ _ _ h => h) (Or.inl ⟨by rfl, ?_⟩) hHeld ?_ ?_; rotate_left
         ·rintro w' ⟨s0, s1, s2, s3, s4, s5, s6, s7, s8, s9, s10, s11, s12, s13, s14, s15⟩
          go_simp
          with_reducible rfl
         rotate_left; · (simp only [Act.put, sT, sZ, sS, i64_w, i32_w]; rfl)
         refine pure_ (i := 8) (N := some 24) (v := ?_) (a' := ?_) #[I,I,I,I,I,I,I,I,I,O,O,O,O,O,O,O,O,O,O,O,O,O,O,O,O,O,O,O] rfl rfl (any_of HT_.out (by kernel_rfl)) (fun _ _ _ h => h) (Or.inl ⟨by rfl, ?_⟩) ?_ ?_; rotate_left; · (intro w'; go_simp; with_reducible rfl)
         rotate_left; · (simp only [Act.put, sT, sZ, sS, i64_w, i32_w]; rfl)
         refine pure_ (i := 9) (N := some 25) (v := ?_) (a' := ?_) #[I,I,I,I,I,I,I,I,I,I,O,O,O,O,O,O,O,O,O,O,O,O,O,O,O,O,O,O] rfl rfl (any_of HT_.out (by kernel_rfl)) (fun _ _ _ h => h) (Or.inl ⟨by rfl, ?_⟩) ?_ ?_; rotate_left; · (intro w'; go_simp; with_reducible rfl)
         rotate_left; · (simp only [Act.put, sT, sZ, sS, i64_w, i32_w]; rfl)
         refine pure_ (i := 10) (N := some 26) (v := ?_) (a' := ?_) #[I,I,I,I,I,I,I,I,I,I,I,O,O,O,O,O,O,O,O,O,O,O,O,O,O,O,O,O] rfl rfl (any_of HT_.out (by kernel_rfl)) (fun _ _ _ h => h) (Or.inl ⟨by rfl, ?_⟩) ?_ ?_; rotate_left; · (intro w'; go_simp; with_reducible rfl)
         rotate_left; · (simp only [Act.put, sT, sZ, sS, i64_w, i32_w]; rfl)
         refine pure_ (i := 11) (N := some 27) (v := ?_) (a' := ?_) #[I,I,I,I,I,I,I,I,I,I,I,I,O,O,O,O,O,O,O,O,O,O,O,O,O,O,O,O] rfl rfl (any_of HT_.out (by kernel_rfl)) (fun _ _ _ h => h) (Or.inl ⟨by rfl, ?_⟩) ?_ ?_; rotate_left; · (intro w'; go_simp; with_reducible rfl)
         rotate_left; · (simp only [Act.put, sT, sZ, sS, i64_w, i32_w]; rfl)
         refine pure_ (i := 12) (N := some 28) (v := ?_) (a' := ?_) #[I,I,I,I,I,I,I,I,I,I,I,I,I,O,O,O,O,O,O,O,O,O,O,O,O,O,O,O] rfl rfl (any_of HT_.out (by kernel_rfl)) (fun _ _ _ h => h) (Or.inl ⟨by rfl, ?_⟩) ?_ ?_; rotate_left; · (intro w'; go_simp; with_reducible rfl)
         rotate_left; · (simp only [Act.put, sT, sZ, sS, i64_w, i32_w]; rfl)
         refine pure_ (i := 13) (N := some 29) (v := ?_) (a' := ?_) #[I,I,I,I,I,I,I,I,I,I,I,I,I,I,O,O,O,O,O,O,O,O,O,O,O,O,O,O] rfl rfl (any_of HT_.out (by kernel_rfl)) (fun _ _ _ h => h) (Or.inl ⟨by rfl, ?_⟩) ?_ ?_; rotate_left; · (intro w'; go_simp; with_reducible rfl)
         rotate_left; · (simp only [Act.put, sT, sZ, sS, i64_w, i32_w]; rfl)
         refine pure_ (i := 14) (N := some 30) (v := undef) (a' := ?_) #[I,I,I,I,I,I,I,I,I,I,I,I,I,I,I,O,O,O,O,O,O,O,O,O,O,O,O,O] rfl rfl (any_of HT_.out (by kernel_rfl)) (fun _ _ _ h => h) (Or.inr ⟨by rfl, rfl⟩) ?_ ?_; rotate_left; · (simp only [Act.put, sT, sZ, sS, i64_w, i32_w]; rfl)
         refine pure_ (i := 15) (N := some 31) (v := undef) (a' := ?_) #[I,I,I,I,I,I,I,I,I,I,I,I,I,I,I,I,O,O,O,O,O,O,O,O,O,O,O,O] rfl rfl (any_of HT_.out (by kernel_rfl)) (fun _ _ _ h => h) (Or.inr ⟨by rfl, rfl⟩) ?_ ?_; rotate_left; · (simp only [Act.put, sT, sZ, sS, i64_w, i32_w]; rfl)
         refine pure_ (i := 16) (N := some 32) (v := undef) (a' := ?_) #[I,I,I,I,I,I,I,I,I,I,I,I,I,I,I,I,I,O,O,O,O,O,O,O,O,O,O,O] rfl rfl (any_of HT_.out (by kernel_rfl)) (fun _ _ _ h => h) (Or.inr ⟨by rfl, rfl⟩) ?_ ?_; rotate_left; · (simp only [Act.put, sT, sZ, sS, i64_w, i32_w]; rfl)
         refine pure_ (i := 17) (N := some 33) (v := undef) (a' := ?_) #[I,I,I,I,I,I,I,I,I,I,I,I,I,I,I,I,I,I,O,O,O,O,O,O,O,O,O,O] rfl rfl (any_of HT_.out (by kernel_rfl)) (fun _ _ _ h => h) (Or.inr ⟨by rfl, rfl⟩) ?_ ?_; rotate_left; · (simp only [Act.put, sT, sZ, sS, i64_w, i32_w]; rfl)
         refine pure_ (i := 18) (N := some 34) (v := undef) (a' := ?_) #[I,I,I,I,I,I,I,I,I,I,I,I,I,I,I,I,I,I,I,O,O,O,O,O,O,O,O,O] rfl rfl (any_of HT_.out (by kernel_rfl)) (fun _ _ _ h => h) (Or.inr ⟨by rfl, rfl⟩) ?_ ?_; rotate_left; · (simp only [Act.put, sT, sZ, sS, i64_w, i32_w]; rfl)
         refine pure_ (i := 19) (N := some 35) (v := undef) (a' := ?_) #[I,I,I,I,I,I,I,I,I,I,I,I,I,I,I,I,I,I,I,I,O,O,O,O,O,O,O,O] rfl rfl (any_of HT_.out (by kernel_rfl)) (fun _ _ _ h => h) (Or.inr ⟨by rfl, rfl⟩) ?_ ?_; rotate_left; · (simp only [Act.put, sT, sZ, sS, i64_w, i32_w]; rfl)
         refine pure_ (i := 20) (N := some 36) (v := undef) (a' := ?_) #[I,I,I,I,I,I,I,I,I,I,I,I,I,I,I,I,I,I,I,I,I,O,O,O,O,O,O,O] rfl rfl (any_of HT_.out (by kernel_rfl)) (fun _ _ _ h => h) (Or.inr ⟨by rfl, rfl⟩) ?_ ?_; rotate_left; · (simp only [Act.put, sT, sZ, sS, i64_w, i32_w]; rfl)
         refine pure_ (i := 21) (N := some 37) (v := undef) (a' := ?_) #[I,I,I,I,I,I,I,I,I,I,I,I,I,I,I,I,I,I,I,I,I,I,O,O,O,O,O,O] rfl rfl (any_of HT_.out (by kernel_rfl)) (fun _ _ _ h => h) (Or.inr ⟨by rfl, rfl⟩) ?_ ?_; rotate_left; · (simp only [Act.put, sT, sZ, sS, i64_w, i32_w]; rfl)
         refine pure_ (i := 22) (N := some 38) (v := undef) (a' := ?_) #[I,I,I,I,I,I,I,I,I,I,I,I,I,I,I,I,I,I,I,I,I,I,I,O,O,O,O,O] rfl rfl (any_of HT_.out (by kernel_rfl)) (fun _ _ _ h => h) (Or.inr ⟨by rfl, rfl⟩) ?_ ?_; rotate_left; · (simp only [Act.put, sT, sZ, sS, i64_w, i32_w]; rfl)
         refine pure_ (i := 23) (N := some 39) (v := undef) (a' := ?_) #[I,I,I,I,I,I,I,I,I,I,I,I,I,I,I,I,I,I,I,I,I,I,I,I,O,O,O,O] rfl rfl (any_of HT_.out (by kernel_rfl)) (fun _ _ _ h => h) (Or.inr ⟨by rfl, rfl⟩) ?_ ?_; rotate_left; · (simp only [Act.put, sT, sZ, sS, i64_w, i32_w]; rfl)
         refine pure_ (i := 24) (N := some 40) (v := undef) (a' := ?_) #[I,I,I,I,I,I,I,I,I,I,I,I,I,I,I,I,I,I,I,I,I,I,I,I,I,O,O,O] rfl rfl (any_of HT_.out (by kernel_rfl)) (fun _ _ _ h => h) (Or.inr ⟨by rfl, rfl⟩) ?_ ?_; rotate_left; · (simp only [Act.put, sT, sZ, sS, i64_w, i32_w]; rfl)
         refine pure_ (i := 25) (N := some 41) (v := undef) (a' := ?_) #[I,I,I,I,I,I,I,I,I,I,I,I,I,I,I,I,I,I,I,I,I,I,I,I,I,I,O,O] rfl rfl (any_of HT_.out (by kernel_rfl)) (fun _ _ _ h => h) (Or.inr ⟨by rfl, rfl⟩) ?_ ?_; rotate_left; · (simp only [Act.put, sT, sZ, sS, i64_w, i32_w]; rfl)
         refine pure_ (i := 26) (N := some 42) (v := ?_) (a' := ?_) #[I,I,I,I,I,I,I,I,I,I,I,I,I,I,I,I,I,I,I,I,I,I,I,I,I,I,I,O] rfl rfl (any_of HT_.out (by kernel_rfl)) (fun _ _ _ h => h) (Or.inl ⟨by rfl, ?_⟩) ?_ ?_; rotate_left; · (intro w'; go_simp; with_reducible rfl)
         rotate_left; · (simp only [Act.put, sT, sZ, sS, i64_w, i32_w]; rfl)
         refine pure_ (i := 27) (N := some 43) (v := ?_) (a' := ?_) #[I,I,I,I,I,I,I,I,I,I,I,I,I,I,I,I,I,I,I,I,I,I,I,I,I,I,I,I] rfl rfl (any_of HT_.out (by kernel_rfl)) (fun _ _ _ h => h) (Or.inl ⟨by rfl, ?_⟩) ?_ ?_; rotate_left; · (intro w'; go_simp; with_reducible rfl)
         rotate_left; · (simp only [Act.put, sT, sZ, sS, i64_w, i32_w]; rfl)
         refine done_ (done_of HT_.out (by kernel_rfl)) ?_
         try go_wp2
         go_meet
         case rel => exact ⟨k1, (false), (by first | rfl | (simp; done) | (simp [*]; done)), H', ⟨by have := HQ1.out; omega⟩, HS, HK⟩
      ·replace c5 := Bool.eq_false_iff.mpr c5
       subst c5
       rw [if_neg (show ¬ (false = true) by decide)] at H
       have H' := Aside0.mk H
       clear H
       try go_wp2
       refine start_ (n := 28) (S := fun w' => True) (ds := []) #[O,O,O,O,O,O,O,O,O,O,O,O,O,O,O,O,O,O,O,O,O,O,O,O,O,O,O,O] (by kernel_rfl) rfl rfl trivial (fun hHeld => ?_); refine with_tabW barrowref33_Right.tab5 barrowref33_Right.bits5 (fun HT_ HW_ => ?_)
       replace HK := Aside0.mk (Keep.drew HK.out)
       replace HS := Aside0.mk (SL.drew HS.out)
       refine pure_ (i := 0) (N := some 16) (v := ?_) (a' := ?_) #[I,O,O,O,O,O,O,O,O,O,O,O,O,O,O,O,O,O,O,O,O,O,O,O,O,O,O,O] rfl rfl (any_of HT_.out (by kernel_rfl)) (fun _ _ _ h => h) (Or.inl ⟨by rfl, ?_⟩) ?_ ?_; rotate_left; · (intro w'; go_simp; with_reducible rfl)
       rotate_left; · (simp only [Act.put, sT, sZ, sS, i64_w, i32_w]; rfl)
       refine pure_ (i := 1) (N := some 17) (v := ?_) (a' := ?_) #[I,I,O,O,O,O,O,O,O,O,O,O,O,O,O,O,O,O,O,O,O,O,O,O,O,O,O,O] rfl rfl (any_of HT_.out (by kernel_rfl)) (fun _ _ _ h => h) (Or.inl ⟨by rfl, ?_⟩) ?_ ?_; rotate_left; · (intro w'; go_simp; with_reducible rfl)
       rotate_left; · (simp only [Act.put, sT, sZ, sS, i64_w, i32_w]; rfl)
       refine pure_ (i := 2) (N := some 18) (v := ?_) (a' := ?_) #[I,I,I,O,O,O,O,O,O,O,O,O,O,O,O,O,O,O,O,O,O,O,O,O,O,O,O,O] rfl rfl (any_of HT_.out (by kernel_rfl)) (fun _ _ _ h => h) (Or.inl ⟨by rfl, ?_⟩) ?_ ?_; rotate_left; · (intro w'; go_simp; with_reducible rfl)
       rotate_left; · (simp only [Act.put, sT, sZ, sS, i64_w, i32_w]; rfl)
       refine pure_ (i := 3) (N := some 19) (v := undef) (a' := ?_) #[I,I,I,I,O,O,O,O,O,O,O,O,O,O,O,O,O,O,O,O,O,O,O,O,O,O,O,O] rfl rfl (any_of HT_.out (by kernel_rfl)) (fun _ _ _ h => h) (Or.inr ⟨by rfl, rfl⟩) ?_ ?_; rotate_left; · (simp only [Act.put, sT, sZ, sS, i64_w, i32_w]; rfl)
       refine pure_ (i := 4) (N := some 20) (v := undef) (a' := ?_) #[I,I,I,I,I,O,O,O,O,O,O,O,O,O,O,O,O,O,O,O,O,O,O,O,O,O,O,O] rfl rfl (any_of HT_.out (by kernel_rfl)) (fun _ _ _ h => h) (Or.inr ⟨by rfl, rfl⟩) ?_ ?_; rotate_left; · (simp only [Act.put, sT, sZ, sS, i64_w, i32_w]; rfl)
       refine pure_ (i := 5) (N := some 21) (v := undef) (a' := ?_) #[I,I,I,I,I,I,O,O,O,O,O,O,O,O,O,O,O,O,O,O,O,O,O,O,O,O,O,O] rfl rfl (any_of HT_.out (by kernel_rfl)) (fun _ _ _ h => h) (Or.inr ⟨by rfl, rfl⟩) ?_ ?_; rotate_left; · (simp only [Act.put, sT, sZ, sS, i64_w, i32_w]; rfl)
       refine pure_ (i := 6) (N := some 22) (v := undef) (a' := ?_) #[I,I,I,I,I,I,I,O,O,O,O,O,O,O,O,O,O,O,O,O,O,O,O,O,O,O,O,O] rfl rfl (any_of HT_.out (by kernel_rfl)) (fun _ _ _ h => h) (Or.inr ⟨by rfl, rfl⟩) ?_ ?_; rotate_left; · (simp only [Act.put, sT, sZ, sS, i64_w, i32_w]; rfl)
       refine pure_ (i := 7) (N := some 23) (v := undef) (a' := ?_) #[I,I,I,I,I,I,I,I,O,O,O,O,O,O,O,O,O,O,O,O,O,O,O,O,O,O,O,O] rfl rfl (any_of HT_.out (by kernel_rfl)) (fun _ _ _ h => h) (Or.inr ⟨by rfl, rfl⟩) ?_ ?_; rotate_left; · (simp only [Act.put, sT, sZ, sS, i64_w, i32_w]; rfl)
       refine pure_ (i := 8) (N := some 24) (v := undef) (a' := ?_) #[I,I,I,I,I,I,I,I,I,O,O,O,O,O,O,O,O,O,O,O,O,O,O,O,O,O,O,O] rfl rfl (any_of HT_.out (by kernel_rfl)) (fun _ _ _ h => h) (Or.inr ⟨by rfl, rfl⟩) ?_ ?_; rotate_left; · (simp only [Act.put, sT, sZ, sS, i64_w, i32_w]; rfl)
       refine pure_ (i := 9) (N := some 25) (v := ?_) (a' := ?_) #[I,I,I,I,I,I,I,I,I,I,O,O,O,O,O,O,O,O,O,O,O,O,O,O,O,O,O,O] rfl rfl (any_of HT_.out (by kernel_rfl)) (fun _ _ _ h => h) (Or.inl ⟨by rfl, ?_⟩) ?_ ?_; rotate_left; · (intro w'; go_simp; with_reducible rfl)
       rotate_left; · (simp only [Act.put, sT, sZ, sS, i64_w, i32_w]; rfl)
       refine pure_ (i := 10) (N := some 26) (v := ?_) (a' := ?_) #[I,I,I,I,I,I,I,I,I,I,I,O,O,O,O,O,O,O,O,O,O,O,O,O,O,O,O,O] rfl rfl (any_of HT_.out (by kernel_rfl)) (fun _ _ _ h => h) (Or.inl ⟨by rfl, ?_⟩) ?_ ?_; rotate_left; · (intro w'; go_simp; with_reducible rfl)
       rotate_left; · (simp only [Act.put, sT, sZ, sS, i64_w, i32_w]; rfl)
       refine pure_ (i := 11) (N := some 27) (v := undef) (a' := ?_) #[I,I,I,I,I,I,I,I,I,I,I,I,O,O,O,O,O,O,O,O,O,O,O,O,O,O,O,O] rfl rfl (any_of HT_.out (by kernel_rfl)) (fun _ _ _ h => h) (Or.inr ⟨by rfl, rfl⟩) ?_ ?_; rotate_left; · (simp only [Act.put, sT, sZ, sS, i64_w, i32_w]; rfl)
       refine pure_ (i := 12) (N := some 28) (v := undef) (a' := ?_) #[I,I,I,I,I,I,I,I,I,I,I,I,I,O,O,O,O,O,O,O,O,O,O,O,O,O,O,O] rfl rfl (any_of HT_.out (by kernel_rfl)) (fun _ _ _ h => h) (Or.inr ⟨by rfl, rfl⟩) ?_ ?_; rotate_left; · (simp only [Act.put, sT, sZ, sS, i64_w, i32_w]; rfl)
       refine pure_ (i := 13) (N := some 29) (v := undef) (a' := ?_) #[I,I,I,I,I,I,I,I,I,I,I,I,I,I,O,O,O,O,O,O,O,O,O,O,O,O,O,O] rfl rfl (any_of HT_.out (by kernel_rfl)) (fun _ _ _ h => h) (Or.inr ⟨by rfl, rfl⟩) ?_ ?_; rotate_left; · (simp only [Act.put, sT, sZ, sS, i64_w, i32_w]; rfl)
       refine pure_ (i := 14) (N := some 30) (v := undef) (a' := ?_) #[I,I,I,I,I,I,I,I,I,I,I,I,I,I,I,O,O,O,O,O,O,O,O,O,O,O,O,O] rfl rfl (any_of HT_.out (by kernel_rfl)) (fun _ _ _ h => h) (Or.inr ⟨by rfl, rfl⟩) ?_ ?_; rotate_left; · (simp only [Act.put, sT, sZ, sS, i64_w, i32_w]; rfl)
       refine pure_ (i := 15) (N := some 31) (v := undef) (a' := ?_) #[I,I,I,I,I,I,I,I,I,I,I,I,I,I,I,I,O,O,O,O,O,O,O,O,O,O,O,O] rfl rfl (any_of HT_.out (by kernel_rfl)) (fun _ _ _ h => h) (Or.inr ⟨by rfl, rfl⟩) ?_ ?_; rotate_left; · (simp only [Act.put, sT, sZ, sS, i64_w, i32_w]; rfl)
       refine pure_ (i := 16) (N := some 32) (v := undef) (a' := ?_) #[I,I,I,I,I,I,I,I,I,I,I,I,I,I,I,I,I,O,O,O,O,O,O,O,O,O,O,O] rfl rfl (any_of HT_.out (by kernel_rfl)) (fun _ _ _ h => h) (Or.inr ⟨by rfl, rfl⟩) ?_ ?_; rotate_left; · (simp only [Act.put, sT, sZ, sS, i64_w, i32_w]; rfl)
       refine pure_ (i := 17) (N := some 33) (v := undef) (a' := ?_) #[I,I,I,I,I,I,I,I,I,I,I,I,I,I,I,I,I,I,O,O,O,O,O,O,O,O,O,O] rfl rfl (any_of HT_.out (by kernel_rfl)) (fun _ _ _ h => h) (Or.inr ⟨by rfl, rfl⟩) ?_ ?_; rotate_left; · (simp only [Act.put, sT, sZ, sS, i64_w, i32_w]; rfl)
       refine pure_ (i := 18) (N := some 34) (v := undef) (a' := ?_) #[I,I,I,I,I,I,I,I,I,I,I,I,I,I,I,I,I,I,I,O,O,O,O,O,O,O,O,O] rfl rfl (any_of HT_.out (by kernel_rfl)) (fun _ _ _ h => h) (Or.inr ⟨by rfl, rfl⟩) ?_ ?_; rotate_left; · (simp only [Act.put, sT, sZ, sS, i64_w, i32_w]; rfl)
       refine pure_ (i := 19) (N := some 35) (v := undef) (a' := ?_) #[I,I,I,I,I,I,I,I,I,I,I,I,I,I,I,I,I,I,I,I,O,O,O,O,O,O,O,O] rfl rfl (any_of HT_.out (by kernel_rfl)) (fun _ _ _ h => h) (Or.inr ⟨by rfl, rfl⟩) ?_ ?_; rotate_left; · (simp only [Act.put, sT, sZ, sS, i64_w, i32_w]; rfl)
       refine pure_ (i := 20) (N := some 36) (v := undef) (a' := ?_) #[I,I,I,I,I,I,I,I,I,I,I,I,I,I,I,I,I,I,I,I,I,O,O,O,O,O,O,O] rfl rfl (any_of HT_.out (by kernel_rfl)) (fun _ _ _ h => h) (Or.inr ⟨by rfl, rfl⟩) ?_ ?_; rotate_left; · (simp only [Act.put, sT, sZ, sS, i64_w, i32_w]; rfl)
       refine pure_ (i := 21) (N := some 37) (v := undef) (a' := ?_) #[I,I,I,I,I,I,I,I,I,I,I,I,I,I,I,I,I,I,I,I,I,I,O,O,O,O,O,O] rfl rfl (any_of HT_.out (by kernel_rfl)) (fun _ _ _ h => h) (Or.inr ⟨by rfl, rfl⟩) ?_ ?_; rotate_left; · (simp only [Act.put, sT, sZ, sS, i64_w, i32_w]; rfl)
       refine pure_ (i := 22) (N := some 38) (v := undef) (a' := ?_) #[I,I,I,I,I,I,I,I,I,I,I,I,I,I,I,I,I,I,I,I,I,I,I,O,O,O,O,O] rfl rfl (any_of HT_.out (by kernel_rfl)) (fun _ _ _ h => h) (Or.inr ⟨by rfl, rfl⟩) ?_ ?_; rotate_left; · (simp only [Act.put, sT, sZ, sS, i64_w, i32_w]; rfl)
       refine pure_ (i := 23) (N := some 39) (v := undef) (a' := ?_) #[I,I,I,I,I,I,I,I,I,I,I,I,I,I,I,I,I,I,I,I,I,I,I,I,O,O,O,O] rfl rfl (any_of HT_.out (by kernel_rfl)) (fun _ _ _ h => h) (Or.inr ⟨by rfl, rfl⟩) ?_ ?_; rotate_left; · (simp only [Act.put, sT, sZ, sS, i64_w, i32_w]; rfl)
       refine pure_ (i := 24) (N := some 40) (v := undef) (a' := ?_) #[I,I,I,I,I,I,I,I,I,I,I,I,I,I,I,I,I,I,I,I,I,I,I,I,I,O,O,O] rfl rfl (any_of HT_.out (by kernel_rfl)) (fun _ _ _ h => h) (Or.inr ⟨by rfl, rfl⟩) ?_ ?_; rotate_left; · (simp only [Act.put, sT, sZ, sS, i64_w, i32_w]; rfl)
       refine pure_ (i := 25) (N := some 41) (v := undef) (a' := ?_) #[I,I,I,I,I,I,I,I,I,I,I,I,I,I,I,I,I,I,I,I,I,I,I,I,I,I,O,O] rfl rfl (any_of HT_.out (by kernel_rfl)) (fun _ _ _ h => h) (Or.inr ⟨by rfl, rfl⟩) ?_ ?_; rotate_left; · (simp only [Act.put, sT, sZ, sS, i64_w, i32_w]; rfl)
       refine pure_ (i := 26) (N := some 42) (v := undef) (a' := ?_) #[I,I,I,I,I,I,I,I,I,I,I,I,I,I,I,I,I,I,I,I,I,I,I,I,I,I,I,O] rfl rfl (any_of HT_.out (by kernel_rfl)) (fun _ _ _ h => h) (Or.inr ⟨by rfl, rfl⟩) ?_ ?_; rotate_left; · (simp only [Act.put, sT, sZ, sS, i64_w, i32_w]; rfl)
       refine pure_ (i := 27) (N := some 43) (v := ?_) (a' := ?_) #[I,I,I,I,I,I,I,I,I,I,I,I,I,I,I,I,I,I,I,I,I,I,I,I,I,I,I,I] rfl rfl (any_of HT_.out (by kernel_rfl)) (fun _ _ _ h => h) (Or.inl ⟨by rfl, ?_⟩) ?_ ?_; rotate_left; · (intro w'; go_simp; with_reducible rfl)
       rotate_left; · (simp only [Act.put, sT, sZ, sS, i64_w, i32_w]; rfl)
       refine done_ (done_of HT_.out (by kernel_rfl)) ?_
       try go_wp2
       go_meet
       case rel => exact ⟨k1, (true), (by first | rfl | (simp; done) | (simp [*]; done)), H', ⟨by have := HQ1.out; omega⟩, HS, HK⟩
     case rest =>
      clear H' HS HK
      obtain ⟨kq, x43_199, rfl, HA, HQ2, HS, HK⟩ := hcut
      cases kq with
      | zero => exact absurd HA.out (by simp [barrowref33_Right.l199])
      | succ k2 =>
       have H := HA.out
       clear HA
       simp only [barrowref33_Right.l199] at H
       by_cases c10 : x43_199 = true
       ·subst c10
        rw [if_pos rfl] at H
        obtain rfl := Option.some.inj H
        go_wp2
        go_ret
        unfold barrowref33_Right.Post
        exact ⟨by first | rfl | (simp; done) | (simp [*]; done) | (simp at c2b0 ⊢; first | exact c2b0 | (simp [c2b0]; done)), HS.out, HK.out⟩
       ·replace c10 := Bool.eq_false_iff.mpr c10
        subst c10
        rw [if_neg (show ¬ (false = true) by decide)] at H
        have H' := Aside0.mk H
        clear H
        go_wp2
        go_roundg k2
        case measure => have := HQ1.out; have := HQ2.out; omega
        case rel => exact ⟨(wrap64 (x3_0 + 1)), (by first | rfl | (simp; done) | (simp [*]; done)), H', ⟨by have := HQ1.out; have := HQ2.out; omega⟩, HS, HK⟩
    ·rw [if_neg c2] at H
     exact absurd H (by simp)
   ·rw [if_neg c1] at H
    have c1b0 : decide (x3_0 < (l0.length : Int)) = false := decide_eq_false c1
    clear c1
    by_cases c11 : (l0.length : Int) ≤ 32
    ·rw [if_pos c11] at H
     have c11b0 : decide ((l0.length : Int) ≤ 32) = true := decide_eq_true c11
     have c11b1 : decide (l0.length ≤ 32) = true := decide_eq_true (by omega)
     clear c11
     obtain rfl := Option.some.inj H
     go_wp2
     go_ret
     unfold barrowref33_Right.Post
     exact ⟨by first | rfl | (simp; done) | (simp [*]; done) | (simp at c11b0 ⊢; first | exact c11b0 | (simp [c11b0]; done)), HS.out, HK.out⟩
    ·rw [if_neg c11] at H
     have c11b0 : decide ((l0.length : Int) ≤ 32) = false := decide_eq_false c11
     have c11b1 : decide (l0.length ≤ 32) = false := decide_eq_false (by omega)
     clear c11
     obtain rfl := Option.some.inj H
     go_wp2
     go_ret
     unfold barrowref33_Right.Post
     exact ⟨by first | rfl | (simp; done) | (simp [*]; done) | (simp at c11b0 ⊢; first | exact c11b0 | (simp [c11b0]; done)), HS.out, HK.out⟩
theorem barrowref33_Right.calls (k : Nat) (A0 : Option Addr) (c0 : Nat) (l0 : List (S37)) (r : Bool) (w : World) (hr0 : Kd.C k37 w A0 l0.length l0) (hc0 : l0.length ≤ c0) (h : barrowref33_Right.f k l0 = some r) :
  Calls Try.prog 20 #[.slice A0 l0.length c0] w fun e w' => e = .returned (.bool r) ∧ Below w.heap.size w w' :=
 (barrowref33_Right.slcalls k A0 c0 l0 r (news w) [] w (fresh_news w) trivial (RO.top hr0) hc0 h).mono fun _ _ h => ⟨h.1, h.2.2.to_below⟩

end Go.Proofs.Ytiadhonhjnbliaa.XZT
