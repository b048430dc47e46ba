-- Written by xprint.py (a program of this session) for this claim
import Derived.Test.YtiadhonhjnbliaaSq
import Derived.Test.YtiadhonhjnbliaaSL5
import Derived.Test.YtiadhonhjnbliaaXZTx0
import Derived.Test.YtiadhonhjnbliaaXZTx4
import Derived.Test.YtiadhonhjnbliaaXZTx11
import Derived.Test.YtiadhonhjnbliaaXZTx13
namespace Go.Proofs.Ytiadhonhjnbliaa.XZT
open Go.Proofs.YtiadhonhjnbliaaV Go.Proofs.YtiadhonhjnbliaaS
open Go.RowKit Go.Proofs.YtiadhonhjnbliaaW.PrintWords Go.Proofs.YtiadhonhjnbliaaW.PrintLast Go.Proofs.YtiadhonhjnbliaaW.PrintMore
attribute [local go_sem] max2_int min2_int max_two min_two max_three min_three max_four min_four   -- for this text's walks alone
set_option linter.unusedVariables false
set_option linter.unusedSimpArgs false

/-! ### zone_Shift: function 18 -/
def zone_Shift.f (k : Nat) (l0 : List (S37)) (a1 : Int) (a2_0 : Int) (a2_1 : Int) : Option ((List (S37)) × Int) := (api_Zone_30.f l0).bind fun t305 => ((zone_find.f k t305 a1).bind fun t306 => (if t306 < 0 then (some (([] : List (S37)), 5)) else (if 0 ≤ t306 then (if t306 < (t305.length : Int) then ((zone_moved.f k ((rd_T37 t305 t306).f1.f2.f0) ((rd_T37 t305 t306).f1.f1.f0) a2_0).bind fun t308 => ((zone_moved.f k ((rd_T37 t305 t306).f1.f2.f1) ((rd_T37 t305 t306).f1.f1.f1) a2_1).bind fun t309 => ((some (t305.set (t306).toNat (⟨(rd_T37 t305 t306).f0, (⟨(rd_T37 t305 t306).f1.f0, (⟨(rd_T37 t305 t306).f1.f1.f0, (rd_T37 t305 t306).f1.f1.f1⟩ : S31), (⟨t308, t309⟩ : S31), (rd_T37 t305 t306).f1.f3, (rd_T37 t305 t306).f1.f4⟩ : S33), (rd_T37 t305 t306).f2, (rd_T37 t305 t306).f3, (rd_T37 t305 t306).f4, (⟨(rd_T37 t305 t306).f5.f0, (rd_T37 t305 t306).f5.f1, (rd_T37 t305 t306).f5.f2⟩ : S35), (rd_T37 t305 t306).f6, (rd_T37 t305 t306).f7⟩ : S37) : List (S37))).bind fun y310 => ((some (y310.set (t306).toNat (⟨(rd_T37 y310 t306).f0, (⟨(rd_T37 y310 t306).f1.f0, (⟨a2_0, a2_1⟩ : S31), (⟨(rd_T37 y310 t306).f1.f2.f0, (rd_T37 y310 t306).f1.f2.f1⟩ : S31), (rd_T37 y310 t306).f1.f3, (rd_T37 y310 t306).f1.f4⟩ : S33), (rd_T37 y310 t306).f2, (rd_T37 y310 t306).f3, (rd_T37 y310 t306).f4, (⟨(rd_T37 y310 t306).f5.f0, (rd_T37 y310 t306).f5.f1, (rd_T37 y310 t306).f5.f2⟩ : S35), (rd_T37 y310 t306).f6, (rd_T37 y310 t306).f7⟩ : S37) : List (S37))).bind fun y311 => ((area_Right.f ((rd_T37 y311 t306).f1.f0) ((rd_T37 y311 t306).f1.f1.f0) ((rd_T37 y311 t306).f1.f1.f1) ((rd_T37 y311 t306).f1.f2.f0) ((rd_T37 y311 t306).f1.f2.f1) ((rd_T37 y311 t306).f1.f3) ((rd_T37 y311 t306).f1.f4)).bind fun t313 => (if t313 = true then (some (y311, 0)) else (some (([] : List (S37)), 1)))))))) else (none)) else (none))))
theorem zone_Shift.mono : ∀ a0 a1 a2 a3 k, LeO (zone_Shift.f k a0 a1 a2 a3) (zone_Shift.f (k + 1) a0 a1 a2 a3) := by
 intro a0 a1 a2 a3 k
 unfold zone_Shift.f
 repeat' first
   | (with_reducible exact zone_find.mono _ _ _)
   | (with_reducible exact zone_moved.mono _ _ _ _)
   | (with_reducible exact LeO.refl _)
   | (with_reducible exact LeO.none _)
   | (with_reducible refine LeO.ite ?_ ?_)
   | (with_reducible refine everyOf_le (fun _ => ?_))
   | (with_reducible refine LeO.bind ?_ (fun _ => ?_))
   | exact zone_find.mono _ _ _
   | exact zone_moved.mono _ _ _ _
   | exact LeO.none _
   | refine LeO.ite ?_ ?_
   | refine LeO.bind ?_ (fun _ => ?_)
def zone_Shift.T6 : Bool × List (List Nat × List Nat) := (true, [([], []), ([], []), ([1], [1]), ([2], [2]), ([3], [3]), ([4], [4]), ([], []), ([6], [6]), ([7], [7]), ([8], [8]), ([9], [9]), ([], []), ([11], [11]), ([5, 10, 12], [5, 10, 12]), ([], []), ([14], [14]), ([15], [15]), ([16], [16]), ([17], [17]), ([], []), ([19], [19]), ([20], [20]), ([21], [21]), ([22], [22]), ([], []), ([24], [24]), ([18, 23, 25, 13], [18, 23, 25]), ([13, 26], [13, 26]), ([0, 0, 1, 2, 3, 4, 5, 6, 7, 8, 9, 10, 11, 12, 13, 14, 15, 16, 17, 18, 19, 20, 21, 22, 23, 24, 25, 26, 27], [0]), ([28, 0, 1, 2, 3, 4, 5, 6, 7, 8, 9, 10, 11, 12, 13, 14, 15, 16, 17, 18, 19, 20, 21, 22, 23, 24, 25, 26, 27], [28]), ([29, 27, 26, 0, 1, 2, 3, 4, 5, 6, 7, 8, 9, 10, 11, 12, 13, 14, 15, 16, 17, 18, 19, 20, 21, 22, 23, 24, 25, 26, 27], [27, 29])])
def zone_Shift.B6 : List Nat := [0, 0, 2, 6, 14, 30, 0, 64, 192, 448, 960, 0, 2048, 8190, 0, 16384, 49152, 114688, 245760, 0, 524288, 1572864, 3670016, 7864320, 0, 16777216, 67108862, 134217726, 268435455, 536870911, 1073741823]
theorem zone_Shift.tab6 : rtab .any (opsOf Try.f18 6) = zone_Shift.T6 := by kernel_rfl
theorem zone_Shift.bits6 : waitsOk zone_Shift.T6.2 zone_Shift.B6 = true := by kernel_rfl
def zone_Shift.Post (r1 : List (S37)) (r2 : Int) (S : Nat → Prop) (L : List Asr) (w : World) (e : Ending) (w' : World) : Prop := ∃ (Ar1 : Option Addr) (cr1 : Nat), e = .returned (.tuple #[.slice Ar1 r1.length cr1, .int .i64 r2]) ∧ SL (row k37 37 (.slice Ar1 r1.length cr1) r1 :: L) w' S ∧ Keep S w w'
set_option maxHeartbeats 8000000 in
set_option maxRecDepth 100000 in
theorem zone_Shift.slcalls (k : Nat) (A0 : Option Addr) (c0 : Nat) (l0 : List (S37)) (a1 : Int) (a2_0 : Int) (a2_1 : Int) (r1 : List (S37)) (r2 : Int) (S : Nat → Prop) (L : List Asr) (w : World) (hf : Fresh S w) (hs : SL (L) w S) (hr0 : RO S w (fun w_ => Kd.C k37 w_ A0 l0.length l0)) (hc0 : l0.length ≤ c0) (h : zone_Shift.f k l0 a1 a2_0 a2_1 = some (r1, r2)) :
  Calls Try.prog 18 #[.slice A0 l0.length c0, .int .i64 a1, .agg #[.int .i64 a2_0, .int .i64 a2_1]] w (zone_Shift.Post r1 r2 S L w) := by
 have HR0 := Aside0.mk hr0
 have HC0 := Aside0.mk hc0
 clear hr0 hc0
 have HF := Aside0.mk hf
 have HS := Aside0.mk hs
 have HK := Aside0.mk (Keep.refl S w)
 clear hf hs
 have hu31 := Try.underlying31
 have hu33 := Try.underlying33
 have H : ((api_Zone_30.f l0).bind fun t305 => ((zone_find.f k t305 a1).bind fun t306 => (if t306 < 0 then (some (([] : List (S37)), 5)) else (if 0 ≤ t306 then (if t306 < (t305.length : Int) then ((zone_moved.f k ((rd_T37 t305 t306).f1.f2.f0) ((rd_T37 t305 t306).f1.f1.f0) a2_0).bind fun t308 => ((zone_moved.f k ((rd_T37 t305 t306).f1.f2.f1) ((rd_T37 t305 t306).f1.f1.f1) a2_1).bind fun t309 => ((some (t305.set (t306).toNat (⟨(rd_T37 t305 t306).f0, (⟨(rd_T37 t305 t306).f1.f0, (⟨(rd_T37 t305 t306).f1.f1.f0, (rd_T37 t305 t306).f1.f1.f1⟩ : S31), (⟨t308, t309⟩ : S31), (rd_T37 t305 t306).f1.f3, (rd_T37 t305 t306).f1.f4⟩ : S33), (rd_T37 t305 t306).f2, (rd_T37 t305 t306).f3, (rd_T37 t305 t306).f4, (⟨(rd_T37 t305 t306).f5.f0, (rd_T37 t305 t306).f5.f1, (rd_T37 t305 t306).f5.f2⟩ : S35), (rd_T37 t305 t306).f6, (rd_T37 t305 t306).f7⟩ : S37) : List (S37))).bind fun y310 => ((some (y310.set (t306).toNat (⟨(rd_T37 y310 t306).f0, (⟨(rd_T37 y310 t306).f1.f0, (⟨a2_0, a2_1⟩ : S31), (⟨(rd_T37 y310 t306).f1.f2.f0, (rd_T37 y310 t306).f1.f2.f1⟩ : S31), (rd_T37 y310 t306).f1.f3, (rd_T37 y310 t306).f1.f4⟩ : S33), (rd_T37 y310 t306).f2, (rd_T37 y310 t306).f3, (rd_T37 y310 t306).f4, (⟨(rd_T37 y310 t306).f5.f0, (rd_T37 y310 t306).f5.f1, (rd_T37 y310 t306).f5.f2⟩ : S35), (rd_T37 y310 t306).f6, (rd_T37 y310 t306).f7⟩ : S37) : List (S37))).bind fun y311 => ((area_Right.f ((rd_T37 y311 t306).f1.f0) ((rd_T37 y311 t306).f1.f1.f0) ((rd_T37 y311 t306).f1.f1.f1) ((rd_T37 y311 t306).f1.f2.f0) ((rd_T37 y311 t306).f1.f2.f1) ((rd_T37 y311 t306).f1.f3) ((rd_T37 y311 t306).f1.f4)).bind fun t313 => (if t313 = true then (some (y311, 0)) else (some (([] : List (S37)), 1)))))))) else (none)) else (none))))) = some (r1, r2) := h
 clear h
 replace H := Option.bind_eq_some_iff.1 H
 obtain ⟨t305, Hc10, H⟩ := H
 try dsimp only at H
 have Hc1 := Aside0.mk Hc10
 clear Hc10
 replace H := Option.bind_eq_some_iff.1 H
 obtain ⟨t306, Hc20, H⟩ := H
 try dsimp only at H
 have Hc2 := Aside0.mk Hc20
 clear Hc20
 have H' := Aside0.mk H
 clear H
 go_enter Try.func18, Try.ntmps18
 go_wp2_with (first | ((with_reducible refine gate_dst (N := 5) rfl ?_); refine wpList_plain rfl (fun K_ hK_ => ?_); refine op_box (S := S) (cs := #[.int .i64 a2_0, .int .i64 a2_1]) (t := 31) (HF.out.keep HK.out) HS.out (by first | (go_simp; done) | (go_simp; rfl)) ?_; intro g3000028 w3 hs_ hk_; refine hK_ _ _ ?_; clear hK_ K_; replace HS := Aside0.mk (hs_); replace HK := Aside0.mk (HK.out.trans hk_)) | ((with_reducible refine gate_dst (N := 12) rfl ?_); refine goesL_ (some 12) rfl rfl Try.func30 (by kernel_rfl) rfl #[.slice A0 l0.length c0] rfl (by (try simp only [List.map_toArray, List.map_cons, List.map_nil]); first | done | rfl | (simp; done)) ?_; (with_reducible refine (api_Zone_30.calls _ _ _ _ _ (RO.at_ HR0.out HK.out) HC0.out Hc1.out).mono ?_); rintro e_ w4 ⟨v3000029_, rfl, ho3000029_, hb_⟩; refine ⟨_, rfl, ?_⟩; have hs_ := (SL.new (HF.out.keep HK.out) HS.out hb_ (row_of_R ho3000029_)).1; obtain ⟨Az3000029, cz3000029, e2_, _, _⟩ := SL.row_reads hs_; subst e2_; replace HS := Aside0.mk (hs_); replace HK := Aside0.mk (HK.out.trans (Keep.below hb_))) | ((with_reducible refine gate_dst (N := 15) rfl ?_); refine goesL_ (some 15) rfl rfl Try.func33 (by kernel_rfl) rfl #[.slice Az3000029 t305.length cz3000029, .int .i64 a1] rfl (by (try simp only [List.map_toArray, List.map_cons, List.map_nil]); first | done | rfl | (simp; done)) ?_; (with_reducible refine (zone_find.calls k _ _ _ _ _ _ (SL.row_c HS.out).2.2 (SL.row_c HS.out).2.1 Hc2.out).mono ?_); rintro e_ w5 ⟨rfl, hb_⟩; refine ⟨_, rfl, ?_⟩; replace HS := Aside0.mk (HS.out.below hb_); replace HK := Aside0.mk (HK.out.trans (Keep.below hb_)); refine stop_ ?_; intro G_ hG_))
 have H := H'.out
 clear H'
 by_cases c6 : t306 < 0
 ·rw [if_pos c6] at H
  have c6b0 : decide (t306 < 0) = true := decide_eq_true c6
  clear c6
  simp only [Option.some.injEq, Prod.mk.injEq] at H
  obtain ⟨rfl, rfl⟩ := H
  have n2_ := Aside0.mk (SL.nil_row k37 37 HS.out)
  clear HS
  have HS := n2_
  clear n2_
  refine hG_.out ?_
  try simp only [c6b0]
  go_wp2
  go_ret2
  replace HS := Aside0.mk (SL.tail (SL.get1 (SL.tail (SL.get1 HS.out))))
  unfold zone_Shift.Post
  exact ⟨none, 0, by first | rfl | (simp; done) | (simp [*]; done) | (simp at c6b0 ⊢; first | exact c6b0 | (simp [c6b0]; done)), HS.out, HK.out⟩
 ·rw [if_neg c6] at H
  have c6b0 : decide (t306 < 0) = false := decide_eq_false c6
  clear c6
  by_cases c7 : 0 ≤ t306
  ·rw [if_pos c7] at H
   have c7b0 : decide (0 ≤ t306) = true := decide_eq_true c7
   clear c7
   by_cases c8 : t306 < (t305.length : Int)
   ·rw [if_pos c8] at H
    have c8b0 : decide (t306 < (t305.length : Int)) = true := decide_eq_true c8
    clear c8
    replace H := Option.bind_eq_some_iff.1 H
    obtain ⟨t308, Hc90, H⟩ := H
    try dsimp only at H
    have Hc9 := Aside0.mk Hc90
    clear Hc90
    replace H := Option.bind_eq_some_iff.1 H
    obtain ⟨t309, Hc100, H⟩ := H
    try dsimp only at H
    have Hc10 := Aside0.mk Hc100
    clear Hc100
    replace H := Option.bind_eq_some_iff.1 H
    obtain ⟨y310, hy3100, H⟩ := H
    try dsimp only at H
    have hy310 := Option.some.inj hy3100
    clear hy3100
    have Ny310 := Aside0.mk hy310
    clear hy310
    replace H := Option.bind_eq_some_iff.1 H
    obtain ⟨y311, hy3110, H⟩ := H
    try dsimp only at H
    have hy311 := Option.some.inj hy3110
    clear hy3110
    have Ny311 := Aside0.mk hy311
    clear hy311
    replace H := Option.bind_eq_some_iff.1 H
    obtain ⟨t313, Hc110, H⟩ := H
    try dsimp only at H
    have Hc11 := Aside0.mk Hc110
    clear Hc110
    have H' := Aside0.mk H
    clear H
    have pq307 : 0 ≤ (t306 : Int) := of_decide_eq_true (by first | (with_reducible assumption) | assumption)
    have qq307 : t306 < ((t305.length : Int) : Int) := of_decide_eq_true (by first | (with_reducible assumption) | assumption)
    obtain ⟨adq307, eq307, hxq307_0, hxq307_1, hxq307_2, hxq307_3, hxq307_4, hxq307_5, hxq307_6, hxq307_7, hxq307_8, hxq307_9, hxq307_10, hxq307_11, hxq307_12, hxq307_13, hxq307_14, hxq307_15⟩ := at_T37 (SL.row_c HS.out).2.2 t306 pq307 qq307
    cases eq307
    replace pq307 := eq_true pq307
    replace qq307 := eq_true qq307
    refine hG_.out ?_
    try simp only [c6b0, c7b0, c8b0]
    try go_wp2
    refine start_ (n := 31) (S := fun w' => w'.cell? ⟨(adq307.add (t306.toNat * 16)).block, (adq307.add (t306.toNat * 16)).off + 4, none⟩ = some (.int .i64 ((rd_T37 t305 t306).f1.f2.f0)) ∧ w'.cell? ⟨(adq307.add (t306.toNat * 16)).block, (adq307.add (t306.toNat * 16)).off + 2, none⟩ = some (.int .i64 ((rd_T37 t305 t306).f1.f1.f0)) ∧ w'.cell? ⟨g3000028, 0, none⟩ = some (.int .i64 a2_0) ∧ w'.cell? ⟨(adq307.add (t306.toNat * 16)).block, (adq307.add (t306.toNat * 16)).off + 5, none⟩ = some (.int .i64 ((rd_T37 t305 t306).f1.f2.f1)) ∧ w'.cell? ⟨(adq307.add (t306.toNat * 16)).block, (adq307.add (t306.toNat * 16)).off + 3, none⟩ = some (.int .i64 ((rd_T37 t305 t306).f1.f1.f1)) ∧ w'.cell? ⟨g3000028, 1, none⟩ = some (.int .i64 a2_1)) (ds := [30]) #[O,O,O,O,O,O,O,O,O,O,O,O,O,O,O,O,O,O,O,O,O,O,O,O,O,O,O,O,O,O,O] (by kernel_rfl) rfl rfl ⟨(by obtain ⟨a_, e_, h0_, h1_, h2_, h3_, h4_, h5_, h6_, h7_, h8_, h9_, h10_, h11_, h12_, h13_, h14_, h15_⟩ := at_T37 (SL.row_c HS.out).2.2 t306 (of_eq_true pq307) (of_eq_true qq307); obtain rfl := Option.some.inj e_; exact h4_), (by obtain ⟨a_, e_, h0_, h1_, h2_, h3_, h4_, h5_, h6_, h7_, h8_, h9_, h10_, h11_, h12_, h13_, h14_, h15_⟩ := at_T37 (SL.row_c HS.out).2.2 t306 (of_eq_true pq307) (of_eq_true qq307); obtain rfl := Option.some.inj e_; exact h2_), bc (SL.get1 HS.out) 0 rfl, (by obtain ⟨a_, e_, h0_, h1_, h2_, h3_, h4_, h5_, h6_, h7_, h8_, h9_, h10_, h11_, h12_, h13_, h14_, h15_⟩ := at_T37 (SL.row_c HS.out).2.2 t306 (of_eq_true pq307) (of_eq_true qq307); obtain rfl := Option.some.inj e_; exact h5_), (by obtain ⟨a_, e_, h0_, h1_, h2_, h3_, h4_, h5_, h6_, h7_, h8_, h9_, h10_, h11_, h12_, h13_, h14_, h15_⟩ := at_T37 (SL.row_c HS.out).2.2 t306 (of_eq_true pq307) (of_eq_true qq307); obtain rfl := Option.some.inj e_; exact h3_), bc (SL.get1 HS.out) 1 rfl⟩ (fun hHeld => ?_); refine with_tabW zone_Shift.tab6 zone_Shift.bits6 (fun HT_ HW_ => ?_)
    replace HK := Aside0.mk (Keep.drew HK.out)
    replace HS := Aside0.mk (SL.drew HS.out)
    refine pV 0 22 ?_ (mq 31 1) rfl rfl (any_of HT_.out (by kernel_rfl)) (fun _ _ _ h => h) (by rfl) ?_ ?_ ?_ ?_; rotate_left; · (intro w'; go_simp; with_reducible rfl)
    rotate_left; · (simp only [Act.put, sT, sZ, sS, i64_w, i32_w]; rfl)
    refine pV 1 23 ?_ (mq 31 3) rfl rfl (any_of HT_.out (by kernel_rfl)) (fun _ _ _ h => h) (by rfl) ?_ ?_ ?_ ?_; rotate_left; · (intro w'; go_simp; with_reducible rfl)
    rotate_left; · (simp only [Act.put, sT, sZ, sS, i64_w, i32_w]; rfl)
    refine pV 2 24 ?_ (mq 31 7) rfl rfl (any_of HT_.out (by kernel_rfl)) (fun _ _ _ h => h) (by rfl) ?_ ?_ ?_ ?_; rotate_left; · (intro w'; go_simp; with_reducible rfl)
    rotate_left; · (simp only [Act.put, sT, sZ, sS, i64_w, i32_w]; rfl)
    refine pV 3 25 ?_ (mq 31 15) rfl rfl (any_of HT_.out (by kernel_rfl)) (fun _ _ _ h => h) (by rfl) ?_ ?_ ?_ ?_; rotate_left; · (intro w'; go_simp; with_reducible rfl)
    rotate_left; · (simp only [Act.put, sT, sZ, sS, i64_w, i32_w]; rfl)
    refine pV 4 26 ?_ (mq 31 31) rfl rfl (any_of HT_.out (by kernel_rfl)) (fun _ _ _ h => h) (by rfl) ?_ ?_ ?_ ?_; rotate_left; · (intro w'; go_simp; with_reducible rfl)
    rotate_left; · (simp only [Act.put, sT, sZ, sS, i64_w, i32_w]; rfl)
    refine pV 6 28 ?_ (mq 31 95) rfl rfl (any_of HT_.out (by kernel_rfl)) (fun _ _ _ h => h) (by rfl) ?_ ?_ ?_ ?_; rotate_left; · (intro w'; go_simp; with_reducible rfl)
    rotate_left; · (simp only [Act.put, sT, sZ, sS, i64_w, i32_w]; rfl)
    refine pV 7 29 ?_ (mq 31 223) rfl rfl (any_of HT_.out (by kernel_rfl)) (fun _ _ _ h => h) (by rfl) ?_ ?_ ?_ ?_; rotate_left; · (intro w'; go_simp; with_reducible rfl)
    rotate_left; · (simp only [Act.put, sT, sZ, sS, i64_w, i32_w]; rfl)
    refine pV 8 30 ?_ (mq 31 479) rfl rfl (any_of HT_.out (by kernel_rfl)) (fun _ _ _ h => h) (by rfl) ?_ ?_ ?_ ?_; rotate_left; · (intro w'; go_simp; with_reducible rfl)
    rotate_left; · (simp only [Act.put, sT, sZ, sS, i64_w, i32_w]; rfl)
    refine pV 9 31 ?_ (mq 31 991) rfl rfl (any_of HT_.out (by kernel_rfl)) (fun _ _ _ h => h) (by rfl) ?_ ?_ ?_ ?_; rotate_left; · (intro w'; go_simp; with_reducible rfl)
    rotate_left; · (simp only [Act.put, sT, sZ, sS, i64_w, i32_w]; rfl)
    refine pV 11 33 ?_ (mq 31 3039) rfl rfl (any_of HT_.out (by kernel_rfl)) (fun _ _ _ h => h) (by rfl) ?_ ?_ ?_ ?_; rotate_left; · (intro w'; go_simp; with_reducible rfl)
    rotate_left; · (simp only [Act.put, sT, sZ, sS, i64_w, i32_w]; rfl)
    refine pV 14 36 ?_ (mq 31 19423) rfl rfl (any_of HT_.out (by kernel_rfl)) (fun _ _ _ h => h) (by rfl) ?_ ?_ ?_ ?_; rotate_left; · (intro w'; go_simp; with_reducible rfl)
    rotate_left; · (simp only [Act.put, sT, sZ, sS, i64_w, i32_w]; rfl)
    refine pV 15 37 ?_ (mq 31 52191) rfl rfl (any_of HT_.out (by kernel_rfl)) (fun _ _ _ h => h) (by rfl) ?_ ?_ ?_ ?_; rotate_left; · (intro w'; go_simp; with_reducible rfl)
    rotate_left; · (simp only [Act.put, sT, sZ, sS, i64_w, i32_w]; rfl)
    refine pV 16 38 ?_ (mq 31 117727) rfl rfl (any_of HT_.out (by kernel_rfl)) (fun _ _ _ h => h) (by rfl) ?_ ?_ ?_ ?_; rotate_left; · (intro w'; go_simp; with_reducible rfl)
    rotate_left; · (simp only [Act.put, sT, sZ, sS, i64_w, i32_w]; rfl)
    refine pV 17 39 ?_ (mq 31 248799) rfl rfl (any_of HT_.out (by kernel_rfl)) (fun _ _ _ h => h) (by rfl) ?_ ?_ ?_ ?_; rotate_left; · (intro w'; go_simp; with_reducible rfl)
    rotate_left; · (simp only [Act.put, sT, sZ, sS, i64_w, i32_w]; rfl)
    refine pV 19 41 ?_ (mq 31 773087) rfl rfl (any_of HT_.out (by kernel_rfl)) (fun _ _ _ h => h) (by rfl) ?_ ?_ ?_ ?_; rotate_left; · (intro w'; go_simp; with_reducible rfl)
    rotate_left; · (simp only [Act.put, sT, sZ, sS, i64_w, i32_w]; rfl)
    refine pV 20 42 ?_ (mq 31 0x1bcbdf) rfl rfl (any_of HT_.out (by kernel_rfl)) (fun _ _ _ h => h) (by rfl) ?_ ?_ ?_ ?_; rotate_left; · (intro w'; go_simp; with_reducible rfl)
    rotate_left; · (simp only [Act.put, sT, sZ, sS, i64_w, i32_w]; rfl)
    refine pV 21 43 ?_ (mq 31 0x3bcbdf) rfl rfl (any_of HT_.out (by kernel_rfl)) (fun _ _ _ h => h) (by rfl) ?_ ?_ ?_ ?_; rotate_left; · (intro w'; go_simp; with_reducible rfl)
    rotate_left; · (simp only [Act.put, sT, sZ, sS, i64_w, i32_w]; rfl)
    refine pV 22 44 ?_ (mq 31 0x7bcbdf) rfl rfl (any_of HT_.out (by kernel_rfl)) (fun _ _ _ h => h) (by rfl) ?_ ?_ ?_ ?_; rotate_left; · (intro w'; go_simp; with_reducible rfl)
    rotate_left; · (simp only [Act.put, sT, sZ, sS, i64_w, i32_w]; rfl)
    refine pV 24 46 ?_ (mq 31 0x17bcbdf) rfl rfl (any_of HT_.out (by kernel_rfl)) (fun _ _ _ h => h) (by rfl) ?_ ?_ ?_ ?_; rotate_left; · (intro w'; go_simp; with_reducible rfl)
    rotate_left; · (simp only [Act.put, sT, sZ, sS, i64_w, i32_w]; rfl)
    refine take_ (i := 5) (N := some 27) (v := ?_) (a' := ?_) (mq 31 0x17bcbff) rfl rfl (take_ofW HT_.out HW_.out (by kernel_rfl)) (fun _ _ _ h => h) (Or.inl ⟨by rfl, ?_⟩) hHeld ?_ ?_; rotate_left
    ·rintro w' ⟨s0, s1, s2, s3, s4, s5⟩
     go_simp
     with_reducible rfl
    rotate_left; · (simp only [Act.put, sT, sZ, sS, i64_w, i32_w]; rfl)
    refine take_ (i := 10) (N := some 32) (v := ?_) (a' := ?_) (mq 31 0x17bcfff) rfl rfl (take_ofW HT_.out HW_.out (by kernel_rfl)) (fun _ _ _ h => h) (Or.inl ⟨by rfl, ?_⟩) hHeld ?_ ?_; rotate_left
    ·rintro w' ⟨s0, s1, s2, s3, s4, s5⟩
     go_simp
     with_reducible rfl
    rotate_left; · (simp only [Act.put, sT, sZ, sS, i64_w, i32_w]; rfl)
    refine take_ (i := 12) (N := some 34) (v := ?_) (a' := ?_) (mq 31 0x17bdfff) rfl rfl (take_ofW HT_.out HW_.out (by kernel_rfl)) (fun _ _ _ h => h) (Or.inl ⟨by rfl, ?_⟩) hHeld ?_ ?_; rotate_left
    ·rintro w' ⟨s0, s1, s2, s3, s4, s5⟩
     go_simp
     with_reducible rfl
    rotate_left; · (simp only [Act.put, sT, sZ, sS, i64_w, i32_w]; rfl)
    refine take_ (i := 18) (N := some 40) (v := ?_) (a' := ?_) (mq 31 0x17fdfff) rfl rfl (take_ofW HT_.out HW_.out (by kernel_rfl)) (fun _ _ _ h => h) (Or.inl ⟨by rfl, ?_⟩) hHeld ?_ ?_; rotate_left
    ·rintro w' ⟨s0, s1, s2, s3, s4, s5⟩
     go_simp
     with_reducible rfl
    rotate_left; · (simp only [Act.put, sT, sZ, sS, i64_w, i32_w]; rfl)
    refine take_ (i := 23) (N := some 45) (v := ?_) (a' := ?_) (mq 31 0x1ffdfff) rfl rfl (take_ofW HT_.out HW_.out (by kernel_rfl)) (fun _ _ _ h => h) (Or.inl ⟨by rfl, ?_⟩) hHeld ?_ ?_; rotate_left
    ·rintro w' ⟨s0, s1, s2, s3, s4, s5⟩
     go_simp
     with_reducible rfl
    rotate_left; · (simp only [Act.put, sT, sZ, sS, i64_w, i32_w]; rfl)
    refine take_ (i := 25) (N := some 47) (v := ?_) (a' := ?_) (mq 31 0x3ffdfff) rfl rfl (take_ofW HT_.out HW_.out (by kernel_rfl)) (fun _ _ _ h => h) (Or.inl ⟨by rfl, ?_⟩) hHeld ?_ ?_; rotate_left
    ·rintro w' ⟨s0, s1, s2, s3, s4, s5⟩
     go_simp
     with_reducible rfl
    rotate_left; · (simp only [Act.put, sT, sZ, sS, i64_w, i32_w]; rfl)
    refine one_ (i := 13) (N := some 35) (mq 31 0x3ffffff) rfl rfl (one_of HT_.out (by kernel_rfl)) (by decide) (fun K hK => ?_)
    refine goes_ Try.func36 (by kernel_rfl) rfl #[.int .i64 ((rd_T37 t305 t306).f1.f2.f0), .int .i64 ((rd_T37 t305 t306).f1.f1.f0), .int .i64 a2_0] (by rfl) rfl rfl (by (try simp only [List.map_toArray, List.map_cons, List.map_nil]); first | done | rfl | (simp; done)) ?_
    (with_reducible refine (zone_moved.calls k _ _ _ _ _  Hc9.out).mono ?_)
    rintro e_ w12 ⟨rfl, hb_⟩
    refine ⟨_, rfl, ?_⟩
    replace hb_ := Drawn0.below hb_
    replace HS := Aside0.mk (HS.out.below hb_)
    replace HK := Aside0.mk (HK.out.trans (Keep.below hb_))
    refine hK.out _ _ ⟨(by obtain ⟨a_, e_, h0_, h1_, h2_, h3_, h4_, h5_, h6_, h7_, h8_, h9_, h10_, h11_, h12_, h13_, h14_, h15_⟩ := at_T37 (SL.row_c HS.out).2.2 t306 (of_eq_true pq307) (of_eq_true qq307); obtain rfl := Option.some.inj e_; exact h4_), (by obtain ⟨a_, e_, h0_, h1_, h2_, h3_, h4_, h5_, h6_, h7_, h8_, h9_, h10_, h11_, h12_, h13_, h14_, h15_⟩ := at_T37 (SL.row_c HS.out).2.2 t306 (of_eq_true pq307) (of_eq_true qq307); obtain rfl := Option.some.inj e_; exact h2_), bc (SL.get1 HS.out) 0 rfl, (by obtain ⟨a_, e_, h0_, h1_, h2_, h3_, h4_, h5_, h6_, h7_, h8_, h9_, h10_, h11_, h12_, h13_, h14_, h15_⟩ := at_T37 (SL.row_c HS.out).2.2 t306 (of_eq_true pq307) (of_eq_true qq307); obtain rfl := Option.some.inj e_; exact h5_), (by obtain ⟨a_, e_, h0_, h1_, h2_, h3_, h4_, h5_, h6_, h7_, h8_, h9_, h10_, h11_, h12_, h13_, h14_, h15_⟩ := at_T37 (SL.row_c HS.out).2.2 t306 (of_eq_true pq307) (of_eq_true qq307); obtain rfl := Option.some.inj e_; exact h3_), bc (SL.get1 HS.out) 1 rfl⟩ (fun hHeld => ?_)
    clear hK K
    refine norm_ (a' := ?_) ?_ ?_; rotate_left
    ·show Act.put _ (some 35) _ = _
     simp only [Act.put, sT, sZ, sS, i64_w, i32_w]
     rfl
    refine one_ (i := 26) (N := some 48) (mq 31 0x7ffffff) rfl rfl (one_of HT_.out (by kernel_rfl)) (by decide) (fun K hK => ?_)
    refine goes_ Try.func36 (by kernel_rfl) rfl #[.int .i64 ((rd_T37 t305 t306).f1.f2.f1), .int .i64 ((rd_T37 t305 t306).f1.f1.f1), .int .i64 a2_1] (by rfl) rfl rfl (by (try simp only [List.map_toArray, List.map_cons, List.map_nil]); first | done | rfl | (simp; done)) ?_
    (with_reducible refine (zone_moved.calls k _ _ _ _ _  Hc10.out).mono ?_)
    rintro e_ w13 ⟨rfl, hb_⟩
    refine ⟨_, rfl, ?_⟩
    replace hb_ := Drawn0.below hb_
    replace HS := Aside0.mk (HS.out.below hb_)
    replace HK := Aside0.mk (HK.out.trans (Keep.below hb_))
    refine hK.out _ _ ⟨(by obtain ⟨a_, e_, h0_, h1_, h2_, h3_, h4_, h5_, h6_, h7_, h8_, h9_, h10_, h11_, h12_, h13_, h14_, h15_⟩ := at_T37 (SL.row_c HS.out).2.2 t306 (of_eq_true pq307) (of_eq_true qq307); obtain rfl := Option.some.inj e_; exact h4_), (by obtain ⟨a_, e_, h0_, h1_, h2_, h3_, h4_, h5_, h6_, h7_, h8_, h9_, h10_, h11_, h12_, h13_, h14_, h15_⟩ := at_T37 (SL.row_c HS.out).2.2 t306 (of_eq_true pq307) (of_eq_true qq307); obtain rfl := Option.some.inj e_; exact h2_), bc (SL.get1 HS.out) 0 rfl, (by obtain ⟨a_, e_, h0_, h1_, h2_, h3_, h4_, h5_, h6_, h7_, h8_, h9_, h10_, h11_, h12_, h13_, h14_, h15_⟩ := at_T37 (SL.row_c HS.out).2.2 t306 (of_eq_true pq307) (of_eq_true qq307); obtain rfl := Option.some.inj e_; exact h5_), (by obtain ⟨a_, e_, h0_, h1_, h2_, h3_, h4_, h5_, h6_, h7_, h8_, h9_, h10_, h11_, h12_, h13_, h14_, h15_⟩ := at_T37 (SL.row_c HS.out).2.2 t306 (of_eq_true pq307) (of_eq_true qq307); obtain rfl := Option.some.inj e_; exact h3_), bc (SL.get1 HS.out) 1 rfl⟩ (fun hHeld => ?_)
    clear hK K
    refine norm_ (a' := ?_) ?_ ?_; rotate_left
    ·show Act.put _ (some 48) _ = _
     simp only [Act.put, sT, sZ, sS, i64_w, i32_w]
     rfl
    refine pV 27 49 ?_ (mq 31 0xfffffff) rfl rfl (any_of HT_.out (by kernel_rfl)) (fun _ _ _ h => h) (by rfl) ?_ ?_ ?_ ?_; rotate_left; · (intro w'; go_simp; with_reducible rfl)
    rotate_left; · (simp only [Act.put, sT, sZ, sS, i64_w, i32_w]; rfl)
    refine pV 28 50 ?_ (mq 31 0x1fffffff) rfl rfl (any_of HT_.out (by kernel_rfl)) (fun _ _ _ h => h) (by rfl) ?_ ?_ ?_ ?_; rotate_left; · (intro w'; go_simp; with_reducible rfl)
    rotate_left; · (simp only [Act.put, sT, sZ, sS, i64_w, i32_w]; rfl)
    refine pV 29 51 ?_ (mq 31 0x3fffffff) rfl rfl (any_of HT_.out (by kernel_rfl)) (fun _ _ _ h => h) (by rfl) ?_ ?_ ?_ ?_; rotate_left; · (intro w'; go_simp; with_reducible rfl)
    rotate_left; · (simp only [Act.put, sT, sZ, sS, i64_w, i32_w]; rfl)
    refine last_ (i := 30) (N := none) (mq 31 0x7fffffff) rfl rfl (one_of HT_.out (by kernel_rfl)) (by decide) (fun K hK => ?_)
    refine st_of (by rfl) ?_
    refine op_setF (S := S) (d := k37) ⟨fun h_ => h_⟩ 31 (.tmp 51) (.tmp 49) rfl adq307 (t306) z37 4 [.int .i64 t308, .int .i64 t309] (.agg #[.int .i64 t308, .int .i64 t309]) HS.out _ (by intro g_ o_ h_; subst h_; first | rfl | (simp [Go.Addr.add]; done) | (simp [Go.Addr.add]; rfl) | (simp [Go.Addr.add]; constructor <;> split <;> simp_all [show k37.sz = 16 from rfl]) | (simp [Go.Addr.add]; split <;> simp_all [show k37.sz = 16 from rfl])) rfl (by rfl) rfl (by kernel_rfl) (by simp [Value.oneCell']) (of_decide_eq_true (by first | (with_reducible assumption) | assumption)) (of_decide_eq_true (by first | (with_reducible assumption) | assumption)) (Nat.le_of_ble_eq_true rfl) (⟨(rd_T37 t305 t306).f0, (⟨(rd_T37 t305 t306).f1.f0, (⟨(rd_T37 t305 t306).f1.f1.f0, (rd_T37 t305 t306).f1.f1.f1⟩ : S31), (⟨t308, t309⟩ : S31), (rd_T37 t305 t306).f1.f3, (rd_T37 t305 t306).f1.f4⟩ : S33), (rd_T37 t305 t306).f2, (rd_T37 t305 t306).f3, (rd_T37 t305 t306).f4, (⟨(rd_T37 t305 t306).f5.f0, (rd_T37 t305 t306).f5.f1, (rd_T37 t305 t306).f5.f2⟩ : S35), (rd_T37 t305 t306).f6, (rd_T37 t305 t306).f7⟩ : S37) (fun c_ h_ => by obtain rfl := k37_open h_; exact k37_mk _ _) y310 Ny310.out ?_
    intro w14 hs_ hk_
    replace HS := Aside0.mk ((show SL (row k37 37 (.slice (some adq307) t305.length cz3000029) y310 :: _) _ _ from hs_))
    replace HK := Aside0.mk (HK.out.trans hk_)
    refine hK.out _ _ ?_
    clear hK K
    refine done_ (done_of HT_.out (by kernel_rfl)) ?_
    have hb_ := SL.at_ (SL.get1 HS.out)
    have hz3000028_0_4 := ((blk_cell hb_ 0).trans rfl : _ = some (.int .i64 a2_0))
    have hz3000028_1_4 := ((blk_cell hb_ 1).trans rfl : _ = some (.int .i64 a2_1))
    clear hb_
    try go_wp2_with (first | ((with_reducible refine gate_store (t := 31) (p := 55) (v := (.tmp 53)) rfl ?_); refine wpList_plain rfl (fun K_ hK_ => ?_); refine op_setF (S := S) (d := k37) ⟨fun h_ => h_⟩ 31 (.tmp 55) (.tmp 53) rfl adq307 (t306) z37 2 [.int .i64 a2_0, .int .i64 a2_1] (.agg #[.int .i64 a2_0, .int .i64 a2_1]) HS.out _ (by intro g_ o_ h_; subst h_; first | rfl | (simp [Go.Addr.add]; done) | (simp [Go.Addr.add]; rfl) | (simp [Go.Addr.add]; constructor <;> split <;> simp_all [show k37.sz = 16 from rfl]) | (simp [Go.Addr.add]; split <;> simp_all [show k37.sz = 16 from rfl])) rfl (by rfl) rfl (by kernel_rfl) (by simp [Value.oneCell']) (of_decide_eq_true (by first | (with_reducible assumption) | assumption)) (of_decide_eq_true (by first | (with_reducible assumption) | assumption)) (Nat.le_of_ble_eq_true rfl) (⟨(rd_T37 y310 t306).f0, (⟨(rd_T37 y310 t306).f1.f0, (⟨a2_0, a2_1⟩ : S31), (⟨(rd_T37 y310 t306).f1.f2.f0, (rd_T37 y310 t306).f1.f2.f1⟩ : S31), (rd_T37 y310 t306).f1.f3, (rd_T37 y310 t306).f1.f4⟩ : S33), (rd_T37 y310 t306).f2, (rd_T37 y310 t306).f3, (rd_T37 y310 t306).f4, (⟨(rd_T37 y310 t306).f5.f0, (rd_T37 y310 t306).f5.f1, (rd_T37 y310 t306).f5.f2⟩ : S35), (rd_T37 y310 t306).f6, (rd_T37 y310 t306).f7⟩ : S37) (fun c_ h_ => by obtain rfl := k37_open h_; exact k37_mk _ _) y311 Ny311.out ?_; intro w15 hs_ hk_; refine hK_ _ _ ?_; clear hK_ K_; replace HS := Aside0.mk ((show SL (row k37 37 (.slice (some adq307) t305.length cz3000029) y311 :: _) _ _ from hs_)); replace HK := Aside0.mk (HK.out.trans hk_); (try clear hz3000028_0_4 hz3000028_1_4); have pq312 : 0 ≤ (t306 : Int) := of_decide_eq_true (by first | (with_reducible assumption) | assumption); have qq312 : t306 < ((t305.length : Int) : Int) := of_decide_eq_true (by first | (with_reducible assumption) | assumption); obtain ⟨adq312, eq312, hxq312_0, hxq312_1, hxq312_2, hxq312_3, hxq312_4, hxq312_5, hxq312_6, hxq312_7, hxq312_8, hxq312_9, hxq312_10, hxq312_11, hxq312_12, hxq312_13, hxq312_14, hxq312_15⟩ := at_T37 (SL.row_c HS.out).2.2 t306 pq312 qq312; obtain rfl : adq307 = adq312 := (by injection eq312); replace pq312 := eq_true pq312; replace qq312 := eq_true qq312; have hxq312_1_1 := hxq312_2; rw [show ∀ n_ : Nat, n_ + 2 = n_ + 1 + 1 from fun _ => rfl] at hxq312_1_1; have hxq312_1_2 := hxq312_3; rw [show ∀ n_ : Nat, n_ + 3 = n_ + 1 + 2 from fun _ => rfl] at hxq312_1_2; have hxq312_1_3 := hxq312_4; rw [show ∀ n_ : Nat, n_ + 4 = n_ + 1 + 3 from fun _ => rfl] at hxq312_1_3; have hxq312_1_4 := hxq312_5; rw [show ∀ n_ : Nat, n_ + 5 = n_ + 1 + 4 from fun _ => rfl] at hxq312_1_4; have hxq312_1_5 := hxq312_6; rw [show ∀ n_ : Nat, n_ + 6 = n_ + 1 + 5 from fun _ => rfl] at hxq312_1_5; have hxq312_1_6 := hxq312_7; rw [show ∀ n_ : Nat, n_ + 7 = n_ + 1 + 6 from fun _ => rfl] at hxq312_1_6) | ((with_reducible refine gate_dst (N := 59) rfl ?_); refine goesL_ (some 59) rfl rfl Try.func37 (by kernel_rfl) rfl #[.agg #[.int .i64 ((rd_T37 y311 t306).f1.f0), .int .i64 ((rd_T37 y311 t306).f1.f1.f0), .int .i64 ((rd_T37 y311 t306).f1.f1.f1), .int .i64 ((rd_T37 y311 t306).f1.f2.f0), .int .i64 ((rd_T37 y311 t306).f1.f2.f1), .int .i64 ((rd_T37 y311 t306).f1.f3), .int .i64 ((rd_T37 y311 t306).f1.f4)]] rfl (by (try simp only [List.map_toArray, List.map_cons, List.map_nil]); first | done | rfl | (simp; done)) ?_; (with_reducible refine (area_Right.calls _ _ _ _ _ _ _ _ _  Hc11.out).mono ?_); rintro e_ w16 ⟨rfl, hb_⟩; refine ⟨_, rfl, ?_⟩; replace HS := Aside0.mk (HS.out.below hb_); replace HK := Aside0.mk (HK.out.trans (Keep.below hb_)); refine stop_ ?_; intro G_ hG_))
    have H := H'.out
    clear H'
    by_cases c17 : t313 = true
    ·subst c17
     rw [if_pos rfl] at H
     simp only [Option.some.injEq, Prod.mk.injEq] at H
     obtain ⟨rfl, rfl⟩ := H
     refine hG_.out ?_
     go_wp2
     go_ret2
     replace HS := Aside0.mk (SL.tail (SL.get1 HS.out))
     unfold zone_Shift.Post
     have el18 := Aside0.mk (SL.row_c HS.out).1
     replace HS := Aside0.mk (SL.row_len HS.out)
     exact ⟨(some adq307), cz3000029, by first | rfl | (simp; done) | (rw [← el18.out]; rfl) | (rw [← el18.out]) | (simp [*]; done) | (simp at c8b0 ⊢; first | exact c8b0 | (simp [c8b0]; done)), HS.out, HK.out⟩
    ·replace c17 := Bool.eq_false_iff.mpr c17
     subst c17
     rw [if_neg (show ¬ (false = true) by decide)] at H
     simp only [Option.some.injEq, Prod.mk.injEq] at H
     obtain ⟨rfl, rfl⟩ := H
     have n2_ := Aside0.mk (SL.nil_row k37 37 HS.out)
     clear HS
     have HS := n2_
     clear n2_
     refine hG_.out ?_
     go_wp2
     go_ret2
     replace HS := Aside0.mk (SL.tail (SL.get1 (SL.tail (SL.get1 HS.out))))
     unfold zone_Shift.Post
     exact ⟨none, 0, by first | rfl | (simp; done) | (simp [*]; done) | (simp at c8b0 ⊢; first | exact c8b0 | (simp [c8b0]; done)), HS.out, HK.out⟩
   ·rw [if_neg c8] at H
    exact absurd H (by simp)
  ·rw [if_neg c7] at H
   exact absurd H (by simp)

/-! ### barrowref02_Same: function 21 -/
def barrowref02_Same.l0 : Nat → List Int → List Int → Int → Option (Bool)
 | 0, _, _, _ => none
 | k + 1, x0, x1, x5 => if x5 < (x0.length : Int) then (if 0 ≤ x5 then (if x5 < (x1.length : Int) then (if (rd x0 x5) = (rd x1 x5) then (barrowref02_Same.l0 k x0 x1 (wrap64 (x5 + 1))) else (some false)) else (none)) else (none)) else (some true)
def barrowref02_Same.f (k : Nat) (l0 : List Int) (l1 : List Int) : Option (Bool) := if (l0.length : Int) = (l1.length : Int) then (barrowref02_Same.l0 k l0 l1 0) else (some false)
theorem barrowref02_Same.mono_l : ∀ k, (∀ y0 y1 y2, LeO (barrowref02_Same.l0 k y0 y1 y2) (barrowref02_Same.l0 (k + 1) y0 y1 y2))
 | 0 => fun _ _ _ r h => by simp [barrowref02_Same.l0] at h
 | k + 1 => by
  have ih0 := barrowref02_Same.mono_l k
  ·intro y0 y1 y2
   unfold barrowref02_Same.l0
   repeat' first
   | (with_reducible exact ih0 _ _ _)
   | (with_reducible exact LeO.refl _)
   | (with_reducible exact LeO.none _)
   | (with_reducible refine LeO.ite ?_ ?_)
   | (with_reducible refine LeO.bind ?_ (fun _ => ?_))
   | exact ih0 _ _ _
   | exact LeO.none _
   | refine LeO.ite ?_ ?_
   | refine LeO.bind ?_ (fun _ => ?_)
theorem barrowref02_Same.mono : ∀ a0 a1 k, LeO (barrowref02_Same.f k a0 a1) (barrowref02_Same.f (k + 1) a0 a1) := by
 intro a0 a1 k
 have ih0 := barrowref02_Same.mono_l k
 unfold barrowref02_Same.f
 repeat' first
   | (with_reducible exact ih0 _ _ _)
   | (with_reducible exact LeO.refl _)
   | (with_reducible exact LeO.none _)
   | (with_reducible refine LeO.ite ?_ ?_)
   | (with_reducible refine LeO.bind ?_ (fun _ => ?_))
   | exact ih0 _ _ _
   | exact LeO.none _
   | refine LeO.ite ?_ ?_
   | refine LeO.bind ?_ (fun _ => ?_)
set_option maxHeartbeats 8000000 in
set_option maxRecDepth 100000 in
theorem barrowref02_Same.calls (k : Nat) (A0 : Option Addr) (c0 : Nat) (l0 : List Int) (A1 : Option Addr) (c1 : Nat) (l1 : List Int) (r : Bool) (w : World) (hr0 : Kd.C (Kd.int .i64) w A0 l0.length l0) (hc0 : l0.length ≤ c0) (hr1 : Kd.C (Kd.int .i64) w A1 l1.length l1) (hc1 : l1.length ≤ c1) (h : barrowref02_Same.f k l0 l1 = some r) :
  Calls Try.prog 21 #[.slice A0 l0.length c0, .slice A1 l1.length c1] w fun e w' => e = .returned (.bool r) ∧ Drawn0 w w' := by
 have HR0 := Aside0.mk hr0
 have HC0 := Aside0.mk hc0
 clear hr0 hc0
 have HR1 := Aside0.mk hr1
 have HC1 := Aside0.mk hc1
 clear hr1 hc1
 have H : (if (l0.length : Int) = (l1.length : Int) then (barrowref02_Same.l0 k l0 l1 0) else (some false)) = some r := h
 clear h
 by_cases c3 : (l0.length : Int) = (l1.length : Int)
 ·rw [if_pos c3] at H
  have c3b0 : ((l0.length : Int) == (l1.length : Int)) = true := beq_iff_eq.mpr c3
  have c3b1 : ((l0.length : Int) != (l1.length : Int)) = false := bne_eq_false_iff_eq.mpr c3
  have c3b2 : (l0.length == l1.length) = true := by first | simpa using c3 | (simp at c3 ⊢; omega)
  clear c3
  have H' := Aside0.mk H
  clear H
  go_enter Try.func21, Try.ntmps21
  go_wp2
  repeat (go_quiet (fail); try go_wp2)
  go_loopg [5] k (fun kq v5 w' => ∃ (x5_1 : Int), v5 = .int .i64 x5_1 ∧ Aside0 (barrowref02_Same.l0 kq l0 l1 x5_1 = some r) ∧ Aside0 (kq ≤ k) ∧ Drawn0 w w')
  case atStart => exact ⟨(0), (by first | rfl | (simp; done) | (simp [*]; done)), H', ⟨Nat.le_refl _⟩, by repeat (first | exact Drawn0.refl _ | apply Drawn0.step)⟩
  case round =>
   clear H'
   try clear c1
   try clear c2
   try clear p2
   try clear c3
   try clear c3b0
   try clear c3b1
   try clear c3b2
   obtain ⟨x5_1, rfl, HA, HK1, ⟨m1, rfl⟩⟩ := hrel
   cases gk with
   | zero => exact absurd HA.out (by simp [barrowref02_Same.l0])
   | succ k1 =>
    have H := HA.out
    clear HA
    simp only [barrowref02_Same.l0] at H
    by_cases c4 : x5_1 < (l0.length : Int)
    ·rw [if_pos c4] at H
     have c4b0 : decide (x5_1 < (l0.length : Int)) = true := decide_eq_true c4
     clear c4
     by_cases c5 : 0 ≤ x5_1
     ·rw [if_pos c5] at H
      have c5b0 : decide (0 ≤ x5_1) = true := decide_eq_true c5
      clear c5
      by_cases c6 : x5_1 < (l1.length : Int)
      ·rw [if_pos c6] at H
       have c6b0 : decide (x5_1 < (l1.length : Int)) = true := decide_eq_true c6
       clear c6
       by_cases c7 : (rd l0 x5_1) = (rd l1 x5_1)
       ·rw [if_pos c7] at H
        have c7b0 : ((rd l0 x5_1) == (rd l1 x5_1)) = true := beq_iff_eq.mpr c7
        have c7b1 : ((rd l0 x5_1) != (rd l1 x5_1)) = false := bne_eq_false_iff_eq.mpr c7
        clear c7
        have H' := Aside0.mk H
        clear H
        have p314 : 0 ≤ (x5_1 : Int) := of_decide_eq_true (by first | (with_reducible assumption) | assumption)
        have q314 : x5_1 < (l0.length : Int) := of_decide_eq_true (by first | (with_reducible assumption) | assumption)
        obtain ⟨ad314, e314, hx314_0⟩ := Kd.at_int HR0.out x5_1 p314 q314
        cases e314
        replace p314 := eq_true p314
        replace q314 := eq_true q314
        have p315 : 0 ≤ (x5_1 : Int) := of_decide_eq_true (by first | (with_reducible assumption) | assumption)
        have q315 : x5_1 < (l1.length : Int) := of_decide_eq_true (by first | (with_reducible assumption) | assumption)
        obtain ⟨ad315, e315, hx315_0⟩ := Kd.at_int HR1.out x5_1 p315 q315
        cases e315
        replace p315 := eq_true p315
        replace q315 := eq_true q315
        go_wp2
        repeat (go_quiet (fail); try go_wp2)
        go_roundg k1
        case measure => have := HK1.out; omega
        case rel => exact ⟨(wrap64 (x5_1 + 1)), (by first | rfl | (simp; done) | (simp [*]; done)), H', ⟨by have := HK1.out; omega⟩, by repeat (first | exact Drawn0.refl _ | apply Drawn0.step)⟩
       ·rw [if_neg c7] at H
        have c7b0 : ((rd l0 x5_1) == (rd l1 x5_1)) = false := beq_eq_false_iff_ne.mpr c7
        have c7b1 : ((rd l0 x5_1) != (rd l1 x5_1)) = true := bne_iff_ne.mpr c7
        obtain rfl := Option.some.inj H
        have p314 : 0 ≤ (x5_1 : Int) := of_decide_eq_true (by first | (with_reducible assumption) | assumption)
        have q314 : x5_1 < (l0.length : Int) := of_decide_eq_true (by first | (with_reducible assumption) | assumption)
        obtain ⟨ad314, e314, hx314_0⟩ := Kd.at_int HR0.out x5_1 p314 q314
        cases e314
        replace p314 := eq_true p314
        replace q314 := eq_true q314
        have p315 : 0 ≤ (x5_1 : Int) := of_decide_eq_true (by first | (with_reducible assumption) | assumption)
        have q315 : x5_1 < (l1.length : Int) := of_decide_eq_true (by first | (with_reducible assumption) | assumption)
        obtain ⟨ad315, e315, hx315_0⟩ := Kd.at_int HR1.out x5_1 p315 q315
        cases e315
        replace p315 := eq_true p315
        replace q315 := eq_true q315
        go_wp2
        repeat (go_quiet (fail); try go_wp2)
        go_ret
        exact ⟨by first | rfl | (simp; done) | (simp [*]; done), by repeat (first | exact Drawn0.refl _ | apply Drawn0.step)⟩
      ·rw [if_neg c6] at H
       exact absurd H (by simp)
     ·rw [if_neg c5] at H
      exact absurd H (by simp)
    ·rw [if_neg c4] at H
     have c4b0 : decide (x5_1 < (l0.length : Int)) = false := decide_eq_false c4
     clear c4
     obtain rfl := Option.some.inj H
     go_wp2
     repeat (go_quiet (fail); try go_wp2)
     go_ret
     exact ⟨by first | rfl | (simp; done) | (simp [*]; done), by repeat (first | exact Drawn0.refl _ | apply Drawn0.step)⟩
 ·rw [if_neg c3] at H
  have c3b0 : ((l0.length : Int) == (l1.length : Int)) = false := beq_eq_false_iff_ne.mpr c3
  have c3b1 : ((l0.length : Int) != (l1.length : Int)) = true := bne_iff_ne.mpr c3
  have c3b2 : (l0.length == l1.length) = false := by first | simpa using c3 | (simp at c3 ⊢; omega)
  obtain rfl := Option.some.inj H
  go_enter Try.func21, Try.ntmps21
  go_wp2
  repeat (go_quiet (fail); try go_wp2)
  go_ret
  exact ⟨by first | rfl | (simp; done) | (simp [*]; done), by repeat (first | exact Drawn0.refl _ | apply Drawn0.step)⟩

end Go.Proofs.Ytiadhonhjnbliaa.XZT
