-- Written by xprint.py (a program of this session) for this claim
import Derived.Test.YtiadhonhjnbliaaSq
import Derived.Test.YtiadhonhjnbliaaSL5
import Derived.Test.YtiadhonhjnbliaaSL4
import Derived.Test.YtiadhonhjnbliaaXZTx0
import Derived.Test.YtiadhonhjnbliaaXZTx4
import Derived.Test.YtiadhonhjnbliaaXZTx8
namespace Go.Proofs.Ytiadhonhjnbliaa.XZT
open Go.Proofs.YtiadhonhjnbliaaV Go.Proofs.YtiadhonhjnbliaaS
open Go.RowKit Go.Proofs.YtiadhonhjnbliaaW.PrintWords Go.Proofs.YtiadhonhjnbliaaW.PrintLast Go.Proofs.YtiadhonhjnbliaaW.PrintMore
attribute [local go_sem] max2_int min2_int max_two min_two max_three min_three max_four min_four   -- for this text's walks alone
set_option linter.unusedVariables false
set_option linter.unusedSimpArgs false

/-! ### zone_Tick: function 8 -/
mutual
def zone_Tick.l0 : Nat → (List (S37)) → (List (S44)) → Int → (List (S37)) → (List (S56)) → Int → Option ((List (S37)) × (List (S56)))
 | 0, _, _, _, _, _, _ => none
 | k + 1, l0, l1, a2, x6_0, x7_0, x15_0 => if x15_0 < (l0.length : Int) then (if 0 ≤ x15_0 then (if ((rd_T37 l0 x15_0).f4) ≤ a2 then (zone_Tick.l199 k l0 l1 a2 x6_0 x7_0 x15_0 (decide (((rd_T37 l0 x15_0).f4) ≤ ((rd_T37 l0 x15_0).f2)))) else (zone_Tick.l199 k l0 l1 a2 x6_0 x7_0 x15_0 false)) else (none)) else (some (x6_0, x7_0))
def zone_Tick.l199 : Nat → (List (S37)) → (List (S44)) → Int → (List (S37)) → (List (S56)) → Int → Bool → Option ((List (S37)) × (List (S56)))
 | 0, _, _, _, _, _, _, _ => none
 | k + 1, l0, l1, a2, x6_0, x7_0, x15_0, x29_199 => if x29_199 = true then ((zone_hits.f ((rd_T37 l0 x15_0).f0) ((rd_T37 l0 x15_0).f1.f0) ((rd_T37 l0 x15_0).f1.f1.f0) ((rd_T37 l0 x15_0).f1.f1.f1) ((rd_T37 l0 x15_0).f1.f2.f0) ((rd_T37 l0 x15_0).f1.f2.f1) ((rd_T37 l0 x15_0).f1.f3) ((rd_T37 l0 x15_0).f1.f4) ((rd_T37 l0 x15_0).f2) ((rd_T37 l0 x15_0).f3) ((rd_T37 l0 x15_0).f4) ((rd_T37 l0 x15_0).f5.f0) ((rd_T37 l0 x15_0).f5.f1) ((rd_T37 l0 x15_0).f5.f2) ((rd_T37 l0 x15_0).f6) ((rd_T37 l0 x15_0).f7)).bind fun bt204 => (zone_Tick.l1 k l0 l1 a2 x6_0 x15_0 bt204.1 bt204.2.1 bt204.2.2.1 bt204.2.2.2.1 bt204.2.2.2.2.1 bt204.2.2.2.2.2.1 bt204.2.2.2.2.2.2.1 bt204.2.2.2.2.2.2.2.1 bt204.2.2.2.2.2.2.2.2.1 bt204.2.2.2.2.2.2.2.2.2.1 bt204.2.2.2.2.2.2.2.2.2.2.1 bt204.2.2.2.2.2.2.2.2.2.2.2.1 bt204.2.2.2.2.2.2.2.2.2.2.2.2.1 bt204.2.2.2.2.2.2.2.2.2.2.2.2.2.1 bt204.2.2.2.2.2.2.2.2.2.2.2.2.2.2.1 bt204.2.2.2.2.2.2.2.2.2.2.2.2.2.2.2 x7_0 0)) else (if ((rd_T37 l0 x15_0).f2) ≤ a2 then (zone_Tick.l0 k l0 l1 a2 x6_0 x7_0 (wrap64 (x15_0 + 1))) else ((some (([(⟨(rd_T37 l0 x15_0).f0, (⟨(rd_T37 l0 x15_0).f1.f0, (⟨(rd_T37 l0 x15_0).f1.f1.f0, (rd_T37 l0 x15_0).f1.f1.f1⟩ : S31), (⟨(rd_T37 l0 x15_0).f1.f2.f0, (rd_T37 l0 x15_0).f1.f2.f1⟩ : S31), (rd_T37 l0 x15_0).f1.f3, (rd_T37 l0 x15_0).f1.f4⟩ : S33), (rd_T37 l0 x15_0).f2, (rd_T37 l0 x15_0).f3, (rd_T37 l0 x15_0).f4, (⟨(rd_T37 l0 x15_0).f5.f0, (rd_T37 l0 x15_0).f5.f1, (rd_T37 l0 x15_0).f5.f2⟩ : S35), (rd_T37 l0 x15_0).f6, (rd_T37 l0 x15_0).f7⟩ : S37)] : List (S37)) : List (S37))).bind fun y233 => (if x6_0.length + y233.length < 1099511627776 then ((some (x6_0 ++ y233 : List (S37))).bind fun y234 => (zone_Tick.l0 k l0 l1 a2 y234 x7_0 (wrap64 (x15_0 + 1)))) else (none))))
def zone_Tick.l1 : Nat → (List (S37)) → (List (S44)) → Int → (List (S37)) → Int → Int → Int → Int → Int → Int → Int → Int → Int → Int → Int → Int → Int → Int → Int → Int → Int → (List (S56)) → Int → Option ((List (S37)) × (List (S56)))
 | 0, _, _, _, _, _, _, _, _, _, _, _, _, _, _, _, _, _, _, _, _, _, _, _ => none
 | k + 1, l0, l1, a2, x6_0, x15_0, t204, t205, t206, t207, t208, t209, t210, t211, t212, t213, t214, t215, t216, t217, t218, t219, x7_1, x34_1 => if x34_1 < (l1.length : Int) then (if 0 ≤ x34_1 then ((zone_hits_1_i1.f k ((rd_T44 l1 x34_1).f0) ((rd_T44 l1 x34_1).f1) ((rd_T44 l1 x34_1).f2) ((rd_T44 l1 x34_1).f3) ((rd_T44 l1 x34_1).f4) ((rd_T44 l1 x34_1).f5) ((rd_T44 l1 x34_1).f6) ((rd_T44 l1 x34_1).f7.f0) ((rd_T44 l1 x34_1).f7.f1) ((rd_T44 l1 x34_1).f8) t204 t205 t206 t207 t208 t209 t210 t211 t212 t213 t214 t215 t216 t217 t218 t219).bind fun t223 => (if t223 = true then ((some (([(⟨(rd_T37 l0 x15_0).f0, (rd_T44 l1 x34_1).f0⟩ : S56)] : List (S56)) : List (S56))).bind fun y224 => (if x7_1.length + y224.length < 8796093022208 then ((some (x7_1 ++ y224 : List (S56))).bind fun y225 => (zone_Tick.l1 k l0 l1 a2 x6_0 x15_0 t204 t205 t206 t207 t208 t209 t210 t211 t212 t213 t214 t215 t216 t217 t218 t219 y225 (wrap64 (x34_1 + 1)))) else (none))) else (zone_Tick.l1 k l0 l1 a2 x6_0 x15_0 t204 t205 t206 t207 t208 t209 t210 t211 t212 t213 t214 t215 t216 t217 t218 t219 x7_1 (wrap64 (x34_1 + 1))))) else (none)) else ((sat_Add.f k ((rd_T37 l0 x15_0).f4) ((rd_T37 l0 x15_0).f3)).bind fun t228 => (if ((rd_T37 l0 x15_0).f2) ≤ a2 then (zone_Tick.l0 k l0 l1 a2 x6_0 x7_1 (wrap64 (x15_0 + 1))) else ((some (([(⟨(rd_T37 l0 x15_0).f0, (⟨(rd_T37 l0 x15_0).f1.f0, (⟨(rd_T37 l0 x15_0).f1.f1.f0, (rd_T37 l0 x15_0).f1.f1.f1⟩ : S31), (⟨(rd_T37 l0 x15_0).f1.f2.f0, (rd_T37 l0 x15_0).f1.f2.f1⟩ : S31), (rd_T37 l0 x15_0).f1.f3, (rd_T37 l0 x15_0).f1.f4⟩ : S33), (rd_T37 l0 x15_0).f2, (rd_T37 l0 x15_0).f3, t228, (⟨(rd_T37 l0 x15_0).f5.f0, (rd_T37 l0 x15_0).f5.f1, (rd_T37 l0 x15_0).f5.f2⟩ : S35), (rd_T37 l0 x15_0).f6, (rd_T37 l0 x15_0).f7⟩ : S37)] : List (S37)) : List (S37))).bind fun y229 => (if x6_0.length + y229.length < 1099511627776 then ((some (x6_0 ++ y229 : List (S37))).bind fun y230 => (zone_Tick.l0 k l0 l1 a2 y230 x7_1 (wrap64 (x15_0 + 1)))) else (none)))))
end
def zone_Tick.f (k : Nat) (l0 : List (S37)) (l1 : List (S44)) (a2 : Int) : Option ((List (S37)) × (List (S56))) := zone_Tick.l0 k l0 l1 a2 ([] : List (S37)) ([] : List (S56)) 0
theorem zone_Tick.mono_l : ∀ k, (∀ y0 y1 y2 y3 y4 y5, LeO (zone_Tick.l0 k y0 y1 y2 y3 y4 y5) (zone_Tick.l0 (k + 1) y0 y1 y2 y3 y4 y5)) ∧ (∀ y0 y1 y2 y3 y4 y5 y6, LeO (zone_Tick.l199 k y0 y1 y2 y3 y4 y5 y6) (zone_Tick.l199 (k + 1) y0 y1 y2 y3 y4 y5 y6)) ∧ (∀ y0 y1 y2 y3 y4 y5 y6 y7 y8 y9 y10 y11 y12 y13 y14 y15 y16 y17 y18 y19 y20 y21 y22, LeO (zone_Tick.l1 k y0 y1 y2 y3 y4 y5 y6 y7 y8 y9 y10 y11 y12 y13 y14 y15 y16 y17 y18 y19 y20 y21 y22) (zone_Tick.l1 (k + 1) y0 y1 y2 y3 y4 y5 y6 y7 y8 y9 y10 y11 y12 y13 y14 y15 y16 y17 y18 y19 y20 y21 y22))
 | 0 => ⟨fun _ _ _ _ _ _ r h => by simp [zone_Tick.l0] at h, fun _ _ _ _ _ _ _ r h => by simp [zone_Tick.l199] at h, fun _ _ _ _ _ _ _ _ _ _ _ _ _ _ _ _ _ _ _ _ _ _ _ r h => by simp [zone_Tick.l1] at h⟩
 | k + 1 => by
  obtain ⟨ih0, ih1, ih2⟩ := zone_Tick.mono_l k
  refine ⟨?_, ?_, ?_⟩
  ·intro y0 y1 y2 y3 y4 y5
   unfold zone_Tick.l0
   repeat' first
   | (with_reducible exact ih0 _ _ _ _ _ _)
   | (with_reducible exact ih1 _ _ _ _ _ _ _)
   | (with_reducible exact ih2 _ _ _ _ _ _ _ _ _ _ _ _ _ _ _ _ _ _ _ _ _ _ _)
   | (with_reducible exact sat_Add.mono _ _ _)
   | (with_reducible exact zone_hits_1_i1.mono _ _ _ _ _ _ _ _ _ _ _ _ _ _ _ _ _ _ _ _ _ _ _ _ _ _ _)
   | (with_reducible exact LeO.refl _)
   | (with_reducible exact LeO.none _)
   | (with_reducible refine LeO.ite ?_ ?_)
   | (with_reducible refine everyOf_le (fun _ => ?_))
   | (with_reducible refine LeO.bind ?_ (fun _ => ?_))
   | exact ih0 _ _ _ _ _ _
   | exact ih1 _ _ _ _ _ _ _
   | exact ih2 _ _ _ _ _ _ _ _ _ _ _ _ _ _ _ _ _ _ _ _ _ _ _
   | exact sat_Add.mono _ _ _
   | exact zone_hits_1_i1.mono _ _ _ _ _ _ _ _ _ _ _ _ _ _ _ _ _ _ _ _ _ _ _ _ _ _ _
   | exact LeO.none _
   | refine LeO.ite ?_ ?_
   | refine LeO.bind ?_ (fun _ => ?_)
  ·intro y0 y1 y2 y3 y4 y5 y6
   unfold zone_Tick.l199
   repeat' first
   | (with_reducible exact ih0 _ _ _ _ _ _)
   | (with_reducible exact ih1 _ _ _ _ _ _ _)
   | (with_reducible exact ih2 _ _ _ _ _ _ _ _ _ _ _ _ _ _ _ _ _ _ _ _ _ _ _)
   | (with_reducible exact sat_Add.mono _ _ _)
   | (with_reducible exact zone_hits_1_i1.mono _ _ _ _ _ _ _ _ _ _ _ _ _ _ _ _ _ _ _ _ _ _ _ _ _ _ _)
   | (with_reducible exact LeO.refl _)
   | (with_reducible exact LeO.none _)
   | (with_reducible refine LeO.ite ?_ ?_)
   | (with_reducible refine everyOf_le (fun _ => ?_))
   | (with_reducible refine LeO.bind ?_ (fun _ => ?_))
   | exact ih0 _ _ _ _ _ _
   | exact ih1 _ _ _ _ _ _ _
   | exact ih2 _ _ _ _ _ _ _ _ _ _ _ _ _ _ _ _ _ _ _ _ _ _ _
   | exact sat_Add.mono _ _ _
   | exact zone_hits_1_i1.mono _ _ _ _ _ _ _ _ _ _ _ _ _ _ _ _ _ _ _ _ _ _ _ _ _ _ _
   | exact LeO.none _
   | refine LeO.ite ?_ ?_
   | refine LeO.bind ?_ (fun _ => ?_)
  ·intro y0 y1 y2 y3 y4 y5 y6 y7 y8 y9 y10 y11 y12 y13 y14 y15 y16 y17 y18 y19 y20 y21 y22
   unfold zone_Tick.l1
   repeat' first
   | (with_reducible exact ih0 _ _ _ _ _ _)
   | (with_reducible exact ih1 _ _ _ _ _ _ _)
   | (with_reducible exact ih2 _ _ _ _ _ _ _ _ _ _ _ _ _ _ _ _ _ _ _ _ _ _ _)
   | (with_reducible exact sat_Add.mono _ _ _)
   | (with_reducible exact zone_hits_1_i1.mono _ _ _ _ _ _ _ _ _ _ _ _ _ _ _ _ _ _ _ _ _ _ _ _ _ _ _)
   | (with_reducible exact LeO.refl _)
   | (with_reducible exact LeO.none _)
   | (with_reducible refine LeO.ite ?_ ?_)
   | (with_reducible refine everyOf_le (fun _ => ?_))
   | (with_reducible refine LeO.bind ?_ (fun _ => ?_))
   | exact ih0 _ _ _ _ _ _
   | exact ih1 _ _ _ _ _ _ _
   | exact ih2 _ _ _ _ _ _ _ _ _ _ _ _ _ _ _ _ _ _ _ _ _ _ _
   | exact sat_Add.mono _ _ _
   | exact zone_hits_1_i1.mono _ _ _ _ _ _ _ _ _ _ _ _ _ _ _ _ _ _ _ _ _ _ _ _ _ _ _
   | exact LeO.none _
   | refine LeO.ite ?_ ?_
   | refine LeO.bind ?_ (fun _ => ?_)
theorem zone_Tick.mono : ∀ a0 a1 a2 k, LeO (zone_Tick.f k a0 a1 a2) (zone_Tick.f (k + 1) a0 a1 a2) := by
 intro a0 a1 a2 k
 obtain ⟨ih0, ih1, ih2⟩ := zone_Tick.mono_l k
 unfold zone_Tick.f
 repeat' first
   | (with_reducible exact ih0 _ _ _ _ _ _)
   | (with_reducible exact ih1 _ _ _ _ _ _ _)
   | (with_reducible exact ih2 _ _ _ _ _ _ _ _ _ _ _ _ _ _ _ _ _ _ _ _ _ _ _)
   | (with_reducible exact sat_Add.mono _ _ _)
   | (with_reducible exact zone_hits_1_i1.mono _ _ _ _ _ _ _ _ _ _ _ _ _ _ _ _ _ _ _ _ _ _ _ _ _ _ _)
   | (with_reducible exact LeO.refl _)
   | (with_reducible exact LeO.none _)
   | (with_reducible refine LeO.ite ?_ ?_)
   | (with_reducible refine everyOf_le (fun _ => ?_))
   | (with_reducible refine LeO.bind ?_ (fun _ => ?_))
   | exact ih0 _ _ _ _ _ _
   | exact ih1 _ _ _ _ _ _ _
   | exact ih2 _ _ _ _ _ _ _ _ _ _ _ _ _ _ _ _ _ _ _ _ _ _ _
   | exact sat_Add.mono _ _ _
   | exact zone_hits_1_i1.mono _ _ _ _ _ _ _ _ _ _ _ _ _ _ _ _ _ _ _ _ _ _ _ _ _ _ _
   | exact LeO.none _
   | refine LeO.ite ?_ ?_
   | refine LeO.bind ?_ (fun _ => ?_)
def zone_Tick.Post (r1 : List (S37)) (r2 : List (S56)) (S : Nat → Prop) (L : List Asr) (w : World) (e : Ending) (w' : World) : Prop := ∃ (Ar1 : Option Addr) (cr1 : Nat) (Ar2 : Option Addr) (cr2 : Nat), e = .returned (.tuple #[.slice Ar1 r1.length cr1, .slice Ar2 r2.length cr2]) ∧ SL (row k37 37 (.slice Ar1 r1.length cr1) r1 :: row k56 56 (.slice Ar2 r2.length cr2) r2 :: L) w' S ∧ Keep S w w'
set_option maxHeartbeats 8000000 in
set_option maxRecDepth 100000 in
theorem zone_Tick.slcalls (k : Nat) (A0 : Option Addr) (c0 : Nat) (l0 : List (S37)) (A1 : Option Addr) (c1 : Nat) (l1 : List (S44)) (a2 : Int) (r1 : List (S37)) (r2 : List (S56)) (S : Nat → Prop) (L : List Asr) (w : World) (hf : Fresh S w) (hs : SL (L) w S) (hr0 : RO S w (fun w_ => Kd.C k37 w_ A0 l0.length l0)) (hc0 : l0.length ≤ c0) (hr1 : RO S w (fun w_ => Kd.C k44 w_ A1 l1.length l1)) (hc1 : l1.length ≤ c1) (h : zone_Tick.f k l0 l1 a2 = some (r1, r2)) :
  Calls Try.prog 8 #[.slice A0 l0.length c0, .slice A1 l1.length c1, .int .i64 a2] w (zone_Tick.Post r1 r2 S L w) := by
 have HR0 := Aside0.mk hr0
 have HC0 := Aside0.mk hc0
 clear hr0 hc0
 have HR1 := Aside0.mk hr1
 have HC1 := Aside0.mk hc1
 clear hr1 hc1
 have HF := Aside0.mk hf
 have HS := Aside0.mk hs
 have HK := Aside0.mk (Keep.refl S w)
 clear hf hs
 have hu37 := Try.underlying37
 have hu44 := Try.underlying44
 have hu56 := Try.underlying56
 have H : (zone_Tick.l0 k l0 l1 a2 ([] : List (S37)) ([] : List (S56)) 0) = some (r1, r2) := h
 clear h
 have H' := Aside0.mk H
 clear H
 have n2_ := Aside0.mk (SL.nil_row k37 37 HS.out)
 clear HS
 have HS := n2_
 clear n2_
 have n2_ := Aside0.mk (SL.nil_row k56 56 HS.out)
 clear HS
 have HS := n2_
 clear n2_
 go_enter Try.func8, Try.ntmps8
 try go_wp2
 go_step3
 try go_wp2
 go_step3
 try go_wp2
 try simp only [Exit.noGoto_ret, Exit.noGoto_normal, Exit.noGoto_exit]
 go_loopg [6, 7, 15] k (fun kq v6 v7 v15 w' => ∃ (x7_0 : List (S56)) (Ax7_0 : Option Addr) (cx7_0 : Nat) (x6_0 : List (S37)) (Ax6_0 : Option Addr) (cx6_0 : Nat) (x15_0 : Int), v6 = .slice Ax6_0 x6_0.length cx6_0 ∧ v7 = .slice Ax7_0 x7_0.length cx7_0 ∧ v15 = .int .i64 x15_0 ∧ Aside0 (zone_Tick.l0 kq l0 l1 a2 x6_0 x7_0 x15_0 = some (r1, r2)) ∧ Aside0 (kq ≤ k) ∧ Aside0 (SL (row k56 56 (.slice Ax7_0 x7_0.length cx7_0) x7_0 :: row k37 37 (.slice Ax6_0 x6_0.length cx6_0) x6_0 :: L) w' S) ∧ Aside0 (Keep S w w'))
 case atStart => exact ⟨(([] : List (S56))), (none), (0), (([] : List (S37))), (none), (0), (0), (by first | rfl | (simp; done) | (simp [*]; done)), (by first | rfl | (simp; done) | (simp [*]; done)), (by first | rfl | (simp; done) | (simp [*]; done)), H', ⟨Nat.le_refl _⟩, HS, HK⟩
 case round =>
  clear H' HS HK
  obtain ⟨x7_0, Ax7_0, cx7_0, x6_0, Ax6_0, cx6_0, x15_0, rfl, rfl, rfl, HA, HQ1, HS, HK⟩ := hrel
  cases gk with
  | zero => exact absurd HA.out (by simp [zone_Tick.l0])
  | succ k1 =>
   have H := HA.out
   clear HA
   simp only [zone_Tick.l0] at H
   by_cases c1 : x15_0 < (l0.length : Int)
   ·rw [if_pos c1] at H
    have c1b0 : decide (x15_0 < (l0.length : Int)) = true := decide_eq_true c1
    clear c1
    by_cases c2 : 0 ≤ x15_0
    ·rw [if_pos c2] at H
     have c2b0 : decide (0 ≤ x15_0) = true := decide_eq_true c2
     clear c2
     have H' := Aside0.mk H
     clear H
     have pq203 : 0 ≤ (x15_0 : Int) := of_decide_eq_true (by first | (with_reducible assumption) | assumption)
     have qq203 : x15_0 < ((l0.length : Int) : Int) := of_decide_eq_true (by first | (with_reducible assumption) | assumption)
     obtain ⟨adq203, eq203, hxq203_0, hxq203_1, hxq203_2, hxq203_3, hxq203_4, hxq203_5, hxq203_6, hxq203_7, hxq203_8, hxq203_9, hxq203_10, hxq203_11, hxq203_12, hxq203_13, hxq203_14, hxq203_15⟩ := at_T37 (RO.at_ HR0.out HK.out) x15_0 pq203 qq203
     cases eq203
     replace pq203 := eq_true pq203
     replace qq203 := eq_true qq203
     try go_upto_region 4 with (first | ((with_reducible refine gate_dst (N := 18) rfl ?_); refine wpList_loadA rfl 37 (.tmp 17) rfl _ rfl _ _ (ats_of hxq203_0 (atk_cons hxq203_1 (atk_cons hxq203_2 (atk_cons hxq203_3 (atk_cons hxq203_4 (atk_cons hxq203_5 (atk_cons hxq203_6 (atk_cons hxq203_7 (atk_cons hxq203_8 (atk_cons hxq203_9 (atk_cons hxq203_10 (atk_cons hxq203_11 (atk_cons hxq203_12 (atk_cons hxq203_13 (atk_cons hxq203_14 (atk_cons hxq203_15 atk_nil)))))))))))))))) Try.underlying37 rfl (by kernel_rfl) ?_) | ((with_reducible refine gate_dst (N := 9) rfl ?_); refine wpList_plain rfl (fun K_ hK_ => ?_); refine op_box (S := S) (cs := #[.int .i64 0, .int .i64 0, .int .i64 0, .int .i64 0, .int .i64 0, .int .i64 0, .int .i64 0, .int .i64 0, .int .i64 0, .int .i64 0, .int .i64 0, .int .i64 0, .int .i64 0, .int .i64 0, .int .i64 0, .int .i64 0]) (t := 37) (HF.out.keep HK.out) HS.out (by first | (go_simp; done) | (go_simp; rfl)) ?_; intro g3000012 w3 hs_ hk_; refine hK_ _ _ ?_; clear hK_ K_; replace HS := Aside0.mk (hs_); replace HK := Aside0.mk (HK.out.trans hk_)) | ((with_reducible refine gate_store (t := 37) (p := 9) (v := (.tmp 18)) rfl ?_); refine wpList_plain rfl (fun K_ hK_ => ?_); refine op_store (S := S) 37 (.tmp 9) (.tmp 18) rfl g3000012 0 (.agg #[.int .i64 ((rd_T37 l0 x15_0).f0), .int .i64 ((rd_T37 l0 x15_0).f1.f0), .int .i64 ((rd_T37 l0 x15_0).f1.f1.f0), .int .i64 ((rd_T37 l0 x15_0).f1.f1.f1), .int .i64 ((rd_T37 l0 x15_0).f1.f2.f0), .int .i64 ((rd_T37 l0 x15_0).f1.f2.f1), .int .i64 ((rd_T37 l0 x15_0).f1.f3), .int .i64 ((rd_T37 l0 x15_0).f1.f4), .int .i64 ((rd_T37 l0 x15_0).f2), .int .i64 ((rd_T37 l0 x15_0).f3), .int .i64 ((rd_T37 l0 x15_0).f4), .int .i64 ((rd_T37 l0 x15_0).f5.f0), .int .i64 ((rd_T37 l0 x15_0).f5.f1), .int .i64 ((rd_T37 l0 x15_0).f5.f2), .int .i64 ((rd_T37 l0 x15_0).f6), .int .i64 ((rd_T37 l0 x15_0).f7)]) [.int .i64 ((rd_T37 l0 x15_0).f0), .int .i64 ((rd_T37 l0 x15_0).f1.f0), .int .i64 ((rd_T37 l0 x15_0).f1.f1.f0), .int .i64 ((rd_T37 l0 x15_0).f1.f1.f1), .int .i64 ((rd_T37 l0 x15_0).f1.f2.f0), .int .i64 ((rd_T37 l0 x15_0).f1.f2.f1), .int .i64 ((rd_T37 l0 x15_0).f1.f3), .int .i64 ((rd_T37 l0 x15_0).f1.f4), .int .i64 ((rd_T37 l0 x15_0).f2), .int .i64 ((rd_T37 l0 x15_0).f3), .int .i64 ((rd_T37 l0 x15_0).f4), .int .i64 ((rd_T37 l0 x15_0).f5.f0), .int .i64 ((rd_T37 l0 x15_0).f5.f1), .int .i64 ((rd_T37 l0 x15_0).f5.f2), .int .i64 ((rd_T37 l0 x15_0).f6), .int .i64 ((rd_T37 l0 x15_0).f7)] rfl rfl rfl (by kernel_rfl) (by simp [Value.oneCell']) HS.out (by simp) ?_; intro w4 hs_ hk_; refine hK_ _ _ ?_; clear hK_ K_; replace HS := Aside0.mk ((show SL (cells g3000012 37 [.int .i64 ((rd_T37 l0 x15_0).f0), .int .i64 ((rd_T37 l0 x15_0).f1.f0), .int .i64 ((rd_T37 l0 x15_0).f1.f1.f0), .int .i64 ((rd_T37 l0 x15_0).f1.f1.f1), .int .i64 ((rd_T37 l0 x15_0).f1.f2.f0), .int .i64 ((rd_T37 l0 x15_0).f1.f2.f1), .int .i64 ((rd_T37 l0 x15_0).f1.f3), .int .i64 ((rd_T37 l0 x15_0).f1.f4), .int .i64 ((rd_T37 l0 x15_0).f2), .int .i64 ((rd_T37 l0 x15_0).f3), .int .i64 ((rd_T37 l0 x15_0).f4), .int .i64 ((rd_T37 l0 x15_0).f5.f0), .int .i64 ((rd_T37 l0 x15_0).f5.f1), .int .i64 ((rd_T37 l0 x15_0).f5.f2), .int .i64 ((rd_T37 l0 x15_0).f6), .int .i64 ((rd_T37 l0 x15_0).f7)].toArray :: _) _ _ from hs_)); replace HK := Aside0.mk (HK.out.trans hk_)))
     try simp only [Exit.noGoto_ret, Exit.noGoto_normal, Exit.noGoto_exit]
     (try simp only [Act.put, sT, sZ, sS])
     go_cut [29] (fun v29 wc => ∃ (kq : Nat) (x29_199 : Bool), v29 = .bool x29_199 ∧ Aside0 (zone_Tick.l199 kq l0 l1 a2 x6_0 x7_0 x15_0 x29_199 = some (r1, r2)) ∧ Aside0 (kq ≤ k1) ∧ Aside0 (SL (cells g3000012 37 [.int .i64 ((rd_T37 l0 x15_0).f0), .int .i64 ((rd_T37 l0 x15_0).f1.f0), .int .i64 ((rd_T37 l0 x15_0).f1.f1.f0), .int .i64 ((rd_T37 l0 x15_0).f1.f1.f1), .int .i64 ((rd_T37 l0 x15_0).f1.f2.f0), .int .i64 ((rd_T37 l0 x15_0).f1.f2.f1), .int .i64 ((rd_T37 l0 x15_0).f1.f3), .int .i64 ((rd_T37 l0 x15_0).f1.f4), .int .i64 ((rd_T37 l0 x15_0).f2), .int .i64 ((rd_T37 l0 x15_0).f3), .int .i64 ((rd_T37 l0 x15_0).f4), .int .i64 ((rd_T37 l0 x15_0).f5.f0), .int .i64 ((rd_T37 l0 x15_0).f5.f1), .int .i64 ((rd_T37 l0 x15_0).f5.f2), .int .i64 ((rd_T37 l0 x15_0).f6), .int .i64 ((rd_T37 l0 x15_0).f7)].toArray :: row k56 56 (.slice Ax7_0 x7_0.length cx7_0) x7_0 :: row k37 37 (.slice Ax6_0 x6_0.length cx6_0) x6_0 :: L) wc S) ∧ Aside0 (Keep S w wc))
     case first =>
      have H := H'.out
      clear H'
      by_cases c5 : ((rd_T37 l0 x15_0).f4) ≤ a2
      ·rw [if_pos c5] at H
       have c5b0 : decide (((rd_T37 l0 x15_0).f4) ≤ a2) = true := decide_eq_true c5
       clear c5
       have H' := Aside0.mk H
       clear H
       have hb_ := SL.at_ HS.out
       have hz3000012_0_0 := ((blk_cell hb_ 0).trans rfl : _ = some (.int .i64 ((rd_T37 l0 x15_0).f0)))
       have hz3000012_1_0 := ((blk_cell hb_ 1).trans rfl : _ = some (.int .i64 ((rd_T37 l0 x15_0).f1.f0)))
       have hz3000012_2_0 := ((blk_cell hb_ 2).trans rfl : _ = some (.int .i64 ((rd_T37 l0 x15_0).f1.f1.f0)))
       have hz3000012_3_0 := ((blk_cell hb_ 3).trans rfl : _ = some (.int .i64 ((rd_T37 l0 x15_0).f1.f1.f1)))
       have hz3000012_4_0 := ((blk_cell hb_ 4).trans rfl : _ = some (.int .i64 ((rd_T37 l0 x15_0).f1.f2.f0)))
       have hz3000012_5_0 := ((blk_cell hb_ 5).trans rfl : _ = some (.int .i64 ((rd_T37 l0 x15_0).f1.f2.f1)))
       have hz3000012_6_0 := ((blk_cell hb_ 6).trans rfl : _ = some (.int .i64 ((rd_T37 l0 x15_0).f1.f3)))
       have hz3000012_7_0 := ((blk_cell hb_ 7).trans rfl : _ = some (.int .i64 ((rd_T37 l0 x15_0).f1.f4)))
       have hz3000012_8_0 := ((blk_cell hb_ 8).trans rfl : _ = some (.int .i64 ((rd_T37 l0 x15_0).f2)))
       have hz3000012_9_0 := ((blk_cell hb_ 9).trans rfl : _ = some (.int .i64 ((rd_T37 l0 x15_0).f3)))
       have hz3000012_10_0 := ((blk_cell hb_ 10).trans rfl : _ = some (.int .i64 ((rd_T37 l0 x15_0).f4)))
       have hz3000012_11_0 := ((blk_cell hb_ 11).trans rfl : _ = some (.int .i64 ((rd_T37 l0 x15_0).f5.f0)))
       have hz3000012_12_0 := ((blk_cell hb_ 12).trans rfl : _ = some (.int .i64 ((rd_T37 l0 x15_0).f5.f1)))
       have hz3000012_13_0 := ((blk_cell hb_ 13).trans rfl : _ = some (.int .i64 ((rd_T37 l0 x15_0).f5.f2)))
       have hz3000012_14_0 := ((blk_cell hb_ 14).trans rfl : _ = some (.int .i64 ((rd_T37 l0 x15_0).f6)))
       have hz3000012_15_0 := ((blk_cell hb_ 15).trans rfl : _ = some (.int .i64 ((rd_T37 l0 x15_0).f7)))
       clear hb_
       go_wp2
       try simp only [Exit.noGoto_ret, Exit.noGoto_normal, Exit.noGoto_exit]
       go_meet
       case rel => exact ⟨k1, (decide (((rd_T37 l0 x15_0).f4) ≤ ((rd_T37 l0 x15_0).f2))), (by first | rfl | (simp; done) | (simp [*]; done)), H', ⟨by have := HQ1.out; omega⟩, HS, HK⟩
      ·rw [if_neg c5] at H
       have c5b0 : decide (((rd_T37 l0 x15_0).f4) ≤ a2) = false := decide_eq_false c5
       clear c5
       have H' := Aside0.mk H
       clear H
       have hb_ := SL.at_ HS.out
       have hz3000012_0_0 := ((blk_cell hb_ 0).trans rfl : _ = some (.int .i64 ((rd_T37 l0 x15_0).f0)))
       have hz3000012_1_0 := ((blk_cell hb_ 1).trans rfl : _ = some (.int .i64 ((rd_T37 l0 x15_0).f1.f0)))
       have hz3000012_2_0 := ((blk_cell hb_ 2).trans rfl : _ = some (.int .i64 ((rd_T37 l0 x15_0).f1.f1.f0)))
       have hz3000012_3_0 := ((blk_cell hb_ 3).trans rfl : _ = some (.int .i64 ((rd_T37 l0 x15_0).f1.f1.f1)))
       have hz3000012_4_0 := ((blk_cell hb_ 4).trans rfl : _ = some (.int .i64 ((rd_T37 l0 x15_0).f1.f2.f0)))
       have hz3000012_5_0 := ((blk_cell hb_ 5).trans rfl : _ = some (.int .i64 ((rd_T37 l0 x15_0).f1.f2.f1)))
       have hz3000012_6_0 := ((blk_cell hb_ 6).trans rfl : _ = some (.int .i64 ((rd_T37 l0 x15_0).f1.f3)))
       have hz3000012_7_0 := ((blk_cell hb_ 7).trans rfl : _ = some (.int .i64 ((rd_T37 l0 x15_0).f1.f4)))
       have hz3000012_8_0 := ((blk_cell hb_ 8).trans rfl : _ = some (.int .i64 ((rd_T37 l0 x15_0).f2)))
       have hz3000012_9_0 := ((blk_cell hb_ 9).trans rfl : _ = some (.int .i64 ((rd_T37 l0 x15_0).f3)))
       have hz3000012_10_0 := ((blk_cell hb_ 10).trans rfl : _ = some (.int .i64 ((rd_T37 l0 x15_0).f4)))
       have hz3000012_11_0 := ((blk_cell hb_ 11).trans rfl : _ = some (.int .i64 ((rd_T37 l0 x15_0).f5.f0)))
       have hz3000012_12_0 := ((blk_cell hb_ 12).trans rfl : _ = some (.int .i64 ((rd_T37 l0 x15_0).f5.f1)))
       have hz3000012_13_0 := ((blk_cell hb_ 13).trans rfl : _ = some (.int .i64 ((rd_T37 l0 x15_0).f5.f2)))
       have hz3000012_14_0 := ((blk_cell hb_ 14).trans rfl : _ = some (.int .i64 ((rd_T37 l0 x15_0).f6)))
       have hz3000012_15_0 := ((blk_cell hb_ 15).trans rfl : _ = some (.int .i64 ((rd_T37 l0 x15_0).f7)))
       clear hb_
       go_wp2
       try simp only [Exit.noGoto_ret, Exit.noGoto_normal, Exit.noGoto_exit]
       go_meet
       case rel => exact ⟨k1, (false), (by first | rfl | (simp; done) | (simp [*]; done)), H', ⟨by have := HQ1.out; omega⟩, HS, HK⟩
     case rest =>
      clear H' HS HK
      obtain ⟨kq, x29_199, rfl, HA, HQ2, HS, HK⟩ := hcut
      cases kq with
      | zero => exact absurd HA.out (by simp [zone_Tick.l199])
      | succ k2 =>
       have H := HA.out
       clear HA
       simp only [zone_Tick.l199] at H
       by_cases c6 : x29_199 = true
       ·subst c6
        rw [if_pos rfl] at H
        replace H := Option.bind_eq_some_iff.1 H
        obtain ⟨⟨t204, t205, t206, t207, t208, t209, t210, t211, t212, t213, t214, t215, t216, t217, t218, t219⟩, Hc70, H⟩ := H
        try dsimp only at H
        have Hc7 := Aside0.mk Hc70
        clear Hc70
        have H' := Aside0.mk H
        clear H
        have hb_ := SL.at_ HS.out
        have hz3000012_0_0 := ((blk_cell hb_ 0).trans rfl : _ = some (.int .i64 ((rd_T37 l0 x15_0).f0)))
        have hz3000012_1_0 := ((blk_cell hb_ 1).trans rfl : _ = some (.int .i64 ((rd_T37 l0 x15_0).f1.f0)))
        have hz3000012_2_0 := ((blk_cell hb_ 2).trans rfl : _ = some (.int .i64 ((rd_T37 l0 x15_0).f1.f1.f0)))
        have hz3000012_3_0 := ((blk_cell hb_ 3).trans rfl : _ = some (.int .i64 ((rd_T37 l0 x15_0).f1.f1.f1)))
        have hz3000012_4_0 := ((blk_cell hb_ 4).trans rfl : _ = some (.int .i64 ((rd_T37 l0 x15_0).f1.f2.f0)))
        have hz3000012_5_0 := ((blk_cell hb_ 5).trans rfl : _ = some (.int .i64 ((rd_T37 l0 x15_0).f1.f2.f1)))
        have hz3000012_6_0 := ((blk_cell hb_ 6).trans rfl : _ = some (.int .i64 ((rd_T37 l0 x15_0).f1.f3)))
        have hz3000012_7_0 := ((blk_cell hb_ 7).trans rfl : _ = some (.int .i64 ((rd_T37 l0 x15_0).f1.f4)))
        have hz3000012_8_0 := ((blk_cell hb_ 8).trans rfl : _ = some (.int .i64 ((rd_T37 l0 x15_0).f2)))
        have hz3000012_9_0 := ((blk_cell hb_ 9).trans rfl : _ = some (.int .i64 ((rd_T37 l0 x15_0).f3)))
        have hz3000012_10_0 := ((blk_cell hb_ 10).trans rfl : _ = some (.int .i64 ((rd_T37 l0 x15_0).f4)))
        have hz3000012_11_0 := ((blk_cell hb_ 11).trans rfl : _ = some (.int .i64 ((rd_T37 l0 x15_0).f5.f0)))
        have hz3000012_12_0 := ((blk_cell hb_ 12).trans rfl : _ = some (.int .i64 ((rd_T37 l0 x15_0).f5.f1)))
        have hz3000012_13_0 := ((blk_cell hb_ 13).trans rfl : _ = some (.int .i64 ((rd_T37 l0 x15_0).f5.f2)))
        have hz3000012_14_0 := ((blk_cell hb_ 14).trans rfl : _ = some (.int .i64 ((rd_T37 l0 x15_0).f6)))
        have hz3000012_15_0 := ((blk_cell hb_ 15).trans rfl : _ = some (.int .i64 ((rd_T37 l0 x15_0).f7)))
        clear hb_
        go_wp2_with (first | ((with_reducible refine gate_dst (N := 30) rfl ?_); refine wpList_loadA rfl 37 (.tmp 9) rfl _ rfl [.int .i64 ((rd_T37 l0 x15_0).f0), .int .i64 ((rd_T37 l0 x15_0).f1.f0), .int .i64 ((rd_T37 l0 x15_0).f1.f1.f0), .int .i64 ((rd_T37 l0 x15_0).f1.f1.f1), .int .i64 ((rd_T37 l0 x15_0).f1.f2.f0), .int .i64 ((rd_T37 l0 x15_0).f1.f2.f1), .int .i64 ((rd_T37 l0 x15_0).f1.f3), .int .i64 ((rd_T37 l0 x15_0).f1.f4), .int .i64 ((rd_T37 l0 x15_0).f2), .int .i64 ((rd_T37 l0 x15_0).f3), .int .i64 ((rd_T37 l0 x15_0).f4), .int .i64 ((rd_T37 l0 x15_0).f5.f0), .int .i64 ((rd_T37 l0 x15_0).f5.f1), .int .i64 ((rd_T37 l0 x15_0).f5.f2), .int .i64 ((rd_T37 l0 x15_0).f6), .int .i64 ((rd_T37 l0 x15_0).f7)] _ (cells_at (SL.at_ HS.out) 0 _ rfl) Try.underlying37 rfl (by kernel_rfl) ?_) | ((with_reducible refine gate_dst (N := 31) rfl ?_); refine goesL_ (some 31) rfl rfl Try.func25 (by kernel_rfl) rfl #[.agg #[.int .i64 ((rd_T37 l0 x15_0).f0), .int .i64 ((rd_T37 l0 x15_0).f1.f0), .int .i64 ((rd_T37 l0 x15_0).f1.f1.f0), .int .i64 ((rd_T37 l0 x15_0).f1.f1.f1), .int .i64 ((rd_T37 l0 x15_0).f1.f2.f0), .int .i64 ((rd_T37 l0 x15_0).f1.f2.f1), .int .i64 ((rd_T37 l0 x15_0).f1.f3), .int .i64 ((rd_T37 l0 x15_0).f1.f4), .int .i64 ((rd_T37 l0 x15_0).f2), .int .i64 ((rd_T37 l0 x15_0).f3), .int .i64 ((rd_T37 l0 x15_0).f4), .int .i64 ((rd_T37 l0 x15_0).f5.f0), .int .i64 ((rd_T37 l0 x15_0).f5.f1), .int .i64 ((rd_T37 l0 x15_0).f5.f2), .int .i64 ((rd_T37 l0 x15_0).f6), .int .i64 ((rd_T37 l0 x15_0).f7)]] rfl (by (try simp only [List.map_toArray, List.map_cons, List.map_nil]); first | done | rfl | (simp; done)) ?_; have hs0_ := HS.out; (with_reducible refine (zone_hits.slcalls _ _ _ _ _ _ _ _ _ _ _ _ _ _ _ _ _ _ _ _ _ _ _ _ _ _ _ _ _ _ _ _ _ _ _ (HF.out.keep HK.out) hs0_  Hc7.out).mono ?_); rintro e_ w8 ⟨g3000013, rfl, hsr_, hkr_⟩; refine ⟨_, rfl, ?_⟩; replace HS := Aside0.mk (hsr_); replace HK := Aside0.mk (HK.out.trans hkr_); (try clear hz3000012_0_0 hz3000012_1_0 hz3000012_2_0 hz3000012_3_0 hz3000012_4_0 hz3000012_5_0 hz3000012_6_0 hz3000012_7_0 hz3000012_8_0 hz3000012_9_0 hz3000012_10_0 hz3000012_11_0 hz3000012_12_0 hz3000012_13_0 hz3000012_14_0 hz3000012_15_0)))
        try simp only [Exit.noGoto_ret, Exit.noGoto_normal, Exit.noGoto_exit]
        replace HS := Aside0.mk (SL.get3 (SL.get2 (SL.get2 (SL.get3 HS.out))))
        try go_simp
        go_loopg [7, 34] k2 (fun kq v7 v34 w' => ∃ (x7_1 : List (S56)) (Ax7_1 : Option Addr) (cx7_1 : Nat) (x34_1 : Int), v7 = .slice Ax7_1 x7_1.length cx7_1 ∧ v34 = .int .i64 x34_1 ∧ Aside0 (zone_Tick.l1 kq l0 l1 a2 x6_0 x15_0 t204 t205 t206 t207 t208 t209 t210 t211 t212 t213 t214 t215 t216 t217 t218 t219 x7_1 x34_1 = some (r1, r2)) ∧ Aside0 (kq ≤ k2) ∧ Aside0 (SL (row k56 56 (.slice Ax7_1 x7_1.length cx7_1) x7_1 :: cells g3000013 37 [.int .i64 t204, .int .i64 t205, .int .i64 t206, .int .i64 t207, .int .i64 t208, .int .i64 t209, .int .i64 t210, .int .i64 t211, .int .i64 t212, .int .i64 t213, .int .i64 t214, .int .i64 t215, .int .i64 t216, .int .i64 t217, .int .i64 t218, .int .i64 t219].toArray :: cells g3000012 37 [.int .i64 ((rd_T37 l0 x15_0).f0), .int .i64 ((rd_T37 l0 x15_0).f1.f0), .int .i64 ((rd_T37 l0 x15_0).f1.f1.f0), .int .i64 ((rd_T37 l0 x15_0).f1.f1.f1), .int .i64 ((rd_T37 l0 x15_0).f1.f2.f0), .int .i64 ((rd_T37 l0 x15_0).f1.f2.f1), .int .i64 ((rd_T37 l0 x15_0).f1.f3), .int .i64 ((rd_T37 l0 x15_0).f1.f4), .int .i64 ((rd_T37 l0 x15_0).f2), .int .i64 ((rd_T37 l0 x15_0).f3), .int .i64 ((rd_T37 l0 x15_0).f4), .int .i64 ((rd_T37 l0 x15_0).f5.f0), .int .i64 ((rd_T37 l0 x15_0).f5.f1), .int .i64 ((rd_T37 l0 x15_0).f5.f2), .int .i64 ((rd_T37 l0 x15_0).f6), .int .i64 ((rd_T37 l0 x15_0).f7)].toArray :: row k37 37 (.slice Ax6_0 x6_0.length cx6_0) x6_0 :: L) w' S) ∧ Aside0 (Keep S w w'))
        case atStart => exact ⟨(x7_0), (Ax7_0), (cx7_0), (0), (by first | rfl | (simp; done) | (simp [*]; done)), (by first | rfl | (simp; done) | (simp [*]; done)), H', ⟨Nat.le_refl _⟩, HS, HK⟩
        case round =>
         clear H' HS HK
         try clear hz3000012_0_0 hz3000012_1_0 hz3000012_2_0 hz3000012_3_0 hz3000012_4_0 hz3000012_5_0 hz3000012_6_0 hz3000012_7_0 hz3000012_8_0 hz3000012_9_0 hz3000012_10_0 hz3000012_11_0 hz3000012_12_0 hz3000012_13_0 hz3000012_14_0 hz3000012_15_0
         obtain ⟨x7_1, Ax7_1, cx7_1, x34_1, rfl, rfl, HA, HQ3, HS, HK⟩ := hrel
         cases gk with
         | zero => exact absurd HA.out (by simp [zone_Tick.l1])
         | succ k3 =>
          have H := HA.out
          clear HA
          simp only [zone_Tick.l1] at H
          by_cases c9 : x34_1 < (l1.length : Int)
          ·rw [if_pos c9] at H
           have c9b0 : decide (x34_1 < (l1.length : Int)) = true := decide_eq_true c9
           clear c9
           by_cases c10 : 0 ≤ x34_1
           ·rw [if_pos c10] at H
            have c10b0 : decide (0 ≤ x34_1) = true := decide_eq_true c10
            clear c10
            replace H := Option.bind_eq_some_iff.1 H
            obtain ⟨t223, Hc110, H⟩ := H
            try dsimp only at H
            have Hc11 := Aside0.mk Hc110
            clear Hc110
            have H' := Aside0.mk H
            clear H
            have pq220 : 0 ≤ (x34_1 : Int) := of_decide_eq_true (by first | (with_reducible assumption) | assumption)
            have qq220 : x34_1 < ((l1.length : Int) : Int) := of_decide_eq_true (by first | (with_reducible assumption) | assumption)
            obtain ⟨adq220, eq220, hxq220_0, hxq220_1, hxq220_2, hxq220_3, hxq220_4, hxq220_5, hxq220_6, hxq220_7, hxq220_8, hxq220_9⟩ := at_T44 (RO.at_ HR1.out HK.out) x34_1 pq220 qq220
            cases eq220
            replace pq220 := eq_true pq220
            replace qq220 := eq_true qq220
            go_wp2_with (first | ((with_reducible refine gate_dst (N := 37) rfl ?_); refine wpList_loadA rfl 44 (.tmp 36) rfl _ rfl _ _ (ats_of hxq220_0 (atk_cons hxq220_1 (atk_cons hxq220_2 (atk_cons hxq220_3 (atk_cons hxq220_4 (atk_cons hxq220_5 (atk_cons hxq220_6 (atk_cons hxq220_7 (atk_cons hxq220_8 (atk_cons hxq220_9 atk_nil)))))))))) Try.underlying44 rfl (by kernel_rfl) ?_) | ((with_reducible refine gate_dst (N := 12) rfl ?_); refine wpList_plain rfl (fun K_ hK_ => ?_); refine op_box (S := S) (cs := #[.int .i64 0, .int .i64 0, .int .i64 0, .int .i64 0, .int .i64 0, .int .i64 0, .int .i64 0, .int .i64 0, .int .i64 0, .int .i64 0]) (t := 44) (HF.out.keep HK.out) HS.out (by first | (go_simp; done) | (go_simp; rfl)) ?_; intro g3000014 w12 hs_ hk_; refine hK_ _ _ ?_; clear hK_ K_; replace HS := Aside0.mk (hs_); replace HK := Aside0.mk (HK.out.trans hk_)) | ((with_reducible refine gate_store (t := 44) (p := 12) (v := (.tmp 37)) rfl ?_); refine wpList_plain rfl (fun K_ hK_ => ?_); refine op_store (S := S) 44 (.tmp 12) (.tmp 37) rfl g3000014 0 (.agg #[.int .i64 ((rd_T44 l1 x34_1).f0), .int .i64 ((rd_T44 l1 x34_1).f1), .int .i64 ((rd_T44 l1 x34_1).f2), .int .i64 ((rd_T44 l1 x34_1).f3), .int .i64 ((rd_T44 l1 x34_1).f4), .int .i64 ((rd_T44 l1 x34_1).f5), .int .i64 ((rd_T44 l1 x34_1).f6), .int .i64 ((rd_T44 l1 x34_1).f7.f0), .int .i64 ((rd_T44 l1 x34_1).f7.f1), .int .i64 ((rd_T44 l1 x34_1).f8)]) [.int .i64 ((rd_T44 l1 x34_1).f0), .int .i64 ((rd_T44 l1 x34_1).f1), .int .i64 ((rd_T44 l1 x34_1).f2), .int .i64 ((rd_T44 l1 x34_1).f3), .int .i64 ((rd_T44 l1 x34_1).f4), .int .i64 ((rd_T44 l1 x34_1).f5), .int .i64 ((rd_T44 l1 x34_1).f6), .int .i64 ((rd_T44 l1 x34_1).f7.f0), .int .i64 ((rd_T44 l1 x34_1).f7.f1), .int .i64 ((rd_T44 l1 x34_1).f8)] rfl rfl rfl (by kernel_rfl) (by simp [Value.oneCell']) HS.out (by simp) ?_; intro w13 hs_ hk_; refine hK_ _ _ ?_; clear hK_ K_; replace HS := Aside0.mk ((show SL (cells g3000014 44 [.int .i64 ((rd_T44 l1 x34_1).f0), .int .i64 ((rd_T44 l1 x34_1).f1), .int .i64 ((rd_T44 l1 x34_1).f2), .int .i64 ((rd_T44 l1 x34_1).f3), .int .i64 ((rd_T44 l1 x34_1).f4), .int .i64 ((rd_T44 l1 x34_1).f5), .int .i64 ((rd_T44 l1 x34_1).f6), .int .i64 ((rd_T44 l1 x34_1).f7.f0), .int .i64 ((rd_T44 l1 x34_1).f7.f1), .int .i64 ((rd_T44 l1 x34_1).f8)].toArray :: _) _ _ from hs_)); replace HK := Aside0.mk (HK.out.trans hk_); have hb_ := SL.at_ HS.out; have hz3000014_0_2 := ((blk_cell hb_ 0).trans rfl : _ = some (.int .i64 ((rd_T44 l1 x34_1).f0))); have hz3000014_1_2 := ((blk_cell hb_ 1).trans rfl : _ = some (.int .i64 ((rd_T44 l1 x34_1).f1))); have hz3000014_2_2 := ((blk_cell hb_ 2).trans rfl : _ = some (.int .i64 ((rd_T44 l1 x34_1).f2))); have hz3000014_3_2 := ((blk_cell hb_ 3).trans rfl : _ = some (.int .i64 ((rd_T44 l1 x34_1).f3))); have hz3000014_4_2 := ((blk_cell hb_ 4).trans rfl : _ = some (.int .i64 ((rd_T44 l1 x34_1).f4))); have hz3000014_5_2 := ((blk_cell hb_ 5).trans rfl : _ = some (.int .i64 ((rd_T44 l1 x34_1).f5))); have hz3000014_6_2 := ((blk_cell hb_ 6).trans rfl : _ = some (.int .i64 ((rd_T44 l1 x34_1).f6))); have hz3000014_7_2 := ((blk_cell hb_ 7).trans rfl : _ = some (.int .i64 ((rd_T44 l1 x34_1).f7.f0))); have hz3000014_8_2 := ((blk_cell hb_ 8).trans rfl : _ = some (.int .i64 ((rd_T44 l1 x34_1).f7.f1))); have hz3000014_9_2 := ((blk_cell hb_ 9).trans rfl : _ = some (.int .i64 ((rd_T44 l1 x34_1).f8))); clear hb_) | ((with_reducible refine gate_dst (N := 39) rfl ?_); refine wpList_loadA rfl 44 (.tmp 12) rfl _ rfl [.int .i64 ((rd_T44 l1 x34_1).f0), .int .i64 ((rd_T44 l1 x34_1).f1), .int .i64 ((rd_T44 l1 x34_1).f2), .int .i64 ((rd_T44 l1 x34_1).f3), .int .i64 ((rd_T44 l1 x34_1).f4), .int .i64 ((rd_T44 l1 x34_1).f5), .int .i64 ((rd_T44 l1 x34_1).f6), .int .i64 ((rd_T44 l1 x34_1).f7.f0), .int .i64 ((rd_T44 l1 x34_1).f7.f1), .int .i64 ((rd_T44 l1 x34_1).f8)] _ (cells_at (SL.at_ HS.out) 0 _ rfl) Try.underlying44 rfl (by kernel_rfl) ?_) | ((with_reducible refine gate_dst (N := 40) rfl ?_); refine goesLc_ (some 40) rfl (by with_unfolding_all rfl) rfl Try.func46 (by kernel_rfl) rfl #[.agg #[.int .i64 ((rd_T44 l1 x34_1).f0), .int .i64 ((rd_T44 l1 x34_1).f1), .int .i64 ((rd_T44 l1 x34_1).f2), .int .i64 ((rd_T44 l1 x34_1).f3), .int .i64 ((rd_T44 l1 x34_1).f4), .int .i64 ((rd_T44 l1 x34_1).f5), .int .i64 ((rd_T44 l1 x34_1).f6), .int .i64 ((rd_T44 l1 x34_1).f7.f0), .int .i64 ((rd_T44 l1 x34_1).f7.f1), .int .i64 ((rd_T44 l1 x34_1).f8)], .pointer (some ⟨g3000013, 0, none⟩)] rfl (by (try simp only [List.map_toArray, List.map_cons, List.map_nil]); first | done | rfl | (simp; done)) ?_; have hs0_ := (SL.get2 HS.out); (with_reducible refine (zone_hits_1_i1.slcalls k3 _ _ _ _ _ _ _ _ _ _ _ _ _ _ _ _ _ _ _ _ _ _ _ _ _ _ _ _ _ _ _ (HF.out.keep HK.out) hs0_  Hc11.out).mono ?_); rintro e_ w14 ⟨rfl, hsr_, hkr_⟩; refine ⟨_, rfl, ?_⟩; replace HS := Aside0.mk (hsr_); replace HK := Aside0.mk (HK.out.trans hkr_); (try clear hz3000014_0_2 hz3000014_1_2 hz3000014_2_2 hz3000014_3_2 hz3000014_4_2 hz3000014_5_2 hz3000014_6_2 hz3000014_7_2 hz3000014_8_2 hz3000014_9_2); refine stop_ ?_; intro G_ hG_))
            try simp only [Exit.noGoto_ret, Exit.noGoto_normal, Exit.noGoto_exit]
            have H := H'.out
            clear H'
            by_cases c15 : t223 = true
            ·subst c15
             rw [if_pos rfl] at H
             replace H := Option.bind_eq_some_iff.1 H
             obtain ⟨y224, hy2240, H⟩ := H
             try dsimp only at H
             have hy224 := Option.some.inj hy2240
             clear hy2240
             have Ny224 := Aside0.mk hy224
             clear hy224
             by_cases c16 : x7_1.length + y224.length < 8796093022208
             ·rw [if_pos c16] at H
              have LMc16 := Aside0.mk c16
              clear c16
              replace H := Option.bind_eq_some_iff.1 H
              obtain ⟨y225, hy2250, H⟩ := H
              try dsimp only at H
              have hy225 := Option.some.inj hy2250
              clear hy2250
              have Ny225 := Aside0.mk hy225
              clear hy225
              have H' := Aside0.mk H
              clear H
              have hb_ := SL.at_ (SL.get1 HS.out)
              have hz3000014_0_0 := ((blk_cell hb_ 0).trans rfl : _ = some (.int .i64 ((rd_T44 l1 x34_1).f0)))
              have hz3000014_1_0 := ((blk_cell hb_ 1).trans rfl : _ = some (.int .i64 ((rd_T44 l1 x34_1).f1)))
              have hz3000014_2_0 := ((blk_cell hb_ 2).trans rfl : _ = some (.int .i64 ((rd_T44 l1 x34_1).f2)))
              have hz3000014_3_0 := ((blk_cell hb_ 3).trans rfl : _ = some (.int .i64 ((rd_T44 l1 x34_1).f3)))
              have hz3000014_4_0 := ((blk_cell hb_ 4).trans rfl : _ = some (.int .i64 ((rd_T44 l1 x34_1).f4)))
              have hz3000014_5_0 := ((blk_cell hb_ 5).trans rfl : _ = some (.int .i64 ((rd_T44 l1 x34_1).f5)))
              have hz3000014_6_0 := ((blk_cell hb_ 6).trans rfl : _ = some (.int .i64 ((rd_T44 l1 x34_1).f6)))
              have hz3000014_7_0 := ((blk_cell hb_ 7).trans rfl : _ = some (.int .i64 ((rd_T44 l1 x34_1).f7.f0)))
              have hz3000014_8_0 := ((blk_cell hb_ 8).trans rfl : _ = some (.int .i64 ((rd_T44 l1 x34_1).f7.f1)))
              have hz3000014_9_0 := ((blk_cell hb_ 9).trans rfl : _ = some (.int .i64 ((rd_T44 l1 x34_1).f8)))
              clear hb_
              have hb_ := SL.at_ (SL.get3 HS.out)
              have hz3000012_0_0 := ((blk_cell hb_ 0).trans rfl : _ = some (.int .i64 ((rd_T37 l0 x15_0).f0)))
              have hz3000012_1_0 := ((blk_cell hb_ 1).trans rfl : _ = some (.int .i64 ((rd_T37 l0 x15_0).f1.f0)))
              have hz3000012_2_0 := ((blk_cell hb_ 2).trans rfl : _ = some (.int .i64 ((rd_T37 l0 x15_0).f1.f1.f0)))
              have hz3000012_3_0 := ((blk_cell hb_ 3).trans rfl : _ = some (.int .i64 ((rd_T37 l0 x15_0).f1.f1.f1)))
              have hz3000012_4_0 := ((blk_cell hb_ 4).trans rfl : _ = some (.int .i64 ((rd_T37 l0 x15_0).f1.f2.f0)))
              have hz3000012_5_0 := ((blk_cell hb_ 5).trans rfl : _ = some (.int .i64 ((rd_T37 l0 x15_0).f1.f2.f1)))
              have hz3000012_6_0 := ((blk_cell hb_ 6).trans rfl : _ = some (.int .i64 ((rd_T37 l0 x15_0).f1.f3)))
              have hz3000012_7_0 := ((blk_cell hb_ 7).trans rfl : _ = some (.int .i64 ((rd_T37 l0 x15_0).f1.f4)))
              have hz3000012_8_0 := ((blk_cell hb_ 8).trans rfl : _ = some (.int .i64 ((rd_T37 l0 x15_0).f2)))
              have hz3000012_9_0 := ((blk_cell hb_ 9).trans rfl : _ = some (.int .i64 ((rd_T37 l0 x15_0).f3)))
              have hz3000012_10_0 := ((blk_cell hb_ 10).trans rfl : _ = some (.int .i64 ((rd_T37 l0 x15_0).f4)))
              have hz3000012_11_0 := ((blk_cell hb_ 11).trans rfl : _ = some (.int .i64 ((rd_T37 l0 x15_0).f5.f0)))
              have hz3000012_12_0 := ((blk_cell hb_ 12).trans rfl : _ = some (.int .i64 ((rd_T37 l0 x15_0).f5.f1)))
              have hz3000012_13_0 := ((blk_cell hb_ 13).trans rfl : _ = some (.int .i64 ((rd_T37 l0 x15_0).f5.f2)))
              have hz3000012_14_0 := ((blk_cell hb_ 14).trans rfl : _ = some (.int .i64 ((rd_T37 l0 x15_0).f6)))
              have hz3000012_15_0 := ((blk_cell hb_ 15).trans rfl : _ = some (.int .i64 ((rd_T37 l0 x15_0).f7)))
              clear hb_
              refine hG_.out ?_
              go_wp2_with (first | ((with_reducible refine gate_dst (N := 47) rfl ?_); refine wpList_plain rfl (fun K_ hK_ => ?_); refine op_rowF (S := S) (d := k56) ⟨fun h_ => h_⟩ 56 y224 #[.int .i64 ((rd_T37 l0 x15_0).f0), .int .i64 ((rd_T44 l1 x34_1).f0)] 1 (by rw [← Ny224.out]; exact reps_cons (k56_mkM _ 0 _ (⟨(rd_T37 l0 x15_0).f0, (rd_T44 l1 x34_1).f0⟩ : S56)) rfl (Reps.none _ _)) (by rw [← Ny224.out]; rfl) (by decide) (HF.out.keep HK.out) HS.out (by first | (go_simp; done) | (go_simp; rfl)) ?_; intro Az3000016 cz3000016 w17 hs_ hk_; refine hK_ _ _ ?_; clear hK_ K_; replace HS := Aside0.mk ((show SL (row k56 56 (.slice Az3000016 1 cz3000016) y224 :: _) _ _ from hs_)); replace HK := Aside0.mk (HK.out.trans hk_); (try clear hz3000012_0_0 hz3000012_1_0 hz3000012_2_0 hz3000012_3_0 hz3000012_4_0 hz3000012_5_0 hz3000012_6_0 hz3000012_7_0 hz3000012_8_0 hz3000012_9_0 hz3000012_10_0 hz3000012_11_0 hz3000012_12_0 hz3000012_13_0 hz3000012_14_0 hz3000012_15_0); (try clear hz3000014_0_0 hz3000014_1_0 hz3000014_2_0 hz3000014_3_0 hz3000014_4_0 hz3000014_5_0 hz3000014_6_0 hz3000014_7_0 hz3000014_8_0 hz3000014_9_0)) | ((with_reducible refine gate_dst (N := 48) rfl ?_); refine wpList_plain rfl (fun K_ hK_ => ?_); refine op_appendF (S := S) (d := k56) ⟨fun h_ => h_⟩ (.tmp 41) (.tmp 47) 25 56 (.agg #[(.int .i64 0), (.int .i64 0)]) 16 rfl Try.underlying25 info56 rfl (by decide) (by decide) (.slice Ax7_1 x7_1.length cx7_1) rfl rfl (HF.out.keep HK.out) (SL.get3 HS.out) (SL.row_c HS.out).2.2 (by have := LMc16.out; have e_ := (SL.row_c HS.out).1; omega) y225 Ny225.out ?_; intro A226 c227 w18 hs_ hk_; refine hK_ _ _ ?_; clear hK_ K_; replace HS := Aside0.mk ((SL.back3 (show SL (row k56 56 (.slice A226 y225.length c227) y225 :: _) _ _ from hs_))); replace HK := Aside0.mk (HK.out.trans hk_)))
              try simp only [Exit.noGoto_ret, Exit.noGoto_normal, Exit.noGoto_exit]
              replace HS := Aside0.mk (SL.get3 (SL.get2 (SL.get3 (SL.get3 (SL.tail (SL.get1 (SL.tail HS.out)))))))
              go_roundg k3
              case measure => have := HQ1.out; have := HQ2.out; have := HQ3.out; omega
              case rel => exact ⟨(y225), (A226), (c227), (wrap64 (x34_1 + 1)), (by first | rfl | (simp; done) | (simp [*]; done)), (by first | rfl | (simp; done) | (simp [*]; done)), H', ⟨by have := HQ1.out; have := HQ2.out; have := HQ3.out; omega⟩, HS, HK⟩
             ·rw [if_neg c16] at H
              exact absurd H (by simp)
            ·replace c15 := Bool.eq_false_iff.mpr c15
             subst c15
             rw [if_neg (show ¬ (false = true) by decide)] at H
             have H' := Aside0.mk H
             clear H
             refine hG_.out ?_
             go_wp2
             try simp only [Exit.noGoto_ret, Exit.noGoto_normal, Exit.noGoto_exit]
             replace HS := Aside0.mk (SL.get3 (SL.get2 (SL.get3 (SL.get3 (SL.tail (SL.get1 HS.out))))))
             go_roundg k3
             case measure => have := HQ1.out; have := HQ2.out; have := HQ3.out; omega
             case rel => exact ⟨(x7_1), (Ax7_1), (cx7_1), (wrap64 (x34_1 + 1)), (by first | rfl | (simp; done) | (simp [*]; done)), (by first | rfl | (simp; done) | (simp [*]; done)), H', ⟨by have := HQ1.out; have := HQ2.out; have := HQ3.out; omega⟩, HS, HK⟩
           ·rw [if_neg c10] at H
            exact absurd H (by simp)
          ·rw [if_neg c9] at H
           have c9b0 : decide (x34_1 < (l1.length : Int)) = false := decide_eq_false c9
           clear c9
           replace H := Option.bind_eq_some_iff.1 H
           obtain ⟨t228, Hc190, H⟩ := H
           try dsimp only at H
           have Hc19 := Aside0.mk Hc190
           clear Hc190
           by_cases c20 : ((rd_T37 l0 x15_0).f2) ≤ a2
           ·rw [if_pos c20] at H
            have c20b0 : decide (((rd_T37 l0 x15_0).f2) ≤ a2) = true := decide_eq_true c20
            clear c20
            have H' := Aside0.mk H
            clear H
            have hb_ := SL.at_ (SL.get2 HS.out)
            have hz3000012_0_0 := ((blk_cell hb_ 0).trans rfl : _ = some (.int .i64 ((rd_T37 l0 x15_0).f0)))
            have hz3000012_1_0 := ((blk_cell hb_ 1).trans rfl : _ = some (.int .i64 ((rd_T37 l0 x15_0).f1.f0)))
            have hz3000012_2_0 := ((blk_cell hb_ 2).trans rfl : _ = some (.int .i64 ((rd_T37 l0 x15_0).f1.f1.f0)))
            have hz3000012_3_0 := ((blk_cell hb_ 3).trans rfl : _ = some (.int .i64 ((rd_T37 l0 x15_0).f1.f1.f1)))
            have hz3000012_4_0 := ((blk_cell hb_ 4).trans rfl : _ = some (.int .i64 ((rd_T37 l0 x15_0).f1.f2.f0)))
            have hz3000012_5_0 := ((blk_cell hb_ 5).trans rfl : _ = some (.int .i64 ((rd_T37 l0 x15_0).f1.f2.f1)))
            have hz3000012_6_0 := ((blk_cell hb_ 6).trans rfl : _ = some (.int .i64 ((rd_T37 l0 x15_0).f1.f3)))
            have hz3000012_7_0 := ((blk_cell hb_ 7).trans rfl : _ = some (.int .i64 ((rd_T37 l0 x15_0).f1.f4)))
            have hz3000012_8_0 := ((blk_cell hb_ 8).trans rfl : _ = some (.int .i64 ((rd_T37 l0 x15_0).f2)))
            have hz3000012_9_0 := ((blk_cell hb_ 9).trans rfl : _ = some (.int .i64 ((rd_T37 l0 x15_0).f3)))
            have hz3000012_10_0 := ((blk_cell hb_ 10).trans rfl : _ = some (.int .i64 ((rd_T37 l0 x15_0).f4)))
            have hz3000012_11_0 := ((blk_cell hb_ 11).trans rfl : _ = some (.int .i64 ((rd_T37 l0 x15_0).f5.f0)))
            have hz3000012_12_0 := ((blk_cell hb_ 12).trans rfl : _ = some (.int .i64 ((rd_T37 l0 x15_0).f5.f1)))
            have hz3000012_13_0 := ((blk_cell hb_ 13).trans rfl : _ = some (.int .i64 ((rd_T37 l0 x15_0).f5.f2)))
            have hz3000012_14_0 := ((blk_cell hb_ 14).trans rfl : _ = some (.int .i64 ((rd_T37 l0 x15_0).f6)))
            have hz3000012_15_0 := ((blk_cell hb_ 15).trans rfl : _ = some (.int .i64 ((rd_T37 l0 x15_0).f7)))
            clear hb_
            go_wp2_with (first | ((with_reducible refine gate_dst (N := 54) rfl ?_); refine goesL_ (some 54) rfl rfl Try.func26 (by kernel_rfl) rfl #[.int .i64 ((rd_T37 l0 x15_0).f4), .int .i64 ((rd_T37 l0 x15_0).f3)] rfl (by (try simp only [List.map_toArray, List.map_cons, List.map_nil]); first | done | rfl | (simp; done)) ?_; (with_reducible refine (sat_Add.calls k3 _ _ _ _  Hc19.out).mono ?_); rintro e_ w21 ⟨rfl, hb_⟩; refine ⟨_, rfl, ?_⟩; replace hb_ := Drawn0.below hb_; replace HS := Aside0.mk (HS.out.below hb_); replace HK := Aside0.mk (HK.out.trans (Keep.below hb_)); (try clear hz3000012_0_0 hz3000012_1_0 hz3000012_2_0 hz3000012_3_0 hz3000012_4_0 hz3000012_5_0 hz3000012_6_0 hz3000012_7_0 hz3000012_8_0 hz3000012_9_0 hz3000012_10_0 hz3000012_11_0 hz3000012_12_0 hz3000012_13_0 hz3000012_14_0 hz3000012_15_0)) | ((with_reducible refine gate_store (t := 3) (p := 55) (v := (.tmp 54)) rfl ?_); refine wpList_plain rfl (fun K_ hK_ => ?_); refine op_store (S := S) 3 (.tmp 55) (.tmp 54) rfl g3000012 10 (.int .i64 t228) [.int .i64 t228] rfl rfl rfl (by kernel_rfl) (by simp [Value.oneCell']) (SL.get2 HS.out) (by simp) ?_; intro w22 hs_ hk_; refine hK_ _ _ ?_; clear hK_ K_; replace HS := Aside0.mk ((SL.back2 (show SL (cells g3000012 37 [.int .i64 ((rd_T37 l0 x15_0).f0), .int .i64 ((rd_T37 l0 x15_0).f1.f0), .int .i64 ((rd_T37 l0 x15_0).f1.f1.f0), .int .i64 ((rd_T37 l0 x15_0).f1.f1.f1), .int .i64 ((rd_T37 l0 x15_0).f1.f2.f0), .int .i64 ((rd_T37 l0 x15_0).f1.f2.f1), .int .i64 ((rd_T37 l0 x15_0).f1.f3), .int .i64 ((rd_T37 l0 x15_0).f1.f4), .int .i64 ((rd_T37 l0 x15_0).f2), .int .i64 ((rd_T37 l0 x15_0).f3), .int .i64 t228, .int .i64 ((rd_T37 l0 x15_0).f5.f0), .int .i64 ((rd_T37 l0 x15_0).f5.f1), .int .i64 ((rd_T37 l0 x15_0).f5.f2), .int .i64 ((rd_T37 l0 x15_0).f6), .int .i64 ((rd_T37 l0 x15_0).f7)].toArray :: _) _ _ from hs_))); replace HK := Aside0.mk (HK.out.trans hk_); have hb_ := SL.at_ (SL.get2 HS.out); have hz3000012_0_2 := ((blk_cell hb_ 0).trans rfl : _ = some (.int .i64 ((rd_T37 l0 x15_0).f0))); have hz3000012_1_2 := ((blk_cell hb_ 1).trans rfl : _ = some (.int .i64 ((rd_T37 l0 x15_0).f1.f0))); have hz3000012_2_2 := ((blk_cell hb_ 2).trans rfl : _ = some (.int .i64 ((rd_T37 l0 x15_0).f1.f1.f0))); have hz3000012_3_2 := ((blk_cell hb_ 3).trans rfl : _ = some (.int .i64 ((rd_T37 l0 x15_0).f1.f1.f1))); have hz3000012_4_2 := ((blk_cell hb_ 4).trans rfl : _ = some (.int .i64 ((rd_T37 l0 x15_0).f1.f2.f0))); have hz3000012_5_2 := ((blk_cell hb_ 5).trans rfl : _ = some (.int .i64 ((rd_T37 l0 x15_0).f1.f2.f1))); have hz3000012_6_2 := ((blk_cell hb_ 6).trans rfl : _ = some (.int .i64 ((rd_T37 l0 x15_0).f1.f3))); have hz3000012_7_2 := ((blk_cell hb_ 7).trans rfl : _ = some (.int .i64 ((rd_T37 l0 x15_0).f1.f4))); have hz3000012_8_2 := ((blk_cell hb_ 8).trans rfl : _ = some (.int .i64 ((rd_T37 l0 x15_0).f2))); have hz3000012_9_2 := ((blk_cell hb_ 9).trans rfl : _ = some (.int .i64 ((rd_T37 l0 x15_0).f3))); have hz3000012_10_2 := ((blk_cell hb_ 10).trans rfl : _ = some (.int .i64 t228)); have hz3000012_11_2 := ((blk_cell hb_ 11).trans rfl : _ = some (.int .i64 ((rd_T37 l0 x15_0).f5.f0))); have hz3000012_12_2 := ((blk_cell hb_ 12).trans rfl : _ = some (.int .i64 ((rd_T37 l0 x15_0).f5.f1))); have hz3000012_13_2 := ((blk_cell hb_ 13).trans rfl : _ = some (.int .i64 ((rd_T37 l0 x15_0).f5.f2))); have hz3000012_14_2 := ((blk_cell hb_ 14).trans rfl : _ = some (.int .i64 ((rd_T37 l0 x15_0).f6))); have hz3000012_15_2 := ((blk_cell hb_ 15).trans rfl : _ = some (.int .i64 ((rd_T37 l0 x15_0).f7))); clear hb_))
            try simp only [Exit.noGoto_ret, Exit.noGoto_normal, Exit.noGoto_exit]
            replace HS := Aside0.mk (SL.tail (SL.get1 (SL.tail (SL.get1 HS.out))))
            go_roundg k3
            case measure => have := HQ1.out; have := HQ2.out; have := HQ3.out; omega
            case rel => exact ⟨(x7_1), (Ax7_1), (cx7_1), (x6_0), (Ax6_0), (cx6_0), (wrap64 (x15_0 + 1)), (by first | rfl | (simp; done) | (simp [*]; done)), (by first | rfl | (simp; done) | (simp [*]; done)), (by first | rfl | (simp; done) | (simp [*]; done)), H', ⟨by have := HQ1.out; have := HQ2.out; have := HQ3.out; omega⟩, HS, HK⟩
           ·rw [if_neg c20] at H
            have c20b0 : decide (((rd_T37 l0 x15_0).f2) ≤ a2) = false := decide_eq_false c20
            clear c20
            replace H := Option.bind_eq_some_iff.1 H
            obtain ⟨y229, hy2290, H⟩ := H
            try dsimp only at H
            have hy229 := Option.some.inj hy2290
            clear hy2290
            have Ny229 := Aside0.mk hy229
            clear hy229
            by_cases c23 : x6_0.length + y229.length < 1099511627776
            ·rw [if_pos c23] at H
             have LMc23 := Aside0.mk c23
             clear c23
             replace H := Option.bind_eq_some_iff.1 H
             obtain ⟨y230, hy2300, H⟩ := H
             try dsimp only at H
             have hy230 := Option.some.inj hy2300
             clear hy2300
             have Ny230 := Aside0.mk hy230
             clear hy230
             have H' := Aside0.mk H
             clear H
             have hb_ := SL.at_ (SL.get2 HS.out)
             have hz3000012_0_0 := ((blk_cell hb_ 0).trans rfl : _ = some (.int .i64 ((rd_T37 l0 x15_0).f0)))
             have hz3000012_1_0 := ((blk_cell hb_ 1).trans rfl : _ = some (.int .i64 ((rd_T37 l0 x15_0).f1.f0)))
             have hz3000012_2_0 := ((blk_cell hb_ 2).trans rfl : _ = some (.int .i64 ((rd_T37 l0 x15_0).f1.f1.f0)))
             have hz3000012_3_0 := ((blk_cell hb_ 3).trans rfl : _ = some (.int .i64 ((rd_T37 l0 x15_0).f1.f1.f1)))
             have hz3000012_4_0 := ((blk_cell hb_ 4).trans rfl : _ = some (.int .i64 ((rd_T37 l0 x15_0).f1.f2.f0)))
             have hz3000012_5_0 := ((blk_cell hb_ 5).trans rfl : _ = some (.int .i64 ((rd_T37 l0 x15_0).f1.f2.f1)))
             have hz3000012_6_0 := ((blk_cell hb_ 6).trans rfl : _ = some (.int .i64 ((rd_T37 l0 x15_0).f1.f3)))
             have hz3000012_7_0 := ((blk_cell hb_ 7).trans rfl : _ = some (.int .i64 ((rd_T37 l0 x15_0).f1.f4)))
             have hz3000012_8_0 := ((blk_cell hb_ 8).trans rfl : _ = some (.int .i64 ((rd_T37 l0 x15_0).f2)))
             have hz3000012_9_0 := ((blk_cell hb_ 9).trans rfl : _ = some (.int .i64 ((rd_T37 l0 x15_0).f3)))
             have hz3000012_10_0 := ((blk_cell hb_ 10).trans rfl : _ = some (.int .i64 ((rd_T37 l0 x15_0).f4)))
             have hz3000012_11_0 := ((blk_cell hb_ 11).trans rfl : _ = some (.int .i64 ((rd_T37 l0 x15_0).f5.f0)))
             have hz3000012_12_0 := ((blk_cell hb_ 12).trans rfl : _ = some (.int .i64 ((rd_T37 l0 x15_0).f5.f1)))
             have hz3000012_13_0 := ((blk_cell hb_ 13).trans rfl : _ = some (.int .i64 ((rd_T37 l0 x15_0).f5.f2)))
             have hz3000012_14_0 := ((blk_cell hb_ 14).trans rfl : _ = some (.int .i64 ((rd_T37 l0 x15_0).f6)))
             have hz3000012_15_0 := ((blk_cell hb_ 15).trans rfl : _ = some (.int .i64 ((rd_T37 l0 x15_0).f7)))
             clear hb_
             go_wp2_with (first | ((with_reducible refine gate_dst (N := 54) rfl ?_); refine goesL_ (some 54) rfl rfl Try.func26 (by kernel_rfl) rfl #[.int .i64 ((rd_T37 l0 x15_0).f4), .int .i64 ((rd_T37 l0 x15_0).f3)] rfl (by (try simp only [List.map_toArray, List.map_cons, List.map_nil]); first | done | rfl | (simp; done)) ?_; (with_reducible refine (sat_Add.calls k3 _ _ _ _  Hc19.out).mono ?_); rintro e_ w24 ⟨rfl, hb_⟩; refine ⟨_, rfl, ?_⟩; replace hb_ := Drawn0.below hb_; replace HS := Aside0.mk (HS.out.below hb_); replace HK := Aside0.mk (HK.out.trans (Keep.below hb_)); (try clear hz3000012_0_0 hz3000012_1_0 hz3000012_2_0 hz3000012_3_0 hz3000012_4_0 hz3000012_5_0 hz3000012_6_0 hz3000012_7_0 hz3000012_8_0 hz3000012_9_0 hz3000012_10_0 hz3000012_11_0 hz3000012_12_0 hz3000012_13_0 hz3000012_14_0 hz3000012_15_0)) | ((with_reducible refine gate_store (t := 3) (p := 55) (v := (.tmp 54)) rfl ?_); refine wpList_plain rfl (fun K_ hK_ => ?_); refine op_store (S := S) 3 (.tmp 55) (.tmp 54) rfl g3000012 10 (.int .i64 t228) [.int .i64 t228] rfl rfl rfl (by kernel_rfl) (by simp [Value.oneCell']) (SL.get2 HS.out) (by simp) ?_; intro w25 hs_ hk_; refine hK_ _ _ ?_; clear hK_ K_; replace HS := Aside0.mk ((SL.back2 (show SL (cells g3000012 37 [.int .i64 ((rd_T37 l0 x15_0).f0), .int .i64 ((rd_T37 l0 x15_0).f1.f0), .int .i64 ((rd_T37 l0 x15_0).f1.f1.f0), .int .i64 ((rd_T37 l0 x15_0).f1.f1.f1), .int .i64 ((rd_T37 l0 x15_0).f1.f2.f0), .int .i64 ((rd_T37 l0 x15_0).f1.f2.f1), .int .i64 ((rd_T37 l0 x15_0).f1.f3), .int .i64 ((rd_T37 l0 x15_0).f1.f4), .int .i64 ((rd_T37 l0 x15_0).f2), .int .i64 ((rd_T37 l0 x15_0).f3), .int .i64 t228, .int .i64 ((rd_T37 l0 x15_0).f5.f0), .int .i64 ((rd_T37 l0 x15_0).f5.f1), .int .i64 ((rd_T37 l0 x15_0).f5.f2), .int .i64 ((rd_T37 l0 x15_0).f6), .int .i64 ((rd_T37 l0 x15_0).f7)].toArray :: _) _ _ from hs_))); replace HK := Aside0.mk (HK.out.trans hk_); have hb_ := SL.at_ (SL.get2 HS.out); have hz3000012_0_2 := ((blk_cell hb_ 0).trans rfl : _ = some (.int .i64 ((rd_T37 l0 x15_0).f0))); have hz3000012_1_2 := ((blk_cell hb_ 1).trans rfl : _ = some (.int .i64 ((rd_T37 l0 x15_0).f1.f0))); have hz3000012_2_2 := ((blk_cell hb_ 2).trans rfl : _ = some (.int .i64 ((rd_T37 l0 x15_0).f1.f1.f0))); have hz3000012_3_2 := ((blk_cell hb_ 3).trans rfl : _ = some (.int .i64 ((rd_T37 l0 x15_0).f1.f1.f1))); have hz3000012_4_2 := ((blk_cell hb_ 4).trans rfl : _ = some (.int .i64 ((rd_T37 l0 x15_0).f1.f2.f0))); have hz3000012_5_2 := ((blk_cell hb_ 5).trans rfl : _ = some (.int .i64 ((rd_T37 l0 x15_0).f1.f2.f1))); have hz3000012_6_2 := ((blk_cell hb_ 6).trans rfl : _ = some (.int .i64 ((rd_T37 l0 x15_0).f1.f3))); have hz3000012_7_2 := ((blk_cell hb_ 7).trans rfl : _ = some (.int .i64 ((rd_T37 l0 x15_0).f1.f4))); have hz3000012_8_2 := ((blk_cell hb_ 8).trans rfl : _ = some (.int .i64 ((rd_T37 l0 x15_0).f2))); have hz3000012_9_2 := ((blk_cell hb_ 9).trans rfl : _ = some (.int .i64 ((rd_T37 l0 x15_0).f3))); have hz3000012_10_2 := ((blk_cell hb_ 10).trans rfl : _ = some (.int .i64 t228)); have hz3000012_11_2 := ((blk_cell hb_ 11).trans rfl : _ = some (.int .i64 ((rd_T37 l0 x15_0).f5.f0))); have hz3000012_12_2 := ((blk_cell hb_ 12).trans rfl : _ = some (.int .i64 ((rd_T37 l0 x15_0).f5.f1))); have hz3000012_13_2 := ((blk_cell hb_ 13).trans rfl : _ = some (.int .i64 ((rd_T37 l0 x15_0).f5.f2))); have hz3000012_14_2 := ((blk_cell hb_ 14).trans rfl : _ = some (.int .i64 ((rd_T37 l0 x15_0).f6))); have hz3000012_15_2 := ((blk_cell hb_ 15).trans rfl : _ = some (.int .i64 ((rd_T37 l0 x15_0).f7))); clear hb_) | ((with_reducible refine gate_dst (N := 61) rfl ?_); refine wpList_loadA rfl 37 (.tmp 9) rfl _ rfl [.int .i64 ((rd_T37 l0 x15_0).f0), .int .i64 ((rd_T37 l0 x15_0).f1.f0), .int .i64 ((rd_T37 l0 x15_0).f1.f1.f0), .int .i64 ((rd_T37 l0 x15_0).f1.f1.f1), .int .i64 ((rd_T37 l0 x15_0).f1.f2.f0), .int .i64 ((rd_T37 l0 x15_0).f1.f2.f1), .int .i64 ((rd_T37 l0 x15_0).f1.f3), .int .i64 ((rd_T37 l0 x15_0).f1.f4), .int .i64 ((rd_T37 l0 x15_0).f2), .int .i64 ((rd_T37 l0 x15_0).f3), .int .i64 t228, .int .i64 ((rd_T37 l0 x15_0).f5.f0), .int .i64 ((rd_T37 l0 x15_0).f5.f1), .int .i64 ((rd_T37 l0 x15_0).f5.f2), .int .i64 ((rd_T37 l0 x15_0).f6), .int .i64 ((rd_T37 l0 x15_0).f7)] _ (cells_at (SL.at_ (SL.get2 HS.out)) 0 _ rfl) Try.underlying37 rfl (by kernel_rfl) ?_) | ((with_reducible refine gate_dst (N := 62) rfl ?_); refine wpList_plain rfl (fun K_ hK_ => ?_); refine op_rowF (S := S) (d := k37) ⟨fun h_ => h_⟩ 37 y229 #[.int .i64 ((rd_T37 l0 x15_0).f0), .int .i64 ((rd_T37 l0 x15_0).f1.f0), .int .i64 ((rd_T37 l0 x15_0).f1.f1.f0), .int .i64 ((rd_T37 l0 x15_0).f1.f1.f1), .int .i64 ((rd_T37 l0 x15_0).f1.f2.f0), .int .i64 ((rd_T37 l0 x15_0).f1.f2.f1), .int .i64 ((rd_T37 l0 x15_0).f1.f3), .int .i64 ((rd_T37 l0 x15_0).f1.f4), .int .i64 ((rd_T37 l0 x15_0).f2), .int .i64 ((rd_T37 l0 x15_0).f3), .int .i64 t228, .int .i64 ((rd_T37 l0 x15_0).f5.f0), .int .i64 ((rd_T37 l0 x15_0).f5.f1), .int .i64 ((rd_T37 l0 x15_0).f5.f2), .int .i64 ((rd_T37 l0 x15_0).f6), .int .i64 ((rd_T37 l0 x15_0).f7)] 1 (by rw [← Ny229.out]; exact reps_cons (k37_mkM _ 0 _ (⟨(rd_T37 l0 x15_0).f0, (⟨(rd_T37 l0 x15_0).f1.f0, (⟨(rd_T37 l0 x15_0).f1.f1.f0, (rd_T37 l0 x15_0).f1.f1.f1⟩ : S31), (⟨(rd_T37 l0 x15_0).f1.f2.f0, (rd_T37 l0 x15_0).f1.f2.f1⟩ : S31), (rd_T37 l0 x15_0).f1.f3, (rd_T37 l0 x15_0).f1.f4⟩ : S33), (rd_T37 l0 x15_0).f2, (rd_T37 l0 x15_0).f3, t228, (⟨(rd_T37 l0 x15_0).f5.f0, (rd_T37 l0 x15_0).f5.f1, (rd_T37 l0 x15_0).f5.f2⟩ : S35), (rd_T37 l0 x15_0).f6, (rd_T37 l0 x15_0).f7⟩ : S37)) rfl (Reps.none _ _)) (by rw [← Ny229.out]; rfl) (by decide) (HF.out.keep HK.out) HS.out (by first | (go_simp; done) | (go_simp; rfl)) ?_; intro Az3000017 cz3000017 w26 hs_ hk_; refine hK_ _ _ ?_; clear hK_ K_; replace HS := Aside0.mk ((show SL (row k37 37 (.slice Az3000017 1 cz3000017) y229 :: _) _ _ from hs_)); replace HK := Aside0.mk (HK.out.trans hk_); (try clear hz3000012_0_2 hz3000012_1_2 hz3000012_2_2 hz3000012_3_2 hz3000012_4_2 hz3000012_5_2 hz3000012_6_2 hz3000012_7_2 hz3000012_8_2 hz3000012_9_2 hz3000012_10_2 hz3000012_11_2 hz3000012_12_2 hz3000012_13_2 hz3000012_14_2 hz3000012_15_2)) | ((with_reducible refine gate_dst (N := 63) rfl ?_); refine wpList_plain rfl (fun K_ hK_ => ?_); refine op_appendF (S := S) (d := k37) ⟨fun h_ => h_⟩ (.tmp 60) (.tmp 62) 22 37 (.agg #[(.int .i64 0), (.int .i64 0), (.int .i64 0), (.int .i64 0), (.int .i64 0), (.int .i64 0), (.int .i64 0), (.int .i64 0), (.int .i64 0), (.int .i64 0), (.int .i64 0), (.int .i64 0), (.int .i64 0), (.int .i64 0), (.int .i64 0), (.int .i64 0)]) 128 rfl Try.underlying22 info37 rfl (by decide) (by decide) (.slice Ax6_0 x6_0.length cx6_0) rfl rfl (HF.out.keep HK.out) (SL.get4 HS.out) (SL.row_c HS.out).2.2 (by have := LMc23.out; have e_ := (SL.row_c HS.out).1; omega) y230 Ny230.out ?_; intro A231 c232 w27 hs_ hk_; refine hK_ _ _ ?_; clear hK_ K_; replace HS := Aside0.mk ((SL.back4 (show SL (row k37 37 (.slice A231 y230.length c232) y230 :: _) _ _ from hs_))); replace HK := Aside0.mk (HK.out.trans hk_)))
             try simp only [Exit.noGoto_ret, Exit.noGoto_normal, Exit.noGoto_exit]
             replace HS := Aside0.mk (SL.tail (SL.get1 (SL.tail (SL.get1 (SL.tail HS.out)))))
             go_roundg k3
             case measure => have := HQ1.out; have := HQ2.out; have := HQ3.out; omega
             case rel => exact ⟨(x7_1), (Ax7_1), (cx7_1), (y230), (A231), (c232), (wrap64 (x15_0 + 1)), (by first | rfl | (simp; done) | (simp [*]; done)), (by first | rfl | (simp; done) | (simp [*]; done)), (by first | rfl | (simp; done) | (simp [*]; done)), H', ⟨by have := HQ1.out; have := HQ2.out; have := HQ3.out; omega⟩, HS, HK⟩
            ·rw [if_neg c23] at H
             exact absurd H (by simp)
       ·replace c6 := Bool.eq_false_iff.mpr c6
        subst c6
        rw [if_neg (show ¬ (false = true) by decide)] at H
        by_cases c28 : ((rd_T37 l0 x15_0).f2) ≤ a2
        ·rw [if_pos c28] at H
         have c28b0 : decide (((rd_T37 l0 x15_0).f2) ≤ a2) = true := decide_eq_true c28
         clear c28
         have H' := Aside0.mk H
         clear H
         have hb_ := SL.at_ HS.out
         have hz3000012_0_0 := ((blk_cell hb_ 0).trans rfl : _ = some (.int .i64 ((rd_T37 l0 x15_0).f0)))
         have hz3000012_1_0 := ((blk_cell hb_ 1).trans rfl : _ = some (.int .i64 ((rd_T37 l0 x15_0).f1.f0)))
         have hz3000012_2_0 := ((blk_cell hb_ 2).trans rfl : _ = some (.int .i64 ((rd_T37 l0 x15_0).f1.f1.f0)))
         have hz3000012_3_0 := ((blk_cell hb_ 3).trans rfl : _ = some (.int .i64 ((rd_T37 l0 x15_0).f1.f1.f1)))
         have hz3000012_4_0 := ((blk_cell hb_ 4).trans rfl : _ = some (.int .i64 ((rd_T37 l0 x15_0).f1.f2.f0)))
         have hz3000012_5_0 := ((blk_cell hb_ 5).trans rfl : _ = some (.int .i64 ((rd_T37 l0 x15_0).f1.f2.f1)))
         have hz3000012_6_0 := ((blk_cell hb_ 6).trans rfl : _ = some (.int .i64 ((rd_T37 l0 x15_0).f1.f3)))
         have hz3000012_7_0 := ((blk_cell hb_ 7).trans rfl : _ = some (.int .i64 ((rd_T37 l0 x15_0).f1.f4)))
         have hz3000012_8_0 := ((blk_cell hb_ 8).trans rfl : _ = some (.int .i64 ((rd_T37 l0 x15_0).f2)))
         have hz3000012_9_0 := ((blk_cell hb_ 9).trans rfl : _ = some (.int .i64 ((rd_T37 l0 x15_0).f3)))
         have hz3000012_10_0 := ((blk_cell hb_ 10).trans rfl : _ = some (.int .i64 ((rd_T37 l0 x15_0).f4)))
         have hz3000012_11_0 := ((blk_cell hb_ 11).trans rfl : _ = some (.int .i64 ((rd_T37 l0 x15_0).f5.f0)))
         have hz3000012_12_0 := ((blk_cell hb_ 12).trans rfl : _ = some (.int .i64 ((rd_T37 l0 x15_0).f5.f1)))
         have hz3000012_13_0 := ((blk_cell hb_ 13).trans rfl : _ = some (.int .i64 ((rd_T37 l0 x15_0).f5.f2)))
         have hz3000012_14_0 := ((blk_cell hb_ 14).trans rfl : _ = some (.int .i64 ((rd_T37 l0 x15_0).f6)))
         have hz3000012_15_0 := ((blk_cell hb_ 15).trans rfl : _ = some (.int .i64 ((rd_T37 l0 x15_0).f7)))
         clear hb_
         go_wp2
         try simp only [Exit.noGoto_ret, Exit.noGoto_normal, Exit.noGoto_exit]
         replace HS := Aside0.mk (SL.tail HS.out)
         go_roundg k2
         case measure => have := HQ1.out; have := HQ2.out; omega
         case rel => exact ⟨(x7_0), (Ax7_0), (cx7_0), (x6_0), (Ax6_0), (cx6_0), (wrap64 (x15_0 + 1)), (by first | rfl | (simp; done) | (simp [*]; done)), (by first | rfl | (simp; done) | (simp [*]; done)), (by first | rfl | (simp; done) | (simp [*]; done)), H', ⟨by have := HQ1.out; have := HQ2.out; omega⟩, HS, HK⟩
        ·rw [if_neg c28] at H
         have c28b0 : decide (((rd_T37 l0 x15_0).f2) ≤ a2) = false := decide_eq_false c28
         clear c28
         replace H := Option.bind_eq_some_iff.1 H
         obtain ⟨y233, hy2330, H⟩ := H
         try dsimp only at H
         have hy233 := Option.some.inj hy2330
         clear hy2330
         have Ny233 := Aside0.mk hy233
         clear hy233
         by_cases c29 : x6_0.length + y233.length < 1099511627776
         ·rw [if_pos c29] at H
          have LMc29 := Aside0.mk c29
          clear c29
          replace H := Option.bind_eq_some_iff.1 H
          obtain ⟨y234, hy2340, H⟩ := H
          try dsimp only at H
          have hy234 := Option.some.inj hy2340
          clear hy2340
          have Ny234 := Aside0.mk hy234
          clear hy234
          have H' := Aside0.mk H
          clear H
          have hb_ := SL.at_ HS.out
          have hz3000012_0_0 := ((blk_cell hb_ 0).trans rfl : _ = some (.int .i64 ((rd_T37 l0 x15_0).f0)))
          have hz3000012_1_0 := ((blk_cell hb_ 1).trans rfl : _ = some (.int .i64 ((rd_T37 l0 x15_0).f1.f0)))
          have hz3000012_2_0 := ((blk_cell hb_ 2).trans rfl : _ = some (.int .i64 ((rd_T37 l0 x15_0).f1.f1.f0)))
          have hz3000012_3_0 := ((blk_cell hb_ 3).trans rfl : _ = some (.int .i64 ((rd_T37 l0 x15_0).f1.f1.f1)))
          have hz3000012_4_0 := ((blk_cell hb_ 4).trans rfl : _ = some (.int .i64 ((rd_T37 l0 x15_0).f1.f2.f0)))
          have hz3000012_5_0 := ((blk_cell hb_ 5).trans rfl : _ = some (.int .i64 ((rd_T37 l0 x15_0).f1.f2.f1)))
          have hz3000012_6_0 := ((blk_cell hb_ 6).trans rfl : _ = some (.int .i64 ((rd_T37 l0 x15_0).f1.f3)))
          have hz3000012_7_0 := ((blk_cell hb_ 7).trans rfl : _ = some (.int .i64 ((rd_T37 l0 x15_0).f1.f4)))
          have hz3000012_8_0 := ((blk_cell hb_ 8).trans rfl : _ = some (.int .i64 ((rd_T37 l0 x15_0).f2)))
          have hz3000012_9_0 := ((blk_cell hb_ 9).trans rfl : _ = some (.int .i64 ((rd_T37 l0 x15_0).f3)))
          have hz3000012_10_0 := ((blk_cell hb_ 10).trans rfl : _ = some (.int .i64 ((rd_T37 l0 x15_0).f4)))
          have hz3000012_11_0 := ((blk_cell hb_ 11).trans rfl : _ = some (.int .i64 ((rd_T37 l0 x15_0).f5.f0)))
          have hz3000012_12_0 := ((blk_cell hb_ 12).trans rfl : _ = some (.int .i64 ((rd_T37 l0 x15_0).f5.f1)))
          have hz3000012_13_0 := ((blk_cell hb_ 13).trans rfl : _ = some (.int .i64 ((rd_T37 l0 x15_0).f5.f2)))
          have hz3000012_14_0 := ((blk_cell hb_ 14).trans rfl : _ = some (.int .i64 ((rd_T37 l0 x15_0).f6)))
          have hz3000012_15_0 := ((blk_cell hb_ 15).trans rfl : _ = some (.int .i64 ((rd_T37 l0 x15_0).f7)))
          clear hb_
          go_wp2_with (first | ((with_reducible refine gate_dst (N := 61) rfl ?_); refine wpList_loadA rfl 37 (.tmp 9) rfl _ rfl [.int .i64 ((rd_T37 l0 x15_0).f0), .int .i64 ((rd_T37 l0 x15_0).f1.f0), .int .i64 ((rd_T37 l0 x15_0).f1.f1.f0), .int .i64 ((rd_T37 l0 x15_0).f1.f1.f1), .int .i64 ((rd_T37 l0 x15_0).f1.f2.f0), .int .i64 ((rd_T37 l0 x15_0).f1.f2.f1), .int .i64 ((rd_T37 l0 x15_0).f1.f3), .int .i64 ((rd_T37 l0 x15_0).f1.f4), .int .i64 ((rd_T37 l0 x15_0).f2), .int .i64 ((rd_T37 l0 x15_0).f3), .int .i64 ((rd_T37 l0 x15_0).f4), .int .i64 ((rd_T37 l0 x15_0).f5.f0), .int .i64 ((rd_T37 l0 x15_0).f5.f1), .int .i64 ((rd_T37 l0 x15_0).f5.f2), .int .i64 ((rd_T37 l0 x15_0).f6), .int .i64 ((rd_T37 l0 x15_0).f7)] _ (cells_at (SL.at_ HS.out) 0 _ rfl) Try.underlying37 rfl (by kernel_rfl) ?_) | ((with_reducible refine gate_dst (N := 62) rfl ?_); refine wpList_plain rfl (fun K_ hK_ => ?_); refine op_rowF (S := S) (d := k37) ⟨fun h_ => h_⟩ 37 y233 #[.int .i64 ((rd_T37 l0 x15_0).f0), .int .i64 ((rd_T37 l0 x15_0).f1.f0), .int .i64 ((rd_T37 l0 x15_0).f1.f1.f0), .int .i64 ((rd_T37 l0 x15_0).f1.f1.f1), .int .i64 ((rd_T37 l0 x15_0).f1.f2.f0), .int .i64 ((rd_T37 l0 x15_0).f1.f2.f1), .int .i64 ((rd_T37 l0 x15_0).f1.f3), .int .i64 ((rd_T37 l0 x15_0).f1.f4), .int .i64 ((rd_T37 l0 x15_0).f2), .int .i64 ((rd_T37 l0 x15_0).f3), .int .i64 ((rd_T37 l0 x15_0).f4), .int .i64 ((rd_T37 l0 x15_0).f5.f0), .int .i64 ((rd_T37 l0 x15_0).f5.f1), .int .i64 ((rd_T37 l0 x15_0).f5.f2), .int .i64 ((rd_T37 l0 x15_0).f6), .int .i64 ((rd_T37 l0 x15_0).f7)] 1 (by rw [← Ny233.out]; exact reps_cons (k37_mkM _ 0 _ (⟨(rd_T37 l0 x15_0).f0, (⟨(rd_T37 l0 x15_0).f1.f0, (⟨(rd_T37 l0 x15_0).f1.f1.f0, (rd_T37 l0 x15_0).f1.f1.f1⟩ : S31), (⟨(rd_T37 l0 x15_0).f1.f2.f0, (rd_T37 l0 x15_0).f1.f2.f1⟩ : S31), (rd_T37 l0 x15_0).f1.f3, (rd_T37 l0 x15_0).f1.f4⟩ : S33), (rd_T37 l0 x15_0).f2, (rd_T37 l0 x15_0).f3, (rd_T37 l0 x15_0).f4, (⟨(rd_T37 l0 x15_0).f5.f0, (rd_T37 l0 x15_0).f5.f1, (rd_T37 l0 x15_0).f5.f2⟩ : S35), (rd_T37 l0 x15_0).f6, (rd_T37 l0 x15_0).f7⟩ : S37)) rfl (Reps.none _ _)) (by rw [← Ny233.out]; rfl) (by decide) (HF.out.keep HK.out) HS.out (by first | (go_simp; done) | (go_simp; rfl)) ?_; intro Az3000017 cz3000017 w30 hs_ hk_; refine hK_ _ _ ?_; clear hK_ K_; replace HS := Aside0.mk ((show SL (row k37 37 (.slice Az3000017 1 cz3000017) y233 :: _) _ _ from hs_)); replace HK := Aside0.mk (HK.out.trans hk_); (try clear hz3000012_0_0 hz3000012_1_0 hz3000012_2_0 hz3000012_3_0 hz3000012_4_0 hz3000012_5_0 hz3000012_6_0 hz3000012_7_0 hz3000012_8_0 hz3000012_9_0 hz3000012_10_0 hz3000012_11_0 hz3000012_12_0 hz3000012_13_0 hz3000012_14_0 hz3000012_15_0)) | ((with_reducible refine gate_dst (N := 63) rfl ?_); refine wpList_plain rfl (fun K_ hK_ => ?_); refine op_appendF (S := S) (d := k37) ⟨fun h_ => h_⟩ (.tmp 60) (.tmp 62) 22 37 (.agg #[(.int .i64 0), (.int .i64 0), (.int .i64 0), (.int .i64 0), (.int .i64 0), (.int .i64 0), (.int .i64 0), (.int .i64 0), (.int .i64 0), (.int .i64 0), (.int .i64 0), (.int .i64 0), (.int .i64 0), (.int .i64 0), (.int .i64 0), (.int .i64 0)]) 128 rfl Try.underlying22 info37 rfl (by decide) (by decide) (.slice Ax6_0 x6_0.length cx6_0) rfl rfl (HF.out.keep HK.out) (SL.get3 HS.out) (SL.row_c HS.out).2.2 (by have := LMc29.out; have e_ := (SL.row_c HS.out).1; omega) y234 Ny234.out ?_; intro A235 c236 w31 hs_ hk_; refine hK_ _ _ ?_; clear hK_ K_; replace HS := Aside0.mk ((SL.back3 (show SL (row k37 37 (.slice A235 y234.length c236) y234 :: _) _ _ from hs_))); replace HK := Aside0.mk (HK.out.trans hk_)))
          try simp only [Exit.noGoto_ret, Exit.noGoto_normal, Exit.noGoto_exit]
          replace HS := Aside0.mk (SL.tail (SL.tail HS.out))
          go_roundg k2
          case measure => have := HQ1.out; have := HQ2.out; omega
          case rel => exact ⟨(x7_0), (Ax7_0), (cx7_0), (y234), (A235), (c236), (wrap64 (x15_0 + 1)), (by first | rfl | (simp; done) | (simp [*]; done)), (by first | rfl | (simp; done) | (simp [*]; done)), (by first | rfl | (simp; done) | (simp [*]; done)), H', ⟨by have := HQ1.out; have := HQ2.out; omega⟩, HS, HK⟩
         ·rw [if_neg c29] at H
          exact absurd H (by simp)
    ·rw [if_neg c2] at H
     exact absurd H (by simp)
   ·rw [if_neg c1] at H
    have c1b0 : decide (x15_0 < (l0.length : Int)) = false := decide_eq_false c1
    clear c1
    simp only [Option.some.injEq, Prod.mk.injEq] at H
    obtain ⟨rfl, rfl⟩ := H
    go_wp2
    try simp only [Exit.noGoto_ret, Exit.noGoto_normal, Exit.noGoto_exit]
    go_ret2
    replace HS := Aside0.mk (SL.get1 HS.out)
    unfold zone_Tick.Post
    exact ⟨Ax6_0, cx6_0, Ax7_0, cx7_0, by first | rfl | (simp; done) | (simp [*]; done) | (simp at c1b0 ⊢; first | exact c1b0 | (simp [c1b0]; done)), HS.out, HK.out⟩

end Go.Proofs.Ytiadhonhjnbliaa.XZT
