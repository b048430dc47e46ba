-- Written by xprint.py (a program of this session) for this claim
import Derived.Test.YtiadhonhjnbliaaSq
import Derived.Test.YtiadhonhjnbliaaSL5
import Derived.Test.YtiadhonhjnbliaaSL4
import Derived.Test.YtiadhonhjnbliaaXZTx0
import Derived.Test.YtiadhonhjnbliaaXZTx4
import Derived.Test.YtiadhonhjnbliaaXZTx8
namespace Go.Proofs.Ytiadhonhjnbliaa.XZT
open Go.Proofs.YtiadhonhjnbliaaV Go.Proofs.YtiadhonhjnbliaaS
open Go.RowKit Go.Proofs.YtiadhonhjnbliaaW.PrintWords Go.Proofs.YtiadhonhjnbliaaW.PrintLast Go.Proofs.YtiadhonhjnbliaaW.PrintMore
attribute [local go_sem] max2_int min2_int max_two min_two max_three min_three max_four min_four   -- for this text's walks alone
set_option linter.unusedVariables false
set_option linter.unusedSimpArgs false

/-! ### zone_Tick: function 8 -/
mutual
def zone_Tick.l0 : Nat → (List (S37)) → (List (S44)) → Int → (List (S37)) → (List (S56)) → Int → Option ((List (S37)) × (List (S56)))
 | 0, _, _, _, _, _, _ => none
 | k + 1, l0, l1, a2, x6_0, x7_0, x15_0 => if x15_0 < (l0.length : Int) then (if 0 ≤ x15_0 then (if ((rd_T37 l0 x15_0).f4) ≤ a2 then (if ((rd_T37 l0 x15_0).f4) ≤ ((rd_T37 l0 x15_0).f2) then ((zone_hits.f ((rd_T37 l0 x15_0).f0) ((rd_T37 l0 x15_0).f1.f0) ((rd_T37 l0 x15_0).f1.f1.f0) ((rd_T37 l0 x15_0).f1.f1.f1) ((rd_T37 l0 x15_0).f1.f2.f0) ((rd_T37 l0 x15_0).f1.f2.f1) ((rd_T37 l0 x15_0).f1.f3) ((rd_T37 l0 x15_0).f1.f4) ((rd_T37 l0 x15_0).f2) ((rd_T37 l0 x15_0).f3) ((rd_T37 l0 x15_0).f4) ((rd_T37 l0 x15_0).f5.f0) ((rd_T37 l0 x15_0).f5.f1) ((rd_T37 l0 x15_0).f5.f2) ((rd_T37 l0 x15_0).f6) ((rd_T37 l0 x15_0).f7)).bind fun bt202 => (zone_Tick.l1 k l0 l1 a2 x6_0 x15_0 bt202.1 bt202.2.1 bt202.2.2.1 bt202.2.2.2.1 bt202.2.2.2.2.1 bt202.2.2.2.2.2.1 bt202.2.2.2.2.2.2.1 bt202.2.2.2.2.2.2.2.1 bt202.2.2.2.2.2.2.2.2.1 bt202.2.2.2.2.2.2.2.2.2.1 bt202.2.2.2.2.2.2.2.2.2.2.1 bt202.2.2.2.2.2.2.2.2.2.2.2.1 bt202.2.2.2.2.2.2.2.2.2.2.2.2.1 bt202.2.2.2.2.2.2.2.2.2.2.2.2.2.1 bt202.2.2.2.2.2.2.2.2.2.2.2.2.2.2.1 bt202.2.2.2.2.2.2.2.2.2.2.2.2.2.2.2 x7_0 0)) else (if ((rd_T37 l0 x15_0).f2) ≤ a2 then (zone_Tick.l0 k l0 l1 a2 x6_0 x7_0 (wrap64 (x15_0 + 1))) else ((some (([(⟨(rd_T37 l0 x15_0).f0, (⟨(rd_T37 l0 x15_0).f1.f0, (⟨(rd_T37 l0 x15_0).f1.f1.f0, (rd_T37 l0 x15_0).f1.f1.f1⟩ : S31), (⟨(rd_T37 l0 x15_0).f1.f2.f0, (rd_T37 l0 x15_0).f1.f2.f1⟩ : S31), (rd_T37 l0 x15_0).f1.f3, (rd_T37 l0 x15_0).f1.f4⟩ : S33), (rd_T37 l0 x15_0).f2, (rd_T37 l0 x15_0).f3, (rd_T37 l0 x15_0).f4, (⟨(rd_T37 l0 x15_0).f5.f0, (rd_T37 l0 x15_0).f5.f1, (rd_T37 l0 x15_0).f5.f2⟩ : S35), (rd_T37 l0 x15_0).f6, (rd_T37 l0 x15_0).f7⟩ : S37)] : List (S37)) : List (S37))).bind fun y231 => (if x6_0.length + y231.length < 1099511627776 then ((some (x6_0 ++ y231 : List (S37))).bind fun y232 => (zone_Tick.l0 k l0 l1 a2 y232 x7_0 (wrap64 (x15_0 + 1)))) else (none))))) else (if ((rd_T37 l0 x15_0).f2) ≤ a2 then (zone_Tick.l0 k l0 l1 a2 x6_0 x7_0 (wrap64 (x15_0 + 1))) else ((some (([(⟨(rd_T37 l0 x15_0).f0, (⟨(rd_T37 l0 x15_0).f1.f0, (⟨(rd_T37 l0 x15_0).f1.f1.f0, (rd_T37 l0 x15_0).f1.f1.f1⟩ : S31), (⟨(rd_T37 l0 x15_0).f1.f2.f0, (rd_T37 l0 x15_0).f1.f2.f1⟩ : S31), (rd_T37 l0 x15_0).f1.f3, (rd_T37 l0 x15_0).f1.f4⟩ : S33), (rd_T37 l0 x15_0).f2, (rd_T37 l0 x15_0).f3, (rd_T37 l0 x15_0).f4, (⟨(rd_T37 l0 x15_0).f5.f0, (rd_T37 l0 x15_0).f5.f1, (rd_T37 l0 x15_0).f5.f2⟩ : S35), (rd_T37 l0 x15_0).f6, (rd_T37 l0 x15_0).f7⟩ : S37)] : List (S37)) : List (S37))).bind fun y235 => (if x6_0.length + y235.length < 1099511627776 then ((some (x6_0 ++ y235 : List (S37))).bind fun y236 => (zone_Tick.l0 k l0 l1 a2 y236 x7_0 (wrap64 (x15_0 + 1)))) else (none))))) else (none)) else (some (x6_0, x7_0))
def zone_Tick.l1 : Nat → (List (S37)) → (List (S44)) → Int → (List (S37)) → Int → Int → Int → Int → Int → Int → Int → Int → Int → Int → Int → Int → Int → Int → Int → Int → Int → (List (S56)) → Int → Option ((List (S37)) × (List (S56)))
 | 0, _, _, _, _, _, _, _, _, _, _, _, _, _, _, _, _, _, _, _, _, _, _, _ => none
 | k + 1, l0, l1, a2, x6_0, x15_0, t202, t203, t204, t205, t206, t207, t208, t209, t210, t211, t212, t213, t214, t215, t216, t217, x7_1, x34_1 => if x34_1 < (l1.length : Int) then (if 0 ≤ x34_1 then ((zone_hits_1_i1.f k ((rd_T44 l1 x34_1).f0) ((rd_T44 l1 x34_1).f1) ((rd_T44 l1 x34_1).f2) ((rd_T44 l1 x34_1).f3) ((rd_T44 l1 x34_1).f4) ((rd_T44 l1 x34_1).f5) ((rd_T44 l1 x34_1).f6) ((rd_T44 l1 x34_1).f7.f0) ((rd_T44 l1 x34_1).f7.f1) ((rd_T44 l1 x34_1).f8) t202 t203 t204 t205 t206 t207 t208 t209 t210 t211 t212 t213 t214 t215 t216 t217).bind fun t221 => (if t221 = true then ((some (([(⟨(rd_T37 l0 x15_0).f0, (rd_T44 l1 x34_1).f0⟩ : S56)] : List (S56)) : List (S56))).bind fun y222 => (if x7_1.length + y222.length < 8796093022208 then ((some (x7_1 ++ y222 : List (S56))).bind fun y223 => (zone_Tick.l1 k l0 l1 a2 x6_0 x15_0 t202 t203 t204 t205 t206 t207 t208 t209 t210 t211 t212 t213 t214 t215 t216 t217 y223 (wrap64 (x34_1 + 1)))) else (none))) else (zone_Tick.l1 k l0 l1 a2 x6_0 x15_0 t202 t203 t204 t205 t206 t207 t208 t209 t210 t211 t212 t213 t214 t215 t216 t217 x7_1 (wrap64 (x34_1 + 1))))) else (none)) else ((sat_Add.f k ((rd_T37 l0 x15_0).f4) ((rd_T37 l0 x15_0).f3)).bind fun t226 => (if ((rd_T37 l0 x15_0).f2) ≤ a2 then (zone_Tick.l0 k l0 l1 a2 x6_0 x7_1 (wrap64 (x15_0 + 1))) else ((some (([(⟨(rd_T37 l0 x15_0).f0, (⟨(rd_T37 l0 x15_0).f1.f0, (⟨(rd_T37 l0 x15_0).f1.f1.f0, (rd_T37 l0 x15_0).f1.f1.f1⟩ : S31), (⟨(rd_T37 l0 x15_0).f1.f2.f0, (rd_T37 l0 x15_0).f1.f2.f1⟩ : S31), (rd_T37 l0 x15_0).f1.f3, (rd_T37 l0 x15_0).f1.f4⟩ : S33), (rd_T37 l0 x15_0).f2, (rd_T37 l0 x15_0).f3, t226, (⟨(rd_T37 l0 x15_0).f5.f0, (rd_T37 l0 x15_0).f5.f1, (rd_T37 l0 x15_0).f5.f2⟩ : S35), (rd_T37 l0 x15_0).f6, (rd_T37 l0 x15_0).f7⟩ : S37)] : List (S37)) : List (S37))).bind fun y227 => (if x6_0.length + y227.length < 1099511627776 then ((some (x6_0 ++ y227 : List (S37))).bind fun y228 => (zone_Tick.l0 k l0 l1 a2 y228 x7_1 (wrap64 (x15_0 + 1)))) else (none)))))
end
def zone_Tick.f (k : Nat) (l0 : List (S37)) (l1 : List (S44)) (a2 : Int) : Option ((List (S37)) × (List (S56))) := zone_Tick.l0 k l0 l1 a2 ([] : List (S37)) ([] : List (S56)) 0
theorem zone_Tick.mono_l : ∀ k, (∀ y0 y1 y2 y3 y4 y5, LeO (zone_Tick.l0 k y0 y1 y2 y3 y4 y5) (zone_Tick.l0 (k + 1) y0 y1 y2 y3 y4 y5)) ∧ (∀ y0 y1 y2 y3 y4 y5 y6 y7 y8 y9 y10 y11 y12 y13 y14 y15 y16 y17 y18 y19 y20 y21 y22, LeO (zone_Tick.l1 k y0 y1 y2 y3 y4 y5 y6 y7 y8 y9 y10 y11 y12 y13 y14 y15 y16 y17 y18 y19 y20 y21 y22) (zone_Tick.l1 (k + 1) y0 y1 y2 y3 y4 y5 y6 y7 y8 y9 y10 y11 y12 y13 y14 y15 y16 y17 y18 y19 y20 y21 y22))
 | 0 => ⟨fun _ _ _ _ _ _ r h => by simp [zone_Tick.l0] at h, fun _ _ _ _ _ _ _ _ _ _ _ _ _ _ _ _ _ _ _ _ _ _ _ r h => by simp [zone_Tick.l1] at h⟩
 | k + 1 => by
  obtain ⟨ih0, ih1⟩ := zone_Tick.mono_l k
  refine ⟨?_, ?_⟩
  ·intro y0 y1 y2 y3 y4 y5
   unfold zone_Tick.l0
   repeat' first
   | (with_reducible exact ih0 _ _ _ _ _ _)
   | (with_reducible exact ih1 _ _ _ _ _ _ _ _ _ _ _ _ _ _ _ _ _ _ _ _ _ _ _)
   | (with_reducible exact sat_Add.mono _ _ _)
   | (with_reducible exact zone_hits_1_i1.mono _ _ _ _ _ _ _ _ _ _ _ _ _ _ _ _ _ _ _ _ _ _ _ _ _ _ _)
   | (with_reducible exact LeO.refl _)
   | (with_reducible exact LeO.none _)
   | (with_reducible refine LeO.ite ?_ ?_)
   | (with_reducible refine everyOf_le (fun _ => ?_))
   | (with_reducible refine LeO.bind ?_ (fun _ => ?_))
   | exact ih0 _ _ _ _ _ _
   | exact ih1 _ _ _ _ _ _ _ _ _ _ _ _ _ _ _ _ _ _ _ _ _ _ _
   | exact sat_Add.mono _ _ _
   | exact zone_hits_1_i1.mono _ _ _ _ _ _ _ _ _ _ _ _ _ _ _ _ _ _ _ _ _ _ _ _ _ _ _
   | exact LeO.none _
   | refine LeO.ite ?_ ?_
   | refine LeO.bind ?_ (fun _ => ?_)
  ·intro y0 y1 y2 y3 y4 y5 y6 y7 y8 y9 y10 y11 y12 y13 y14 y15 y16 y17 y18 y19 y20 y21 y22
   unfold zone_Tick.l1
   repeat' first
   | (with_reducible exact ih0 _ _ _ _ _ _)
   | (with_reducible exact ih1 _ _ _ _ _ _ _ _ _ _ _ _ _ _ _ _ _ _ _ _ _ _ _)
   | (with_reducible exact sat_Add.mono _ _ _)
   | (with_reducible exact zone_hits_1_i1.mono _ _ _ _ _ _ _ _ _ _ _ _ _ _ _ _ _ _ _ _ _ _ _ _ _ _ _)
   | (with_reducible exact LeO.refl _)
   | (with_reducible exact LeO.none _)
   | (with_reducible refine LeO.ite ?_ ?_)
   | (with_reducible refine everyOf_le (fun _ => ?_))
   | (with_reducible refine LeO.bind ?_ (fun _ => ?_))
   | exact ih0 _ _ _ _ _ _
   | exact ih1 _ _ _ _ _ _ _ _ _ _ _ _ _ _ _ _ _ _ _ _ _ _ _
   | exact sat_Add.mono _ _ _
   | exact zone_hits_1_i1.mono _ _ _ _ _ _ _ _ _ _ _ _ _ _ _ _ _ _ _ _ _ _ _ _ _ _ _
   | exact LeO.none _
   | refine LeO.ite ?_ ?_
   | refine LeO.bind ?_ (fun _ => ?_)
theorem zone_Tick.mono : ∀ a0 a1 a2 k, LeO (zone_Tick.f k a0 a1 a2) (zone_Tick.f (k + 1) a0 a1 a2) := by
 intro a0 a1 a2 k
 obtain ⟨ih0, ih1⟩ := zone_Tick.mono_l k
 unfold zone_Tick.f
 repeat' first
   | (with_reducible exact ih0 _ _ _ _ _ _)
   | (with_reducible exact ih1 _ _ _ _ _ _ _ _ _ _ _ _ _ _ _ _ _ _ _ _ _ _ _)
   | (with_reducible exact sat_Add.mono _ _ _)
   | (with_reducible exact zone_hits_1_i1.mono _ _ _ _ _ _ _ _ _ _ _ _ _ _ _ _ _ _ _ _ _ _ _ _ _ _ _)
   | (with_reducible exact LeO.refl _)
   | (with_reducible exact LeO.none _)
   | (with_reducible refine LeO.ite ?_ ?_)
   | (with_reducible refine everyOf_le (fun _ => ?_))
   | (with_reducible refine LeO.bind ?_ (fun _ => ?_))
   | exact ih0 _ _ _ _ _ _
   | exact ih1 _ _ _ _ _ _ _ _ _ _ _ _ _ _ _ _ _ _ _ _ _ _ _
   | exact sat_Add.mono _ _ _
   | exact zone_hits_1_i1.mono _ _ _ _ _ _ _ _ _ _ _ _ _ _ _ _ _ _ _ _ _ _ _ _ _ _ _
   | exact LeO.none _
   | refine LeO.ite ?_ ?_
   | refine LeO.bind ?_ (fun _ => ?_)
def zone_Tick.Post (r1 : List (S37)) (r2 : List (S56)) (S : Nat → Prop) (L : List Asr) (w : World) (e : Ending) (w' : World) : Prop := ∃ (Ar1 : Option Addr) (cr1 : Nat) (Ar2 : Option Addr) (cr2 : Nat), e = .returned (.tuple #[.slice Ar1 r1.length cr1, .slice Ar2 r2.length cr2]) ∧ SL (row k37 37 (.slice Ar1 r1.length cr1) r1 :: row k56 56 (.slice Ar2 r2.length cr2) r2 :: L) w' S ∧ Keep S w w'
set_option maxHeartbeats 8000000 in
set_option maxRecDepth 100000 in
theorem zone_Tick.slcalls (k : Nat) (A0 : Option Addr) (c0 : Nat) (l0 : List (S37)) (A1 : Option Addr) (c1 : Nat) (l1 : List (S44)) (a2 : Int) (r1 : List (S37)) (r2 : List (S56)) (S : Nat → Prop) (L : List Asr) (w : World) (hf : Fresh S w) (hs : SL (L) w S) (hr0 : RO S w (fun w_ => Kd.C k37 w_ A0 l0.length l0)) (hc0 : l0.length ≤ c0) (hr1 : RO S w (fun w_ => Kd.C k44 w_ A1 l1.length l1)) (hc1 : l1.length ≤ c1) (h : zone_Tick.f k l0 l1 a2 = some (r1, r2)) :
  Calls Try.prog 8 #[.slice A0 l0.length c0, .slice A1 l1.length c1, .int .i64 a2] w (zone_Tick.Post r1 r2 S L w) := by
 have HR0 := Aside0.mk hr0
 have HC0 := Aside0.mk hc0
 clear hr0 hc0
 have HR1 := Aside0.mk hr1
 have HC1 := Aside0.mk hc1
 clear hr1 hc1
 have HF := Aside0.mk hf
 have HS := Aside0.mk hs
 have HK := Aside0.mk (Keep.refl S w)
 clear hf hs
 have hu37 := Try.underlying37
 have hu44 := Try.underlying44
 have hu56 := Try.underlying56
 have H : (zone_Tick.l0 k l0 l1 a2 ([] : List (S37)) ([] : List (S56)) 0) = some (r1, r2) := h
 clear h
 have H' := Aside0.mk H
 clear H
 have n2_ := Aside0.mk (SL.nil_row k37 37 HS.out)
 clear HS
 have HS := n2_
 clear n2_
 have n2_ := Aside0.mk (SL.nil_row k56 56 HS.out)
 clear HS
 have HS := n2_
 clear n2_
 go_enter Try.func8, Try.ntmps8
 try go_wp2
 go_step3
 try go_wp2
 go_step3
 try go_wp2
 try simp only [Exit.noGoto_ret, Exit.noGoto_normal, Exit.noGoto_exit]
 go_loopg [6, 7, 15] k (fun kq v6 v7 v15 w' => ∃ (x7_0 : List (S56)) (Ax7_0 : Option Addr) (cx7_0 : Nat) (x6_0 : List (S37)) (Ax6_0 : Option Addr) (cx6_0 : Nat) (x15_0 : Int), v6 = .slice Ax6_0 x6_0.length cx6_0 ∧ v7 = .slice Ax7_0 x7_0.length cx7_0 ∧ v15 = .int .i64 x15_0 ∧ Aside0 (zone_Tick.l0 kq l0 l1 a2 x6_0 x7_0 x15_0 = some (r1, r2)) ∧ Aside0 (kq ≤ k) ∧ Aside0 (SL (row k56 56 (.slice Ax7_0 x7_0.length cx7_0) x7_0 :: row k37 37 (.slice Ax6_0 x6_0.length cx6_0) x6_0 :: L) w' S) ∧ Aside0 (Keep S w w'))
 case atStart => exact ⟨(([] : List (S56))), (none), (0), (([] : List (S37))), (none), (0), (0), (by first | rfl | (simp; done) | (simp [*]; done)), (by first | rfl | (simp; done) | (simp [*]; done)), (by first | rfl | (simp; done) | (simp [*]; done)), H', ⟨Nat.le_refl _⟩, HS, HK⟩
 case round =>
  clear H' HS HK
  obtain ⟨x7_0, Ax7_0, cx7_0, x6_0, Ax6_0, cx6_0, x15_0, rfl, rfl, rfl, HA, HQ1, HS, HK⟩ := hrel
  cases gk with
  | zero => exact absurd HA.out (by simp [zone_Tick.l0])
  | succ k1 =>
   have H := HA.out
   clear HA
   simp only [zone_Tick.l0] at H
   by_cases c1 : x15_0 < (l0.length : Int)
   ·rw [if_pos c1] at H
    have c1b0 : decide (x15_0 < (l0.length : Int)) = true := decide_eq_true c1
    clear c1
    by_cases c2 : 0 ≤ x15_0
    ·rw [if_pos c2] at H
     have c2b0 : decide (0 ≤ x15_0) = true := decide_eq_true c2
     clear c2
     by_cases c3 : ((rd_T37 l0 x15_0).f4) ≤ a2
     ·rw [if_pos c3] at H
      have c3b0 : decide (((rd_T37 l0 x15_0).f4) ≤ a2) = true := decide_eq_true c3
      clear c3
      by_cases c4 : ((rd_T37 l0 x15_0).f4) ≤ ((rd_T37 l0 x15_0).f2)
      ·rw [if_pos c4] at H
       have c4b0 : decide (((rd_T37 l0 x15_0).f4) ≤ ((rd_T37 l0 x15_0).f2)) = true := decide_eq_true c4
       clear c4
       replace H := Option.bind_eq_some_iff.1 H
       obtain ⟨⟨t202, t203, t204, t205, t206, t207, t208, t209, t210, t211, t212, t213, t214, t215, t216, t217⟩, Hc50, H⟩ := H
       try dsimp only at H
       have Hc5 := Aside0.mk Hc50
       clear Hc50
       have H' := Aside0.mk H
       clear H
       have pq201 : 0 ≤ (x15_0 : Int) := of_decide_eq_true (by first | (with_reducible assumption) | assumption)
       have qq201 : x15_0 < ((l0.length : Int) : Int) := of_decide_eq_true (by first | (with_reducible assumption) | assumption)
       obtain ⟨adq201, eq201, hxq201_0, hxq201_1, hxq201_2, hxq201_3, hxq201_4, hxq201_5, hxq201_6, hxq201_7, hxq201_8, hxq201_9, hxq201_10, hxq201_11, hxq201_12, hxq201_13, hxq201_14, hxq201_15⟩ := at_T37 (RO.at_ HR0.out HK.out) x15_0 pq201 qq201
       cases eq201
       replace pq201 := eq_true pq201
       replace qq201 := eq_true qq201
       go_wp2_with (first | ((with_reducible refine gate_dst (N := 18) rfl ?_); refine wpList_loadA rfl 37 (.tmp 17) rfl _ rfl _ _ (ats_of hxq201_0 (atk_cons hxq201_1 (atk_cons hxq201_2 (atk_cons hxq201_3 (atk_cons hxq201_4 (atk_cons hxq201_5 (atk_cons hxq201_6 (atk_cons hxq201_7 (atk_cons hxq201_8 (atk_cons hxq201_9 (atk_cons hxq201_10 (atk_cons hxq201_11 (atk_cons hxq201_12 (atk_cons hxq201_13 (atk_cons hxq201_14 (atk_cons hxq201_15 atk_nil)))))))))))))))) Try.underlying37 rfl (by kernel_rfl) ?_) | ((with_reducible refine gate_dst (N := 9) rfl ?_); refine wpList_plain rfl (fun K_ hK_ => ?_); refine op_box (S := S) (cs := #[.int .i64 0, .int .i64 0, .int .i64 0, .int .i64 0, .int .i64 0, .int .i64 0, .int .i64 0, .int .i64 0, .int .i64 0, .int .i64 0, .int .i64 0, .int .i64 0, .int .i64 0, .int .i64 0, .int .i64 0, .int .i64 0]) (t := 37) (HF.out.keep HK.out) HS.out (by first | (go_simp; done) | (go_simp; rfl)) ?_; intro g3000012 w6 hs_ hk_; refine hK_ _ _ ?_; clear hK_ K_; replace HS := Aside0.mk (hs_); replace HK := Aside0.mk (HK.out.trans hk_)) | ((with_reducible refine gate_store (t := 37) (p := 9) (v := (.tmp 18)) rfl ?_); refine wpList_plain rfl (fun K_ hK_ => ?_); refine op_store (S := S) 37 (.tmp 9) (.tmp 18) rfl g3000012 0 (.agg #[.int .i64 ((rd_T37 l0 x15_0).f0), .int .i64 ((rd_T37 l0 x15_0).f1.f0), .int .i64 ((rd_T37 l0 x15_0).f1.f1.f0), .int .i64 ((rd_T37 l0 x15_0).f1.f1.f1), .int .i64 ((rd_T37 l0 x15_0).f1.f2.f0), .int .i64 ((rd_T37 l0 x15_0).f1.f2.f1), .int .i64 ((rd_T37 l0 x15_0).f1.f3), .int .i64 ((rd_T37 l0 x15_0).f1.f4), .int .i64 ((rd_T37 l0 x15_0).f2), .int .i64 ((rd_T37 l0 x15_0).f3), .int .i64 ((rd_T37 l0 x15_0).f4), .int .i64 ((rd_T37 l0 x15_0).f5.f0), .int .i64 ((rd_T37 l0 x15_0).f5.f1), .int .i64 ((rd_T37 l0 x15_0).f5.f2), .int .i64 ((rd_T37 l0 x15_0).f6), .int .i64 ((rd_T37 l0 x15_0).f7)]) [.int .i64 ((rd_T37 l0 x15_0).f0), .int .i64 ((rd_T37 l0 x15_0).f1.f0), .int .i64 ((rd_T37 l0 x15_0).f1.f1.f0), .int .i64 ((rd_T37 l0 x15_0).f1.f1.f1), .int .i64 ((rd_T37 l0 x15_0).f1.f2.f0), .int .i64 ((rd_T37 l0 x15_0).f1.f2.f1), .int .i64 ((rd_T37 l0 x15_0).f1.f3), .int .i64 ((rd_T37 l0 x15_0).f1.f4), .int .i64 ((rd_T37 l0 x15_0).f2), .int .i64 ((rd_T37 l0 x15_0).f3), .int .i64 ((rd_T37 l0 x15_0).f4), .int .i64 ((rd_T37 l0 x15_0).f5.f0), .int .i64 ((rd_T37 l0 x15_0).f5.f1), .int .i64 ((rd_T37 l0 x15_0).f5.f2), .int .i64 ((rd_T37 l0 x15_0).f6), .int .i64 ((rd_T37 l0 x15_0).f7)] rfl rfl rfl (by kernel_rfl) (by simp [Value.oneCell']) HS.out (by simp) ?_; intro w7 hs_ hk_; refine hK_ _ _ ?_; clear hK_ K_; replace HS := Aside0.mk ((show SL (cells g3000012 37 [.int .i64 ((rd_T37 l0 x15_0).f0), .int .i64 ((rd_T37 l0 x15_0).f1.f0), .int .i64 ((rd_T37 l0 x15_0).f1.f1.f0), .int .i64 ((rd_T37 l0 x15_0).f1.f1.f1), .int .i64 ((rd_T37 l0 x15_0).f1.f2.f0), .int .i64 ((rd_T37 l0 x15_0).f1.f2.f1), .int .i64 ((rd_T37 l0 x15_0).f1.f3), .int .i64 ((rd_T37 l0 x15_0).f1.f4), .int .i64 ((rd_T37 l0 x15_0).f2), .int .i64 ((rd_T37 l0 x15_0).f3), .int .i64 ((rd_T37 l0 x15_0).f4), .int .i64 ((rd_T37 l0 x15_0).f5.f0), .int .i64 ((rd_T37 l0 x15_0).f5.f1), .int .i64 ((rd_T37 l0 x15_0).f5.f2), .int .i64 ((rd_T37 l0 x15_0).f6), .int .i64 ((rd_T37 l0 x15_0).f7)].toArray :: _) _ _ from hs_)); replace HK := Aside0.mk (HK.out.trans hk_); have hb_ := SL.at_ HS.out; have hz3000012_0_2 := ((blk_cell hb_ 0).trans rfl : _ = some (.int .i64 ((rd_T37 l0 x15_0).f0))); have hz3000012_1_2 := ((blk_cell hb_ 1).trans rfl : _ = some (.int .i64 ((rd_T37 l0 x15_0).f1.f0))); have hz3000012_2_2 := ((blk_cell hb_ 2).trans rfl : _ = some (.int .i64 ((rd_T37 l0 x15_0).f1.f1.f0))); have hz3000012_3_2 := ((blk_cell hb_ 3).trans rfl : _ = some (.int .i64 ((rd_T37 l0 x15_0).f1.f1.f1))); have hz3000012_4_2 := ((blk_cell hb_ 4).trans rfl : _ = some (.int .i64 ((rd_T37 l0 x15_0).f1.f2.f0))); have hz3000012_5_2 := ((blk_cell hb_ 5).trans rfl : _ = some (.int .i64 ((rd_T37 l0 x15_0).f1.f2.f1))); have hz3000012_6_2 := ((blk_cell hb_ 6).trans rfl : _ = some (.int .i64 ((rd_T37 l0 x15_0).f1.f3))); have hz3000012_7_2 := ((blk_cell hb_ 7).trans rfl : _ = some (.int .i64 ((rd_T37 l0 x15_0).f1.f4))); have hz3000012_8_2 := ((blk_cell hb_ 8).trans rfl : _ = some (.int .i64 ((rd_T37 l0 x15_0).f2))); have hz3000012_9_2 := ((blk_cell hb_ 9).trans rfl : _ = some (.int .i64 ((rd_T37 l0 x15_0).f3))); have hz3000012_10_2 := ((blk_cell hb_ 10).trans rfl : _ = some (.int .i64 ((rd_T37 l0 x15_0).f4))); have hz3000012_11_2 := ((blk_cell hb_ 11).trans rfl : _ = some (.int .i64 ((rd_T37 l0 x15_0).f5.f0))); have hz3000012_12_2 := ((blk_cell hb_ 12).trans rfl : _ = some (.int .i64 ((rd_T37 l0 x15_0).f5.f1))); have hz3000012_13_2 := ((blk_cell hb_ 13).trans rfl : _ = some (.int .i64 ((rd_T37 l0 x15_0).f5.f2))); have hz3000012_14_2 := ((blk_cell hb_ 14).trans rfl : _ = some (.int .i64 ((rd_T37 l0 x15_0).f6))); have hz3000012_15_2 := ((blk_cell hb_ 15).trans rfl : _ = some (.int .i64 ((rd_T37 l0 x15_0).f7))); clear hb_) | ((with_reducible refine gate_dst (N := 30) rfl ?_); refine wpList_loadA rfl 37 (.tmp 9) rfl _ rfl [.int .i64 ((rd_T37 l0 x15_0).f0), .int .i64 ((rd_T37 l0 x15_0).f1.f0), .int .i64 ((rd_T37 l0 x15_0).f1.f1.f0), .int .i64 ((rd_T37 l0 x15_0).f1.f1.f1), .int .i64 ((rd_T37 l0 x15_0).f1.f2.f0), .int .i64 ((rd_T37 l0 x15_0).f1.f2.f1), .int .i64 ((rd_T37 l0 x15_0).f1.f3), .int .i64 ((rd_T37 l0 x15_0).f1.f4), .int .i64 ((rd_T37 l0 x15_0).f2), .int .i64 ((rd_T37 l0 x15_0).f3), .int .i64 ((rd_T37 l0 x15_0).f4), .int .i64 ((rd_T37 l0 x15_0).f5.f0), .int .i64 ((rd_T37 l0 x15_0).f5.f1), .int .i64 ((rd_T37 l0 x15_0).f5.f2), .int .i64 ((rd_T37 l0 x15_0).f6), .int .i64 ((rd_T37 l0 x15_0).f7)] _ (cells_at (SL.at_ HS.out) 0 _ rfl) Try.underlying37 rfl (by kernel_rfl) ?_) | ((with_reducible refine gate_dst (N := 31) rfl ?_); refine goesL_ (some 31) rfl rfl Try.func25 (by kernel_rfl) rfl #[.agg #[.int .i64 ((rd_T37 l0 x15_0).f0), .int .i64 ((rd_T37 l0 x15_0).f1.f0), .int .i64 ((rd_T37 l0 x15_0).f1.f1.f0), .int .i64 ((rd_T37 l0 x15_0).f1.f1.f1), .int .i64 ((rd_T37 l0 x15_0).f1.f2.f0), .int .i64 ((rd_T37 l0 x15_0).f1.f2.f1), .int .i64 ((rd_T37 l0 x15_0).f1.f3), .int .i64 ((rd_T37 l0 x15_0).f1.f4), .int .i64 ((rd_T37 l0 x15_0).f2), .int .i64 ((rd_T37 l0 x15_0).f3), .int .i64 ((rd_T37 l0 x15_0).f4), .int .i64 ((rd_T37 l0 x15_0).f5.f0), .int .i64 ((rd_T37 l0 x15_0).f5.f1), .int .i64 ((rd_T37 l0 x15_0).f5.f2), .int .i64 ((rd_T37 l0 x15_0).f6), .int .i64 ((rd_T37 l0 x15_0).f7)]] rfl (by (try simp only [List.map_toArray, List.map_cons, List.map_nil]); first | done | rfl | (simp; done)) ?_; have hs0_ := HS.out; (with_reducible refine (zone_hits.slcalls _ _ _ _ _ _ _ _ _ _ _ _ _ _ _ _ _ _ _ _ _ _ _ _ _ _ _ _ _ _ _ _ _ _ _ (HF.out.keep HK.out) hs0_  Hc5.out).mono ?_); rintro e_ w8 ⟨g3000013, rfl, hsr_, hkr_⟩; refine ⟨_, rfl, ?_⟩; replace HS := Aside0.mk (hsr_); replace HK := Aside0.mk (HK.out.trans hkr_); (try clear hz3000012_0_2 hz3000012_1_2 hz3000012_2_2 hz3000012_3_2 hz3000012_4_2 hz3000012_5_2 hz3000012_6_2 hz3000012_7_2 hz3000012_8_2 hz3000012_9_2 hz3000012_10_2 hz3000012_11_2 hz3000012_12_2 hz3000012_13_2 hz3000012_14_2 hz3000012_15_2)))
       try simp only [Exit.noGoto_ret, Exit.noGoto_normal, Exit.noGoto_exit]
       replace HS := Aside0.mk (SL.get3 (SL.get2 (SL.get2 (SL.get3 HS.out))))
       try go_simp
       go_loopg [7, 34] k1 (fun kq v7 v34 w' => ∃ (x7_1 : List (S56)) (Ax7_1 : Option Addr) (cx7_1 : Nat) (x34_1 : Int), v7 = .slice Ax7_1 x7_1.length cx7_1 ∧ v34 = .int .i64 x34_1 ∧ Aside0 (zone_Tick.l1 kq l0 l1 a2 x6_0 x15_0 t202 t203 t204 t205 t206 t207 t208 t209 t210 t211 t212 t213 t214 t215 t216 t217 x7_1 x34_1 = some (r1, r2)) ∧ Aside0 (kq ≤ k1) ∧ Aside0 (SL (row k56 56 (.slice Ax7_1 x7_1.length cx7_1) x7_1 :: cells g3000013 37 [.int .i64 t202, .int .i64 t203, .int .i64 t204, .int .i64 t205, .int .i64 t206, .int .i64 t207, .int .i64 t208, .int .i64 t209, .int .i64 t210, .int .i64 t211, .int .i64 t212, .int .i64 t213, .int .i64 t214, .int .i64 t215, .int .i64 t216, .int .i64 t217].toArray :: cells g3000012 37 [.int .i64 ((rd_T37 l0 x15_0).f0), .int .i64 ((rd_T37 l0 x15_0).f1.f0), .int .i64 ((rd_T37 l0 x15_0).f1.f1.f0), .int .i64 ((rd_T37 l0 x15_0).f1.f1.f1), .int .i64 ((rd_T37 l0 x15_0).f1.f2.f0), .int .i64 ((rd_T37 l0 x15_0).f1.f2.f1), .int .i64 ((rd_T37 l0 x15_0).f1.f3), .int .i64 ((rd_T37 l0 x15_0).f1.f4), .int .i64 ((rd_T37 l0 x15_0).f2), .int .i64 ((rd_T37 l0 x15_0).f3), .int .i64 ((rd_T37 l0 x15_0).f4), .int .i64 ((rd_T37 l0 x15_0).f5.f0), .int .i64 ((rd_T37 l0 x15_0).f5.f1), .int .i64 ((rd_T37 l0 x15_0).f5.f2), .int .i64 ((rd_T37 l0 x15_0).f6), .int .i64 ((rd_T37 l0 x15_0).f7)].toArray :: row k37 37 (.slice Ax6_0 x6_0.length cx6_0) x6_0 :: L) w' S) ∧ Aside0 (Keep S w w'))
       case atStart => exact ⟨(x7_0), (Ax7_0), (cx7_0), (0), (by first | rfl | (simp; done) | (simp [*]; done)), (by first | rfl | (simp; done) | (simp [*]; done)), H', ⟨Nat.le_refl _⟩, HS, HK⟩
       case round =>
        clear H' HS HK
        try clear hz3000012_0_0 hz3000012_1_0 hz3000012_2_0 hz3000012_3_0 hz3000012_4_0 hz3000012_5_0 hz3000012_6_0 hz3000012_7_0 hz3000012_8_0 hz3000012_9_0 hz3000012_10_0 hz3000012_11_0 hz3000012_12_0 hz3000012_13_0 hz3000012_14_0 hz3000012_15_0
        try clear hz3000012_0_0 hz3000012_1_0 hz3000012_2_0 hz3000012_3_0 hz3000012_4_0 hz3000012_5_0 hz3000012_6_0 hz3000012_7_0 hz3000012_8_0 hz3000012_9_0 hz3000012_10_0 hz3000012_11_0 hz3000012_12_0 hz3000012_13_0 hz3000012_14_0 hz3000012_15_0
        try clear hz3000012_0_0 hz3000012_1_0 hz3000012_2_0 hz3000012_3_0 hz3000012_4_0 hz3000012_5_0 hz3000012_6_0 hz3000012_7_0 hz3000012_8_0 hz3000012_9_0 hz3000012_10_0 hz3000012_11_0 hz3000012_12_0 hz3000012_13_0 hz3000012_14_0 hz3000012_15_0
        try clear hz3000012_0_0 hz3000012_1_0 hz3000012_2_0 hz3000012_3_0 hz3000012_4_0 hz3000012_5_0 hz3000012_6_0 hz3000012_7_0 hz3000012_8_0 hz3000012_9_0 hz3000012_10_0 hz3000012_11_0 hz3000012_12_0 hz3000012_13_0 hz3000012_14_0 hz3000012_15_0
        obtain ⟨x7_1, Ax7_1, cx7_1, x34_1, rfl, rfl, HA, HQ2, HS, HK⟩ := hrel
        cases gk with
        | zero => exact absurd HA.out (by simp [zone_Tick.l1])
        | succ k2 =>
         have H := HA.out
         clear HA
         simp only [zone_Tick.l1] at H
         by_cases c9 : x34_1 < (l1.length : Int)
         ·rw [if_pos c9] at H
          have c9b0 : decide (x34_1 < (l1.length : Int)) = true := decide_eq_true c9
          clear c9
          by_cases c10 : 0 ≤ x34_1
          ·rw [if_pos c10] at H
           have c10b0 : decide (0 ≤ x34_1) = true := decide_eq_true c10
           clear c10
           replace H := Option.bind_eq_some_iff.1 H
           obtain ⟨t221, Hc110, H⟩ := H
           try dsimp only at H
           have Hc11 := Aside0.mk Hc110
           clear Hc110
           have H' := Aside0.mk H
           clear H
           have pq218 : 0 ≤ (x34_1 : Int) := of_decide_eq_true (by first | (with_reducible assumption) | assumption)
           have qq218 : x34_1 < ((l1.length : Int) : Int) := of_decide_eq_true (by first | (with_reducible assumption) | assumption)
           obtain ⟨adq218, eq218, hxq218_0, hxq218_1, hxq218_2, hxq218_3, hxq218_4, hxq218_5, hxq218_6, hxq218_7, hxq218_8, hxq218_9⟩ := at_T44 (RO.at_ HR1.out HK.out) x34_1 pq218 qq218
           cases eq218
           replace pq218 := eq_true pq218
           replace qq218 := eq_true qq218
           go_wp2_with (first | ((with_reducible refine gate_dst (N := 37) rfl ?_); refine wpList_loadA rfl 44 (.tmp 36) rfl _ rfl _ _ (ats_of hxq218_0 (atk_cons hxq218_1 (atk_cons hxq218_2 (atk_cons hxq218_3 (atk_cons hxq218_4 (atk_cons hxq218_5 (atk_cons hxq218_6 (atk_cons hxq218_7 (atk_cons hxq218_8 (atk_cons hxq218_9 atk_nil)))))))))) Try.underlying44 rfl (by kernel_rfl) ?_) | ((with_reducible refine gate_dst (N := 12) rfl ?_); refine wpList_plain rfl (fun K_ hK_ => ?_); refine op_box (S := S) (cs := #[.int .i64 0, .int .i64 0, .int .i64 0, .int .i64 0, .int .i64 0, .int .i64 0, .int .i64 0, .int .i64 0, .int .i64 0, .int .i64 0]) (t := 44) (HF.out.keep HK.out) HS.out (by first | (go_simp; done) | (go_simp; rfl)) ?_; intro g3000014 w12 hs_ hk_; refine hK_ _ _ ?_; clear hK_ K_; replace HS := Aside0.mk (hs_); replace HK := Aside0.mk (HK.out.trans hk_)) | ((with_reducible refine gate_store (t := 44) (p := 12) (v := (.tmp 37)) rfl ?_); refine wpList_plain rfl (fun K_ hK_ => ?_); refine op_store (S := S) 44 (.tmp 12) (.tmp 37) rfl g3000014 0 (.agg #[.int .i64 ((rd_T44 l1 x34_1).f0), .int .i64 ((rd_T44 l1 x34_1).f1), .int .i64 ((rd_T44 l1 x34_1).f2), .int .i64 ((rd_T44 l1 x34_1).f3), .int .i64 ((rd_T44 l1 x34_1).f4), .int .i64 ((rd_T44 l1 x34_1).f5), .int .i64 ((rd_T44 l1 x34_1).f6), .int .i64 ((rd_T44 l1 x34_1).f7.f0), .int .i64 ((rd_T44 l1 x34_1).f7.f1), .int .i64 ((rd_T44 l1 x34_1).f8)]) [.int .i64 ((rd_T44 l1 x34_1).f0), .int .i64 ((rd_T44 l1 x34_1).f1), .int .i64 ((rd_T44 l1 x34_1).f2), .int .i64 ((rd_T44 l1 x34_1).f3), .int .i64 ((rd_T44 l1 x34_1).f4), .int .i64 ((rd_T44 l1 x34_1).f5), .int .i64 ((rd_T44 l1 x34_1).f6), .int .i64 ((rd_T44 l1 x34_1).f7.f0), .int .i64 ((rd_T44 l1 x34_1).f7.f1), .int .i64 ((rd_T44 l1 x34_1).f8)] rfl rfl rfl (by kernel_rfl) (by simp [Value.oneCell']) HS.out (by simp) ?_; intro w13 hs_ hk_; refine hK_ _ _ ?_; clear hK_ K_; replace HS := Aside0.mk ((show SL (cells g3000014 44 [.int .i64 ((rd_T44 l1 x34_1).f0), .int .i64 ((rd_T44 l1 x34_1).f1), .int .i64 ((rd_T44 l1 x34_1).f2), .int .i64 ((rd_T44 l1 x34_1).f3), .int .i64 ((rd_T44 l1 x34_1).f4), .int .i64 ((rd_T44 l1 x34_1).f5), .int .i64 ((rd_T44 l1 x34_1).f6), .int .i64 ((rd_T44 l1 x34_1).f7.f0), .int .i64 ((rd_T44 l1 x34_1).f7.f1), .int .i64 ((rd_T44 l1 x34_1).f8)].toArray :: _) _ _ from hs_)); replace HK := Aside0.mk (HK.out.trans hk_); have hb_ := SL.at_ HS.out; have hz3000014_0_2 := ((blk_cell hb_ 0).trans rfl : _ = some (.int .i64 ((rd_T44 l1 x34_1).f0))); have hz3000014_1_2 := ((blk_cell hb_ 1).trans rfl : _ = some (.int .i64 ((rd_T44 l1 x34_1).f1))); have hz3000014_2_2 := ((blk_cell hb_ 2).trans rfl : _ = some (.int .i64 ((rd_T44 l1 x34_1).f2))); have hz3000014_3_2 := ((blk_cell hb_ 3).trans rfl : _ = some (.int .i64 ((rd_T44 l1 x34_1).f3))); have hz3000014_4_2 := ((blk_cell hb_ 4).trans rfl : _ = some (.int .i64 ((rd_T44 l1 x34_1).f4))); have hz3000014_5_2 := ((blk_cell hb_ 5).trans rfl : _ = some (.int .i64 ((rd_T44 l1 x34_1).f5))); have hz3000014_6_2 := ((blk_cell hb_ 6).trans rfl : _ = some (.int .i64 ((rd_T44 l1 x34_1).f6))); have hz3000014_7_2 := ((blk_cell hb_ 7).trans rfl : _ = some (.int .i64 ((rd_T44 l1 x34_1).f7.f0))); have hz3000014_8_2 := ((blk_cell hb_ 8).trans rfl : _ = some (.int .i64 ((rd_T44 l1 x34_1).f7.f1))); have hz3000014_9_2 := ((blk_cell hb_ 9).trans rfl : _ = some (.int .i64 ((rd_T44 l1 x34_1).f8))); clear hb_) | ((with_reducible refine gate_dst (N := 39) rfl ?_); refine wpList_loadA rfl 44 (.tmp 12) rfl _ rfl [.int .i64 ((rd_T44 l1 x34_1).f0), .int .i64 ((rd_T44 l1 x34_1).f1), .int .i64 ((rd_T44 l1 x34_1).f2), .int .i64 ((rd_T44 l1 x34_1).f3), .int .i64 ((rd_T44 l1 x34_1).f4), .int .i64 ((rd_T44 l1 x34_1).f5), .int .i64 ((rd_T44 l1 x34_1).f6), .int .i64 ((rd_T44 l1 x34_1).f7.f0), .int .i64 ((rd_T44 l1 x34_1).f7.f1), .int .i64 ((rd_T44 l1 x34_1).f8)] _ (cells_at (SL.at_ HS.out) 0 _ rfl) Try.underlying44 rfl (by kernel_rfl) ?_) | ((with_reducible refine gate_dst (N := 40) rfl ?_); refine goesLc_ (some 40) rfl (by with_unfolding_all rfl) rfl Try.func46 (by kernel_rfl) rfl #[.agg #[.int .i64 ((rd_T44 l1 x34_1).f0), .int .i64 ((rd_T44 l1 x34_1).f1), .int .i64 ((rd_T44 l1 x34_1).f2), .int .i64 ((rd_T44 l1 x34_1).f3), .int .i64 ((rd_T44 l1 x34_1).f4), .int .i64 ((rd_T44 l1 x34_1).f5), .int .i64 ((rd_T44 l1 x34_1).f6), .int .i64 ((rd_T44 l1 x34_1).f7.f0), .int .i64 ((rd_T44 l1 x34_1).f7.f1), .int .i64 ((rd_T44 l1 x34_1).f8)], .pointer (some ⟨g3000013, 0, none⟩)] rfl (by (try simp only [List.map_toArray, List.map_cons, List.map_nil]); first | done | rfl | (simp; done)) ?_; have hs0_ := (SL.get2 HS.out); (with_reducible refine (zone_hits_1_i1.slcalls k2 _ _ _ _ _ _ _ _ _ _ _ _ _ _ _ _ _ _ _ _ _ _ _ _ _ _ _ _ _ _ _ (HF.out.keep HK.out) hs0_  Hc11.out).mono ?_); rintro e_ w14 ⟨rfl, hsr_, hkr_⟩; refine ⟨_, rfl, ?_⟩; replace HS := Aside0.mk (hsr_); replace HK := Aside0.mk (HK.out.trans hkr_); (try clear hz3000014_0_2 hz3000014_1_2 hz3000014_2_2 hz3000014_3_2 hz3000014_4_2 hz3000014_5_2 hz3000014_6_2 hz3000014_7_2 hz3000014_8_2 hz3000014_9_2); refine stop_ ?_; intro G_ hG_))
           try simp only [Exit.noGoto_ret, Exit.noGoto_normal, Exit.noGoto_exit]
           have H := H'.out
           clear H'
           by_cases c15 : t221 = true
           ·subst c15
            rw [if_pos rfl] at H
            replace H := Option.bind_eq_some_iff.1 H
            obtain ⟨y222, hy2220, H⟩ := H
            try dsimp only at H
            have hy222 := Option.some.inj hy2220
            clear hy2220
            have Ny222 := Aside0.mk hy222
            clear hy222
            by_cases c16 : x7_1.length + y222.length < 8796093022208
            ·rw [if_pos c16] at H
             have LMc16 := Aside0.mk c16
             clear c16
             replace H := Option.bind_eq_some_iff.1 H
             obtain ⟨y223, hy2230, H⟩ := H
             try dsimp only at H
             have hy223 := Option.some.inj hy2230
             clear hy2230
             have Ny223 := Aside0.mk hy223
             clear hy223
             have H' := Aside0.mk H
             clear H
             have hb_ := SL.at_ (SL.get1 HS.out)
             have hz3000014_0_0 := ((blk_cell hb_ 0).trans rfl : _ = some (.int .i64 ((rd_T44 l1 x34_1).f0)))
             have hz3000014_1_0 := ((blk_cell hb_ 1).trans rfl : _ = some (.int .i64 ((rd_T44 l1 x34_1).f1)))
             have hz3000014_2_0 := ((blk_cell hb_ 2).trans rfl : _ = some (.int .i64 ((rd_T44 l1 x34_1).f2)))
             have hz3000014_3_0 := ((blk_cell hb_ 3).trans rfl : _ = some (.int .i64 ((rd_T44 l1 x34_1).f3)))
             have hz3000014_4_0 := ((blk_cell hb_ 4).trans rfl : _ = some (.int .i64 ((rd_T44 l1 x34_1).f4)))
             have hz3000014_5_0 := ((blk_cell hb_ 5).trans rfl : _ = some (.int .i64 ((rd_T44 l1 x34_1).f5)))
             have hz3000014_6_0 := ((blk_cell hb_ 6).trans rfl : _ = some (.int .i64 ((rd_T44 l1 x34_1).f6)))
             have hz3000014_7_0 := ((blk_cell hb_ 7).trans rfl : _ = some (.int .i64 ((rd_T44 l1 x34_1).f7.f0)))
             have hz3000014_8_0 := ((blk_cell hb_ 8).trans rfl : _ = some (.int .i64 ((rd_T44 l1 x34_1).f7.f1)))
             have hz3000014_9_0 := ((blk_cell hb_ 9).trans rfl : _ = some (.int .i64 ((rd_T44 l1 x34_1).f8)))
             clear hb_
             have hb_ := SL.at_ (SL.get3 HS.out)
             have hz3000012_0_0 := ((blk_cell hb_ 0).trans rfl : _ = some (.int .i64 ((rd_T37 l0 x15_0).f0)))
             have hz3000012_1_0 := ((blk_cell hb_ 1).trans rfl : _ = some (.int .i64 ((rd_T37 l0 x15_0).f1.f0)))
             have hz3000012_2_0 := ((blk_cell hb_ 2).trans rfl : _ = some (.int .i64 ((rd_T37 l0 x15_0).f1.f1.f0)))
             have hz3000012_3_0 := ((blk_cell hb_ 3).trans rfl : _ = some (.int .i64 ((rd_T37 l0 x15_0).f1.f1.f1)))
             have hz3000012_4_0 := ((blk_cell hb_ 4).trans rfl : _ = some (.int .i64 ((rd_T37 l0 x15_0).f1.f2.f0)))
             have hz3000012_5_0 := ((blk_cell hb_ 5).trans rfl : _ = some (.int .i64 ((rd_T37 l0 x15_0).f1.f2.f1)))
             have hz3000012_6_0 := ((blk_cell hb_ 6).trans rfl : _ = some (.int .i64 ((rd_T37 l0 x15_0).f1.f3)))
             have hz3000012_7_0 := ((blk_cell hb_ 7).trans rfl : _ = some (.int .i64 ((rd_T37 l0 x15_0).f1.f4)))
             have hz3000012_8_0 := ((blk_cell hb_ 8).trans rfl : _ = some (.int .i64 ((rd_T37 l0 x15_0).f2)))
             have hz3000012_9_0 := ((blk_cell hb_ 9).trans rfl : _ = some (.int .i64 ((rd_T37 l0 x15_0).f3)))
             have hz3000012_10_0 := ((blk_cell hb_ 10).trans rfl : _ = some (.int .i64 ((rd_T37 l0 x15_0).f4)))
             have hz3000012_11_0 := ((blk_cell hb_ 11).trans rfl : _ = some (.int .i64 ((rd_T37 l0 x15_0).f5.f0)))
             have hz3000012_12_0 := ((blk_cell hb_ 12).trans rfl : _ = some (.int .i64 ((rd_T37 l0 x15_0).f5.f1)))
             have hz3000012_13_0 := ((blk_cell hb_ 13).trans rfl : _ = some (.int .i64 ((rd_T37 l0 x15_0).f5.f2)))
             have hz3000012_14_0 := ((blk_cell hb_ 14).trans rfl : _ = some (.int .i64 ((rd_T37 l0 x15_0).f6)))
             have hz3000012_15_0 := ((blk_cell hb_ 15).trans rfl : _ = some (.int .i64 ((rd_T37 l0 x15_0).f7)))
             clear hb_
             refine hG_.out ?_
             go_wp2_with (first | ((with_reducible refine gate_dst (N := 47) rfl ?_); refine wpList_plain rfl (fun K_ hK_ => ?_); refine op_rowF (S := S) (d := k56) ⟨fun h_ => h_⟩ 56 y222 #[.int .i64 ((rd_T37 l0 x15_0).f0), .int .i64 ((rd_T44 l1 x34_1).f0)] 1 (by rw [← Ny222.out]; exact reps_cons (k56_mkM _ 0 _ (⟨(rd_T37 l0 x15_0).f0, (rd_T44 l1 x34_1).f0⟩ : S56)) rfl (Reps.none _ _)) (by rw [← Ny222.out]; rfl) (by decide) (HF.out.keep HK.out) HS.out (by first | (go_simp; done) | (go_simp; rfl)) ?_; intro Az3000016 cz3000016 w17 hs_ hk_; refine hK_ _ _ ?_; clear hK_ K_; replace HS := Aside0.mk ((show SL (row k56 56 (.slice Az3000016 1 cz3000016) y222 :: _) _ _ from hs_)); replace HK := Aside0.mk (HK.out.trans hk_); (try clear hz3000012_0_0 hz3000012_1_0 hz3000012_2_0 hz3000012_3_0 hz3000012_4_0 hz3000012_5_0 hz3000012_6_0 hz3000012_7_0 hz3000012_8_0 hz3000012_9_0 hz3000012_10_0 hz3000012_11_0 hz3000012_12_0 hz3000012_13_0 hz3000012_14_0 hz3000012_15_0); (try clear hz3000014_0_0 hz3000014_1_0 hz3000014_2_0 hz3000014_3_0 hz3000014_4_0 hz3000014_5_0 hz3000014_6_0 hz3000014_7_0 hz3000014_8_0 hz3000014_9_0)) | ((with_reducible refine gate_dst (N := 48) rfl ?_); refine wpList_plain rfl (fun K_ hK_ => ?_); refine op_appendF (S := S) (d := k56) ⟨fun h_ => h_⟩ (.tmp 41) (.tmp 47) 25 56 (.agg #[(.int .i64 0), (.int .i64 0)]) 16 rfl Try.underlying25 info56 rfl (by decide) (by decide) (.slice Ax7_1 x7_1.length cx7_1) rfl rfl (HF.out.keep HK.out) (SL.get3 HS.out) (SL.row_c HS.out).2.2 (by have := LMc16.out; have e_ := (SL.row_c HS.out).1; omega) y223 Ny223.out ?_; intro A224 c225 w18 hs_ hk_; refine hK_ _ _ ?_; clear hK_ K_; replace HS := Aside0.mk ((SL.back3 (show SL (row k56 56 (.slice A224 y223.length c225) y223 :: _) _ _ from hs_))); replace HK := Aside0.mk (HK.out.trans hk_)))
             try simp only [Exit.noGoto_ret, Exit.noGoto_normal, Exit.noGoto_exit]
             replace HS := Aside0.mk (SL.get3 (SL.get2 (SL.get3 (SL.get3 (SL.tail (SL.get1 (SL.tail HS.out)))))))
             go_roundg k2
             case measure => have := HQ1.out; have := HQ2.out; omega
             case rel => exact ⟨(y223), (A224), (c225), (wrap64 (x34_1 + 1)), (by first | rfl | (simp; done) | (simp [*]; done)), (by first | rfl | (simp; done) | (simp [*]; done)), H', ⟨by have := HQ1.out; have := HQ2.out; omega⟩, HS, HK⟩
            ·rw [if_neg c16] at H
             exact absurd H (by simp)
           ·replace c15 := Bool.eq_false_iff.mpr c15
            subst c15
            rw [if_neg (show ¬ (false = true) by decide)] at H
            have H' := Aside0.mk H
            clear H
            refine hG_.out ?_
            go_wp2
            try simp only [Exit.noGoto_ret, Exit.noGoto_normal, Exit.noGoto_exit]
            replace HS := Aside0.mk (SL.get3 (SL.get2 (SL.get3 (SL.get3 (SL.tail (SL.get1 HS.out))))))
            go_roundg k2
            case measure => have := HQ1.out; have := HQ2.out; omega
            case rel => exact ⟨(x7_1), (Ax7_1), (cx7_1), (wrap64 (x34_1 + 1)), (by first | rfl | (simp; done) | (simp [*]; done)), (by first | rfl | (simp; done) | (simp [*]; done)), H', ⟨by have := HQ1.out; have := HQ2.out; omega⟩, HS, HK⟩
          ·rw [if_neg c10] at H
           exact absurd H (by simp)
         ·rw [if_neg c9] at H
          have c9b0 : decide (x34_1 < (l1.length : Int)) = false := decide_eq_false c9
          clear c9
          replace H := Option.bind_eq_some_iff.1 H
          obtain ⟨t226, Hc190, H⟩ := H
          try dsimp only at H
          have Hc19 := Aside0.mk Hc190
          clear Hc190
          by_cases c20 : ((rd_T37 l0 x15_0).f2) ≤ a2
          ·rw [if_pos c20] at H
           have c20b0 : decide (((rd_T37 l0 x15_0).f2) ≤ a2) = true := decide_eq_true c20
           clear c20
           have H' := Aside0.mk H
           clear H
           have hb_ := SL.at_ (SL.get2 HS.out)
           have hz3000012_0_0 := ((blk_cell hb_ 0).trans rfl : _ = some (.int .i64 ((rd_T37 l0 x15_0).f0)))
           have hz3000012_1_0 := ((blk_cell hb_ 1).trans rfl : _ = some (.int .i64 ((rd_T37 l0 x15_0).f1.f0)))
           have hz3000012_2_0 := ((blk_cell hb_ 2).trans rfl : _ = some (.int .i64 ((rd_T37 l0 x15_0).f1.f1.f0)))
           have hz3000012_3_0 := ((blk_cell hb_ 3).trans rfl : _ = some (.int .i64 ((rd_T37 l0 x15_0).f1.f1.f1)))
           have hz3000012_4_0 := ((blk_cell hb_ 4).trans rfl : _ = some (.int .i64 ((rd_T37 l0 x15_0).f1.f2.f0)))
           have hz3000012_5_0 := ((blk_cell hb_ 5).trans rfl : _ = some (.int .i64 ((rd_T37 l0 x15_0).f1.f2.f1)))
           have hz3000012_6_0 := ((blk_cell hb_ 6).trans rfl : _ = some (.int .i64 ((rd_T37 l0 x15_0).f1.f3)))
           have hz3000012_7_0 := ((blk_cell hb_ 7).trans rfl : _ = some (.int .i64 ((rd_T37 l0 x15_0).f1.f4)))
           have hz3000012_8_0 := ((blk_cell hb_ 8).trans rfl : _ = some (.int .i64 ((rd_T37 l0 x15_0).f2)))
           have hz3000012_9_0 := ((blk_cell hb_ 9).trans rfl : _ = some (.int .i64 ((rd_T37 l0 x15_0).f3)))
           have hz3000012_10_0 := ((blk_cell hb_ 10).trans rfl : _ = some (.int .i64 ((rd_T37 l0 x15_0).f4)))
           have hz3000012_11_0 := ((blk_cell hb_ 11).trans rfl : _ = some (.int .i64 ((rd_T37 l0 x15_0).f5.f0)))
           have hz3000012_12_0 := ((blk_cell hb_ 12).trans rfl : _ = some (.int .i64 ((rd_T37 l0 x15_0).f5.f1)))
           have hz3000012_13_0 := ((blk_cell hb_ 13).trans rfl : _ = some (.int .i64 ((rd_T37 l0 x15_0).f5.f2)))
           have hz3000012_14_0 := ((blk_cell hb_ 14).trans rfl : _ = some (.int .i64 ((rd_T37 l0 x15_0).f6)))
           have hz3000012_15_0 := ((blk_cell hb_ 15).trans rfl : _ = some (.int .i64 ((rd_T37 l0 x15_0).f7)))
           clear hb_
           go_wp2_with (first | ((with_reducible refine gate_dst (N := 54) rfl ?_); refine goesL_ (some 54) rfl rfl Try.func26 (by kernel_rfl) rfl #[.int .i64 ((rd_T37 l0 x15_0).f4), .int .i64 ((rd_T37 l0 x15_0).f3)] rfl (by (try simp only [List.map_toArray, List.map_cons, List.map_nil]); first | done | rfl | (simp; done)) ?_; (with_reducible refine (sat_Add.calls k2 _ _ _ _  Hc19.out).mono ?_); rintro e_ w21 ⟨rfl, hb_⟩; refine ⟨_, rfl, ?_⟩; replace hb_ := Drawn0.below hb_; replace HS := Aside0.mk (HS.out.below hb_); replace HK := Aside0.mk (HK.out.trans (Keep.below hb_)); (try clear hz3000012_0_0 hz3000012_1_0 hz3000012_2_0 hz3000012_3_0 hz3000012_4_0 hz3000012_5_0 hz3000012_6_0 hz3000012_7_0 hz3000012_8_0 hz3000012_9_0 hz3000012_10_0 hz3000012_11_0 hz3000012_12_0 hz3000012_13_0 hz3000012_14_0 hz3000012_15_0)) | ((with_reducible refine gate_store (t := 3) (p := 55) (v := (.tmp 54)) rfl ?_); refine wpList_plain rfl (fun K_ hK_ => ?_); refine op_store (S := S) 3 (.tmp 55) (.tmp 54) rfl g3000012 10 (.int .i64 t226) [.int .i64 t226] rfl rfl rfl (by kernel_rfl) (by simp [Value.oneCell']) (SL.get2 HS.out) (by simp) ?_; intro w22 hs_ hk_; refine hK_ _ _ ?_; clear hK_ K_; replace HS := Aside0.mk ((SL.back2 (show SL (cells g3000012 37 [.int .i64 ((rd_T37 l0 x15_0).f0), .int .i64 ((rd_T37 l0 x15_0).f1.f0), .int .i64 ((rd_T37 l0 x15_0).f1.f1.f0), .int .i64 ((rd_T37 l0 x15_0).f1.f1.f1), .int .i64 ((rd_T37 l0 x15_0).f1.f2.f0), .int .i64 ((rd_T37 l0 x15_0).f1.f2.f1), .int .i64 ((rd_T37 l0 x15_0).f1.f3), .int .i64 ((rd_T37 l0 x15_0).f1.f4), .int .i64 ((rd_T37 l0 x15_0).f2), .int .i64 ((rd_T37 l0 x15_0).f3), .int .i64 t226, .int .i64 ((rd_T37 l0 x15_0).f5.f0), .int .i64 ((rd_T37 l0 x15_0).f5.f1), .int .i64 ((rd_T37 l0 x15_0).f5.f2), .int .i64 ((rd_T37 l0 x15_0).f6), .int .i64 ((rd_T37 l0 x15_0).f7)].toArray :: _) _ _ from hs_))); replace HK := Aside0.mk (HK.out.trans hk_); have hb_ := SL.at_ (SL.get2 HS.out); have hz3000012_0_2 := ((blk_cell hb_ 0).trans rfl : _ = some (.int .i64 ((rd_T37 l0 x15_0).f0))); have hz3000012_1_2 := ((blk_cell hb_ 1).trans rfl : _ = some (.int .i64 ((rd_T37 l0 x15_0).f1.f0))); have hz3000012_2_2 := ((blk_cell hb_ 2).trans rfl : _ = some (.int .i64 ((rd_T37 l0 x15_0).f1.f1.f0))); have hz3000012_3_2 := ((blk_cell hb_ 3).trans rfl : _ = some (.int .i64 ((rd_T37 l0 x15_0).f1.f1.f1))); have hz3000012_4_2 := ((blk_cell hb_ 4).trans rfl : _ = some (.int .i64 ((rd_T37 l0 x15_0).f1.f2.f0))); have hz3000012_5_2 := ((blk_cell hb_ 5).trans rfl : _ = some (.int .i64 ((rd_T37 l0 x15_0).f1.f2.f1))); have hz3000012_6_2 := ((blk_cell hb_ 6).trans rfl : _ = some (.int .i64 ((rd_T37 l0 x15_0).f1.f3))); have hz3000012_7_2 := ((blk_cell hb_ 7).trans rfl : _ = some (.int .i64 ((rd_T37 l0 x15_0).f1.f4))); have hz3000012_8_2 := ((blk_cell hb_ 8).trans rfl : _ = some (.int .i64 ((rd_T37 l0 x15_0).f2))); have hz3000012_9_2 := ((blk_cell hb_ 9).trans rfl : _ = some (.int .i64 ((rd_T37 l0 x15_0).f3))); have hz3000012_10_2 := ((blk_cell hb_ 10).trans rfl : _ = some (.int .i64 t226)); have hz3000012_11_2 := ((blk_cell hb_ 11).trans rfl : _ = some (.int .i64 ((rd_T37 l0 x15_0).f5.f0))); have hz3000012_12_2 := ((blk_cell hb_ 12).trans rfl : _ = some (.int .i64 ((rd_T37 l0 x15_0).f5.f1))); have hz3000012_13_2 := ((blk_cell hb_ 13).trans rfl : _ = some (.int .i64 ((rd_T37 l0 x15_0).f5.f2))); have hz3000012_14_2 := ((blk_cell hb_ 14).trans rfl : _ = some (.int .i64 ((rd_T37 l0 x15_0).f6))); have hz3000012_15_2 := ((blk_cell hb_ 15).trans rfl : _ = some (.int .i64 ((rd_T37 l0 x15_0).f7))); clear hb_))
           try simp only [Exit.noGoto_ret, Exit.noGoto_normal, Exit.noGoto_exit]
           replace HS := Aside0.mk (SL.tail (SL.get1 (SL.tail (SL.get1 HS.out))))
           go_roundg k2
           case measure => have := HQ1.out; have := HQ2.out; omega
           case rel => exact ⟨(x7_1), (Ax7_1), (cx7_1), (x6_0), (Ax6_0), (cx6_0), (wrap64 (x15_0 + 1)), (by first | rfl | (simp; done) | (simp [*]; done)), (by first | rfl | (simp; done) | (simp [*]; done)), (by first | rfl | (simp; done) | (simp [*]; done)), H', ⟨by have := HQ1.out; have := HQ2.out; omega⟩, HS, HK⟩
          ·rw [if_neg c20] at H
           have c20b0 : decide (((rd_T37 l0 x15_0).f2) ≤ a2) = false := decide_eq_false c20
           clear c20
           replace H := Option.bind_eq_some_iff.1 H
           obtain ⟨y227, hy2270, H⟩ := H
           try dsimp only at H
           have hy227 := Option.some.inj hy2270
           clear hy2270
           have Ny227 := Aside0.mk hy227
           clear hy227
           by_cases c23 : x6_0.length + y227.length < 1099511627776
           ·rw [if_pos c23] at H
            have LMc23 := Aside0.mk c23
            clear c23
            replace H := Option.bind_eq_some_iff.1 H
            obtain ⟨y228, hy2280, H⟩ := H
            try dsimp only at H
            have hy228 := Option.some.inj hy2280
            clear hy2280
            have Ny228 := Aside0.mk hy228
            clear hy228
            have H' := Aside0.mk H
            clear H
            have hb_ := SL.at_ (SL.get2 HS.out)
            have hz3000012_0_0 := ((blk_cell hb_ 0).trans rfl : _ = some (.int .i64 ((rd_T37 l0 x15_0).f0)))
            have hz3000012_1_0 := ((blk_cell hb_ 1).trans rfl : _ = some (.int .i64 ((rd_T37 l0 x15_0).f1.f0)))
            have hz3000012_2_0 := ((blk_cell hb_ 2).trans rfl : _ = some (.int .i64 ((rd_T37 l0 x15_0).f1.f1.f0)))
            have hz3000012_3_0 := ((blk_cell hb_ 3).trans rfl : _ = some (.int .i64 ((rd_T37 l0 x15_0).f1.f1.f1)))
            have hz3000012_4_0 := ((blk_cell hb_ 4).trans rfl : _ = some (.int .i64 ((rd_T37 l0 x15_0).f1.f2.f0)))
            have hz3000012_5_0 := ((blk_cell hb_ 5).trans rfl : _ = some (.int .i64 ((rd_T37 l0 x15_0).f1.f2.f1)))
            have hz3000012_6_0 := ((blk_cell hb_ 6).trans rfl : _ = some (.int .i64 ((rd_T37 l0 x15_0).f1.f3)))
            have hz3000012_7_0 := ((blk_cell hb_ 7).trans rfl : _ = some (.int .i64 ((rd_T37 l0 x15_0).f1.f4)))
            have hz3000012_8_0 := ((blk_cell hb_ 8).trans rfl : _ = some (.int .i64 ((rd_T37 l0 x15_0).f2)))
            have hz3000012_9_0 := ((blk_cell hb_ 9).trans rfl : _ = some (.int .i64 ((rd_T37 l0 x15_0).f3)))
            have hz3000012_10_0 := ((blk_cell hb_ 10).trans rfl : _ = some (.int .i64 ((rd_T37 l0 x15_0).f4)))
            have hz3000012_11_0 := ((blk_cell hb_ 11).trans rfl : _ = some (.int .i64 ((rd_T37 l0 x15_0).f5.f0)))
            have hz3000012_12_0 := ((blk_cell hb_ 12).trans rfl : _ = some (.int .i64 ((rd_T37 l0 x15_0).f5.f1)))
            have hz3000012_13_0 := ((blk_cell hb_ 13).trans rfl : _ = some (.int .i64 ((rd_T37 l0 x15_0).f5.f2)))
            have hz3000012_14_0 := ((blk_cell hb_ 14).trans rfl : _ = some (.int .i64 ((rd_T37 l0 x15_0).f6)))
            have hz3000012_15_0 := ((blk_cell hb_ 15).trans rfl : _ = some (.int .i64 ((rd_T37 l0 x15_0).f7)))
            clear hb_
            go_wp2_with (first | ((with_reducible refine gate_dst (N := 54) rfl ?_); refine goesL_ (some 54) rfl rfl Try.func26 (by kernel_rfl) rfl #[.int .i64 ((rd_T37 l0 x15_0).f4), .int .i64 ((rd_T37 l0 x15_0).f3)] rfl (by (try simp only [List.map_toArray, List.map_cons, List.map_nil]); first | done | rfl | (simp; done)) ?_; (with_reducible refine (sat_Add.calls k2 _ _ _ _  Hc19.out).mono ?_); rintro e_ w24 ⟨rfl, hb_⟩; refine ⟨_, rfl, ?_⟩; replace hb_ := Drawn0.below hb_; replace HS := Aside0.mk (HS.out.below hb_); replace HK := Aside0.mk (HK.out.trans (Keep.below hb_)); (try clear hz3000012_0_0 hz3000012_1_0 hz3000012_2_0 hz3000012_3_0 hz3000012_4_0 hz3000012_5_0 hz3000012_6_0 hz3000012_7_0 hz3000012_8_0 hz3000012_9_0 hz3000012_10_0 hz3000012_11_0 hz3000012_12_0 hz3000012_13_0 hz3000012_14_0 hz3000012_15_0)) | ((with_reducible refine gate_store (t := 3) (p := 55) (v := (.tmp 54)) rfl ?_); refine wpList_plain rfl (fun K_ hK_ => ?_); refine op_store (S := S) 3 (.tmp 55) (.tmp 54) rfl g3000012 10 (.int .i64 t226) [.int .i64 t226] rfl rfl rfl (by kernel_rfl) (by simp [Value.oneCell']) (SL.get2 HS.out) (by simp) ?_; intro w25 hs_ hk_; refine hK_ _ _ ?_; clear hK_ K_; replace HS := Aside0.mk ((SL.back2 (show SL (cells g3000012 37 [.int .i64 ((rd_T37 l0 x15_0).f0), .int .i64 ((rd_T37 l0 x15_0).f1.f0), .int .i64 ((rd_T37 l0 x15_0).f1.f1.f0), .int .i64 ((rd_T37 l0 x15_0).f1.f1.f1), .int .i64 ((rd_T37 l0 x15_0).f1.f2.f0), .int .i64 ((rd_T37 l0 x15_0).f1.f2.f1), .int .i64 ((rd_T37 l0 x15_0).f1.f3), .int .i64 ((rd_T37 l0 x15_0).f1.f4), .int .i64 ((rd_T37 l0 x15_0).f2), .int .i64 ((rd_T37 l0 x15_0).f3), .int .i64 t226, .int .i64 ((rd_T37 l0 x15_0).f5.f0), .int .i64 ((rd_T37 l0 x15_0).f5.f1), .int .i64 ((rd_T37 l0 x15_0).f5.f2), .int .i64 ((rd_T37 l0 x15_0).f6), .int .i64 ((rd_T37 l0 x15_0).f7)].toArray :: _) _ _ from hs_))); replace HK := Aside0.mk (HK.out.trans hk_); have hb_ := SL.at_ (SL.get2 HS.out); have hz3000012_0_2 := ((blk_cell hb_ 0).trans rfl : _ = some (.int .i64 ((rd_T37 l0 x15_0).f0))); have hz3000012_1_2 := ((blk_cell hb_ 1).trans rfl : _ = some (.int .i64 ((rd_T37 l0 x15_0).f1.f0))); have hz3000012_2_2 := ((blk_cell hb_ 2).trans rfl : _ = some (.int .i64 ((rd_T37 l0 x15_0).f1.f1.f0))); have hz3000012_3_2 := ((blk_cell hb_ 3).trans rfl : _ = some (.int .i64 ((rd_T37 l0 x15_0).f1.f1.f1))); have hz3000012_4_2 := ((blk_cell hb_ 4).trans rfl : _ = some (.int .i64 ((rd_T37 l0 x15_0).f1.f2.f0))); have hz3000012_5_2 := ((blk_cell hb_ 5).trans rfl : _ = some (.int .i64 ((rd_T37 l0 x15_0).f1.f2.f1))); have hz3000012_6_2 := ((blk_cell hb_ 6).trans rfl : _ = some (.int .i64 ((rd_T37 l0 x15_0).f1.f3))); have hz3000012_7_2 := ((blk_cell hb_ 7).trans rfl : _ = some (.int .i64 ((rd_T37 l0 x15_0).f1.f4))); have hz3000012_8_2 := ((blk_cell hb_ 8).trans rfl : _ = some (.int .i64 ((rd_T37 l0 x15_0).f2))); have hz3000012_9_2 := ((blk_cell hb_ 9).trans rfl : _ = some (.int .i64 ((rd_T37 l0 x15_0).f3))); have hz3000012_10_2 := ((blk_cell hb_ 10).trans rfl : _ = some (.int .i64 t226)); have hz3000012_11_2 := ((blk_cell hb_ 11).trans rfl : _ = some (.int .i64 ((rd_T37 l0 x15_0).f5.f0))); have hz3000012_12_2 := ((blk_cell hb_ 12).trans rfl : _ = some (.int .i64 ((rd_T37 l0 x15_0).f5.f1))); have hz3000012_13_2 := ((blk_cell hb_ 13).trans rfl : _ = some (.int .i64 ((rd_T37 l0 x15_0).f5.f2))); have hz3000012_14_2 := ((blk_cell hb_ 14).trans rfl : _ = some (.int .i64 ((rd_T37 l0 x15_0).f6))); have hz3000012_15_2 := ((blk_cell hb_ 15).trans rfl : _ = some (.int .i64 ((rd_T37 l0 x15_0).f7))); clear hb_) | ((with_reducible refine gate_dst (N := 61) rfl ?_); refine wpList_loadA rfl 37 (.tmp 9) rfl _ rfl [.int .i64 ((rd_T37 l0 x15_0).f0), .int .i64 ((rd_T37 l0 x15_0).f1.f0), .int .i64 ((rd_T37 l0 x15_0).f1.f1.f0), .int .i64 ((rd_T37 l0 x15_0).f1.f1.f1), .int .i64 ((rd_T37 l0 x15_0).f1.f2.f0), .int .i64 ((rd_T37 l0 x15_0).f1.f2.f1), .int .i64 ((rd_T37 l0 x15_0).f1.f3), .int .i64 ((rd_T37 l0 x15_0).f1.f4), .int .i64 ((rd_T37 l0 x15_0).f2), .int .i64 ((rd_T37 l0 x15_0).f3), .int .i64 t226, .int .i64 ((rd_T37 l0 x15_0).f5.f0), .int .i64 ((rd_T37 l0 x15_0).f5.f1), .int .i64 ((rd_T37 l0 x15_0).f5.f2), .int .i64 ((rd_T37 l0 x15_0).f6), .int .i64 ((rd_T37 l0 x15_0).f7)] _ (cells_at (SL.at_ (SL.get2 HS.out)) 0 _ rfl) Try.underlying37 rfl (by kernel_rfl) ?_) | ((with_reducible refine gate_dst (N := 62) rfl ?_); refine wpList_plain rfl (fun K_ hK_ => ?_); refine op_rowF (S := S) (d := k37) ⟨fun h_ => h_⟩ 37 y227 #[.int .i64 ((rd_T37 l0 x15_0).f0), .int .i64 ((rd_T37 l0 x15_0).f1.f0), .int .i64 ((rd_T37 l0 x15_0).f1.f1.f0), .int .i64 ((rd_T37 l0 x15_0).f1.f1.f1), .int .i64 ((rd_T37 l0 x15_0).f1.f2.f0), .int .i64 ((rd_T37 l0 x15_0).f1.f2.f1), .int .i64 ((rd_T37 l0 x15_0).f1.f3), .int .i64 ((rd_T37 l0 x15_0).f1.f4), .int .i64 ((rd_T37 l0 x15_0).f2), .int .i64 ((rd_T37 l0 x15_0).f3), .int .i64 t226, .int .i64 ((rd_T37 l0 x15_0).f5.f0), .int .i64 ((rd_T37 l0 x15_0).f5.f1), .int .i64 ((rd_T37 l0 x15_0).f5.f2), .int .i64 ((rd_T37 l0 x15_0).f6), .int .i64 ((rd_T37 l0 x15_0).f7)] 1 (by rw [← Ny227.out]; exact reps_cons (k37_mkM _ 0 _ (⟨(rd_T37 l0 x15_0).f0, (⟨(rd_T37 l0 x15_0).f1.f0, (⟨(rd_T37 l0 x15_0).f1.f1.f0, (rd_T37 l0 x15_0).f1.f1.f1⟩ : S31), (⟨(rd_T37 l0 x15_0).f1.f2.f0, (rd_T37 l0 x15_0).f1.f2.f1⟩ : S31), (rd_T37 l0 x15_0).f1.f3, (rd_T37 l0 x15_0).f1.f4⟩ : S33), (rd_T37 l0 x15_0).f2, (rd_T37 l0 x15_0).f3, t226, (⟨(rd_T37 l0 x15_0).f5.f0, (rd_T37 l0 x15_0).f5.f1, (rd_T37 l0 x15_0).f5.f2⟩ : S35), (rd_T37 l0 x15_0).f6, (rd_T37 l0 x15_0).f7⟩ : S37)) rfl (Reps.none _ _)) (by rw [← Ny227.out]; rfl) (by decide) (HF.out.keep HK.out) HS.out (by first | (go_simp; done) | (go_simp; rfl)) ?_; intro Az3000017 cz3000017 w26 hs_ hk_; refine hK_ _ _ ?_; clear hK_ K_; replace HS := Aside0.mk ((show SL (row k37 37 (.slice Az3000017 1 cz3000017) y227 :: _) _ _ from hs_)); replace HK := Aside0.mk (HK.out.trans hk_); (try clear hz3000012_0_2 hz3000012_1_2 hz3000012_2_2 hz3000012_3_2 hz3000012_4_2 hz3000012_5_2 hz3000012_6_2 hz3000012_7_2 hz3000012_8_2 hz3000012_9_2 hz3000012_10_2 hz3000012_11_2 hz3000012_12_2 hz3000012_13_2 hz3000012_14_2 hz3000012_15_2)) | ((with_reducible refine gate_dst (N := 63) rfl ?_); refine wpList_plain rfl (fun K_ hK_ => ?_); refine op_appendF (S := S) (d := k37) ⟨fun h_ => h_⟩ (.tmp 60) (.tmp 62) 22 37 (.agg #[(.int .i64 0), (.int .i64 0), (.int .i64 0), (.int .i64 0), (.int .i64 0), (.int .i64 0), (.int .i64 0), (.int .i64 0), (.int .i64 0), (.int .i64 0), (.int .i64 0), (.int .i64 0), (.int .i64 0), (.int .i64 0), (.int .i64 0), (.int .i64 0)]) 128 rfl Try.underlying22 info37 rfl (by decide) (by decide) (.slice Ax6_0 x6_0.length cx6_0) rfl rfl (HF.out.keep HK.out) (SL.get4 HS.out) (SL.row_c HS.out).2.2 (by have := LMc23.out; have e_ := (SL.row_c HS.out).1; omega) y228 Ny228.out ?_; intro A229 c230 w27 hs_ hk_; refine hK_ _ _ ?_; clear hK_ K_; replace HS := Aside0.mk ((SL.back4 (show SL (row k37 37 (.slice A229 y228.length c230) y228 :: _) _ _ from hs_))); replace HK := Aside0.mk (HK.out.trans hk_)))
            try simp only [Exit.noGoto_ret, Exit.noGoto_normal, Exit.noGoto_exit]
            replace HS := Aside0.mk (SL.tail (SL.get1 (SL.tail (SL.get1 (SL.tail HS.out)))))
            go_roundg k2
            case measure => have := HQ1.out; have := HQ2.out; omega
            case rel => exact ⟨(x7_1), (Ax7_1), (cx7_1), (y228), (A229), (c230), (wrap64 (x15_0 + 1)), (by first | rfl | (simp; done) | (simp [*]; done)), (by first | rfl | (simp; done) | (simp [*]; done)), (by first | rfl | (simp; done) | (simp [*]; done)), H', ⟨by have := HQ1.out; have := HQ2.out; omega⟩, HS, HK⟩
           ·rw [if_neg c23] at H
            exact absurd H (by simp)
      ·rw [if_neg c4] at H
       have c4b0 : decide (((rd_T37 l0 x15_0).f4) ≤ ((rd_T37 l0 x15_0).f2)) = false := decide_eq_false c4
       clear c4
       by_cases c28 : ((rd_T37 l0 x15_0).f2) ≤ a2
       ·rw [if_pos c28] at H
        have c28b0 : decide (((rd_T37 l0 x15_0).f2) ≤ a2) = true := decide_eq_true c28
        clear c28
        have H' := Aside0.mk H
        clear H
        have pq201 : 0 ≤ (x15_0 : Int) := of_decide_eq_true (by first | (with_reducible assumption) | assumption)
        have qq201 : x15_0 < ((l0.length : Int) : Int) := of_decide_eq_true (by first | (with_reducible assumption) | assumption)
        obtain ⟨adq201, eq201, hxq201_0, hxq201_1, hxq201_2, hxq201_3, hxq201_4, hxq201_5, hxq201_6, hxq201_7, hxq201_8, hxq201_9, hxq201_10, hxq201_11, hxq201_12, hxq201_13, hxq201_14, hxq201_15⟩ := at_T37 (RO.at_ HR0.out HK.out) x15_0 pq201 qq201
        cases eq201
        replace pq201 := eq_true pq201
        replace qq201 := eq_true qq201
        go_wp2_with (first | ((with_reducible refine gate_dst (N := 18) rfl ?_); refine wpList_loadA rfl 37 (.tmp 17) rfl _ rfl _ _ (ats_of hxq201_0 (atk_cons hxq201_1 (atk_cons hxq201_2 (atk_cons hxq201_3 (atk_cons hxq201_4 (atk_cons hxq201_5 (atk_cons hxq201_6 (atk_cons hxq201_7 (atk_cons hxq201_8 (atk_cons hxq201_9 (atk_cons hxq201_10 (atk_cons hxq201_11 (atk_cons hxq201_12 (atk_cons hxq201_13 (atk_cons hxq201_14 (atk_cons hxq201_15 atk_nil)))))))))))))))) Try.underlying37 rfl (by kernel_rfl) ?_) | ((with_reducible refine gate_dst (N := 9) rfl ?_); refine wpList_plain rfl (fun K_ hK_ => ?_); refine op_box (S := S) (cs := #[.int .i64 0, .int .i64 0, .int .i64 0, .int .i64 0, .int .i64 0, .int .i64 0, .int .i64 0, .int .i64 0, .int .i64 0, .int .i64 0, .int .i64 0, .int .i64 0, .int .i64 0, .int .i64 0, .int .i64 0, .int .i64 0]) (t := 37) (HF.out.keep HK.out) HS.out (by first | (go_simp; done) | (go_simp; rfl)) ?_; intro g3000012 w29 hs_ hk_; refine hK_ _ _ ?_; clear hK_ K_; replace HS := Aside0.mk (hs_); replace HK := Aside0.mk (HK.out.trans hk_)) | ((with_reducible refine gate_store (t := 37) (p := 9) (v := (.tmp 18)) rfl ?_); refine wpList_plain rfl (fun K_ hK_ => ?_); refine op_store (S := S) 37 (.tmp 9) (.tmp 18) rfl g3000012 0 (.agg #[.int .i64 ((rd_T37 l0 x15_0).f0), .int .i64 ((rd_T37 l0 x15_0).f1.f0), .int .i64 ((rd_T37 l0 x15_0).f1.f1.f0), .int .i64 ((rd_T37 l0 x15_0).f1.f1.f1), .int .i64 ((rd_T37 l0 x15_0).f1.f2.f0), .int .i64 ((rd_T37 l0 x15_0).f1.f2.f1), .int .i64 ((rd_T37 l0 x15_0).f1.f3), .int .i64 ((rd_T37 l0 x15_0).f1.f4), .int .i64 ((rd_T37 l0 x15_0).f2), .int .i64 ((rd_T37 l0 x15_0).f3), .int .i64 ((rd_T37 l0 x15_0).f4), .int .i64 ((rd_T37 l0 x15_0).f5.f0), .int .i64 ((rd_T37 l0 x15_0).f5.f1), .int .i64 ((rd_T37 l0 x15_0).f5.f2), .int .i64 ((rd_T37 l0 x15_0).f6), .int .i64 ((rd_T37 l0 x15_0).f7)]) [.int .i64 ((rd_T37 l0 x15_0).f0), .int .i64 ((rd_T37 l0 x15_0).f1.f0), .int .i64 ((rd_T37 l0 x15_0).f1.f1.f0), .int .i64 ((rd_T37 l0 x15_0).f1.f1.f1), .int .i64 ((rd_T37 l0 x15_0).f1.f2.f0), .int .i64 ((rd_T37 l0 x15_0).f1.f2.f1), .int .i64 ((rd_T37 l0 x15_0).f1.f3), .int .i64 ((rd_T37 l0 x15_0).f1.f4), .int .i64 ((rd_T37 l0 x15_0).f2), .int .i64 ((rd_T37 l0 x15_0).f3), .int .i64 ((rd_T37 l0 x15_0).f4), .int .i64 ((rd_T37 l0 x15_0).f5.f0), .int .i64 ((rd_T37 l0 x15_0).f5.f1), .int .i64 ((rd_T37 l0 x15_0).f5.f2), .int .i64 ((rd_T37 l0 x15_0).f6), .int .i64 ((rd_T37 l0 x15_0).f7)] rfl rfl rfl (by kernel_rfl) (by simp [Value.oneCell']) HS.out (by simp) ?_; intro w30 hs_ hk_; refine hK_ _ _ ?_; clear hK_ K_; replace HS := Aside0.mk ((show SL (cells g3000012 37 [.int .i64 ((rd_T37 l0 x15_0).f0), .int .i64 ((rd_T37 l0 x15_0).f1.f0), .int .i64 ((rd_T37 l0 x15_0).f1.f1.f0), .int .i64 ((rd_T37 l0 x15_0).f1.f1.f1), .int .i64 ((rd_T37 l0 x15_0).f1.f2.f0), .int .i64 ((rd_T37 l0 x15_0).f1.f2.f1), .int .i64 ((rd_T37 l0 x15_0).f1.f3), .int .i64 ((rd_T37 l0 x15_0).f1.f4), .int .i64 ((rd_T37 l0 x15_0).f2), .int .i64 ((rd_T37 l0 x15_0).f3), .int .i64 ((rd_T37 l0 x15_0).f4), .int .i64 ((rd_T37 l0 x15_0).f5.f0), .int .i64 ((rd_T37 l0 x15_0).f5.f1), .int .i64 ((rd_T37 l0 x15_0).f5.f2), .int .i64 ((rd_T37 l0 x15_0).f6), .int .i64 ((rd_T37 l0 x15_0).f7)].toArray :: _) _ _ from hs_)); replace HK := Aside0.mk (HK.out.trans hk_); have hb_ := SL.at_ HS.out; have hz3000012_0_2 := ((blk_cell hb_ 0).trans rfl : _ = some (.int .i64 ((rd_T37 l0 x15_0).f0))); have hz3000012_1_2 := ((blk_cell hb_ 1).trans rfl : _ = some (.int .i64 ((rd_T37 l0 x15_0).f1.f0))); have hz3000012_2_2 := ((blk_cell hb_ 2).trans rfl : _ = some (.int .i64 ((rd_T37 l0 x15_0).f1.f1.f0))); have hz3000012_3_2 := ((blk_cell hb_ 3).trans rfl : _ = some (.int .i64 ((rd_T37 l0 x15_0).f1.f1.f1))); have hz3000012_4_2 := ((blk_cell hb_ 4).trans rfl : _ = some (.int .i64 ((rd_T37 l0 x15_0).f1.f2.f0))); have hz3000012_5_2 := ((blk_cell hb_ 5).trans rfl : _ = some (.int .i64 ((rd_T37 l0 x15_0).f1.f2.f1))); have hz3000012_6_2 := ((blk_cell hb_ 6).trans rfl : _ = some (.int .i64 ((rd_T37 l0 x15_0).f1.f3))); have hz3000012_7_2 := ((blk_cell hb_ 7).trans rfl : _ = some (.int .i64 ((rd_T37 l0 x15_0).f1.f4))); have hz3000012_8_2 := ((blk_cell hb_ 8).trans rfl : _ = some (.int .i64 ((rd_T37 l0 x15_0).f2))); have hz3000012_9_2 := ((blk_cell hb_ 9).trans rfl : _ = some (.int .i64 ((rd_T37 l0 x15_0).f3))); have hz3000012_10_2 := ((blk_cell hb_ 10).trans rfl : _ = some (.int .i64 ((rd_T37 l0 x15_0).f4))); have hz3000012_11_2 := ((blk_cell hb_ 11).trans rfl : _ = some (.int .i64 ((rd_T37 l0 x15_0).f5.f0))); have hz3000012_12_2 := ((blk_cell hb_ 12).trans rfl : _ = some (.int .i64 ((rd_T37 l0 x15_0).f5.f1))); have hz3000012_13_2 := ((blk_cell hb_ 13).trans rfl : _ = some (.int .i64 ((rd_T37 l0 x15_0).f5.f2))); have hz3000012_14_2 := ((blk_cell hb_ 14).trans rfl : _ = some (.int .i64 ((rd_T37 l0 x15_0).f6))); have hz3000012_15_2 := ((blk_cell hb_ 15).trans rfl : _ = some (.int .i64 ((rd_T37 l0 x15_0).f7))); clear hb_))
        try simp only [Exit.noGoto_ret, Exit.noGoto_normal, Exit.noGoto_exit]
        replace HS := Aside0.mk (SL.tail HS.out)
        go_roundg k1
        case measure => have := HQ1.out; omega
        case rel => exact ⟨(x7_0), (Ax7_0), (cx7_0), (x6_0), (Ax6_0), (cx6_0), (wrap64 (x15_0 + 1)), (by first | rfl | (simp; done) | (simp [*]; done)), (by first | rfl | (simp; done) | (simp [*]; done)), (by first | rfl | (simp; done) | (simp [*]; done)), H', ⟨by have := HQ1.out; omega⟩, HS, HK⟩
       ·rw [if_neg c28] at H
        have c28b0 : decide (((rd_T37 l0 x15_0).f2) ≤ a2) = false := decide_eq_false c28
        clear c28
        replace H := Option.bind_eq_some_iff.1 H
        obtain ⟨y231, hy2310, H⟩ := H
        try dsimp only at H
        have hy231 := Option.some.inj hy2310
        clear hy2310
        have Ny231 := Aside0.mk hy231
        clear hy231
        by_cases c31 : x6_0.length + y231.length < 1099511627776
        ·rw [if_pos c31] at H
         have LMc31 := Aside0.mk c31
         clear c31
         replace H := Option.bind_eq_some_iff.1 H
         obtain ⟨y232, hy2320, H⟩ := H
         try dsimp only at H
         have hy232 := Option.some.inj hy2320
         clear hy2320
         have Ny232 := Aside0.mk hy232
         clear hy232
         have H' := Aside0.mk H
         clear H
         have pq201 : 0 ≤ (x15_0 : Int) := of_decide_eq_true (by first | (with_reducible assumption) | assumption)
         have qq201 : x15_0 < ((l0.length : Int) : Int) := of_decide_eq_true (by first | (with_reducible assumption) | assumption)
         obtain ⟨adq201, eq201, hxq201_0, hxq201_1, hxq201_2, hxq201_3, hxq201_4, hxq201_5, hxq201_6, hxq201_7, hxq201_8, hxq201_9, hxq201_10, hxq201_11, hxq201_12, hxq201_13, hxq201_14, hxq201_15⟩ := at_T37 (RO.at_ HR0.out HK.out) x15_0 pq201 qq201
         cases eq201
         replace pq201 := eq_true pq201
         replace qq201 := eq_true qq201
         go_wp2_with (first | ((with_reducible refine gate_dst (N := 18) rfl ?_); refine wpList_loadA rfl 37 (.tmp 17) rfl _ rfl _ _ (ats_of hxq201_0 (atk_cons hxq201_1 (atk_cons hxq201_2 (atk_cons hxq201_3 (atk_cons hxq201_4 (atk_cons hxq201_5 (atk_cons hxq201_6 (atk_cons hxq201_7 (atk_cons hxq201_8 (atk_cons hxq201_9 (atk_cons hxq201_10 (atk_cons hxq201_11 (atk_cons hxq201_12 (atk_cons hxq201_13 (atk_cons hxq201_14 (atk_cons hxq201_15 atk_nil)))))))))))))))) Try.underlying37 rfl (by kernel_rfl) ?_) | ((with_reducible refine gate_dst (N := 9) rfl ?_); refine wpList_plain rfl (fun K_ hK_ => ?_); refine op_box (S := S) (cs := #[.int .i64 0, .int .i64 0, .int .i64 0, .int .i64 0, .int .i64 0, .int .i64 0, .int .i64 0, .int .i64 0, .int .i64 0, .int .i64 0, .int .i64 0, .int .i64 0, .int .i64 0, .int .i64 0, .int .i64 0, .int .i64 0]) (t := 37) (HF.out.keep HK.out) HS.out (by first | (go_simp; done) | (go_simp; rfl)) ?_; intro g3000012 w32 hs_ hk_; refine hK_ _ _ ?_; clear hK_ K_; replace HS := Aside0.mk (hs_); replace HK := Aside0.mk (HK.out.trans hk_)) | ((with_reducible refine gate_store (t := 37) (p := 9) (v := (.tmp 18)) rfl ?_); refine wpList_plain rfl (fun K_ hK_ => ?_); refine op_store (S := S) 37 (.tmp 9) (.tmp 18) rfl g3000012 0 (.agg #[.int .i64 ((rd_T37 l0 x15_0).f0), .int .i64 ((rd_T37 l0 x15_0).f1.f0), .int .i64 ((rd_T37 l0 x15_0).f1.f1.f0), .int .i64 ((rd_T37 l0 x15_0).f1.f1.f1), .int .i64 ((rd_T37 l0 x15_0).f1.f2.f0), .int .i64 ((rd_T37 l0 x15_0).f1.f2.f1), .int .i64 ((rd_T37 l0 x15_0).f1.f3), .int .i64 ((rd_T37 l0 x15_0).f1.f4), .int .i64 ((rd_T37 l0 x15_0).f2), .int .i64 ((rd_T37 l0 x15_0).f3), .int .i64 ((rd_T37 l0 x15_0).f4), .int .i64 ((rd_T37 l0 x15_0).f5.f0), .int .i64 ((rd_T37 l0 x15_0).f5.f1), .int .i64 ((rd_T37 l0 x15_0).f5.f2), .int .i64 ((rd_T37 l0 x15_0).f6), .int .i64 ((rd_T37 l0 x15_0).f7)]) [.int .i64 ((rd_T37 l0 x15_0).f0), .int .i64 ((rd_T37 l0 x15_0).f1.f0), .int .i64 ((rd_T37 l0 x15_0).f1.f1.f0), .int .i64 ((rd_T37 l0 x15_0).f1.f1.f1), .int .i64 ((rd_T37 l0 x15_0).f1.f2.f0), .int .i64 ((rd_T37 l0 x15_0).f1.f2.f1), .int .i64 ((rd_T37 l0 x15_0).f1.f3), .int .i64 ((rd_T37 l0 x15_0).f1.f4), .int .i64 ((rd_T37 l0 x15_0).f2), .int .i64 ((rd_T37 l0 x15_0).f3), .int .i64 ((rd_T37 l0 x15_0).f4), .int .i64 ((rd_T37 l0 x15_0).f5.f0), .int .i64 ((rd_T37 l0 x15_0).f5.f1), .int .i64 ((rd_T37 l0 x15_0).f5.f2), .int .i64 ((rd_T37 l0 x15_0).f6), .int .i64 ((rd_T37 l0 x15_0).f7)] rfl rfl rfl (by kernel_rfl) (by simp [Value.oneCell']) HS.out (by simp) ?_; intro w33 hs_ hk_; refine hK_ _ _ ?_; clear hK_ K_; replace HS := Aside0.mk ((show SL (cells g3000012 37 [.int .i64 ((rd_T37 l0 x15_0).f0), .int .i64 ((rd_T37 l0 x15_0).f1.f0), .int .i64 ((rd_T37 l0 x15_0).f1.f1.f0), .int .i64 ((rd_T37 l0 x15_0).f1.f1.f1), .int .i64 ((rd_T37 l0 x15_0).f1.f2.f0), .int .i64 ((rd_T37 l0 x15_0).f1.f2.f1), .int .i64 ((rd_T37 l0 x15_0).f1.f3), .int .i64 ((rd_T37 l0 x15_0).f1.f4), .int .i64 ((rd_T37 l0 x15_0).f2), .int .i64 ((rd_T37 l0 x15_0).f3), .int .i64 ((rd_T37 l0 x15_0).f4), .int .i64 ((rd_T37 l0 x15_0).f5.f0), .int .i64 ((rd_T37 l0 x15_0).f5.f1), .int .i64 ((rd_T37 l0 x15_0).f5.f2), .int .i64 ((rd_T37 l0 x15_0).f6), .int .i64 ((rd_T37 l0 x15_0).f7)].toArray :: _) _ _ from hs_)); replace HK := Aside0.mk (HK.out.trans hk_); have hb_ := SL.at_ HS.out; have hz3000012_0_2 := ((blk_cell hb_ 0).trans rfl : _ = some (.int .i64 ((rd_T37 l0 x15_0).f0))); have hz3000012_1_2 := ((blk_cell hb_ 1).trans rfl : _ = some (.int .i64 ((rd_T37 l0 x15_0).f1.f0))); have hz3000012_2_2 := ((blk_cell hb_ 2).trans rfl : _ = some (.int .i64 ((rd_T37 l0 x15_0).f1.f1.f0))); have hz3000012_3_2 := ((blk_cell hb_ 3).trans rfl : _ = some (.int .i64 ((rd_T37 l0 x15_0).f1.f1.f1))); have hz3000012_4_2 := ((blk_cell hb_ 4).trans rfl : _ = some (.int .i64 ((rd_T37 l0 x15_0).f1.f2.f0))); have hz3000012_5_2 := ((blk_cell hb_ 5).trans rfl : _ = some (.int .i64 ((rd_T37 l0 x15_0).f1.f2.f1))); have hz3000012_6_2 := ((blk_cell hb_ 6).trans rfl : _ = some (.int .i64 ((rd_T37 l0 x15_0).f1.f3))); have hz3000012_7_2 := ((blk_cell hb_ 7).trans rfl : _ = some (.int .i64 ((rd_T37 l0 x15_0).f1.f4))); have hz3000012_8_2 := ((blk_cell hb_ 8).trans rfl : _ = some (.int .i64 ((rd_T37 l0 x15_0).f2))); have hz3000012_9_2 := ((blk_cell hb_ 9).trans rfl : _ = some (.int .i64 ((rd_T37 l0 x15_0).f3))); have hz3000012_10_2 := ((blk_cell hb_ 10).trans rfl : _ = some (.int .i64 ((rd_T37 l0 x15_0).f4))); have hz3000012_11_2 := ((blk_cell hb_ 11).trans rfl : _ = some (.int .i64 ((rd_T37 l0 x15_0).f5.f0))); have hz3000012_12_2 := ((blk_cell hb_ 12).trans rfl : _ = some (.int .i64 ((rd_T37 l0 x15_0).f5.f1))); have hz3000012_13_2 := ((blk_cell hb_ 13).trans rfl : _ = some (.int .i64 ((rd_T37 l0 x15_0).f5.f2))); have hz3000012_14_2 := ((blk_cell hb_ 14).trans rfl : _ = some (.int .i64 ((rd_T37 l0 x15_0).f6))); have hz3000012_15_2 := ((blk_cell hb_ 15).trans rfl : _ = some (.int .i64 ((rd_T37 l0 x15_0).f7))); clear hb_) | ((with_reducible refine gate_dst (N := 61) rfl ?_); refine wpList_loadA rfl 37 (.tmp 9) rfl _ rfl [.int .i64 ((rd_T37 l0 x15_0).f0), .int .i64 ((rd_T37 l0 x15_0).f1.f0), .int .i64 ((rd_T37 l0 x15_0).f1.f1.f0), .int .i64 ((rd_T37 l0 x15_0).f1.f1.f1), .int .i64 ((rd_T37 l0 x15_0).f1.f2.f0), .int .i64 ((rd_T37 l0 x15_0).f1.f2.f1), .int .i64 ((rd_T37 l0 x15_0).f1.f3), .int .i64 ((rd_T37 l0 x15_0).f1.f4), .int .i64 ((rd_T37 l0 x15_0).f2), .int .i64 ((rd_T37 l0 x15_0).f3), .int .i64 ((rd_T37 l0 x15_0).f4), .int .i64 ((rd_T37 l0 x15_0).f5.f0), .int .i64 ((rd_T37 l0 x15_0).f5.f1), .int .i64 ((rd_T37 l0 x15_0).f5.f2), .int .i64 ((rd_T37 l0 x15_0).f6), .int .i64 ((rd_T37 l0 x15_0).f7)] _ (cells_at (SL.at_ HS.out) 0 _ rfl) Try.underlying37 rfl (by kernel_rfl) ?_) | ((with_reducible refine gate_dst (N := 62) rfl ?_); refine wpList_plain rfl (fun K_ hK_ => ?_); refine op_rowF (S := S) (d := k37) ⟨fun h_ => h_⟩ 37 y231 #[.int .i64 ((rd_T37 l0 x15_0).f0), .int .i64 ((rd_T37 l0 x15_0).f1.f0), .int .i64 ((rd_T37 l0 x15_0).f1.f1.f0), .int .i64 ((rd_T37 l0 x15_0).f1.f1.f1), .int .i64 ((rd_T37 l0 x15_0).f1.f2.f0), .int .i64 ((rd_T37 l0 x15_0).f1.f2.f1), .int .i64 ((rd_T37 l0 x15_0).f1.f3), .int .i64 ((rd_T37 l0 x15_0).f1.f4), .int .i64 ((rd_T37 l0 x15_0).f2), .int .i64 ((rd_T37 l0 x15_0).f3), .int .i64 ((rd_T37 l0 x15_0).f4), .int .i64 ((rd_T37 l0 x15_0).f5.f0), .int .i64 ((rd_T37 l0 x15_0).f5.f1), .int .i64 ((rd_T37 l0 x15_0).f5.f2), .int .i64 ((rd_T37 l0 x15_0).f6), .int .i64 ((rd_T37 l0 x15_0).f7)] 1 (by rw [← Ny231.out]; exact reps_cons (k37_mkM _ 0 _ (⟨(rd_T37 l0 x15_0).f0, (⟨(rd_T37 l0 x15_0).f1.f0, (⟨(rd_T37 l0 x15_0).f1.f1.f0, (rd_T37 l0 x15_0).f1.f1.f1⟩ : S31), (⟨(rd_T37 l0 x15_0).f1.f2.f0, (rd_T37 l0 x15_0).f1.f2.f1⟩ : S31), (rd_T37 l0 x15_0).f1.f3, (rd_T37 l0 x15_0).f1.f4⟩ : S33), (rd_T37 l0 x15_0).f2, (rd_T37 l0 x15_0).f3, (rd_T37 l0 x15_0).f4, (⟨(rd_T37 l0 x15_0).f5.f0, (rd_T37 l0 x15_0).f5.f1, (rd_T37 l0 x15_0).f5.f2⟩ : S35), (rd_T37 l0 x15_0).f6, (rd_T37 l0 x15_0).f7⟩ : S37)) rfl (Reps.none _ _)) (by rw [← Ny231.out]; rfl) (by decide) (HF.out.keep HK.out) HS.out (by first | (go_simp; done) | (go_simp; rfl)) ?_; intro Az3000017 cz3000017 w34 hs_ hk_; refine hK_ _ _ ?_; clear hK_ K_; replace HS := Aside0.mk ((show SL (row k37 37 (.slice Az3000017 1 cz3000017) y231 :: _) _ _ from hs_)); replace HK := Aside0.mk (HK.out.trans hk_); (try clear hz3000012_0_2 hz3000012_1_2 hz3000012_2_2 hz3000012_3_2 hz3000012_4_2 hz3000012_5_2 hz3000012_6_2 hz3000012_7_2 hz3000012_8_2 hz3000012_9_2 hz3000012_10_2 hz3000012_11_2 hz3000012_12_2 hz3000012_13_2 hz3000012_14_2 hz3000012_15_2)) | ((with_reducible refine gate_dst (N := 63) rfl ?_); refine wpList_plain rfl (fun K_ hK_ => ?_); refine op_appendF (S := S) (d := k37) ⟨fun h_ => h_⟩ (.tmp 60) (.tmp 62) 22 37 (.agg #[(.int .i64 0), (.int .i64 0), (.int .i64 0), (.int .i64 0), (.int .i64 0), (.int .i64 0), (.int .i64 0), (.int .i64 0), (.int .i64 0), (.int .i64 0), (.int .i64 0), (.int .i64 0), (.int .i64 0), (.int .i64 0), (.int .i64 0), (.int .i64 0)]) 128 rfl Try.underlying22 info37 rfl (by decide) (by decide) (.slice Ax6_0 x6_0.length cx6_0) rfl rfl (HF.out.keep HK.out) (SL.get3 HS.out) (SL.row_c HS.out).2.2 (by have := LMc31.out; have e_ := (SL.row_c HS.out).1; omega) y232 Ny232.out ?_; intro A233 c234 w35 hs_ hk_; refine hK_ _ _ ?_; clear hK_ K_; replace HS := Aside0.mk ((SL.back3 (show SL (row k37 37 (.slice A233 y232.length c234) y232 :: _) _ _ from hs_))); replace HK := Aside0.mk (HK.out.trans hk_)))
         try simp only [Exit.noGoto_ret, Exit.noGoto_normal, Exit.noGoto_exit]
         replace HS := Aside0.mk (SL.tail (SL.tail HS.out))
         go_roundg k1
         case measure => have := HQ1.out; omega
         case rel => exact ⟨(x7_0), (Ax7_0), (cx7_0), (y232), (A233), (c234), (wrap64 (x15_0 + 1)), (by first | rfl | (simp; done) | (simp [*]; done)), (by first | rfl | (simp; done) | (simp [*]; done)), (by first | rfl | (simp; done) | (simp [*]; done)), H', ⟨by have := HQ1.out; omega⟩, HS, HK⟩
        ·rw [if_neg c31] at H
         exact absurd H (by simp)
     ·rw [if_neg c3] at H
      have c3b0 : decide (((rd_T37 l0 x15_0).f4) ≤ a2) = false := decide_eq_false c3
      clear c3
      by_cases c36 : ((rd_T37 l0 x15_0).f2) ≤ a2
      ·rw [if_pos c36] at H
       have c36b0 : decide (((rd_T37 l0 x15_0).f2) ≤ a2) = true := decide_eq_true c36
       clear c36
       have H' := Aside0.mk H
       clear H
       have pq201 : 0 ≤ (x15_0 : Int) := of_decide_eq_true (by first | (with_reducible assumption) | assumption)
       have qq201 : x15_0 < ((l0.length : Int) : Int) := of_decide_eq_true (by first | (with_reducible assumption) | assumption)
       obtain ⟨adq201, eq201, hxq201_0, hxq201_1, hxq201_2, hxq201_3, hxq201_4, hxq201_5, hxq201_6, hxq201_7, hxq201_8, hxq201_9, hxq201_10, hxq201_11, hxq201_12, hxq201_13, hxq201_14, hxq201_15⟩ := at_T37 (RO.at_ HR0.out HK.out) x15_0 pq201 qq201
       cases eq201
       replace pq201 := eq_true pq201
       replace qq201 := eq_true qq201
       go_wp2_with (first | ((with_reducible refine gate_dst (N := 18) rfl ?_); refine wpList_loadA rfl 37 (.tmp 17) rfl _ rfl _ _ (ats_of hxq201_0 (atk_cons hxq201_1 (atk_cons hxq201_2 (atk_cons hxq201_3 (atk_cons hxq201_4 (atk_cons hxq201_5 (atk_cons hxq201_6 (atk_cons hxq201_7 (atk_cons hxq201_8 (atk_cons hxq201_9 (atk_cons hxq201_10 (atk_cons hxq201_11 (atk_cons hxq201_12 (atk_cons hxq201_13 (atk_cons hxq201_14 (atk_cons hxq201_15 atk_nil)))))))))))))))) Try.underlying37 rfl (by kernel_rfl) ?_) | ((with_reducible refine gate_dst (N := 9) rfl ?_); refine wpList_plain rfl (fun K_ hK_ => ?_); refine op_box (S := S) (cs := #[.int .i64 0, .int .i64 0, .int .i64 0, .int .i64 0, .int .i64 0, .int .i64 0, .int .i64 0, .int .i64 0, .int .i64 0, .int .i64 0, .int .i64 0, .int .i64 0, .int .i64 0, .int .i64 0, .int .i64 0, .int .i64 0]) (t := 37) (HF.out.keep HK.out) HS.out (by first | (go_simp; done) | (go_simp; rfl)) ?_; intro g3000012 w37 hs_ hk_; refine hK_ _ _ ?_; clear hK_ K_; replace HS := Aside0.mk (hs_); replace HK := Aside0.mk (HK.out.trans hk_)) | ((with_reducible refine gate_store (t := 37) (p := 9) (v := (.tmp 18)) rfl ?_); refine wpList_plain rfl (fun K_ hK_ => ?_); refine op_store (S := S) 37 (.tmp 9) (.tmp 18) rfl g3000012 0 (.agg #[.int .i64 ((rd_T37 l0 x15_0).f0), .int .i64 ((rd_T37 l0 x15_0).f1.f0), .int .i64 ((rd_T37 l0 x15_0).f1.f1.f0), .int .i64 ((rd_T37 l0 x15_0).f1.f1.f1), .int .i64 ((rd_T37 l0 x15_0).f1.f2.f0), .int .i64 ((rd_T37 l0 x15_0).f1.f2.f1), .int .i64 ((rd_T37 l0 x15_0).f1.f3), .int .i64 ((rd_T37 l0 x15_0).f1.f4), .int .i64 ((rd_T37 l0 x15_0).f2), .int .i64 ((rd_T37 l0 x15_0).f3), .int .i64 ((rd_T37 l0 x15_0).f4), .int .i64 ((rd_T37 l0 x15_0).f5.f0), .int .i64 ((rd_T37 l0 x15_0).f5.f1), .int .i64 ((rd_T37 l0 x15_0).f5.f2), .int .i64 ((rd_T37 l0 x15_0).f6), .int .i64 ((rd_T37 l0 x15_0).f7)]) [.int .i64 ((rd_T37 l0 x15_0).f0), .int .i64 ((rd_T37 l0 x15_0).f1.f0), .int .i64 ((rd_T37 l0 x15_0).f1.f1.f0), .int .i64 ((rd_T37 l0 x15_0).f1.f1.f1), .int .i64 ((rd_T37 l0 x15_0).f1.f2.f0), .int .i64 ((rd_T37 l0 x15_0).f1.f2.f1), .int .i64 ((rd_T37 l0 x15_0).f1.f3), .int .i64 ((rd_T37 l0 x15_0).f1.f4), .int .i64 ((rd_T37 l0 x15_0).f2), .int .i64 ((rd_T37 l0 x15_0).f3), .int .i64 ((rd_T37 l0 x15_0).f4), .int .i64 ((rd_T37 l0 x15_0).f5.f0), .int .i64 ((rd_T37 l0 x15_0).f5.f1), .int .i64 ((rd_T37 l0 x15_0).f5.f2), .int .i64 ((rd_T37 l0 x15_0).f6), .int .i64 ((rd_T37 l0 x15_0).f7)] rfl rfl rfl (by kernel_rfl) (by simp [Value.oneCell']) HS.out (by simp) ?_; intro w38 hs_ hk_; refine hK_ _ _ ?_; clear hK_ K_; replace HS := Aside0.mk ((show SL (cells g3000012 37 [.int .i64 ((rd_T37 l0 x15_0).f0), .int .i64 ((rd_T37 l0 x15_0).f1.f0), .int .i64 ((rd_T37 l0 x15_0).f1.f1.f0), .int .i64 ((rd_T37 l0 x15_0).f1.f1.f1), .int .i64 ((rd_T37 l0 x15_0).f1.f2.f0), .int .i64 ((rd_T37 l0 x15_0).f1.f2.f1), .int .i64 ((rd_T37 l0 x15_0).f1.f3), .int .i64 ((rd_T37 l0 x15_0).f1.f4), .int .i64 ((rd_T37 l0 x15_0).f2), .int .i64 ((rd_T37 l0 x15_0).f3), .int .i64 ((rd_T37 l0 x15_0).f4), .int .i64 ((rd_T37 l0 x15_0).f5.f0), .int .i64 ((rd_T37 l0 x15_0).f5.f1), .int .i64 ((rd_T37 l0 x15_0).f5.f2), .int .i64 ((rd_T37 l0 x15_0).f6), .int .i64 ((rd_T37 l0 x15_0).f7)].toArray :: _) _ _ from hs_)); replace HK := Aside0.mk (HK.out.trans hk_); have hb_ := SL.at_ HS.out; have hz3000012_0_2 := ((blk_cell hb_ 0).trans rfl : _ = some (.int .i64 ((rd_T37 l0 x15_0).f0))); have hz3000012_1_2 := ((blk_cell hb_ 1).trans rfl : _ = some (.int .i64 ((rd_T37 l0 x15_0).f1.f0))); have hz3000012_2_2 := ((blk_cell hb_ 2).trans rfl : _ = some (.int .i64 ((rd_T37 l0 x15_0).f1.f1.f0))); have hz3000012_3_2 := ((blk_cell hb_ 3).trans rfl : _ = some (.int .i64 ((rd_T37 l0 x15_0).f1.f1.f1))); have hz3000012_4_2 := ((blk_cell hb_ 4).trans rfl : _ = some (.int .i64 ((rd_T37 l0 x15_0).f1.f2.f0))); have hz3000012_5_2 := ((blk_cell hb_ 5).trans rfl : _ = some (.int .i64 ((rd_T37 l0 x15_0).f1.f2.f1))); have hz3000012_6_2 := ((blk_cell hb_ 6).trans rfl : _ = some (.int .i64 ((rd_T37 l0 x15_0).f1.f3))); have hz3000012_7_2 := ((blk_cell hb_ 7).trans rfl : _ = some (.int .i64 ((rd_T37 l0 x15_0).f1.f4))); have hz3000012_8_2 := ((blk_cell hb_ 8).trans rfl : _ = some (.int .i64 ((rd_T37 l0 x15_0).f2))); have hz3000012_9_2 := ((blk_cell hb_ 9).trans rfl : _ = some (.int .i64 ((rd_T37 l0 x15_0).f3))); have hz3000012_10_2 := ((blk_cell hb_ 10).trans rfl : _ = some (.int .i64 ((rd_T37 l0 x15_0).f4))); have hz3000012_11_2 := ((blk_cell hb_ 11).trans rfl : _ = some (.int .i64 ((rd_T37 l0 x15_0).f5.f0))); have hz3000012_12_2 := ((blk_cell hb_ 12).trans rfl : _ = some (.int .i64 ((rd_T37 l0 x15_0).f5.f1))); have hz3000012_13_2 := ((blk_cell hb_ 13).trans rfl : _ = some (.int .i64 ((rd_T37 l0 x15_0).f5.f2))); have hz3000012_14_2 := ((blk_cell hb_ 14).trans rfl : _ = some (.int .i64 ((rd_T37 l0 x15_0).f6))); have hz3000012_15_2 := ((blk_cell hb_ 15).trans rfl : _ = some (.int .i64 ((rd_T37 l0 x15_0).f7))); clear hb_))
       try simp only [Exit.noGoto_ret, Exit.noGoto_normal, Exit.noGoto_exit]
       replace HS := Aside0.mk (SL.tail HS.out)
       go_roundg k1
       case measure => have := HQ1.out; omega
       case rel => exact ⟨(x7_0), (Ax7_0), (cx7_0), (x6_0), (Ax6_0), (cx6_0), (wrap64 (x15_0 + 1)), (by first | rfl | (simp; done) | (simp [*]; done)), (by first | rfl | (simp; done) | (simp [*]; done)), (by first | rfl | (simp; done) | (simp [*]; done)), H', ⟨by have := HQ1.out; omega⟩, HS, HK⟩
      ·rw [if_neg c36] at H
       have c36b0 : decide (((rd_T37 l0 x15_0).f2) ≤ a2) = false := decide_eq_false c36
       clear c36
       replace H := Option.bind_eq_some_iff.1 H
       obtain ⟨y235, hy2350, H⟩ := H
       try dsimp only at H
       have hy235 := Option.some.inj hy2350
       clear hy2350
       have Ny235 := Aside0.mk hy235
       clear hy235
       by_cases c39 : x6_0.length + y235.length < 1099511627776
       ·rw [if_pos c39] at H
        have LMc39 := Aside0.mk c39
        clear c39
        replace H := Option.bind_eq_some_iff.1 H
        obtain ⟨y236, hy2360, H⟩ := H
        try dsimp only at H
        have hy236 := Option.some.inj hy2360
        clear hy2360
        have Ny236 := Aside0.mk hy236
        clear hy236
        have H' := Aside0.mk H
        clear H
        have pq201 : 0 ≤ (x15_0 : Int) := of_decide_eq_true (by first | (with_reducible assumption) | assumption)
        have qq201 : x15_0 < ((l0.length : Int) : Int) := of_decide_eq_true (by first | (with_reducible assumption) | assumption)
        obtain ⟨adq201, eq201, hxq201_0, hxq201_1, hxq201_2, hxq201_3, hxq201_4, hxq201_5, hxq201_6, hxq201_7, hxq201_8, hxq201_9, hxq201_10, hxq201_11, hxq201_12, hxq201_13, hxq201_14, hxq201_15⟩ := at_T37 (RO.at_ HR0.out HK.out) x15_0 pq201 qq201
        cases eq201
        replace pq201 := eq_true pq201
        replace qq201 := eq_true qq201
        go_wp2_with (first | ((with_reducible refine gate_dst (N := 18) rfl ?_); refine wpList_loadA rfl 37 (.tmp 17) rfl _ rfl _ _ (ats_of hxq201_0 (atk_cons hxq201_1 (atk_cons hxq201_2 (atk_cons hxq201_3 (atk_cons hxq201_4 (atk_cons hxq201_5 (atk_cons hxq201_6 (atk_cons hxq201_7 (atk_cons hxq201_8 (atk_cons hxq201_9 (atk_cons hxq201_10 (atk_cons hxq201_11 (atk_cons hxq201_12 (atk_cons hxq201_13 (atk_cons hxq201_14 (atk_cons hxq201_15 atk_nil)))))))))))))))) Try.underlying37 rfl (by kernel_rfl) ?_) | ((with_reducible refine gate_dst (N := 9) rfl ?_); refine wpList_plain rfl (fun K_ hK_ => ?_); refine op_box (S := S) (cs := #[.int .i64 0, .int .i64 0, .int .i64 0, .int .i64 0, .int .i64 0, .int .i64 0, .int .i64 0, .int .i64 0, .int .i64 0, .int .i64 0, .int .i64 0, .int .i64 0, .int .i64 0, .int .i64 0, .int .i64 0, .int .i64 0]) (t := 37) (HF.out.keep HK.out) HS.out (by first | (go_simp; done) | (go_simp; rfl)) ?_; intro g3000012 w40 hs_ hk_; refine hK_ _ _ ?_; clear hK_ K_; replace HS := Aside0.mk (hs_); replace HK := Aside0.mk (HK.out.trans hk_)) | ((with_reducible refine gate_store (t := 37) (p := 9) (v := (.tmp 18)) rfl ?_); refine wpList_plain rfl (fun K_ hK_ => ?_); refine op_store (S := S) 37 (.tmp 9) (.tmp 18) rfl g3000012 0 (.agg #[.int .i64 ((rd_T37 l0 x15_0).f0), .int .i64 ((rd_T37 l0 x15_0).f1.f0), .int .i64 ((rd_T37 l0 x15_0).f1.f1.f0), .int .i64 ((rd_T37 l0 x15_0).f1.f1.f1), .int .i64 ((rd_T37 l0 x15_0).f1.f2.f0), .int .i64 ((rd_T37 l0 x15_0).f1.f2.f1), .int .i64 ((rd_T37 l0 x15_0).f1.f3), .int .i64 ((rd_T37 l0 x15_0).f1.f4), .int .i64 ((rd_T37 l0 x15_0).f2), .int .i64 ((rd_T37 l0 x15_0).f3), .int .i64 ((rd_T37 l0 x15_0).f4), .int .i64 ((rd_T37 l0 x15_0).f5.f0), .int .i64 ((rd_T37 l0 x15_0).f5.f1), .int .i64 ((rd_T37 l0 x15_0).f5.f2), .int .i64 ((rd_T37 l0 x15_0).f6), .int .i64 ((rd_T37 l0 x15_0).f7)]) [.int .i64 ((rd_T37 l0 x15_0).f0), .int .i64 ((rd_T37 l0 x15_0).f1.f0), .int .i64 ((rd_T37 l0 x15_0).f1.f1.f0), .int .i64 ((rd_T37 l0 x15_0).f1.f1.f1), .int .i64 ((rd_T37 l0 x15_0).f1.f2.f0), .int .i64 ((rd_T37 l0 x15_0).f1.f2.f1), .int .i64 ((rd_T37 l0 x15_0).f1.f3), .int .i64 ((rd_T37 l0 x15_0).f1.f4), .int .i64 ((rd_T37 l0 x15_0).f2), .int .i64 ((rd_T37 l0 x15_0).f3), .int .i64 ((rd_T37 l0 x15_0).f4), .int .i64 ((rd_T37 l0 x15_0).f5.f0), .int .i64 ((rd_T37 l0 x15_0).f5.f1), .int .i64 ((rd_T37 l0 x15_0).f5.f2), .int .i64 ((rd_T37 l0 x15_0).f6), .int .i64 ((rd_T37 l0 x15_0).f7)] rfl rfl rfl (by kernel_rfl) (by simp [Value.oneCell']) HS.out (by simp) ?_; intro w41 hs_ hk_; refine hK_ _ _ ?_; clear hK_ K_; replace HS := Aside0.mk ((show SL (cells g3000012 37 [.int .i64 ((rd_T37 l0 x15_0).f0), .int .i64 ((rd_T37 l0 x15_0).f1.f0), .int .i64 ((rd_T37 l0 x15_0).f1.f1.f0), .int .i64 ((rd_T37 l0 x15_0).f1.f1.f1), .int .i64 ((rd_T37 l0 x15_0).f1.f2.f0), .int .i64 ((rd_T37 l0 x15_0).f1.f2.f1), .int .i64 ((rd_T37 l0 x15_0).f1.f3), .int .i64 ((rd_T37 l0 x15_0).f1.f4), .int .i64 ((rd_T37 l0 x15_0).f2), .int .i64 ((rd_T37 l0 x15_0).f3), .int .i64 ((rd_T37 l0 x15_0).f4), .int .i64 ((rd_T37 l0 x15_0).f5.f0), .int .i64 ((rd_T37 l0 x15_0).f5.f1), .int .i64 ((rd_T37 l0 x15_0).f5.f2), .int .i64 ((rd_T37 l0 x15_0).f6), .int .i64 ((rd_T37 l0 x15_0).f7)].toArray :: _) _ _ from hs_)); replace HK := Aside0.mk (HK.out.trans hk_); have hb_ := SL.at_ HS.out; have hz3000012_0_2 := ((blk_cell hb_ 0).trans rfl : _ = some (.int .i64 ((rd_T37 l0 x15_0).f0))); have hz3000012_1_2 := ((blk_cell hb_ 1).trans rfl : _ = some (.int .i64 ((rd_T37 l0 x15_0).f1.f0))); have hz3000012_2_2 := ((blk_cell hb_ 2).trans rfl : _ = some (.int .i64 ((rd_T37 l0 x15_0).f1.f1.f0))); have hz3000012_3_2 := ((blk_cell hb_ 3).trans rfl : _ = some (.int .i64 ((rd_T37 l0 x15_0).f1.f1.f1))); have hz3000012_4_2 := ((blk_cell hb_ 4).trans rfl : _ = some (.int .i64 ((rd_T37 l0 x15_0).f1.f2.f0))); have hz3000012_5_2 := ((blk_cell hb_ 5).trans rfl : _ = some (.int .i64 ((rd_T37 l0 x15_0).f1.f2.f1))); have hz3000012_6_2 := ((blk_cell hb_ 6).trans rfl : _ = some (.int .i64 ((rd_T37 l0 x15_0).f1.f3))); have hz3000012_7_2 := ((blk_cell hb_ 7).trans rfl : _ = some (.int .i64 ((rd_T37 l0 x15_0).f1.f4))); have hz3000012_8_2 := ((blk_cell hb_ 8).trans rfl : _ = some (.int .i64 ((rd_T37 l0 x15_0).f2))); have hz3000012_9_2 := ((blk_cell hb_ 9).trans rfl : _ = some (.int .i64 ((rd_T37 l0 x15_0).f3))); have hz3000012_10_2 := ((blk_cell hb_ 10).trans rfl : _ = some (.int .i64 ((rd_T37 l0 x15_0).f4))); have hz3000012_11_2 := ((blk_cell hb_ 11).trans rfl : _ = some (.int .i64 ((rd_T37 l0 x15_0).f5.f0))); have hz3000012_12_2 := ((blk_cell hb_ 12).trans rfl : _ = some (.int .i64 ((rd_T37 l0 x15_0).f5.f1))); have hz3000012_13_2 := ((blk_cell hb_ 13).trans rfl : _ = some (.int .i64 ((rd_T37 l0 x15_0).f5.f2))); have hz3000012_14_2 := ((blk_cell hb_ 14).trans rfl : _ = some (.int .i64 ((rd_T37 l0 x15_0).f6))); have hz3000012_15_2 := ((blk_cell hb_ 15).trans rfl : _ = some (.int .i64 ((rd_T37 l0 x15_0).f7))); clear hb_) | ((with_reducible refine gate_dst (N := 61) rfl ?_); refine wpList_loadA rfl 37 (.tmp 9) rfl _ rfl [.int .i64 ((rd_T37 l0 x15_0).f0), .int .i64 ((rd_T37 l0 x15_0).f1.f0), .int .i64 ((rd_T37 l0 x15_0).f1.f1.f0), .int .i64 ((rd_T37 l0 x15_0).f1.f1.f1), .int .i64 ((rd_T37 l0 x15_0).f1.f2.f0), .int .i64 ((rd_T37 l0 x15_0).f1.f2.f1), .int .i64 ((rd_T37 l0 x15_0).f1.f3), .int .i64 ((rd_T37 l0 x15_0).f1.f4), .int .i64 ((rd_T37 l0 x15_0).f2), .int .i64 ((rd_T37 l0 x15_0).f3), .int .i64 ((rd_T37 l0 x15_0).f4), .int .i64 ((rd_T37 l0 x15_0).f5.f0), .int .i64 ((rd_T37 l0 x15_0).f5.f1), .int .i64 ((rd_T37 l0 x15_0).f5.f2), .int .i64 ((rd_T37 l0 x15_0).f6), .int .i64 ((rd_T37 l0 x15_0).f7)] _ (cells_at (SL.at_ HS.out) 0 _ rfl) Try.underlying37 rfl (by kernel_rfl) ?_) | ((with_reducible refine gate_dst (N := 62) rfl ?_); refine wpList_plain rfl (fun K_ hK_ => ?_); refine op_rowF (S := S) (d := k37) ⟨fun h_ => h_⟩ 37 y235 #[.int .i64 ((rd_T37 l0 x15_0).f0), .int .i64 ((rd_T37 l0 x15_0).f1.f0), .int .i64 ((rd_T37 l0 x15_0).f1.f1.f0), .int .i64 ((rd_T37 l0 x15_0).f1.f1.f1), .int .i64 ((rd_T37 l0 x15_0).f1.f2.f0), .int .i64 ((rd_T37 l0 x15_0).f1.f2.f1), .int .i64 ((rd_T37 l0 x15_0).f1.f3), .int .i64 ((rd_T37 l0 x15_0).f1.f4), .int .i64 ((rd_T37 l0 x15_0).f2), .int .i64 ((rd_T37 l0 x15_0).f3), .int .i64 ((rd_T37 l0 x15_0).f4), .int .i64 ((rd_T37 l0 x15_0).f5.f0), .int .i64 ((rd_T37 l0 x15_0).f5.f1), .int .i64 ((rd_T37 l0 x15_0).f5.f2), .int .i64 ((rd_T37 l0 x15_0).f6), .int .i64 ((rd_T37 l0 x15_0).f7)] 1 (by rw [← Ny235.out]; exact reps_cons (k37_mkM _ 0 _ (⟨(rd_T37 l0 x15_0).f0, (⟨(rd_T37 l0 x15_0).f1.f0, (⟨(rd_T37 l0 x15_0).f1.f1.f0, (rd_T37 l0 x15_0).f1.f1.f1⟩ : S31), (⟨(rd_T37 l0 x15_0).f1.f2.f0, (rd_T37 l0 x15_0).f1.f2.f1⟩ : S31), (rd_T37 l0 x15_0).f1.f3, (rd_T37 l0 x15_0).f1.f4⟩ : S33), (rd_T37 l0 x15_0).f2, (rd_T37 l0 x15_0).f3, (rd_T37 l0 x15_0).f4, (⟨(rd_T37 l0 x15_0).f5.f0, (rd_T37 l0 x15_0).f5.f1, (rd_T37 l0 x15_0).f5.f2⟩ : S35), (rd_T37 l0 x15_0).f6, (rd_T37 l0 x15_0).f7⟩ : S37)) rfl (Reps.none _ _)) (by rw [← Ny235.out]; rfl) (by decide) (HF.out.keep HK.out) HS.out (by first | (go_simp; done) | (go_simp; rfl)) ?_; intro Az3000017 cz3000017 w42 hs_ hk_; refine hK_ _ _ ?_; clear hK_ K_; replace HS := Aside0.mk ((show SL (row k37 37 (.slice Az3000017 1 cz3000017) y235 :: _) _ _ from hs_)); replace HK := Aside0.mk (HK.out.trans hk_); (try clear hz3000012_0_2 hz3000012_1_2 hz3000012_2_2 hz3000012_3_2 hz3000012_4_2 hz3000012_5_2 hz3000012_6_2 hz3000012_7_2 hz3000012_8_2 hz3000012_9_2 hz3000012_10_2 hz3000012_11_2 hz3000012_12_2 hz3000012_13_2 hz3000012_14_2 hz3000012_15_2)) | ((with_reducible refine gate_dst (N := 63) rfl ?_); refine wpList_plain rfl (fun K_ hK_ => ?_); refine op_appendF (S := S) (d := k37) ⟨fun h_ => h_⟩ (.tmp 60) (.tmp 62) 22 37 (.agg #[(.int .i64 0), (.int .i64 0), (.int .i64 0), (.int .i64 0), (.int .i64 0), (.int .i64 0), (.int .i64 0), (.int .i64 0), (.int .i64 0), (.int .i64 0), (.int .i64 0), (.int .i64 0), (.int .i64 0), (.int .i64 0), (.int .i64 0), (.int .i64 0)]) 128 rfl Try.underlying22 info37 rfl (by decide) (by decide) (.slice Ax6_0 x6_0.length cx6_0) rfl rfl (HF.out.keep HK.out) (SL.get3 HS.out) (SL.row_c HS.out).2.2 (by have := LMc39.out; have e_ := (SL.row_c HS.out).1; omega) y236 Ny236.out ?_; intro A237 c238 w43 hs_ hk_; refine hK_ _ _ ?_; clear hK_ K_; replace HS := Aside0.mk ((SL.back3 (show SL (row k37 37 (.slice A237 y236.length c238) y236 :: _) _ _ from hs_))); replace HK := Aside0.mk (HK.out.trans hk_)))
        try simp only [Exit.noGoto_ret, Exit.noGoto_normal, Exit.noGoto_exit]
        replace HS := Aside0.mk (SL.tail (SL.tail HS.out))
        go_roundg k1
        case measure => have := HQ1.out; omega
        case rel => exact ⟨(x7_0), (Ax7_0), (cx7_0), (y236), (A237), (c238), (wrap64 (x15_0 + 1)), (by first | rfl | (simp; done) | (simp [*]; done)), (by first | rfl | (simp; done) | (simp [*]; done)), (by first | rfl | (simp; done) | (simp [*]; done)), H', ⟨by have := HQ1.out; omega⟩, HS, HK⟩
       ·rw [if_neg c39] at H
        exact absurd H (by simp)
    ·rw [if_neg c2] at H
     exact absurd H (by simp)
   ·rw [if_neg c1] at H
    have c1b0 : decide (x15_0 < (l0.length : Int)) = false := decide_eq_false c1
    clear c1
    simp only [Option.some.injEq, Prod.mk.injEq] at H
    obtain ⟨rfl, rfl⟩ := H
    go_wp2
    try simp only [Exit.noGoto_ret, Exit.noGoto_normal, Exit.noGoto_exit]
    go_ret2
    replace HS := Aside0.mk (SL.get1 HS.out)
    unfold zone_Tick.Post
    exact ⟨Ax6_0, cx6_0, Ax7_0, cx7_0, by first | rfl | (simp; done) | (simp [*]; done) | (simp at c1b0 ⊢; first | exact c1b0 | (simp [c1b0]; done)), HS.out, HK.out⟩

end Go.Proofs.Ytiadhonhjnbliaa.XZT
