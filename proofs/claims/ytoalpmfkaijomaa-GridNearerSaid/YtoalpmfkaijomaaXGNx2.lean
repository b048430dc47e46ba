-- Written by xprint.py (a program of this session) for this claim
import Derived.Test.YtoalpmfkaijomaaSL5
import Derived.Test.YtoalpmfkaijomaaXGNx0
import Derived.Test.YtoalpmfkaijomaaXGRx2
import Derived.Test.YtoalpmfkaijomaaXGRx4
import Derived.Test.YtoalpmfkaijomaaTo3
namespace Go.Proofs.Ytoalpmfkaijomaa.XGN
open Go.Proofs.Ytoalpmfkaijomaa.XGR
open Go.Proofs.YtoalpmfkaijomaaV Go.Proofs.YtoalpmfkaijomaaS
open Go.RowKit Go.Proofs.YtoalpmfkaijomaaW.PrintWords Go.Proofs.YtoalpmfkaijomaaW.PrintLast Go.Proofs.YtoalpmfkaijomaaW.PrintMore
attribute [local go_sem] max2_int min2_int max_two min_two max_three min_three max_four min_four   -- for this text's walks alone
set_option linter.unusedVariables false
set_option linter.unusedSimpArgs false

-- sat_Sub: in GR

-- grid_far: in GR

-- sat_Add: in GR

-- bits_Mul64: in GR

-- sat_size: in GR

-- sat_end: in GR

-- sat_Mul: in GR

-- grid_Square: in GR

-- grid_Steps: in GR

-- grid_Near: in GR

-- grid_inside: in GR

-- grid_Right_1: in GR

-- grid_Right: in GR

-- grid_In: in GR

-- cmp_isNaN_int: in GR

-- cmp_Compare_int: in GR

-- NOT PRINTED: function 41 (grid_way_1)

-- grid_way: in GR

-- grid_wall: in GR

/-! ### grid_Toward: function 15 -/
def grid_Toward.f (k : Nat) (a0_0 a0_1 : Int) (l0_2 : List Bool) (a1_0 a1_1 a2_0 a2_1 a3 : Int) : Option (Int × Int) := Go.Proofs.YtoalpmfkaijomaaTo.towardF k a0_0 a0_1 l0_2 a1_0 a1_1 a2_0 a2_1 a3
theorem grid_Toward.mono : ∀ a0 a1 a2 a3 a4 a5 a6 a7 k, LeO (grid_Toward.f k a0 a1 a2 a3 a4 a5 a6 a7) (grid_Toward.f (k + 1) a0 a1 a2 a3 a4 a5 a6 a7) := fun _ _ _ _ _ _ _ _ _ _ h => Go.Proofs.YtoalpmfkaijomaaTo.towardF_mono _ _ _ _ _ _ _ _ _ _ h
theorem grid_Toward.calls (k : Nat) (a0_0 a0_1 : Int) (A0_2 : Option Addr) (c0_2 : Nat) (l0_2 : List Bool) (a1_0 a1_1 a2_0 a2_1 a3 r1 r2 : Int) (w : World) (hr : Kd.C Kd.bool w A0_2 l0_2.length l0_2) (hc : l0_2.length ≤ c0_2) (h : grid_Toward.f k a0_0 a0_1 l0_2 a1_0 a1_1 a2_0 a2_1 a3 = some (r1, r2)) :
    Calls Try.prog 15 #[.agg #[.int .i64 a0_0, .int .i64 a0_1, .slice A0_2 l0_2.length c0_2], .agg #[.int .i64 a1_0, .int .i64 a1_1], .agg #[.int .i64 a2_0, .int .i64 a2_1], .int .i64 a3] w fun e w' => e = .returned (.agg #[.int .i64 r1, .int .i64 r2]) ∧ Below w.heap.size w w' :=
  Go.Proofs.YtoalpmfkaijomaaTo.toward_calls k a0_0 a0_1 A0_2 c0_2 l0_2 a1_0 a1_1 a2_0 a2_1 a3 r1 r2 w hr hc h

-- grid_Around_1: in GR

-- grid_Around_2: in GR

/-! ### grid_Around_1_i1: function 33 -/
def grid_Around_1_i1.f (k : Nat) (a0 : Int) (s0_0 : Int) : Option (Int × Int) := (sat_Sub.f k a0 s0_0).bind fun t170 => ((some (mx 0 t170 : Int)).bind fun j171 => (some (j171, s0_0)))
theorem grid_Around_1_i1.mono : ∀ a0 a1 k, LeO (grid_Around_1_i1.f k a0 a1) (grid_Around_1_i1.f (k + 1) a0 a1) := by
  intro a0 a1 k
  unfold grid_Around_1_i1.f
  repeat' first
      | (with_reducible exact sat_Sub.mono _ _ _)
      | (with_reducible exact LeO.refl _)
      | (with_reducible exact LeO.none _)
      | (with_reducible refine LeO.ite ?_ ?_)
      | (with_reducible refine everyOf_le (fun _ => ?_))
      | (with_reducible refine LeO.bind ?_ (fun _ => ?_))
      | exact sat_Sub.mono _ _ _
      | exact LeO.none _
      | refine LeO.ite ?_ ?_
      | refine LeO.bind ?_ (fun _ => ?_)
def grid_Around_1_i1.Post (b0 : Nat) (r1 : Int) (r2 : Int) (S : Nat → Prop) (L : List Asr) (w : World) (e : Ending) (w' : World) : Prop := e = .returned (.int .i64 r1) ∧ SL (cells b0 3 [.int .i64 r2].toArray :: L) w' S ∧ Keep S w w'
set_option maxHeartbeats 8000000 in
set_option maxRecDepth 100000 in
theorem grid_Around_1_i1.slcalls (k : Nat) (a0 : Int) (b0 : Nat) (s0_0 : Int) (r1 : Int) (r2 : Int) (S : Nat → Prop) (L : List Asr) (w : World) (hf : Fresh S w) (hs : SL (cells b0 3 [.int .i64 s0_0].toArray :: L) w S) (h : grid_Around_1_i1.f k a0 s0_0 = some (r1, r2)) :
    Calls Try.prog 33 #[.int .i64 a0, .pointer (some ⟨b0, 0, none⟩)] w (grid_Around_1_i1.Post b0 r1 r2 S L w) := by
  have HF := Aside0.mk hf
  have HS := Aside0.mk hs
  have HK := Aside0.mk (Keep.refl S w)
  clear hf hs
  have H : ((sat_Sub.f k a0 s0_0).bind fun t170 => ((some (mx 0 t170 : Int)).bind fun j171 => (some (j171, s0_0)))) = some (r1, r2) := h
  clear h
  replace H := Option.bind_eq_some_iff.1 H
  obtain ⟨t170, Hc10, H⟩ := H
  try dsimp only at H
  have Hc1 := Aside0.mk Hc10
  clear Hc10
  replace H := Option.bind_eq_some_iff.1 H
  obtain ⟨j171, hj1710, H⟩ := H
  try dsimp only at H
  have hj171 := Option.some.inj hj1710
  clear hj1710
  have hj171_ : (if 0 < t170 then t170 else 0) = j171 := hj171
  simp only [Option.some.injEq, Prod.mk.injEq] at H
  obtain ⟨rfl, rfl⟩ := H
  have hb_ := SL.at_ HS.out
  have hz0_0_0 := ((blk_cell hb_ 0).trans rfl : _ = some (.int .i64 s0_0))
  clear hb_
  go_enter Try.func33, Try.ntmps33
  go_wp2_with (first | ((with_reducible refine gate_dst (N := 6) rfl ?_); refine goesL_ (some 6) rfl rfl Try.func34 (by kernel_rfl) rfl #[.int .i64 a0, .int .i64 s0_0] rfl (by (try simp only [List.map_toArray, List.map_cons, List.map_nil]); first | done | rfl | (simp; done)) ?_; (with_reducible refine (sat_Sub.calls k _ _ _ _  Hc1.out).mono ?_); rintro e_ w2 ⟨rfl, hb_⟩; refine ⟨_, rfl, ?_⟩; replace hb_ := Drawn0.below hb_; replace HS := Aside0.mk (HS.out.below hb_); replace HK := Aside0.mk (HK.out.trans (Keep.below hb_)); (try clear hz0_0_0)))
  go_ret
  unfold grid_Around_1_i1.Post
  exact ⟨by first | rfl | (simp; done) | (simp [*]; done), HS.out, HK.out⟩

/-! ### grid_Around_2_i1: function 35 -/
def grid_Around_2_i1.f (k : Nat) (a0 : Int) (a1 : Int) (s0_0 : Int) : Option (Int × Int) := (sat_Add.f k a0 s0_0).bind fun t174 => ((sat_Add.f k t174 1).bind fun t175 => ((some (mn a1 t175 : Int)).bind fun j176 => (some (j176, s0_0))))
theorem grid_Around_2_i1.mono : ∀ a0 a1 a2 k, LeO (grid_Around_2_i1.f k a0 a1 a2) (grid_Around_2_i1.f (k + 1) a0 a1 a2) := by
  intro a0 a1 a2 k
  unfold grid_Around_2_i1.f
  repeat' first
      | (with_reducible exact sat_Add.mono _ _ _)
      | (with_reducible exact LeO.refl _)
      | (with_reducible exact LeO.none _)
      | (with_reducible refine LeO.ite ?_ ?_)
      | (with_reducible refine everyOf_le (fun _ => ?_))
      | (with_reducible refine LeO.bind ?_ (fun _ => ?_))
      | exact sat_Add.mono _ _ _
      | exact LeO.none _
      | refine LeO.ite ?_ ?_
      | refine LeO.bind ?_ (fun _ => ?_)
def grid_Around_2_i1.Post (b0 : Nat) (r1 : Int) (r2 : Int) (S : Nat → Prop) (L : List Asr) (w : World) (e : Ending) (w' : World) : Prop := e = .returned (.int .i64 r1) ∧ SL (cells b0 3 [.int .i64 r2].toArray :: L) w' S ∧ Keep S w w'
set_option maxHeartbeats 8000000 in
set_option maxRecDepth 100000 in
theorem grid_Around_2_i1.slcalls (k : Nat) (a0 : Int) (a1 : Int) (b0 : Nat) (s0_0 : Int) (r1 : Int) (r2 : Int) (S : Nat → Prop) (L : List Asr) (w : World) (hf : Fresh S w) (hs : SL (cells b0 3 [.int .i64 s0_0].toArray :: L) w S) (h : grid_Around_2_i1.f k a0 a1 s0_0 = some (r1, r2)) :
    Calls Try.prog 35 #[.int .i64 a0, .int .i64 a1, .pointer (some ⟨b0, 0, none⟩)] w (grid_Around_2_i1.Post b0 r1 r2 S L w) := by
  have HF := Aside0.mk hf
  have HS := Aside0.mk hs
  have HK := Aside0.mk (Keep.refl S w)
  clear hf hs
  have H : ((sat_Add.f k a0 s0_0).bind fun t174 => ((sat_Add.f k t174 1).bind fun t175 => ((some (mn a1 t175 : Int)).bind fun j176 => (some (j176, s0_0))))) = some (r1, r2) := h
  clear h
  replace H := Option.bind_eq_some_iff.1 H
  obtain ⟨t174, Hc10, H⟩ := H
  try dsimp only at H
  have Hc1 := Aside0.mk Hc10
  clear Hc10
  replace H := Option.bind_eq_some_iff.1 H
  obtain ⟨t175, Hc20, H⟩ := H
  try dsimp only at H
  have Hc2 := Aside0.mk Hc20
  clear Hc20
  replace H := Option.bind_eq_some_iff.1 H
  obtain ⟨j176, hj1760, H⟩ := H
  try dsimp only at H
  have hj176 := Option.some.inj hj1760
  clear hj1760
  have hj176_ : (if t175 < a1 then t175 else a1) = j176 := hj176
  simp only [Option.some.injEq, Prod.mk.injEq] at H
  obtain ⟨rfl, rfl⟩ := H
  have hb_ := SL.at_ HS.out
  have hz0_0_0 := ((blk_cell hb_ 0).trans rfl : _ = some (.int .i64 s0_0))
  clear hb_
  go_enter Try.func35, Try.ntmps35
  go_wp2_with (first | ((with_reducible refine gate_dst (N := 9) rfl ?_); refine goesL_ (some 9) rfl rfl Try.func21 (by kernel_rfl) rfl #[.int .i64 a0, .int .i64 s0_0] rfl (by (try simp only [List.map_toArray, List.map_cons, List.map_nil]); first | done | rfl | (simp; done)) ?_; (with_reducible refine (sat_Add.calls k _ _ _ _  Hc1.out).mono ?_); rintro e_ w3 ⟨rfl, hb_⟩; refine ⟨_, rfl, ?_⟩; replace hb_ := Drawn0.below hb_; replace HS := Aside0.mk (HS.out.below hb_); replace HK := Aside0.mk (HK.out.trans (Keep.below hb_)); (try clear hz0_0_0)) | ((with_reducible refine gate_dst (N := 10) rfl ?_); refine goesL_ (some 10) rfl rfl Try.func21 (by kernel_rfl) rfl #[.int .i64 t174, .int .i64 1] rfl (by (try simp only [List.map_toArray, List.map_cons, List.map_nil]); first | done | rfl | (simp; done)) ?_; (with_reducible refine (sat_Add.calls k _ _ _ _  Hc2.out).mono ?_); rintro e_ w4 ⟨rfl, hb_⟩; refine ⟨_, rfl, ?_⟩; replace hb_ := Drawn0.below hb_; replace HS := Aside0.mk (HS.out.below hb_); replace HK := Aside0.mk (HK.out.trans (Keep.below hb_))))
  go_ret
  unfold grid_Around_2_i1.Post
  exact ⟨by first | rfl | (simp; done) | (simp [*]; done), HS.out, HK.out⟩

-- grid_Around: in GR

-- barrowlaw06_Few: in GR

-- grid_Wall: in GR

end Go.Proofs.Ytoalpmfkaijomaa.XGN
