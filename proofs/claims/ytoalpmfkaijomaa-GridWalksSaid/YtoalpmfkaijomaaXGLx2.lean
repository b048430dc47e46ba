-- Written by xprint.py (a program of this session) for this claim
import Derived.Test.YtoalpmfkaijomaaXGLx0
import Derived.Test.YtoalpmfkaijomaaTo3
namespace Go.Proofs.Ytoalpmfkaijomaa.XGL
open Go.Proofs.Ytoalpmfkaijomaa.XGR
open Go.Proofs.YtoalpmfkaijomaaV Go.Proofs.YtoalpmfkaijomaaS
open Go.RowKit Go.Proofs.YtoalpmfkaijomaaW.PrintWords Go.Proofs.YtoalpmfkaijomaaW.PrintLast Go.Proofs.YtoalpmfkaijomaaW.PrintMore
attribute [local go_sem] max2_int min2_int max_two min_two max_three min_three max_four min_four   -- for this text's walks alone
set_option linter.unusedVariables false
set_option linter.unusedSimpArgs false

-- sat_Sub: in GR

-- grid_far: in GR

-- sat_Add: in GR

-- bits_Mul64: in GR

-- sat_size: in GR

-- sat_end: in GR

-- sat_Mul: in GR

-- grid_Square: in GR

-- grid_Steps: in GR

-- grid_Near: in GR

-- grid_inside: in GR

-- grid_Right_1: in GR

-- grid_Right: in GR

-- grid_In: in GR

-- cmp_isNaN_int: in GR

-- cmp_Compare_int: in GR

-- NOT PRINTED: function 41 (grid_way_1)

/-! ### grid_way: function 27 -/
def grid_way.f (a0_0 : Int) (a0_1 : Int) (a1_0 : Int) (a1_1 : Int) : Option (Int × Int × Int × Int) := some (a0_0, a0_1, a1_0, a1_1)
def grid_way.Post (r1 : Int) (r2 : Int) (r3 : Int) (r4 : Int) (S : Nat → Prop) (L : List Asr) (w : World) (e : Ending) (w' : World) : Prop := ∃ (gr0 : Nat) (gr1 : Nat), e = .returned (.func (.func 41) #[] #[.pointer (some ⟨gr0, 0, none⟩), .pointer (some ⟨gr1, 0, none⟩)]) ∧ SL (cells gr0 23 [.int .i64 r1, .int .i64 r2].toArray :: cells gr1 23 [.int .i64 r3, .int .i64 r4].toArray :: L) w' S ∧ Keep S w w'
set_option maxHeartbeats 8000000 in
set_option maxRecDepth 100000 in
theorem grid_way.slcalls (a0_0 : Int) (a0_1 : Int) (a1_0 : Int) (a1_1 : Int) (r1 : Int) (r2 : Int) (r3 : Int) (r4 : Int) (S : Nat → Prop) (L : List Asr) (w : World) (hf : Fresh S w) (hs : SL (L) w S) (h : grid_way.f a0_0 a0_1 a1_0 a1_1 = some (r1, r2, r3, r4)) :
    Calls Try.prog 27 #[.agg #[.int .i64 a0_0, .int .i64 a0_1], .agg #[.int .i64 a1_0, .int .i64 a1_1]] w (grid_way.Post r1 r2 r3 r4 S L w) := by
  have HF := Aside0.mk hf
  have HS := Aside0.mk hs
  have HK := Aside0.mk (Keep.refl S w)
  clear hf hs
  have hu23 := Try.underlying23
  have H : (some (a0_0, a0_1, a1_0, a1_1)) = some (r1, r2, r3, r4) := h
  clear h
  simp only [Option.some.injEq, Prod.mk.injEq] at H
  obtain ⟨rfl, rfl, rfl, rfl⟩ := H
  go_enter Try.func27, Try.ntmps27
  go_wp2_with (first | ((with_reducible refine gate_dst (N := 2) rfl ?_); refine wpList_plain rfl (fun K_ hK_ => ?_); refine op_box (S := S) (cs := #[.int .i64 a0_0, .int .i64 a0_1]) (t := 23) (HF.out.keep HK.out) HS.out (by first | (go_simp; done) | (go_simp; rfl)) ?_; intro g3000000 w1 hs_ hk_; refine hK_ _ _ ?_; clear hK_ K_; have n1_ := Aside0.mk (HK.out.trans hk_); have n2_ := Aside0.mk (hs_); clear HK HS; have HK := n1_; have HS := n2_; clear n1_ n2_) | ((with_reducible refine gate_dst (N := 3) rfl ?_); refine wpList_plain rfl (fun K_ hK_ => ?_); refine op_box (S := S) (cs := #[.int .i64 a1_0, .int .i64 a1_1]) (t := 23) (HF.out.keep HK.out) HS.out (by first | (go_simp; done) | (go_simp; rfl)) ?_; intro g3000001 w2 hs_ hk_; refine hK_ _ _ ?_; clear hK_ K_; have n1_ := Aside0.mk (HK.out.trans hk_); have n2_ := Aside0.mk (hs_); clear HK HS; have HK := n1_; have HS := n2_; clear n1_ n2_))
  go_ret
  have n2_ := Aside0.mk (SL.get1 HS.out)
  clear HS
  have HS := n2_
  clear n2_
  unfold grid_way.Post
  exact ⟨g3000000, g3000001, by first | rfl | (simp; done) | (simp [*]; done), HS.out, HK.out⟩

-- grid_wall: in GR

/-! ### grid_Toward: function 15 -/
def grid_Toward.f (k : Nat) (a0_0 a0_1 : Int) (l0_2 : List Bool) (a1_0 a1_1 a2_0 a2_1 a3 : Int) : Option (Int × Int) := Go.Proofs.YtoalpmfkaijomaaTo.towardF k a0_0 a0_1 l0_2 a1_0 a1_1 a2_0 a2_1 a3
theorem grid_Toward.mono : ∀ a0 a1 a2 a3 a4 a5 a6 a7 k, LeO (grid_Toward.f k a0 a1 a2 a3 a4 a5 a6 a7) (grid_Toward.f (k + 1) a0 a1 a2 a3 a4 a5 a6 a7) := fun _ _ _ _ _ _ _ _ _ _ h => Go.Proofs.YtoalpmfkaijomaaTo.towardF_mono _ _ _ _ _ _ _ _ _ _ h
theorem grid_Toward.calls (k : Nat) (a0_0 a0_1 : Int) (A0_2 : Option Addr) (c0_2 : Nat) (l0_2 : List Bool) (a1_0 a1_1 a2_0 a2_1 a3 r1 r2 : Int) (w : World) (hr : Kd.C Kd.bool w A0_2 l0_2.length l0_2) (hc : l0_2.length ≤ c0_2) (h : grid_Toward.f k a0_0 a0_1 l0_2 a1_0 a1_1 a2_0 a2_1 a3 = some (r1, r2)) :
    Calls Try.prog 15 #[.agg #[.int .i64 a0_0, .int .i64 a0_1, .slice A0_2 l0_2.length c0_2], .agg #[.int .i64 a1_0, .int .i64 a1_1], .agg #[.int .i64 a2_0, .int .i64 a2_1], .int .i64 a3] w fun e w' => e = .returned (.agg #[.int .i64 r1, .int .i64 r2]) ∧ Below w.heap.size w w' :=
  Go.Proofs.YtoalpmfkaijomaaTo.toward_calls k a0_0 a0_1 A0_2 c0_2 l0_2 a1_0 a1_1 a2_0 a2_1 a3 r1 r2 w hr hc h

-- grid_Around_1: in GR

-- grid_Around_2: in GR

-- grid_Around: in GR

-- barrowref01_Sub: in GR

-- barrowref06_far: in GR

-- barrowref01_Add: in GR

-- NOT PRINTED: function 40 (barrowref01_big)

-- barrowref01_Mul: in GR

-- barrowref06_Square: in GR

-- barrowref06_Steps: in GR

-- barrowref06_Near: in GR

-- barrowlaw06_Few: in GR

-- barrowref06_Right: in GR

-- barrowref06_In: in GR

-- barrowref06_nearer: in GR

-- barrowref06_Wall: in GR

-- barrowref06_Toward: in GR

-- grid_Wall: in GR

-- NOT PRINTED: function 6 (barrowlaw06_GridNearer)

end Go.Proofs.Ytoalpmfkaijomaa.XGL
