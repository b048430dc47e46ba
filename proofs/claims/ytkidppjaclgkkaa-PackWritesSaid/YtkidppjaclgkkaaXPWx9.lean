-- Written by xprint.py (a program of this session) for this claim
import Derived.Test.YtkidppjaclgkkaaSL11
import Derived.Test.YtkidppjaclgkkaaXPWx0
namespace Go.Proofs.Ytkidppjaclgkkaa.XPW
open Go.Proofs.YtkidppjaclgkkaaV Go.Proofs.YtkidppjaclgkkaaS
open Go.RowKit Go.Proofs.YtkidppjaclgkkaaW.PrintWords Go.Proofs.YtkidppjaclgkkaaW.PrintLast Go.Proofs.YtkidppjaclgkkaaW.PrintMore
attribute [local go_sem] max2_int min2_int max_two min_two max_three min_three max_four min_four   -- for this text's walks alone
set_option linter.unusedVariables false
set_option linter.unusedSimpArgs false

/-! ### barrowlaw03_Kept: function 13, by hand -/
def barrowlaw03_Kept.f (l0 : List Int) (l1 : List Int) : Option (Bool × List Int) := some (decide ((strOfNums l0).toList = (strOfNums l1).toList), l0)
def barrowlaw03_Kept.Post (A0 : Option Addr) (c0 : Nat) (l0 : List Int) (r1 : Bool) (r2 : List Int) (S : Nat → Prop) (L : List Asr) (w : World) (e : Ending) (w' : World) : Prop := e = .returned (.bool r1) ∧ SL (lentR 5 (.slice A0 l0.length c0) r2 :: L) w' S ∧ Keep S w w'
set_option maxHeartbeats 8000000 in
set_option maxRecDepth 100000 in
theorem barrowlaw03_Kept.slcalls (A0 : Option Addr) (c0 : Nat) (l0 : List Int) (A1 : Option Addr) (c1 : Nat) (l1 : List Int) (r1 : Bool) (r2 : List Int) (S : Nat → Prop) (L : List Asr) (w : World) (hf : Fresh S w) (hs : SL (lentR 5 (.slice A0 l0.length c0) l0 :: L) w S) (hr1 : RO S w (fun w_ => Kd.C (Kd.int .u8) w_ A1 l1.length l1)) (hc1 : l1.length ≤ c1) (h : barrowlaw03_Kept.f l0 l1 = some (r1, r2)) :
    Calls Try.prog 13 #[.slice A0 l0.length c0, .slice A1 l1.length c1] w (barrowlaw03_Kept.Post A0 c0 l0 r1 r2 S L w) := by
  unfold barrowlaw03_Kept.f at h
  simp only [Option.some.injEq, Prod.mk.injEq] at h
  obtain ⟨h1, rfl⟩ := h
  obtain ⟨g, rfl, _, rfl, hn, hg⟩ := lent_at hs
  have hC := (lent_c hs).2.2
  have hK0 := Kd.C_string (P := Try.prog) (c := l0.length + 1) Try.underlying23 Try.underlying5 Try.underlying9 hC
  have hK1 := Kd.C_string (P := Try.prog) (c := c1) Try.underlying23 Try.underlying5 Try.underlying9 hr1.now
  have HS := Aside0.mk hs
  have HG := Aside0.mk hg
  have hc7 : w.cell? ⟨g, l0.length, none⟩ = some (.int .u8 77) := by
    rw [cell_of_row w _ _ _ 5 (0, 0) hg]
    simp [encs]
  clear hs hg hC hr1 hf hc1
  have hfz : w.frozen? ⟨g, l0.length, none⟩ = false := by simp [World.frozen?, HG.out]
  by_cases hq : (strOfNums l0).toList = (strOfNums l1).toList
  · have b0 : ((strOfNums l0).toList == (strOfNums l1).toList) = true := beq_iff_eq.mpr hq
    have b1 : ((strOfNums l0).toList != (strOfNums l1).toList) = false := bne_eq_false_iff_eq.mpr hq
    have hlen : l1.length = l0.length := by
      have := congrArg List.length hq
      rw [ByteArray.toList_eq, ByteArray.toList_eq] at this
      simpa [strOfNums] using this.symm
    rw [decide_eq_true hq] at h1
    subst h1
    clear hq
    obtain ⟨n, hl⟩ : ∃ n : Nat, l0.length = n := ⟨_, rfl⟩
    rw [hl] at hn
    rw [hlen] at hK1 ⊢
    have HS := HS
    rw [hl] at hK0 hK1 hc7 hfz ⊢
    have HLn := Aside0.mk hl
    clear hlen hl
    have hw : wrap64 ((n : Int) + 1) = (n : Int) + 1 := by unfold wrap64; omega
    have hsl : ∀ (A : Option Addr) (W : World), (Instr.slice 23 (.slice A n (n + 1)) none (some (.int .i64 ((n : Int) + 1))) none).run Try.prog W = .ok (.slice A (n + 1) (n + 1)) W := by
      intro A W
      have he : Try.prog.elem 23 = 5 := by simp [Program.elem, Try.underlying23]
      obtain ⟨i, hi, hi2⟩ := Option.map_eq_some_iff.1 (show (Try.prog.info? 5).map (·.size) = some 1 by kernel_rfl)
      rw [run_slice_h W 23 A n (n + 1) (by rw [he]; exact Try.underlying23) .i64 ((n : Int) + 1) (by omega) (by omega), he]
      have e1 : ((n : Int) + 1).toNat = n + 1 := by omega
      cases A <;> simp [sizeOf, typeInfo, hi, hi2, sliced, Addr.add_zero', e1]
    have q1 : decide ((n : Int) < ((n + 1 : Nat) : Int)) = true := decide_eq_true (by omega)
    have q2 : ((n : Int) < ((n + 1 : Nat) : Int)) = True := eq_true (by omega)
    clear HG
    go_enter Try.func13, Try.ntmps13
    go_wp2
    go_ret
    refine ⟨rfl, ?_, Keep.refl _ _⟩
    rw [← HLn.out]
    exact HS.out
  · have b0 : ((strOfNums l0).toList == (strOfNums l1).toList) = false := beq_eq_false_iff_ne.mpr hq
    have b1 : ((strOfNums l0).toList != (strOfNums l1).toList) = true := bne_iff_ne.mpr hq
    rw [decide_eq_false hq] at h1
    subst h1
    clear hq HG hc7 hfz hn
    go_enter Try.func13, Try.ntmps13
    go_wp2
    go_ret
    exact ⟨rfl, HS.out, Keep.refl _ _⟩

end Go.Proofs.Ytkidppjaclgkkaa.XPW
