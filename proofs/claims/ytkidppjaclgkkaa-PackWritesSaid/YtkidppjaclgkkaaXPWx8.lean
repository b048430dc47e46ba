-- Written by xprint.py (a program of this session) for this claim
import Derived.Test.YtkidppjaclgkkaaSL11
import Derived.Test.YtkidppjaclgkkaaXPWx0
namespace Go.Proofs.Ytkidppjaclgkkaa.XPW
open Go.Proofs.YtkidppjaclgkkaaV Go.Proofs.YtkidppjaclgkkaaS
open Go.RowKit Go.Proofs.YtkidppjaclgkkaaW.PrintWords Go.Proofs.YtkidppjaclgkkaaW.PrintLast Go.Proofs.YtkidppjaclgkkaaW.PrintMore
attribute [local go_sem] max2_int min2_int max_two min_two max_three min_three max_four min_four   -- for this text's walks alone
set_option linter.unusedVariables false
set_option linter.unusedSimpArgs false

/-! ### barrowlaw03_Lent: function 9, by hand -/
def barrowlaw03_Lent.f (l0 : List Int) : Option (List Int) := if l0.length ≤ 1000000 then some l0 else none
def barrowlaw03_Lent.Post (r : List Int) (S : Nat → Prop) (L : List Asr) (w : World) (e : Ending) (w' : World) : Prop := ∃ (Ar1 : Option Addr) (cr1 : Nat), e = .returned (.slice Ar1 r.length cr1) ∧ SL (lentR 5 (.slice Ar1 r.length cr1) r :: L) w' S ∧ Keep S w w'
set_option maxHeartbeats 8000000 in
set_option maxRecDepth 100000 in
theorem barrowlaw03_Lent.slcalls (A0 : Option Addr) (c0 : Nat) (l0 : List Int) (r : List Int) (S : Nat → Prop) (L : List Asr) (w : World) (hf : Fresh S w) (hs : SL (L) w S) (hr0 : RO S w (fun w_ => Kd.C (Kd.int .u8) w_ A0 l0.length l0)) (hc0 : l0.length ≤ c0) (h : barrowlaw03_Lent.f l0 = some r) :
    Calls Try.prog 9 #[.slice A0 l0.length c0] w (barrowlaw03_Lent.Post r S L w) := by
  unfold barrowlaw03_Lent.f at h
  split at h
  rotate_left
  · cases h
  rename_i hn
  obtain rfl := Option.some.inj h
  clear h
  have HF := Aside0.mk hf
  have HS := Aside0.mk hs
  have HR := Aside0.mk hr0
  have HC := Aside0.mk hc0
  obtain ⟨n, hl⟩ : ∃ n : Nat, l0.length = n := ⟨_, rfl⟩
  rw [hl] at hn
  have HN := Aside0.mk hn
  have HL := Aside0.mk hl
  have hw : wrap64 ((n : Int) + 1) = (n : Int) + 1 := by unfold wrap64; omega
  obtain ⟨z, hz⟩ : ∃ z, z = (madeCells #[.int .u8 0] (n + 1)) := ⟨_, rfl⟩
  have HZ := Aside0.mk hz
  have hmk : ∀ W : World, (Instr.makeSlice 23 (.int .i64 (n : Int)) (.int .i64 ((n : Int) + 1))).run Try.prog W = .ok (.slice (some ⟨W.heap.size, 0, none⟩) n (n + 1)) (W.alloc (.cells z 5)) := by
    intro W
    have hinfo := info5
    obtain ⟨i, hi, hzz⟩ := Option.map_eq_some_iff.1 hinfo
    simp only [Prod.mk.injEq] at hzz
    obtain ⟨h1, h2, h3⟩ := hzz
    have hr := run_make (P := Try.prog) (w := W) 23 5 i (.int .u8 0) Try.underlying23 hi h1 .i64 .i64 (n : Int) ((n : Int) + 1) (by omega) (by omega) (by rw [h3]; omega) (by omega)
    rw [hr, h2, hz]
    have e1 : ((n : Int) + 1).toNat = n + 1 := by omega
    simp only [e1, Int.toNat_natCast, Nat.mul_one]
    rfl
  have hz1 : z.size = n + 1 := by rw [hz]; simp [size_madeCells]
  have hcopy : ∃ (W2 : World) (cur : Array Value), (Builtin.copy_ #[23, 23] 3 #[.slice (some ⟨w.heap.size, 0, none⟩) n (n + 1), .slice A0 n c0]).run Try.prog (w.alloc (.cells z 5)) = .ok (.int .i64 (n : Int)) W2 ∧ W2.heap[w.heap.size]? = some (.cells cur 5 (0, 0)) ∧ cur.size = n + 1 ∧ cur.toList.take n = encs (Value.int .u8) l0 ∧ Below w.heap.size w W2 := by
    have hb1 : Below w.heap.size w (w.alloc (.cells z 5)) := below_alloc (Below.refl _ _) _
    have hC1 := hr0.at_ (.below hb1)
    have hg1 : (w.alloc (.cells z 5)).heap[w.heap.size]? = some (.cells z 5 (0, 0)) := blk_new w _
    have hinfo : (Try.prog.info? 5).map (·.size) = some 1 := by kernel_rfl
    cases A0 with
    | none =>
      have h0 : l0 = [] := by
        cases l0 with
        | nil => rfl
        | cons x xs => obtain ⟨ad, hA, _⟩ := Kd.at_int hC1 0 (by omega) (by simp); cases hA
      subst h0
      have hn0 : n = 0 := by rw [← hl]; rfl
      subst hn0
      refine ⟨_, z, ?_, hg1, hz1, by simp [encs], hb1⟩
      obtain ⟨i, hi, _⟩ := Option.map_eq_some_iff.1 hinfo
      simp [Builtin.copy_, run_underlying Try.underlying23, Builtin.lenOf, Builtin.firstCells, sizeOf, typeInfo, hi, storeCells, goInt]
    | some ad =>
      have hcell : ∀ j v, (encs (Value.int .u8) l0)[j]? = some v → (w.alloc (.cells z 5)).cell? (ad.add j) = some v := by
        intro j v hj
        have hjl : j < l0.length := by
          have := (List.getElem?_eq_some_iff.1 hj).1
          simpa [encs] using this
        obtain ⟨ad', hA, hc⟩ := Kd.at_int hC1 (j : Int) (by omega) (by omega)
        injection hA with hA
        subst hA
        rw [Int.toNat_natCast] at hc
        rw [hc, ← hj]
        simp [encs, rd, List.getD_eq_getElem?_getD, List.getElem?_eq_getElem hjl]
      have hr := run_copy_row (P := Try.prog) (w.alloc (.cells z 5)) 23 23 3 5 w.heap.size 0 n (n + 1) ad n c0 z 5 (encs (Value.int .u8) l0) Try.underlying23 hinfo hg1 (by simp [encs, hl]) hcell (by simp [encs, hl, hz1]) (by
        intro v hv
        obtain ⟨x, _, rfl⟩ := List.mem_map.1 hv
        rfl)
      have hlen : (encs (Value.int .u8) l0).length = n := by simp [encs, hl]
      rw [hlen] at hr
      obtain ⟨cs, hcs⟩ : ∃ cs, encs (Value.int .u8) l0 = cs := ⟨_, rfl⟩
      rw [hcs] at hr hlen
      have hlt : w.heap.size < (w.alloc (.cells z 5)).heap.size := (Array.getElem?_eq_some_iff.1 hg1).1
      refine ⟨(w.alloc (.cells z 5)).setRow w.heap.size (z.toList.take 0 ++ cs ++ z.toList.drop (0 + n)).toArray, (z.toList.take 0 ++ cs ++ z.toList.drop (0 + n)).toArray, hr, ?_, ?_, ?_, ?_⟩
      · simp only [World.setRow]
        rw [Array.getElem?_modify, if_pos rfl, hg1]
        rfl
      · simp [hlen, hz1]
      · rw [hcs]
        simp [hlen]
      · refine ⟨rfl, rfl, rfl, ?_, fun k hk => ?_⟩
        · simp only [World.setRow, Array.size_modify]
          exact Nat.le_of_lt hlt
        · have := hb1.block k hk
          simp only [World.setRow]
          rw [Array.getElem?_modify, if_neg (by omega)]
          exact this
  obtain ⟨W2, cur, hcp, hg2, hsz, htk, hb2⟩ := hcopy
  have hsl : ∀ (A : Option Addr) (W : World), (Instr.slice 23 (.slice A n (n + 1)) none (some (.int .i64 ((n : Int) + 1))) none).run Try.prog W = .ok (.slice A (n + 1) (n + 1)) W := by
    intro A W
    have he : Try.prog.elem 23 = 5 := by simp [Program.elem, Try.underlying23]
    obtain ⟨i, hi, hi2⟩ := Option.map_eq_some_iff.1 (show (Try.prog.info? 5).map (·.size) = some 1 by kernel_rfl)
    rw [run_slice_h W 23 A n (n + 1) (by rw [he]; exact Try.underlying23) .i64 ((n : Int) + 1) (by omega) (by omega), he]
    have e1 : ((n : Int) + 1).toNat = n + 1 := by omega
    cases A <;> simp [sizeOf, typeInfo, hi, hi2, sliced, Addr.add_zero', e1]
  have hz7 : W2.cell? ⟨w.heap.size, n, none⟩ = some (cur[n]'(by omega)) := by
    rw [cell_of_row W2 _ n cur 5 (0, 0) hg2, Array.getElem?_eq_getElem (by omega)]
  have hfz : W2.frozen? ⟨w.heap.size, n, none⟩ = false := by simp [World.frozen?, hg2]
  have q1 : decide ((n : Int) < ((n + 1 : Nat) : Int)) = true := decide_eq_true (by omega)
  have q2 : ((n : Int) < ((n + 1 : Nat) : Int)) = True := eq_true (by omega)
  have HB2 := Aside0.mk hb2
  have HG2 := Aside0.mk hg2
  have HT := Aside0.mk htk
  have HZ1 := Aside0.mk hsz
  clear hf hs hr0 hc0 hn hz hb2 htk
  rw [hl]
  clear hl
  go_enter Try.func9, Try.ntmps9
  go_wp2
  go_ret
  have hL := HL.out
  have hrow : (lentR 5 (.slice (some ⟨w.heap.size, 0, none⟩) l0.length (l0.length + 1)) l0).H (W2.setCell ⟨w.heap.size, n, none⟩ (.int .u8 77)) (news w) := by
    refine ⟨w.heap.size, rfl, by have := HN.out; omega, Nat.le_refl _, ?_⟩
    rw [blk_set HG2.out n (.int .u8 77)]
    congr 2
    apply Array.toList_inj.1
    have h1 := HT.out
    have h2 := HZ1.out
    rw [Array.toList_setIfInBounds]
    apply List.ext_getElem
    · simp [encs, h2, hL]
    · intro q g1 g2
      have g3 : q < n + 1 := by simpa [h2] using g1
      rw [List.getElem_set]
      by_cases hq : n = q
      · subst hq
        simp [encs, hL]
      · rw [if_neg hq]
        have h3 := congrArg (·[q]?) h1
        simp only [List.getElem?_take, show q < n by omega, if_true] at h3
        rw [List.getElem?_eq_getElem (by simpa [h2] using g3)] at h3
        simp only [encs, List.getElem?_map, List.getElem?_eq_getElem (show q < l0.length by omega), Option.map_some, Option.some.injEq] at h3
        rw [h3]
        simp only [encs, List.map_append]
        rw [List.getElem_append_left (by simp; omega)]
        simp
  have hB : Below w.heap.size w (W2.setCell ⟨w.heap.size, n, none⟩ (.int .u8 77)) := by
    refine ⟨HB2.out.os, HB2.out.tape, HB2.out.output, by simpa [World.setCell] using HB2.out.size, fun k hk => ?_⟩
    rw [Below.heap_setCell _ _ _ _ (show k ≠ w.heap.size by omega)]
    exact HB2.out.block k hk
  refine ⟨some ⟨w.heap.size, 0, none⟩, l0.length + 1, ?_, (SL.new HF.out HS.out hB hrow).1, .below hB⟩
  rw [hL]
  rfl

end Go.Proofs.Ytkidppjaclgkkaa.XPW
