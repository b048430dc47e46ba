/- What the document's product comes to: the walk through its digits. -/
import Derived.Test.YtoalpmfkaijomaaProg
import Derived.Test.YtoalpmfkaijomaaRMulA
import Derived.Deep.DeepCutAuto
import Derived.Laws.Rows
import Derived.BigQuiet
import Derived.Deep.QuietTactic
import Derived.Handy
import Derived.LoopN
set_option linter.unusedVariables false
set_option linter.unusedSimpArgs false
namespace Go.Proofs.Ytoalpmfkaijomaa.RMul
open Go.RowKit Go.Proofs.YtoalpmfkaijomaaW.PrintWords Go.Proofs.YtoalpmfkaijomaaW.PrintLast Go.Proofs.YtoalpmfkaijomaaW.PrintMore Go.Proofs.YtoalpmfkaijomaaV

def absv (a : Int) : Int := if a < 0 then -a else a
/-- The digits of a number without its sign. -/
def dgs (a : Int) : List Int := [absv a % 65536, absv a / 65536 % 65536, absv a / 65536 / 65536 % 65536, absv a / 65536 / 65536 / 65536 % 65536, 0]
theorem tdiv_neg {x : Int} (h : x ≤ 0) : Int.tdiv x 65536 = -(-x / 65536) := by
  have := Int.neg_tdiv (a := -x) (b := 65536)
  rw [Int.neg_neg] at this
  rw [this, Int.tdiv_eq_ediv_of_nonneg (by omega)]
theorem tmod_neg {x : Int} (h : x ≤ 0) : Int.tmod x 65536 = -(-x % 65536) := by
  have := Int.neg_tmod (-x) 65536
  rw [Int.neg_neg] at this
  rw [this, Int.tmod_eq_emod_of_nonneg (by omega)]
theorem tdiv_pos {x : Int} (h : 0 ≤ x) : Int.tdiv x 65536 = x / 65536 := Int.tdiv_eq_ediv_of_nonneg h
theorem tmod_pos {x : Int} (h : 0 ≤ x) : Int.tmod x 65536 = x % 65536 := Int.tmod_eq_emod_of_nonneg h
/-- What is left of a number behind i digits. -/
def lefts (a : Int) : Nat → Int
  | 0 => a
  | i + 1 => Int.tdiv (lefts a i) 65536
def digat (a : Int) (i : Nat) : Int := absv (Int.tmod (lefts a i) 65536)
theorem lefts_in (a : Int) (ha : -9223372036854775808 ≤ a ∧ a ≤ 9223372036854775807) (i : Nat) : -9223372036854775808 ≤ lefts a i ∧ lefts a i ≤ 9223372036854775807 := by
  induction i with
  | zero => exact ha
  | succ i ih =>
    show _ ≤ Int.tdiv (lefts a i) 65536 ∧ Int.tdiv (lefts a i) 65536 ≤ _
    rcases Int.le_total 0 (lefts a i) with h | h
    · rw [tdiv_pos h]; omega
    · rw [tdiv_neg h]; omega
theorem tmod_in (x : Int) : -65536 < Int.tmod x 65536 ∧ Int.tmod x 65536 < 65536 := by
  rcases Int.le_total 0 x with h | h
  · rw [tmod_pos h]; omega
  · rw [tmod_neg h]; omega
theorem absv_lefts (a : Int) (i : Nat) : absv (lefts a (i + 1)) = absv (lefts a i) / 65536 := by
  show absv (Int.tdiv (lefts a i) 65536) = _
  rcases Int.le_total 0 (lefts a i) with h | h
  · rw [tdiv_pos h]; unfold absv; split <;> split <;> omega
  · rw [tdiv_neg h]; unfold absv; split <;> split <;> omega
theorem absv_digat (a : Int) (i : Nat) : digat a i = absv (lefts a i) % 65536 := by
  unfold digat
  rcases Int.le_total 0 (lefts a i) with h | h
  · rw [tmod_pos h]; unfold absv; split <;> split <;> omega
  · rw [tmod_neg h]; unfold absv; split <;> split <;> omega
/-- The digits that stand after i rounds. -/
def upto (a : Int) (i : Nat) : List Int := (List.range 5).map fun j => if j < i then digat a j else 0
theorem upto_set (a : Int) (i : Nat) (hi : i < 4) (v : Int) (hv : v = digat a i) : (upto a i).set i v = upto a (i + 1) := by
  subst hv
  match i, hi with
  | 0, _ => rfl
  | 1, _ => rfl
  | 2, _ => rfl
  | 3, _ => rfl
theorem upto_end (a : Int) : upto a 4 = dgs a := by
  show [digat a 0, digat a 1, digat a 2, digat a 3, 0] = dgs a
  simp only [absv_digat, absv_lefts, dgs]
  rfl
theorem upto_len (a : Int) (i : Nat) : (upto a i).length = 5 := by simp [upto]
theorem set_set (l : List Int) (i : Nat) (u v : Int) : (l.set i u).set i v = l.set i v := by simp [List.set_set]

theorem dgs_digs (a : Int) : digs (dgs a) := by
  intro j
  have h : ∀ x : Int, 0 ≤ x % 65536 ∧ x % 65536 ≤ 65535 := fun x => by omega
  match j with
  | 0 => exact h _
  | 1 => exact h _
  | 2 => exact h _
  | 3 => exact h _
  | 4 => exact ⟨Int.le_refl 0, show (0 : Int) ≤ 65535 by decide⟩
  | j + 5 => simp [dgs]
theorem val_dgs (a : Int) (ha : -9223372036854775808 ≤ a ∧ a ≤ 9223372036854775807) : val ((dgs a).take 4) = absv a ∧ val (dgs a) = absv a := by
  have h : 0 ≤ absv a ∧ absv a ≤ 9223372036854775808 := by unfold absv; split <;> omega
  simp only [dgs, List.take, val]
  omega
def mulv (x : Int) : Int := if x > 9223372036854775807 then 9223372036854775807 else if x < -9223372036854775808 then -9223372036854775808 else x
theorem mul_sign (a b : Int) (s : Bool) (hs : (!(decide (a < 0) == decide (b < 0))) = s) : a * b = if s = true then -(absv a * absv b) else absv a * absv b := by
  subst hs
  unfold absv
  by_cases h1 : a < 0 <;> by_cases h2 : b < 0 <;> simp [h1, h2, Int.neg_mul, Int.mul_neg]
theorem mul_over (a b : Int) (s : Bool) (hs : (!(decide (a < 0) == decide (b < 0))) = s) (h : 9223372036854775808 < absv a * absv b) : mulv (a * b) = if s = true then -9223372036854775808 else 9223372036854775807 := by
  rw [mul_sign a b s hs]
  unfold mulv
  cases s
  · simp only [Bool.false_eq_true, if_false]; rw [if_pos (by omega)]
  · simp only [if_true]; rw [if_neg (by omega), if_pos (by omega)]
theorem zeros_get (j : Nat) : ([0, 0, 0, 0, 0, 0, 0, 0, 0, 0] : List Int).getD j 0 = 0 := by
  by_cases h : j < 10
  · have : ∀ m : Fin 10, ([0, 0, 0, 0, 0, 0, 0, 0, 0, 0] : List Int).getD m 0 = 0 := by decide
    exact this ⟨j, h⟩
  · simp [List.getD_eq_getElem?_getD, List.getElem?_eq_none (show ([0, 0, 0, 0, 0, 0, 0, 0, 0, 0] : List Int).length ≤ j by simp; omega)]
theorem zeros_digs : digs [0, 0, 0, 0, 0, 0, 0, 0, 0, 0] := fun j => by rw [zeros_get]; omega

set_option maxHeartbeats 1000000 in
theorem big_calls (a : Int) (ha : -9223372036854775808 ≤ a ∧ a ≤ 9223372036854775807) (w : World) :
    Calls Try.prog 40 #[.int .i64 a] w fun e w' => e = .returned (.agg ((dgs a).map (Value.int .i64)).toArray) ∧ Below w.heap.size w w' := by
  go_enter Try.func40, Try.ntmps40
  go_wp2
  go_loopg [0, 4] 5 (fun kq v0 v4 w' => ∃ (i : Nat), v0 = .int .i64 (lefts a i) ∧ v4 = .int .i64 (i : Int) ∧ i ≤ 4 ∧ Aside0 (kq + i = 5) ∧ Aside0 (ArrAt w' (w.heap.size + 1) 47 (upto a i)) ∧ Aside0 (ArrAt w' w.heap.size 47 [0, 0, 0, 0, 0]) ∧ Aside0 (Below w.heap.size w w'))
  case atStart =>
    refine ⟨0, rfl, rfl, by omega, ⟨rfl⟩, ⟨?_⟩, ⟨?_⟩, ⟨?_⟩⟩
    · have := blk_new (w.alloc (Obj.cells #[Value.int IntKind.i64 0, Value.int IntKind.i64 0, Value.int IntKind.i64 0, Value.int IntKind.i64 0, Value.int IntKind.i64 0] 47)) (Obj.cells #[Value.int IntKind.i64 0, Value.int IntKind.i64 0, Value.int IntKind.i64 0, Value.int IntKind.i64 0, Value.int IntKind.i64 0] 47)
      rw [show (w.alloc (Obj.cells #[Value.int IntKind.i64 0, Value.int IntKind.i64 0, Value.int IntKind.i64 0, Value.int IntKind.i64 0, Value.int IntKind.i64 0] 47)).heap.size = w.heap.size + 1 by simp] at this
      exact this
    · exact blk_alloc (blk_new w _) _
    · exact ((Below.refl _ _).alloc (Nat.le_refl _) _).alloc (by simp) _
  case round =>
    obtain ⟨i, rfl, rfl, hi, HK, HA, HZ, HB⟩ := hrel
    have hx := lefts_in a ha i
    have hm := tmod_in (lefts a i)
    have hm1 := hm.1
    have hm2 := hm.2
    have hx1 := hx.1
    have hx2 := hx.2
    clear hx hm
    obtain ⟨x, hxe⟩ : ∃ x, lefts a i = x := ⟨_, rfl⟩
    obtain ⟨m, hme⟩ : ∃ m, Int.tmod x 65536 = m := ⟨_, rfl⟩
    obtain ⟨q, hqe⟩ : ∃ q, Int.tdiv x 65536 = q := ⟨_, rfl⟩
    have HX := Aside0.mk hxe
    have HQ := Aside0.mk hqe
    have HM := Aside0.mk hme
    have HQ2 : -9223372036854775808 ≤ q ∧ q ≤ 9223372036854775807 := by
      have := lefts_in a ha (i + 1)
      rw [show lefts a (i + 1) = Int.tdiv (lefts a i) 65536 from rfl, hxe, hqe] at this
      exact this
    rw [hxe] at hm1 hm2 hx1 hx2 ⊢
    rw [hme] at hm1 hm2
    clear hxe
    have hq1 := HQ2.1
    have hq2 := HQ2.2
    clear HQ2
    have hwq : wrap64 q = q := by unfold wrap64; omega
    have hl5 : (upto a i).length = 5 := upto_len a i
    by_cases hlt : i < 4
    · have hc0 := HA.out.cell i (by omega)
      have hf0 := HA.out.frozen i
      clear hl5
      have fin : ∀ v : Int, v = digat a i → Aside0 (ArrAt (wr.setCell ⟨w.heap.size + 1, i, none⟩ (.int .i64 v)) (w.heap.size + 1) 47 (upto a (i + 1))) := fun v hv => ⟨by rw [← upto_set a i hlt v hv]; exact HA.out.set i v⟩
      cases gk with
      | zero => exact absurd HK.out (by omega)
      | succ gk =>
        by_cases hneg : m < 0
        · have hng : decide (m < 0) = true := decide_eq_true hneg
          have hwm : wrap64 (-m) = -m := by unfold wrap64; omega
          go_wp2
          go_roundg gk
          case measure => omega
          case rel =>
            refine ⟨i + 1, ?_, by go_num, by omega, ⟨by have := HK.out; omega⟩, ?_, ⟨?_⟩, ⟨?_⟩⟩
            · rw [show lefts a (i + 1) = Int.tdiv (lefts a i) 65536 from rfl, HX.out, HQ.out]
            · have h1 := fin (-m) (by unfold digat absv; rw [HX.out, HM.out, if_pos hneg])
              refine ⟨?_⟩
              have h2 := (HA.out.set i m).set i (-m)
              rw [set_set, upto_set a i hlt (-m) (by unfold digat absv; rw [HX.out, HM.out, if_pos hneg])] at h2
              exact h2
            · exact (HZ.out.far (by omega) _ _).far (by omega) _ _
            · exact below_set (below_set HB.out (by omega)) (by omega)
        · have hng : decide (m < 0) = false := decide_eq_false hneg
          go_wp2
          go_roundg gk
          case measure => omega
          case rel =>
            refine ⟨i + 1, ?_, by go_num, by omega, ⟨by have := HK.out; omega⟩, fin m (by unfold digat absv; rw [HX.out, HM.out, if_neg (by omega)]), ⟨HZ.out.far (by omega) _ _⟩, ⟨below_set HB.out (by omega)⟩⟩
            rw [show lefts a (i + 1) = Int.tdiv (lefts a i) 65536 from rfl, HX.out, HQ.out]
    · have hi4 : i = 4 := by omega
      subst hi4
      have hu := HA.out
      rw [upto_end] at hu
      have HU := Aside0.mk hu
      clear hu
      obtain ⟨d0, d1, d2, d3, hd⟩ : ∃ d0 d1 d2 d3, dgs a = [d0, d1, d2, d3, 0] := ⟨_, _, _, _, rfl⟩
      have HD := Aside0.mk hd
      rw [hd] at HU
      clear hd hl5
      have hu47 := Try.underlying47
      have c0 : wr.cell? ⟨w.heap.size + 1, 0, none⟩ = some (.int .i64 d0) := HU.out.cell 0 (by simp)
      have c1 : wr.cell? ⟨w.heap.size + 1, 1, none⟩ = some (.int .i64 d1) := HU.out.cell 1 (by simp)
      have c2 : wr.cell? ⟨w.heap.size + 1, 2, none⟩ = some (.int .i64 d2) := HU.out.cell 2 (by simp)
      have c3 : wr.cell? ⟨w.heap.size + 1, 3, none⟩ = some (.int .i64 d3) := HU.out.cell 3 (by simp)
      have c4 : wr.cell? ⟨w.heap.size + 1, 4, none⟩ = some (.int .i64 0) := HU.out.cell 4 (by simp)
      have z0 : wr.cell? ⟨w.heap.size, 0, none⟩ = some (.int .i64 0) := HZ.out.cell 0 (by simp)
      have z1 : wr.cell? ⟨w.heap.size, 1, none⟩ = some (.int .i64 0) := HZ.out.cell 1 (by simp)
      have z2 : wr.cell? ⟨w.heap.size, 2, none⟩ = some (.int .i64 0) := HZ.out.cell 2 (by simp)
      have z3 : wr.cell? ⟨w.heap.size, 3, none⟩ = some (.int .i64 0) := HZ.out.cell 3 (by simp)
      have z4 : wr.cell? ⟨w.heap.size, 4, none⟩ = some (.int .i64 0) := HZ.out.cell 4 (by simp)
      have f0 := HZ.out.frozen 0
      have f1 := HZ.out.frozen 1
      have f2 := HZ.out.frozen 2
      have f3 := HZ.out.frozen 3
      have f4 := HZ.out.frozen 4
      go_wp2
      refine bodyPost_ret (results_cell_row rfl _ _ w.heap.size 47 #[.int .i64 d0, .int .i64 d1, .int .i64 d2, .int .i64 d3, .int .i64 0] (0, 0) _ rfl ?_ Try.underlying47 rfl (by kernel_rfl)) rfl ?_
      · refine blk_put (cs := #[.int .i64 d0, .int .i64 d1, .int .i64 d2, .int .i64 d3, .int .i64 0]) ?_ 4 _ rfl
        refine blk_put (cs := #[.int .i64 d0, .int .i64 d1, .int .i64 d2, .int .i64 0, .int .i64 0]) ?_ 3 _ rfl
        refine blk_put (cs := #[.int .i64 d0, .int .i64 d1, .int .i64 0, .int .i64 0, .int .i64 0]) ?_ 2 _ rfl
        refine blk_put (cs := #[.int .i64 d0, .int .i64 0, .int .i64 0, .int .i64 0, .int .i64 0]) ?_ 1 _ rfl
        refine blk_put (cs := #[.int .i64 0, .int .i64 0, .int .i64 0, .int .i64 0, .int .i64 0]) ?_ 0 _ rfl
        exact HZ.out
      · refine ⟨by rw [HD.out]; simp, ?_⟩
        refine below_set (below_set (below_set (below_set (below_set HB.out ?_) ?_) ?_) ?_) ?_ <;> exact Nat.le_refl _
end Go.Proofs.Ytoalpmfkaijomaa.RMul
