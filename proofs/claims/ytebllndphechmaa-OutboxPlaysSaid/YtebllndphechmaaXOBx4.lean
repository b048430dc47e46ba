-- Written by xprint.py (a program of this session) for this claim
import Derived.Test.YtebllndphechmaaSL9
import Derived.Test.YtebllndphechmaaSL5
import Derived.Test.YtebllndphechmaaXOBx0
import Derived.Test.YtebllndphechmaaXOBx1
import Derived.Test.YtebllndphechmaaXOBx2
import Derived.Test.YtebllndphechmaaXOBx3
namespace Go.Proofs.Ytebllndphechmaa.XOB
open Go.Proofs.YtebllndphechmaaV Go.Proofs.YtebllndphechmaaS
open Go.RowKit Go.Proofs.YtebllndphechmaaW.PrintWords Go.Proofs.YtebllndphechmaaW.PrintLast Go.Proofs.YtebllndphechmaaW.PrintMore
attribute [local go_sem] max2_int min2_int max_two min_two max_three min_three max_four min_four   -- for this text's walks alone
set_option linter.unusedVariables false
set_option linter.unusedSimpArgs false

/-! ### barrowlaw26_OutboxPlays: function 3 -/
mutual
def barrowlaw26_OutboxPlays.l0 : Nat → (List (S29)) → (List (List Int)) → Int → Bool → Int → (List (List Int)) → (Int × List (List Int)) → Bool → Bool → Option (Bool)
  | 0, _, _, _, _, _, _, _, _, _ => none
  | k + 1, l1, l2, x10_0, t396, t400, y3000022_0, y3000020_0, x3000021_2_0, x3000019_1_0 => if x10_0 < (l1.length : Int) then (if 0 ≤ x10_0 then (if (Go.bits .and .i64 ((rd_T29 l1 x10_0).f0) 7) = 6 then ((outbox_Box_Again_i1.f k x3000019_1_0 y3000020_0).bind fun bt487 => ((barrowref26_Box_Again.f y3000022_0 t400 x3000021_2_0).bind fun bt489 => ((outbox_Box_Len_i1.f bt487.1 bt487.2).bind fun t495 => (if t495 = (bt489.1.length : Int) then ((outbox_Box_Lost_i1.f bt487.1 bt487.2).bind fun t496 => (if (t496 != bt489.2) = true then (none) else (barrowlaw26_OutboxPlays.l0 k l1 l2 (wrap64 (x10_0 + 1)) t396 t400 bt489.1 bt487.2 bt489.2 bt487.1))) else (none))))) else (if (Go.bits .and .i64 ((rd_T29 l1 x10_0).f0) 7) = 4 then ((outbox_Box_Drain_i1.f k ((rd_T29 l1 x10_0).f1) x3000019_1_0 y3000020_0).bind fun bt498 => ((barrowref26_Box_Drain.f ((rd_T29 l1 x10_0).f1) y3000022_0 t400 x3000021_2_0).bind fun bt501 => ((barrowref04_Same.f k bt498.1 bt501.1).bind fun t505 => (barrowlaw26_OutboxPlays.l201 k l1 l2 x10_0 t396 t400 x3000021_2_0 x3000019_1_0 bt498.1 bt498.2 bt501.2 t505 bt498.1 0)))) else (if (Go.bits .and .i64 ((rd_T29 l1 x10_0).f0) 7) = 5 then ((outbox_Box_Drain_i1.f k ((rd_T29 l1 x10_0).f1) x3000019_1_0 y3000020_0).bind fun bt520 => ((barrowref26_Box_Drain.f ((rd_T29 l1 x10_0).f1) y3000022_0 t400 x3000021_2_0).bind fun bt523 => ((barrowref04_Same.f k bt520.1 bt523.1).bind fun t527 => (barrowlaw26_OutboxPlays.l301 k l1 l2 x10_0 t396 t400 x3000021_2_0 x3000019_1_0 bt520.1 bt520.2 bt523.2 t527 bt520.1 0)))) else (if (l2.length : Int) > 0 then ((some (([] : List Int) : List Int)).bind fun y541 => (if (l2.length : Int) = 0 then (none) else ((some (Int.tmod x10_0 (l2.length : Int) : Int)).bind fun j542 => (if 0 ≤ j542 then (if j542 < (l2.length : Int) then ((some (rd_L1 l2 j542 : List Int)).bind fun y544 => (if y541.length + y544.length < 140737488355328 then ((some (y541 ++ y544 : List Int)).bind fun y545 => ((outbox_Box_Put.f k y545 x3000019_1_0 y3000020_0).bind fun bt548 => ((some (rd_L1 l2 j542 : List Int)).bind fun y552 => ((barrowref26_Box_Put.f y552 y3000022_0 t400 x3000021_2_0).bind fun bt553 => (if (bt548.1 == bt553.1) = true then (barrowlaw26_OutboxPlays.l3 k l1 l2 x10_0 0 y545 t396 t400 y545 bt548.2.1 bt548.2.2 bt553.2.1 bt553.2.2) else (barrowlaw26_OutboxPlays.l103 k y545 0 y545)))))) else (none))) else (none)) else (none))))) else ((outbox_Box_Len_i1.f x3000019_1_0 y3000020_0).bind fun t568 => (if t568 = (y3000022_0.length : Int) then ((outbox_Box_Lost_i1.f x3000019_1_0 y3000020_0).bind fun t569 => (if (t569 != x3000021_2_0) = true then (none) else (barrowlaw26_OutboxPlays.l0 k l1 l2 (wrap64 (x10_0 + 1)) t396 t400 y3000022_0 y3000020_0 x3000021_2_0 x3000019_1_0))) else (none))))))) else (none)) else (some t396)
def barrowlaw26_OutboxPlays.l201 : Nat → (List (S29)) → (List (List Int)) → Int → Bool → Int → Bool → Bool → (List (List Int)) → (Int × List (List Int)) → (List (List Int)) → Bool → (List (List Int)) → Int → Option (Bool)
  | 0, _, _, _, _, _, _, _, _, _, _, _, _, _ => none
  | k + 1, l1, l2, x10_0, t396, t400, x3000021_2_0, x3000019_1_0, t498, t499, t502, t505, y3000023_201, x13_201 => if x13_201 < (t498.length : Int) then (if (t498.length : Int) > 0 then (barrowlaw26_OutboxPlays.l202 k l1 l2 x10_0 t396 t400 x3000021_2_0 x3000019_1_0 t498 t499 t502 t505 x13_201 y3000023_201 0) else (if t505 = true then ((outbox_Box_Len_i1.f x3000019_1_0 t499).bind fun t513 => (if t513 = (t502.length : Int) then ((outbox_Box_Lost_i1.f x3000019_1_0 t499).bind fun t514 => (if (t514 != x3000021_2_0) = true then (none) else (barrowlaw26_OutboxPlays.l0 k l1 l2 (wrap64 (x10_0 + 1)) t396 t400 t502 t499 x3000021_2_0 x3000019_1_0))) else (none))) else (none))) else (if t505 = true then ((outbox_Box_Len_i1.f x3000019_1_0 t499).bind fun t517 => (if t517 = (t502.length : Int) then ((outbox_Box_Lost_i1.f x3000019_1_0 t499).bind fun t518 => (if (t518 != x3000021_2_0) = true then (none) else (barrowlaw26_OutboxPlays.l0 k l1 l2 (wrap64 (x10_0 + 1)) t396 t400 t502 t499 x3000021_2_0 x3000019_1_0))) else (none))) else (none))
def barrowlaw26_OutboxPlays.l202 : Nat → (List (S29)) → (List (List Int)) → Int → Bool → Int → Bool → Bool → (List (List Int)) → (Int × List (List Int)) → (List (List Int)) → Bool → Int → (List (List Int)) → Int → Option (Bool)
  | 0, _, _, _, _, _, _, _, _, _, _, _, _, _, _ => none
  | k + 1, l1, l2, x10_0, t396, t400, x3000021_2_0, x3000019_1_0, t498, t499, t502, t505, x13_201, y3000023_202, x14_202 => if 0 ≤ x13_201 then (if x13_201 < (t498.length : Int) then ((some (rd_L1 y3000023_202 x13_201 : List Int)).bind fun y507 => (if x14_202 < (y507.length : Int) then (if 0 ≤ x14_202 then ((some (y3000023_202.set (x13_201).toNat ((y507).set (x14_202).toNat 99) : List (List Int))).bind fun y510 => (barrowlaw26_OutboxPlays.l202 k l1 l2 x10_0 t396 t400 x3000021_2_0 x3000019_1_0 t498 t499 t502 t505 x13_201 y510 (wrap64 (x14_202 + 1)))) else (none)) else (barrowlaw26_OutboxPlays.l201 k l1 l2 x10_0 t396 t400 x3000021_2_0 x3000019_1_0 t498 t499 t502 t505 y3000023_202 (wrap64 (x13_201 + 1))))) else (none)) else (none)
def barrowlaw26_OutboxPlays.l301 : Nat → (List (S29)) → (List (List Int)) → Int → Bool → Int → Bool → Bool → (List (List Int)) → (Int × List (List Int)) → (List (List Int)) → Bool → (List (List Int)) → Int → Option (Bool)
  | 0, _, _, _, _, _, _, _, _, _, _, _, _, _ => none
  | k + 1, l1, l2, x10_0, t396, t400, x3000021_2_0, x3000019_1_0, t520, t521, t524, t527, y3000023_301, x13_301 => if x13_301 < (t520.length : Int) then (if (t520.length : Int) > 0 then (barrowlaw26_OutboxPlays.l302 k l1 l2 x10_0 t396 t400 x3000021_2_0 x3000019_1_0 t520 t521 t524 t527 x13_301 y3000023_301 0) else (if t527 = true then ((outbox_Box_Len_i1.f x3000019_1_0 t521).bind fun t535 => (if t535 = (t524.length : Int) then ((outbox_Box_Lost_i1.f x3000019_1_0 t521).bind fun t536 => (if (t536 != x3000021_2_0) = true then (none) else (barrowlaw26_OutboxPlays.l0 k l1 l2 (wrap64 (x10_0 + 1)) t396 t400 t524 t521 x3000021_2_0 x3000019_1_0))) else (none))) else (none))) else (if t527 = true then ((outbox_Box_Len_i1.f x3000019_1_0 t521).bind fun t539 => (if t539 = (t524.length : Int) then ((outbox_Box_Lost_i1.f x3000019_1_0 t521).bind fun t540 => (if (t540 != x3000021_2_0) = true then (none) else (barrowlaw26_OutboxPlays.l0 k l1 l2 (wrap64 (x10_0 + 1)) t396 t400 t524 t521 x3000021_2_0 x3000019_1_0))) else (none))) else (none))
def barrowlaw26_OutboxPlays.l302 : Nat → (List (S29)) → (List (List Int)) → Int → Bool → Int → Bool → Bool → (List (List Int)) → (Int × List (List Int)) → (List (List Int)) → Bool → Int → (List (List Int)) → Int → Option (Bool)
  | 0, _, _, _, _, _, _, _, _, _, _, _, _, _, _ => none
  | k + 1, l1, l2, x10_0, t396, t400, x3000021_2_0, x3000019_1_0, t520, t521, t524, t527, x13_301, y3000023_302, x14_302 => if 0 ≤ x13_301 then (if x13_301 < (t520.length : Int) then ((some (rd_L1 y3000023_302 x13_301 : List Int)).bind fun y529 => (if x14_302 < (y529.length : Int) then (if 0 ≤ x14_302 then ((some (y3000023_302.set (x13_301).toNat ((y529).set (x14_302).toNat 99) : List (List Int))).bind fun y532 => (barrowlaw26_OutboxPlays.l302 k l1 l2 x10_0 t396 t400 x3000021_2_0 x3000019_1_0 t520 t521 t524 t527 x13_301 y532 (wrap64 (x14_302 + 1)))) else (none)) else (barrowlaw26_OutboxPlays.l301 k l1 l2 x10_0 t396 t400 x3000021_2_0 x3000019_1_0 t520 t521 t524 t527 y3000023_302 (wrap64 (x13_301 + 1))))) else (none)) else (none)
def barrowlaw26_OutboxPlays.l3 : Nat → (List (S29)) → (List (List Int)) → Int → Int → (List Int) → Bool → Int → (List Int) → Bool → (Int × List (List Int)) → (List (List Int)) → Bool → Option (Bool)
  | 0, _, _, _, _, _, _, _, _, _, _, _, _ => none
  | k + 1, l1, l2, x10_0, x17_3, y3000025_3, t396, t400, y545, t549, t550, t554, t555 => if x17_3 < (y545.length : Int) then (if 0 ≤ x17_3 then ((some (y3000025_3.set (x17_3).toNat 98 : List Int)).bind fun y559 => (barrowlaw26_OutboxPlays.l3 k l1 l2 x10_0 (wrap64 (x17_3 + 1)) y559 t396 t400 y545 t549 t550 t554 t555)) else (none)) else ((outbox_Box_Len_i1.f t549 t550).bind fun t562 => (if t562 = (t554.length : Int) then ((outbox_Box_Lost_i1.f t549 t550).bind fun t563 => (if (t563 != t555) = true then (none) else (barrowlaw26_OutboxPlays.l0 k l1 l2 (wrap64 (x10_0 + 1)) t396 t400 t554 t550 t555 t549))) else (none)))
def barrowlaw26_OutboxPlays.l103 : Nat → (List Int) → Int → (List Int) → Option (Bool)
  | 0, _, _, _ => none
  | k + 1, y3000025_103, x17_103, y545 => if x17_103 < (y545.length : Int) then (if 0 ≤ x17_103 then ((some (y3000025_103.set (x17_103).toNat 98 : List Int)).bind fun y565 => (barrowlaw26_OutboxPlays.l103 k y565 (wrap64 (x17_103 + 1)) y545)) else (none)) else (none)
end
def barrowlaw26_OutboxPlays.f (k : Nat) (a0 : Int) (l1 : List (S29)) (l2 : List (List Int)) : Option (Bool) := (barrowlaw26_small.f k).bind fun t396 => ((outbox_New.f k a0).bind fun bt397 => (if (l1.length : Int) > 300 then (if t396 = true then (some true) else (none)) else (if (l2.length : Int) > 60 then (if t396 = true then (some true) else (none)) else ((barrowref26_New.f k a0).bind fun bt399 => (barrowlaw26_OutboxPlays.l0 k l1 l2 0 t396 bt399.2.1 bt399.1 bt397.2 bt399.2.2 bt397.1)))))
theorem barrowlaw26_OutboxPlays.mono_l : ∀ k, (∀ y0 y1 y2 y3 y4 y5 y6 y7 y8, LeO (barrowlaw26_OutboxPlays.l0 k y0 y1 y2 y3 y4 y5 y6 y7 y8) (barrowlaw26_OutboxPlays.l0 (k + 1) y0 y1 y2 y3 y4 y5 y6 y7 y8)) ∧ (∀ y0 y1 y2 y3 y4 y5 y6 y7 y8 y9 y10 y11 y12, LeO (barrowlaw26_OutboxPlays.l201 k y0 y1 y2 y3 y4 y5 y6 y7 y8 y9 y10 y11 y12) (barrowlaw26_OutboxPlays.l201 (k + 1) y0 y1 y2 y3 y4 y5 y6 y7 y8 y9 y10 y11 y12)) ∧ (∀ y0 y1 y2 y3 y4 y5 y6 y7 y8 y9 y10 y11 y12 y13, LeO (barrowlaw26_OutboxPlays.l202 k y0 y1 y2 y3 y4 y5 y6 y7 y8 y9 y10 y11 y12 y13) (barrowlaw26_OutboxPlays.l202 (k + 1) y0 y1 y2 y3 y4 y5 y6 y7 y8 y9 y10 y11 y12 y13)) ∧ (∀ y0 y1 y2 y3 y4 y5 y6 y7 y8 y9 y10 y11 y12, LeO (barrowlaw26_OutboxPlays.l301 k y0 y1 y2 y3 y4 y5 y6 y7 y8 y9 y10 y11 y12) (barrowlaw26_OutboxPlays.l301 (k + 1) y0 y1 y2 y3 y4 y5 y6 y7 y8 y9 y10 y11 y12)) ∧ (∀ y0 y1 y2 y3 y4 y5 y6 y7 y8 y9 y10 y11 y12 y13, LeO (barrowlaw26_OutboxPlays.l302 k y0 y1 y2 y3 y4 y5 y6 y7 y8 y9 y10 y11 y12 y13) (barrowlaw26_OutboxPlays.l302 (k + 1) y0 y1 y2 y3 y4 y5 y6 y7 y8 y9 y10 y11 y12 y13)) ∧ (∀ y0 y1 y2 y3 y4 y5 y6 y7 y8 y9 y10 y11, LeO (barrowlaw26_OutboxPlays.l3 k y0 y1 y2 y3 y4 y5 y6 y7 y8 y9 y10 y11) (barrowlaw26_OutboxPlays.l3 (k + 1) y0 y1 y2 y3 y4 y5 y6 y7 y8 y9 y10 y11)) ∧ (∀ y0 y1 y2, LeO (barrowlaw26_OutboxPlays.l103 k y0 y1 y2) (barrowlaw26_OutboxPlays.l103 (k + 1) y0 y1 y2))
  | 0 => ⟨fun _ _ _ _ _ _ _ _ _ r h => by simp [barrowlaw26_OutboxPlays.l0] at h, fun _ _ _ _ _ _ _ _ _ _ _ _ _ r h => by simp [barrowlaw26_OutboxPlays.l201] at h, fun _ _ _ _ _ _ _ _ _ _ _ _ _ _ r h => by simp [barrowlaw26_OutboxPlays.l202] at h, fun _ _ _ _ _ _ _ _ _ _ _ _ _ r h => by simp [barrowlaw26_OutboxPlays.l301] at h, fun _ _ _ _ _ _ _ _ _ _ _ _ _ _ r h => by simp [barrowlaw26_OutboxPlays.l302] at h, fun _ _ _ _ _ _ _ _ _ _ _ _ r h => by simp [barrowlaw26_OutboxPlays.l3] at h, fun _ _ _ r h => by simp [barrowlaw26_OutboxPlays.l103] at h⟩
  | k + 1 => by
    obtain ⟨ih0, ih1, ih2, ih3, ih4, ih5, ih6⟩ := barrowlaw26_OutboxPlays.mono_l k
    refine ⟨?_, ?_, ?_, ?_, ?_, ?_, ?_⟩
    · intro y0 y1 y2 y3 y4 y5 y6 y7 y8
      unfold barrowlaw26_OutboxPlays.l0
      repeat' first
      | (with_reducible exact ih0 _ _ _ _ _ _ _ _ _)
      | (with_reducible exact ih1 _ _ _ _ _ _ _ _ _ _ _ _ _)
      | (with_reducible exact ih2 _ _ _ _ _ _ _ _ _ _ _ _ _ _)
      | (with_reducible exact ih3 _ _ _ _ _ _ _ _ _ _ _ _ _)
      | (with_reducible exact ih4 _ _ _ _ _ _ _ _ _ _ _ _ _ _)
      | (with_reducible exact ih5 _ _ _ _ _ _ _ _ _ _ _ _)
      | (with_reducible exact ih6 _ _ _)
      | (with_reducible exact barrowlaw26_small.mono _)
      | (with_reducible exact barrowref04_Same.mono _ _ _)
      | (with_reducible exact barrowref26_New.mono _ _)
      | (with_reducible exact outbox_Box_Again_i1.mono _ _ _)
      | (with_reducible exact outbox_Box_Drain_i1.mono _ _ _ _)
      | (with_reducible exact outbox_Box_Put.mono _ _ _ _)
      | (with_reducible exact outbox_New.mono _ _)
      | (with_reducible exact LeO.refl _)
      | (with_reducible exact LeO.none _)
      | (with_reducible refine LeO.ite ?_ ?_)
      | (with_reducible refine everyOf_le (fun _ => ?_))
      | (with_reducible refine LeO.bind ?_ (fun _ => ?_))
      | exact ih0 _ _ _ _ _ _ _ _ _
      | exact ih1 _ _ _ _ _ _ _ _ _ _ _ _ _
      | exact ih2 _ _ _ _ _ _ _ _ _ _ _ _ _ _
      | exact ih3 _ _ _ _ _ _ _ _ _ _ _ _ _
      | exact ih4 _ _ _ _ _ _ _ _ _ _ _ _ _ _
      | exact ih5 _ _ _ _ _ _ _ _ _ _ _ _
      | exact ih6 _ _ _
      | exact barrowlaw26_small.mono _
      | exact barrowref04_Same.mono _ _ _
      | exact barrowref26_New.mono _ _
      | exact outbox_Box_Again_i1.mono _ _ _
      | exact outbox_Box_Drain_i1.mono _ _ _ _
      | exact outbox_Box_Put.mono _ _ _ _
      | exact outbox_New.mono _ _
      | exact LeO.none _
      | refine LeO.ite ?_ ?_
      | refine LeO.bind ?_ (fun _ => ?_)
    · intro y0 y1 y2 y3 y4 y5 y6 y7 y8 y9 y10 y11 y12
      unfold barrowlaw26_OutboxPlays.l201
      repeat' first
      | (with_reducible exact ih0 _ _ _ _ _ _ _ _ _)
      | (with_reducible exact ih1 _ _ _ _ _ _ _ _ _ _ _ _ _)
      | (with_reducible exact ih2 _ _ _ _ _ _ _ _ _ _ _ _ _ _)
      | (with_reducible exact ih3 _ _ _ _ _ _ _ _ _ _ _ _ _)
      | (with_reducible exact ih4 _ _ _ _ _ _ _ _ _ _ _ _ _ _)
      | (with_reducible exact ih5 _ _ _ _ _ _ _ _ _ _ _ _)
      | (with_reducible exact ih6 _ _ _)
      | (with_reducible exact barrowlaw26_small.mono _)
      | (with_reducible exact barrowref04_Same.mono _ _ _)
      | (with_reducible exact barrowref26_New.mono _ _)
      | (with_reducible exact outbox_Box_Again_i1.mono _ _ _)
      | (with_reducible exact outbox_Box_Drain_i1.mono _ _ _ _)
      | (with_reducible exact outbox_Box_Put.mono _ _ _ _)
      | (with_reducible exact outbox_New.mono _ _)
      | (with_reducible exact LeO.refl _)
      | (with_reducible exact LeO.none _)
      | (with_reducible refine LeO.ite ?_ ?_)
      | (with_reducible refine everyOf_le (fun _ => ?_))
      | (with_reducible refine LeO.bind ?_ (fun _ => ?_))
      | exact ih0 _ _ _ _ _ _ _ _ _
      | exact ih1 _ _ _ _ _ _ _ _ _ _ _ _ _
      | exact ih2 _ _ _ _ _ _ _ _ _ _ _ _ _ _
      | exact ih3 _ _ _ _ _ _ _ _ _ _ _ _ _
      | exact ih4 _ _ _ _ _ _ _ _ _ _ _ _ _ _
      | exact ih5 _ _ _ _ _ _ _ _ _ _ _ _
      | exact ih6 _ _ _
      | exact barrowlaw26_small.mono _
      | exact barrowref04_Same.mono _ _ _
      | exact barrowref26_New.mono _ _
      | exact outbox_Box_Again_i1.mono _ _ _
      | exact outbox_Box_Drain_i1.mono _ _ _ _
      | exact outbox_Box_Put.mono _ _ _ _
      | exact outbox_New.mono _ _
      | exact LeO.none _
      | refine LeO.ite ?_ ?_
      | refine LeO.bind ?_ (fun _ => ?_)
    · intro y0 y1 y2 y3 y4 y5 y6 y7 y8 y9 y10 y11 y12 y13
      unfold barrowlaw26_OutboxPlays.l202
      repeat' first
      | (with_reducible exact ih0 _ _ _ _ _ _ _ _ _)
      | (with_reducible exact ih1 _ _ _ _ _ _ _ _ _ _ _ _ _)
      | (with_reducible exact ih2 _ _ _ _ _ _ _ _ _ _ _ _ _ _)
      | (with_reducible exact ih3 _ _ _ _ _ _ _ _ _ _ _ _ _)
      | (with_reducible exact ih4 _ _ _ _ _ _ _ _ _ _ _ _ _ _)
      | (with_reducible exact ih5 _ _ _ _ _ _ _ _ _ _ _ _)
      | (with_reducible exact ih6 _ _ _)
      | (with_reducible exact barrowlaw26_small.mono _)
      | (with_reducible exact barrowref04_Same.mono _ _ _)
      | (with_reducible exact barrowref26_New.mono _ _)
      | (with_reducible exact outbox_Box_Again_i1.mono _ _ _)
      | (with_reducible exact outbox_Box_Drain_i1.mono _ _ _ _)
      | (with_reducible exact outbox_Box_Put.mono _ _ _ _)
      | (with_reducible exact outbox_New.mono _ _)
      | (with_reducible exact LeO.refl _)
      | (with_reducible exact LeO.none _)
      | (with_reducible refine LeO.ite ?_ ?_)
      | (with_reducible refine everyOf_le (fun _ => ?_))
      | (with_reducible refine LeO.bind ?_ (fun _ => ?_))
      | exact ih0 _ _ _ _ _ _ _ _ _
      | exact ih1 _ _ _ _ _ _ _ _ _ _ _ _ _
      | exact ih2 _ _ _ _ _ _ _ _ _ _ _ _ _ _
      | exact ih3 _ _ _ _ _ _ _ _ _ _ _ _ _
      | exact ih4 _ _ _ _ _ _ _ _ _ _ _ _ _ _
      | exact ih5 _ _ _ _ _ _ _ _ _ _ _ _
      | exact ih6 _ _ _
      | exact barrowlaw26_small.mono _
      | exact barrowref04_Same.mono _ _ _
      | exact barrowref26_New.mono _ _
      | exact outbox_Box_Again_i1.mono _ _ _
      | exact outbox_Box_Drain_i1.mono _ _ _ _
      | exact outbox_Box_Put.mono _ _ _ _
      | exact outbox_New.mono _ _
      | exact LeO.none _
      | refine LeO.ite ?_ ?_
      | refine LeO.bind ?_ (fun _ => ?_)
    · intro y0 y1 y2 y3 y4 y5 y6 y7 y8 y9 y10 y11 y12
      unfold barrowlaw26_OutboxPlays.l301
      repeat' first
      | (with_reducible exact ih0 _ _ _ _ _ _ _ _ _)
      | (with_reducible exact ih1 _ _ _ _ _ _ _ _ _ _ _ _ _)
      | (with_reducible exact ih2 _ _ _ _ _ _ _ _ _ _ _ _ _ _)
      | (with_reducible exact ih3 _ _ _ _ _ _ _ _ _ _ _ _ _)
      | (with_reducible exact ih4 _ _ _ _ _ _ _ _ _ _ _ _ _ _)
      | (with_reducible exact ih5 _ _ _ _ _ _ _ _ _ _ _ _)
      | (with_reducible exact ih6 _ _ _)
      | (with_reducible exact barrowlaw26_small.mono _)
      | (with_reducible exact barrowref04_Same.mono _ _ _)
      | (with_reducible exact barrowref26_New.mono _ _)
      | (with_reducible exact outbox_Box_Again_i1.mono _ _ _)
      | (with_reducible exact outbox_Box_Drain_i1.mono _ _ _ _)
      | (with_reducible exact outbox_Box_Put.mono _ _ _ _)
      | (with_reducible exact outbox_New.mono _ _)
      | (with_reducible exact LeO.refl _)
      | (with_reducible exact LeO.none _)
      | (with_reducible refine LeO.ite ?_ ?_)
      | (with_reducible refine everyOf_le (fun _ => ?_))
      | (with_reducible refine LeO.bind ?_ (fun _ => ?_))
      | exact ih0 _ _ _ _ _ _ _ _ _
      | exact ih1 _ _ _ _ _ _ _ _ _ _ _ _ _
      | exact ih2 _ _ _ _ _ _ _ _ _ _ _ _ _ _
      | exact ih3 _ _ _ _ _ _ _ _ _ _ _ _ _
      | exact ih4 _ _ _ _ _ _ _ _ _ _ _ _ _ _
      | exact ih5 _ _ _ _ _ _ _ _ _ _ _ _
      | exact ih6 _ _ _
      | exact barrowlaw26_small.mono _
      | exact barrowref04_Same.mono _ _ _
      | exact barrowref26_New.mono _ _
      | exact outbox_Box_Again_i1.mono _ _ _
      | exact outbox_Box_Drain_i1.mono _ _ _ _
      | exact outbox_Box_Put.mono _ _ _ _
      | exact outbox_New.mono _ _
      | exact LeO.none _
      | refine LeO.ite ?_ ?_
      | refine LeO.bind ?_ (fun _ => ?_)
    · intro y0 y1 y2 y3 y4 y5 y6 y7 y8 y9 y10 y11 y12 y13
      unfold barrowlaw26_OutboxPlays.l302
      repeat' first
      | (with_reducible exact ih0 _ _ _ _ _ _ _ _ _)
      | (with_reducible exact ih1 _ _ _ _ _ _ _ _ _ _ _ _ _)
      | (with_reducible exact ih2 _ _ _ _ _ _ _ _ _ _ _ _ _ _)
      | (with_reducible exact ih3 _ _ _ _ _ _ _ _ _ _ _ _ _)
      | (with_reducible exact ih4 _ _ _ _ _ _ _ _ _ _ _ _ _ _)
      | (with_reducible exact ih5 _ _ _ _ _ _ _ _ _ _ _ _)
      | (with_reducible exact ih6 _ _ _)
      | (with_reducible exact barrowlaw26_small.mono _)
      | (with_reducible exact barrowref04_Same.mono _ _ _)
      | (with_reducible exact barrowref26_New.mono _ _)
      | (with_reducible exact outbox_Box_Again_i1.mono _ _ _)
      | (with_reducible exact outbox_Box_Drain_i1.mono _ _ _ _)
      | (with_reducible exact outbox_Box_Put.mono _ _ _ _)
      | (with_reducible exact outbox_New.mono _ _)
      | (with_reducible exact LeO.refl _)
      | (with_reducible exact LeO.none _)
      | (with_reducible refine LeO.ite ?_ ?_)
      | (with_reducible refine everyOf_le (fun _ => ?_))
      | (with_reducible refine LeO.bind ?_ (fun _ => ?_))
      | exact ih0 _ _ _ _ _ _ _ _ _
      | exact ih1 _ _ _ _ _ _ _ _ _ _ _ _ _
      | exact ih2 _ _ _ _ _ _ _ _ _ _ _ _ _ _
      | exact ih3 _ _ _ _ _ _ _ _ _ _ _ _ _
      | exact ih4 _ _ _ _ _ _ _ _ _ _ _ _ _ _
      | exact ih5 _ _ _ _ _ _ _ _ _ _ _ _
      | exact ih6 _ _ _
      | exact barrowlaw26_small.mono _
      | exact barrowref04_Same.mono _ _ _
      | exact barrowref26_New.mono _ _
      | exact outbox_Box_Again_i1.mono _ _ _
      | exact outbox_Box_Drain_i1.mono _ _ _ _
      | exact outbox_Box_Put.mono _ _ _ _
      | exact outbox_New.mono _ _
      | exact LeO.none _
      | refine LeO.ite ?_ ?_
      | refine LeO.bind ?_ (fun _ => ?_)
    · intro y0 y1 y2 y3 y4 y5 y6 y7 y8 y9 y10 y11
      unfold barrowlaw26_OutboxPlays.l3
      repeat' first
      | (with_reducible exact ih0 _ _ _ _ _ _ _ _ _)
      | (with_reducible exact ih1 _ _ _ _ _ _ _ _ _ _ _ _ _)
      | (with_reducible exact ih2 _ _ _ _ _ _ _ _ _ _ _ _ _ _)
      | (with_reducible exact ih3 _ _ _ _ _ _ _ _ _ _ _ _ _)
      | (with_reducible exact ih4 _ _ _ _ _ _ _ _ _ _ _ _ _ _)
      | (with_reducible exact ih5 _ _ _ _ _ _ _ _ _ _ _ _)
      | (with_reducible exact ih6 _ _ _)
      | (with_reducible exact barrowlaw26_small.mono _)
      | (with_reducible exact barrowref04_Same.mono _ _ _)
      | (with_reducible exact barrowref26_New.mono _ _)
      | (with_reducible exact outbox_Box_Again_i1.mono _ _ _)
      | (with_reducible exact outbox_Box_Drain_i1.mono _ _ _ _)
      | (with_reducible exact outbox_Box_Put.mono _ _ _ _)
      | (with_reducible exact outbox_New.mono _ _)
      | (with_reducible exact LeO.refl _)
      | (with_reducible exact LeO.none _)
      | (with_reducible refine LeO.ite ?_ ?_)
      | (with_reducible refine everyOf_le (fun _ => ?_))
      | (with_reducible refine LeO.bind ?_ (fun _ => ?_))
      | exact ih0 _ _ _ _ _ _ _ _ _
      | exact ih1 _ _ _ _ _ _ _ _ _ _ _ _ _
      | exact ih2 _ _ _ _ _ _ _ _ _ _ _ _ _ _
      | exact ih3 _ _ _ _ _ _ _ _ _ _ _ _ _
      | exact ih4 _ _ _ _ _ _ _ _ _ _ _ _ _ _
      | exact ih5 _ _ _ _ _ _ _ _ _ _ _ _
      | exact ih6 _ _ _
      | exact barrowlaw26_small.mono _
      | exact barrowref04_Same.mono _ _ _
      | exact barrowref26_New.mono _ _
      | exact outbox_Box_Again_i1.mono _ _ _
      | exact outbox_Box_Drain_i1.mono _ _ _ _
      | exact outbox_Box_Put.mono _ _ _ _
      | exact outbox_New.mono _ _
      | exact LeO.none _
      | refine LeO.ite ?_ ?_
      | refine LeO.bind ?_ (fun _ => ?_)
    · intro y0 y1 y2
      unfold barrowlaw26_OutboxPlays.l103
      repeat' first
      | (with_reducible exact ih0 _ _ _ _ _ _ _ _ _)
      | (with_reducible exact ih1 _ _ _ _ _ _ _ _ _ _ _ _ _)
      | (with_reducible exact ih2 _ _ _ _ _ _ _ _ _ _ _ _ _ _)
      | (with_reducible exact ih3 _ _ _ _ _ _ _ _ _ _ _ _ _)
      | (with_reducible exact ih4 _ _ _ _ _ _ _ _ _ _ _ _ _ _)
      | (with_reducible exact ih5 _ _ _ _ _ _ _ _ _ _ _ _)
      | (with_reducible exact ih6 _ _ _)
      | (with_reducible exact barrowlaw26_small.mono _)
      | (with_reducible exact barrowref04_Same.mono _ _ _)
      | (with_reducible exact barrowref26_New.mono _ _)
      | (with_reducible exact outbox_Box_Again_i1.mono _ _ _)
      | (with_reducible exact outbox_Box_Drain_i1.mono _ _ _ _)
      | (with_reducible exact outbox_Box_Put.mono _ _ _ _)
      | (with_reducible exact outbox_New.mono _ _)
      | (with_reducible exact LeO.refl _)
      | (with_reducible exact LeO.none _)
      | (with_reducible refine LeO.ite ?_ ?_)
      | (with_reducible refine everyOf_le (fun _ => ?_))
      | (with_reducible refine LeO.bind ?_ (fun _ => ?_))
      | exact ih0 _ _ _ _ _ _ _ _ _
      | exact ih1 _ _ _ _ _ _ _ _ _ _ _ _ _
      | exact ih2 _ _ _ _ _ _ _ _ _ _ _ _ _ _
      | exact ih3 _ _ _ _ _ _ _ _ _ _ _ _ _
      | exact ih4 _ _ _ _ _ _ _ _ _ _ _ _ _ _
      | exact ih5 _ _ _ _ _ _ _ _ _ _ _ _
      | exact ih6 _ _ _
      | exact barrowlaw26_small.mono _
      | exact barrowref04_Same.mono _ _ _
      | exact barrowref26_New.mono _ _
      | exact outbox_Box_Again_i1.mono _ _ _
      | exact outbox_Box_Drain_i1.mono _ _ _ _
      | exact outbox_Box_Put.mono _ _ _ _
      | exact outbox_New.mono _ _
      | exact LeO.none _
      | refine LeO.ite ?_ ?_
      | refine LeO.bind ?_ (fun _ => ?_)
theorem barrowlaw26_OutboxPlays.mono : ∀ a0 a1 a2 k, LeO (barrowlaw26_OutboxPlays.f k a0 a1 a2) (barrowlaw26_OutboxPlays.f (k + 1) a0 a1 a2) := by
  intro a0 a1 a2 k
  obtain ⟨ih0, ih1, ih2, ih3, ih4, ih5, ih6⟩ := barrowlaw26_OutboxPlays.mono_l k
  unfold barrowlaw26_OutboxPlays.f
  repeat' first
      | (with_reducible exact ih0 _ _ _ _ _ _ _ _ _)
      | (with_reducible exact ih1 _ _ _ _ _ _ _ _ _ _ _ _ _)
      | (with_reducible exact ih2 _ _ _ _ _ _ _ _ _ _ _ _ _ _)
      | (with_reducible exact ih3 _ _ _ _ _ _ _ _ _ _ _ _ _)
      | (with_reducible exact ih4 _ _ _ _ _ _ _ _ _ _ _ _ _ _)
      | (with_reducible exact ih5 _ _ _ _ _ _ _ _ _ _ _ _)
      | (with_reducible exact ih6 _ _ _)
      | (with_reducible exact barrowlaw26_small.mono _)
      | (with_reducible exact barrowref04_Same.mono _ _ _)
      | (with_reducible exact barrowref26_New.mono _ _)
      | (with_reducible exact outbox_Box_Again_i1.mono _ _ _)
      | (with_reducible exact outbox_Box_Drain_i1.mono _ _ _ _)
      | (with_reducible exact outbox_Box_Put.mono _ _ _ _)
      | (with_reducible exact outbox_New.mono _ _)
      | (with_reducible exact LeO.refl _)
      | (with_reducible exact LeO.none _)
      | (with_reducible refine LeO.ite ?_ ?_)
      | (with_reducible refine everyOf_le (fun _ => ?_))
      | (with_reducible refine LeO.bind ?_ (fun _ => ?_))
      | exact ih0 _ _ _ _ _ _ _ _ _
      | exact ih1 _ _ _ _ _ _ _ _ _ _ _ _ _
      | exact ih2 _ _ _ _ _ _ _ _ _ _ _ _ _ _
      | exact ih3 _ _ _ _ _ _ _ _ _ _ _ _ _
      | exact ih4 _ _ _ _ _ _ _ _ _ _ _ _ _ _
      | exact ih5 _ _ _ _ _ _ _ _ _ _ _ _
      | exact ih6 _ _ _
      | exact barrowlaw26_small.mono _
      | exact barrowref04_Same.mono _ _ _
      | exact barrowref26_New.mono _ _
      | exact outbox_Box_Again_i1.mono _ _ _
      | exact outbox_Box_Drain_i1.mono _ _ _ _
      | exact outbox_Box_Put.mono _ _ _ _
      | exact outbox_New.mono _ _
      | exact LeO.none _
      | refine LeO.ite ?_ ?_
      | refine LeO.bind ?_ (fun _ => ?_)
def barrowlaw26_OutboxPlays.T33 : Bool × List (List Nat × List Nat) := (true, [([], []), ([0], [0]), ([1], [1]), ([2], [2]), ([3, 2, 2], [2, 3]), ([2], [2]), ([5, 2], [2, 5]), ([6, 2], [2, 6]), ([7, 2], [2, 7]), ([8, 2], [2, 8]), ([4, 9, 2], [2, 4, 9]), ([2, 10], [2, 10]), ([11, 4], [11]), ([12], [12]), ([13, 12, 12], [12, 13]), ([12], [12]), ([15, 12], [12, 15]), ([16, 12], [12, 16]), ([17, 12], [12, 17]), ([14, 18, 12], [12, 14, 18]), ([12, 19], [12, 19])])
def barrowlaw26_OutboxPlays.B33 : List Nat := [0, 1, 3, 7, 15, 7, 39, 103, 231, 487, 1023, 2047, 4095, 8191, 16383, 8191, 40959, 106495, 237567, 524287, 1048575]
theorem barrowlaw26_OutboxPlays.tab33 : rtab .any (opsOf Try.f3 33) = barrowlaw26_OutboxPlays.T33 := by kernel_rfl
theorem barrowlaw26_OutboxPlays.bits33 : waitsOk barrowlaw26_OutboxPlays.T33.2 barrowlaw26_OutboxPlays.B33 = true := by kernel_rfl
def barrowlaw26_OutboxPlays.Post (r : Bool) (S : Nat → Prop) (L : List Asr) (w : World) (e : Ending) (w' : World) : Prop := e = .returned (.bool r) ∧ SL (L) w' S ∧ Keep S w w'
set_option maxHeartbeats 8000000 in
set_option maxRecDepth 100000 in
theorem barrowlaw26_OutboxPlays.slcalls (k : Nat) (a0 : Int) (A1 : Option Addr) (c1 : Nat) (l1 : List (S29)) (A2 : Option Addr) (c2 : Nat) (l2 : List (List Int)) (r : Bool) (S : Nat → Prop) (L : List Asr) (w : World) (hf : Fresh S w) (hs : SL (L) w S) (hr1 : RO S w (fun w_ => Kd.C k29 w_ A1 l1.length l1)) (hc1 : l1.length ≤ c1) (hr2 : RO S w (fun w_ => Kd.C (Kd.slice 5 (Kd.int .u8)) w_ A2 l2.length l2)) (hc2 : l2.length ≤ c2) (h : barrowlaw26_OutboxPlays.f k a0 l1 l2 = some r) :
    Calls Try.prog 3 #[.int .i64 a0, .slice A1 l1.length c1, .slice A2 l2.length c2] w (barrowlaw26_OutboxPlays.Post r S L w) := by
  have HR1 := Aside0.mk hr1
  have HC1 := Aside0.mk hc1
  clear hr1 hc1
  have HR2 := Aside0.mk hr2
  have HC2 := Aside0.mk hc2
  clear hr2 hc2
  have HF := Aside0.mk hf
  have HS := Aside0.mk hs
  have HK := Aside0.mk (Keep.refl S w)
  clear hf hs
  have H : ((barrowlaw26_small.f k).bind fun t396 => ((outbox_New.f k a0).bind fun bt397 => (if (l1.length : Int) > 300 then (if t396 = true then (some true) else (none)) else (if (l2.length : Int) > 60 then (if t396 = true then (some true) else (none)) else ((barrowref26_New.f k a0).bind fun bt399 => (barrowlaw26_OutboxPlays.l0 k l1 l2 0 t396 bt399.2.1 bt399.1 bt397.2 bt399.2.2 bt397.1)))))) = some r := h
  clear h
  replace H := Option.bind_eq_some_iff.1 H
  obtain ⟨t396, Hc10, H⟩ := H
  try dsimp only at H
  have Hc1 := Aside0.mk Hc10
  clear Hc10
  replace H := Option.bind_eq_some_iff.1 H
  obtain ⟨⟨t397, t398⟩, Hc20, H⟩ := H
  try dsimp only at H
  have Hc2 := Aside0.mk Hc20
  clear Hc20
  by_cases c3 : (l1.length : Int) > 300
  · rw [if_pos c3] at H
    have c3b0 : decide (300 < (l1.length : Int)) = true := decide_eq_true c3
    have c3b1 : decide (300 < l1.length) = true := decide_eq_true (by omega)
    clear c3
    by_cases c4 : t396 = true
    · subst c4
      rw [if_pos rfl] at H
      obtain rfl := Option.some.inj H
      go_enter Try.func3, Try.ntmps3
      go_wp2_with (first | ((with_reducible refine gate_dst (N := 18) rfl ?_); refine goesL_ (some 18) rfl rfl Try.func5 (by kernel_rfl) rfl #[] rfl (by (try simp only [List.map_toArray, List.map_cons, List.map_nil]); first | done | rfl | (simp; done)) ?_; (with_reducible refine (barrowlaw26_small.calls k _ _  Hc1.out).mono ?_); rintro e_ w5 ⟨rfl, hb_⟩; refine ⟨_, rfl, ?_⟩; replace HS := Aside0.mk (HS.out.below hb_); replace HK := Aside0.mk (HK.out.trans (Keep.below hb_))) | ((with_reducible refine gate_dst (N := 20) rfl ?_); refine goesL_ (some 20) rfl rfl Try.func6 (by kernel_rfl) rfl #[.int .i64 a0] rfl (by (try simp only [List.map_toArray, List.map_cons, List.map_nil]); first | done | rfl | (simp; done)) ?_; have hs0_ := HS.out; (with_reducible refine (outbox_New.slcalls k _ _ _ _ _ _ (HF.out.keep HK.out) hs0_  Hc2.out).mono ?_); rintro e_ w6 ⟨g3000019, g3000020, rfl, hsr_, hkr_⟩; refine ⟨_, rfl, ?_⟩; replace HS := Aside0.mk (hsr_); replace HK := Aside0.mk (HK.out.trans hkr_)))
      go_ret
      replace HS := Aside0.mk (SL.tail (SL.tail HS.out))
      unfold barrowlaw26_OutboxPlays.Post
      exact ⟨by first | rfl | (simp; done) | (simp [*]; done) | (simp at c3b0 ⊢; first | exact c3b0 | (simp [c3b0]; done)), HS.out, HK.out⟩
    · replace c4 := Bool.eq_false_iff.mpr c4
      subst c4
      rw [if_neg (show ¬ (false = true) by decide)] at H
      exact absurd H (by simp)
  · rw [if_neg c3] at H
    have c3b0 : decide (300 < (l1.length : Int)) = false := decide_eq_false c3
    have c3b1 : decide (300 < l1.length) = false := decide_eq_false (by omega)
    clear c3
    by_cases c7 : (l2.length : Int) > 60
    · rw [if_pos c7] at H
      have c7b0 : decide (60 < (l2.length : Int)) = true := decide_eq_true c7
      have c7b1 : decide (60 < l2.length) = true := decide_eq_true (by omega)
      clear c7
      by_cases c8 : t396 = true
      · subst c8
        rw [if_pos rfl] at H
        obtain rfl := Option.some.inj H
        go_enter Try.func3, Try.ntmps3
        go_wp2_with (first | ((with_reducible refine gate_dst (N := 18) rfl ?_); refine goesL_ (some 18) rfl rfl Try.func5 (by kernel_rfl) rfl #[] rfl (by (try simp only [List.map_toArray, List.map_cons, List.map_nil]); first | done | rfl | (simp; done)) ?_; (with_reducible refine (barrowlaw26_small.calls k _ _  Hc1.out).mono ?_); rintro e_ w9 ⟨rfl, hb_⟩; refine ⟨_, rfl, ?_⟩; replace HS := Aside0.mk (HS.out.below hb_); replace HK := Aside0.mk (HK.out.trans (Keep.below hb_))) | ((with_reducible refine gate_dst (N := 20) rfl ?_); refine goesL_ (some 20) rfl rfl Try.func6 (by kernel_rfl) rfl #[.int .i64 a0] rfl (by (try simp only [List.map_toArray, List.map_cons, List.map_nil]); first | done | rfl | (simp; done)) ?_; have hs0_ := HS.out; (with_reducible refine (outbox_New.slcalls k _ _ _ _ _ _ (HF.out.keep HK.out) hs0_  Hc2.out).mono ?_); rintro e_ w10 ⟨g3000019, g3000020, rfl, hsr_, hkr_⟩; refine ⟨_, rfl, ?_⟩; replace HS := Aside0.mk (hsr_); replace HK := Aside0.mk (HK.out.trans hkr_)))
        go_ret
        replace HS := Aside0.mk (SL.tail (SL.tail HS.out))
        unfold barrowlaw26_OutboxPlays.Post
        exact ⟨by first | rfl | (simp; done) | (simp [*]; done) | (simp at c7b0 ⊢; first | exact c7b0 | (simp [c7b0]; done)), HS.out, HK.out⟩
      · replace c8 := Bool.eq_false_iff.mpr c8
        subst c8
        rw [if_neg (show ¬ (false = true) by decide)] at H
        exact absurd H (by simp)
    · rw [if_neg c7] at H
      have c7b0 : decide (60 < (l2.length : Int)) = false := decide_eq_false c7
      have c7b1 : decide (60 < l2.length) = false := decide_eq_false (by omega)
      clear c7
      replace H := Option.bind_eq_some_iff.1 H
      obtain ⟨⟨t399, t400, t401⟩, Hc110, H⟩ := H
      try dsimp only at H
      have Hc11 := Aside0.mk Hc110
      clear Hc110
      have H' := Aside0.mk H
      clear H
      go_enter Try.func3, Try.ntmps3
      go_wp2_with (first | ((with_reducible refine gate_dst (N := 18) rfl ?_); refine goesL_ (some 18) rfl rfl Try.func5 (by kernel_rfl) rfl #[] rfl (by (try simp only [List.map_toArray, List.map_cons, List.map_nil]); first | done | rfl | (simp; done)) ?_; (with_reducible refine (barrowlaw26_small.calls k _ _  Hc1.out).mono ?_); rintro e_ w12 ⟨rfl, hb_⟩; refine ⟨_, rfl, ?_⟩; replace HS := Aside0.mk (HS.out.below hb_); replace HK := Aside0.mk (HK.out.trans (Keep.below hb_))) | ((with_reducible refine gate_dst (N := 20) rfl ?_); refine goesL_ (some 20) rfl rfl Try.func6 (by kernel_rfl) rfl #[.int .i64 a0] rfl (by (try simp only [List.map_toArray, List.map_cons, List.map_nil]); first | done | rfl | (simp; done)) ?_; have hs0_ := HS.out; (with_reducible refine (outbox_New.slcalls k _ _ _ _ _ _ (HF.out.keep HK.out) hs0_  Hc2.out).mono ?_); rintro e_ w13 ⟨g3000019, g3000020, rfl, hsr_, hkr_⟩; refine ⟨_, rfl, ?_⟩; replace HS := Aside0.mk (hsr_); replace HK := Aside0.mk (HK.out.trans hkr_)) | ((with_reducible refine gate_dst (N := 39) rfl ?_); refine goesL_ (some 39) rfl rfl Try.func7 (by kernel_rfl) rfl #[.int .i64 a0] rfl (by (try simp only [List.map_toArray, List.map_cons, List.map_nil]); first | done | rfl | (simp; done)) ?_; have hs0_ := HS.out; (with_reducible refine (barrowref26_New.slcalls k _ _ _ _ _ _ _ (HF.out.keep HK.out) hs0_  Hc11.out).mono ?_); rintro e_ w14 ⟨g3000021, Az3000022, cz3000022, rfl, hsr_, hkr_⟩; refine ⟨_, rfl, ?_⟩; replace HS := Aside0.mk (hsr_); replace HK := Aside0.mk (HK.out.trans hkr_)))
      try go_simp
      go_loopg [10] k (fun kq v10 w' => ∃ (y3000022_0 : List (List Int)) (x3000021_2_0 : Bool) (A3000022_0 : Option Addr) (c3000022_0 : Nat) (x3000019_1_0 : Bool) (y3000020_0 : Int × List (List Int)) (x10_0 : Int), v10 = .int .i64 x10_0 ∧ Aside0 (barrowlaw26_OutboxPlays.l0 kq l1 l2 x10_0 t396 t400 y3000022_0 y3000020_0 x3000021_2_0 x3000019_1_0 = some r) ∧ Aside0 (kq ≤ k) ∧ Aside0 (SL (cells g3000021 36 [.slice A3000022_0 y3000022_0.length c3000022_0, .int .i64 t400, .bool x3000021_2_0].toArray :: rows (inn (Kd.int .u8) 5) 1 32 (.slice A3000022_0 y3000022_0.length c3000022_0) y3000022_0 :: cells g3000019 41 [.chan (some g3000020), .bool x3000019_1_0].toArray :: chano g3000020 (inn (Kd.int .u8) 5) y3000020_0 :: L) w' S) ∧ Aside0 (Keep S w w'))
      case atStart => exact ⟨(t399), (t401), (Az3000022), (cz3000022), (t397), (t398), (0), (by first | rfl | (simp; done) | (simp [*]; done)), H', ⟨Nat.le_refl _⟩, HS, HK⟩
      case round =>
        clear H' HS HK
        obtain ⟨y3000022_0, x3000021_2_0, A3000022_0, c3000022_0, x3000019_1_0, y3000020_0, x10_0, rfl, HA, HQ1, HS, HK⟩ := hrel
        cases gk with
        | zero => exact absurd HA.out (by simp [barrowlaw26_OutboxPlays.l0])
        | succ k1 =>
          have H := HA.out
          clear HA
          simp only [barrowlaw26_OutboxPlays.l0] at H
          by_cases c15 : x10_0 < (l1.length : Int)
          · rw [if_pos c15] at H
            have c15b0 : decide (x10_0 < (l1.length : Int)) = true := decide_eq_true c15
            clear c15
            by_cases c16 : 0 ≤ x10_0
            · rw [if_pos c16] at H
              have c16b0 : decide (0 ≤ x10_0) = true := decide_eq_true c16
              clear c16
              by_cases c17 : (Go.bits .and .i64 ((rd_T29 l1 x10_0).f0) 7) = 6
              · rw [if_pos c17] at H
                have c17b0 : ((Go.bits .and .i64 ((rd_T29 l1 x10_0).f0) 7) == 6) = true := beq_iff_eq.mpr c17
                have c17b1 : ((Go.bits .and .i64 ((rd_T29 l1 x10_0).f0) 7) != 6) = false := bne_eq_false_iff_eq.mpr c17
                clear c17
                replace H := Option.bind_eq_some_iff.1 H
                obtain ⟨⟨t487, t488⟩, Hc180, H⟩ := H
                try dsimp only at H
                have Hc18 := Aside0.mk Hc180
                clear Hc180
                replace H := Option.bind_eq_some_iff.1 H
                obtain ⟨⟨t489, t490⟩, Hc190, H⟩ := H
                try dsimp only at H
                have Hc19 := Aside0.mk Hc190
                clear Hc190
                replace H := Option.bind_eq_some_iff.1 H
                obtain ⟨t495, Hc200, H⟩ := H
                try dsimp only at H
                have Hc20 := Aside0.mk Hc200
                clear Hc200
                by_cases c21 : t495 = (t489.length : Int)
                · rw [if_pos c21] at H
                  have c21b0 : (t495 == (t489.length : Int)) = true := beq_iff_eq.mpr c21
                  have c21b1 : (t495 != (t489.length : Int)) = false := bne_eq_false_iff_eq.mpr c21
                  clear c21
                  replace H := Option.bind_eq_some_iff.1 H
                  obtain ⟨t496, Hc220, H⟩ := H
                  try dsimp only at H
                  have Hc22 := Aside0.mk Hc220
                  clear Hc220
                  by_cases c23 : (t496 != t490) = true
                  · rw [if_pos c23] at H
                    exact absurd H (by simp)
                  · rw [if_neg c23] at H
                    have c23b0 : (t496 != t490) = false := by simpa using c23
                    (try (have c23b1 : decide (t496 = t490) = true := by simpa using c23))
                    (try (have c23b2 : (t496 == t490) = true := by simpa using c23))
                    clear c23
                    have H' := Aside0.mk H
                    clear H
                    have pq486 : 0 ≤ (x10_0 : Int) := of_decide_eq_true (by first | (with_reducible assumption) | assumption)
                    have qq486 : x10_0 < ((l1.length : Int) : Int) := of_decide_eq_true (by first | (with_reducible assumption) | assumption)
                    obtain ⟨adq486, eq486, hxq486_0, hxq486_1⟩ := at_T29 (RO.at_ HR1.out HK.out) x10_0 pq486 qq486
                    cases eq486
                    replace pq486 := eq_true pq486
                    replace qq486 := eq_true qq486
                    try go_wp2_with (first | ((with_reducible refine gate_dst (N := 90) rfl ?_); refine goesL_ (some 90) rfl rfl Try.func8 (by kernel_rfl) rfl #[.pointer (some ⟨g3000019, 0, none⟩)] rfl (by (try simp only [List.map_toArray, List.map_cons, List.map_nil]); first | done | rfl | (simp; done)) ?_; have hs0_ := (SL.get3 (SL.get3 HS.out)); (with_reducible refine (outbox_Box_Again_i1.slcalls k1 _ _ _ _ _ _ _ _ _ (HF.out.keep HK.out) hs0_  Hc18.out).mono ?_); rintro e_ w24 ⟨rfl, hsr_, hkr_⟩; refine ⟨_, rfl, ?_⟩; replace HS := Aside0.mk (hsr_); replace HK := Aside0.mk (HK.out.trans hkr_)) | ((with_reducible refine gate_dst (N := 92) rfl ?_); refine goesL_ (some 92) rfl rfl Try.func9 (by kernel_rfl) rfl #[.pointer (some ⟨g3000021, 0, none⟩)] rfl (by (try simp only [List.map_toArray, List.map_cons, List.map_nil]); first | done | rfl | (simp; done)) ?_; have hs0_ := (SL.get3 (SL.get3 HS.out)); (with_reducible refine (barrowref26_Box_Again.slcalls _ _ _ _ _ _ _ _ _ _ _ (HF.out.keep HK.out) hs0_  Hc19.out).mono ?_); rintro e_ w25 ⟨A491, c492, rfl, hsr_, hkr_⟩; refine ⟨_, rfl, ?_⟩; replace HS := Aside0.mk (hsr_); replace HK := Aside0.mk (HK.out.trans hkr_)))
                    refine start_ (n := 21) (S := fun w' => w'.cell? ⟨g3000021, 0, none⟩ = some (.slice A491 t489.length c492) ∧ w'.cell? ⟨g3000021, 2, none⟩ = some (.bool t490)) (ds := []) #[false, false, false, false, false, false, false, false, false, false, false, false, false, false, false, false, false, false, false, false, false] (by kernel_rfl) rfl rfl ⟨(((blk_cell (SL.at_ HS.out) 0).trans rfl)), (((blk_cell (SL.at_ HS.out) 2).trans rfl))⟩ (fun hHeld => ?_); refine with_tabW barrowlaw26_OutboxPlays.tab33 barrowlaw26_OutboxPlays.bits33 (fun HT_ HW_ => ?_)
                    replace HK := Aside0.mk (Keep.drew HK.out)
                    replace HS := Aside0.mk (SL.drew HS.out)
                    refine pure_ (i := 0) (N := some 138) (v := ?_) (a' := ?_) #[true, false, false, false, false, false, false, false, false, false, false, false, false, false, false, false, false, false, false, false, false] rfl rfl (any_of HT_.out (by kernel_rfl)) (fun _ _ _ h => h) (Or.inl ⟨by rfl, ?_⟩) ?_ ?_; rotate_left; · (intro w'; go_simp; with_reducible rfl)
                    rotate_left; · (simp only [Act.put, sT, sZ, sS, i64_w, i32_w]; rfl)
                    refine pure_ (i := 1) (N := some 139) (v := ?_) (a' := ?_) #[true, true, false, false, false, false, false, false, false, false, false, false, false, false, false, false, false, false, false, false, false] rfl rfl (any_of HT_.out (by kernel_rfl)) (fun _ _ _ h => h) (Or.inl ⟨by rfl, ?_⟩) ?_ ?_; rotate_left; · (intro w'; go_simp; with_reducible rfl)
                    rotate_left; · (simp only [Act.put, sT, sZ, sS, i64_w, i32_w]; rfl)
                    refine pure_ (i := 2) (N := some 140) (v := ?_) (a' := ?_) #[true, true, true, false, false, false, false, false, false, false, false, false, false, false, false, false, false, false, false, false, false] rfl rfl (any_of HT_.out (by kernel_rfl)) (fun _ _ _ h => h) (Or.inl ⟨by rfl, ?_⟩) ?_ ?_; rotate_left; · (intro w'; go_simp; with_reducible rfl)
                    rotate_left; · (simp only [Act.put, sT, sZ, sS, i64_w, i32_w]; rfl)
                    refine pure_ (i := 3) (N := some 141) (v := ?_) (a' := ?_) #[true, true, true, true, false, false, false, false, false, false, false, false, false, false, false, false, false, false, false, false, false] rfl rfl (any_of HT_.out (by kernel_rfl)) (fun _ _ _ h => h) (Or.inl ⟨by rfl, ?_⟩) ?_ ?_; rotate_left; · (intro w'; go_simp; with_reducible rfl)
                    rotate_left; · (simp only [Act.put, sT, sZ, sS, i64_w, i32_w]; rfl)
                    refine pure_ (i := 5) (N := some 143) (v := ?_) (a' := ?_) #[true, true, true, true, false, true, false, false, false, false, false, false, false, false, false, false, false, false, false, false, false] rfl rfl (any_of HT_.out (by kernel_rfl)) (fun _ _ _ h => h) (Or.inl ⟨by rfl, ?_⟩) ?_ ?_; rotate_left; · (intro w'; go_simp; with_reducible rfl)
                    rotate_left; · (simp only [Act.put, sT, sZ, sS, i64_w, i32_w]; rfl)
                    refine pure_ (i := 6) (N := some 144) (v := ?_) (a' := ?_) #[true, true, true, true, false, true, true, false, false, false, false, false, false, false, false, false, false, false, false, false, false] rfl rfl (any_of HT_.out (by kernel_rfl)) (fun _ _ _ h => h) (Or.inl ⟨by rfl, ?_⟩) ?_ ?_; rotate_left; · (intro w'; go_simp; with_reducible rfl)
                    rotate_left; · (simp only [Act.put, sT, sZ, sS, i64_w, i32_w]; rfl)
                    refine pure_ (i := 7) (N := some 145) (v := ?_) (a' := ?_) #[true, true, true, true, false, true, true, true, false, false, false, false, false, false, false, false, false, false, false, false, false] rfl rfl (any_of HT_.out (by kernel_rfl)) (fun _ _ _ h => h) (Or.inl ⟨by rfl, ?_⟩) ?_ ?_; rotate_left; · (intro w'; go_simp; with_reducible rfl)
                    rotate_left; · (simp only [Act.put, sT, sZ, sS, i64_w, i32_w]; rfl)
                    refine take_ (i := 8) (N := some 146) (v := ?_) (a' := ?_) #[true, true, true, true, false, true, true, true, true, false, false, false, false, false, false, false, false, false, false, false, false] rfl rfl (take_ofW HT_.out HW_.out (by kernel_rfl)) (fun _ _ _ h => h) (Or.inl ⟨by rfl, ?_⟩) hHeld ?_ ?_; rotate_left
                    · rintro w' ⟨s0, s1⟩
                      go_simp
                      with_reducible rfl
                    rotate_left; · (simp only [Act.put, sT, sZ, sS, i64_w, i32_w]; rfl)
                    refine pure_ (i := 9) (N := some 147) (v := ?_) (a' := ?_) #[true, true, true, true, false, true, true, true, true, true, false, false, false, false, false, false, false, false, false, false, false] rfl rfl (any_of HT_.out (by kernel_rfl)) (fun _ _ _ h => h) (Or.inl ⟨by rfl, ?_⟩) ?_ ?_; rotate_left; · (intro w'; go_simp; with_reducible rfl)
                    rotate_left; · (simp only [Act.put, sT, sZ, sS, i64_w, i32_w]; rfl)
                    refine one_ (i := 4) (N := some 142) #[true, true, true, true, true, true, true, true, true, true, false, false, false, false, false, false, false, false, false, false, false] rfl rfl (one_of HT_.out (by kernel_rfl)) (by decide) (fun K hK => ?_)
                    refine goes_ Try.func15 (by kernel_rfl) rfl #[.pointer (some ⟨g3000019, 0, none⟩)] (by rfl) rfl rfl (by (try simp only [List.map_toArray, List.map_cons, List.map_nil]); first | done | rfl | (simp; done)) ?_
                    have hs0_ := (SL.get3 (SL.get3 HS.out))
                    (with_reducible refine (outbox_Box_Len_i1.slcalls _ _ _ _ _ _ _ _ (HF.out.keep HK.out) hs0_  Hc20.out).mono ?_)
                    rintro e_ w26 ⟨rfl, hsr_, hkr_⟩
                    refine ⟨_, rfl, ?_⟩
                    replace HS := Aside0.mk (hsr_)
                    replace HK := Aside0.mk (HK.out.trans hkr_)
                    refine hK.out _ _ ⟨(((blk_cell (SL.at_ (SL.get2 HS.out)) 0).trans rfl)), (((blk_cell (SL.at_ (SL.get2 HS.out)) 2).trans rfl))⟩ (fun hHeld => ?_)
                    clear hK K
                    refine norm_ (a' := ?_) ?_ ?_; rotate_left
                    · show Act.put _ (some 142) _ = _
                      simp only [Act.put, sT, sZ, sS, i64_w, i32_w]
                      rfl
                    refine pure_ (i := 10) (N := some 148) (v := ?_) (a' := ?_) #[true, true, true, true, true, true, true, true, true, true, true, false, false, false, false, false, false, false, false, false, false] rfl rfl (any_of HT_.out (by kernel_rfl)) (fun _ _ _ h => h) (Or.inl ⟨by rfl, ?_⟩) ?_ ?_; rotate_left; · (intro w'; go_simp; with_reducible rfl)
                    rotate_left; · (simp only [Act.put, sT, sZ, sS, i64_w, i32_w]; rfl)
                    refine pure_ (i := 11) (N := some 149) (v := ?_) (a' := ?_) #[true, true, true, true, true, true, true, true, true, true, true, true, false, false, false, false, false, false, false, false, false] rfl rfl (any_of HT_.out (by kernel_rfl)) (fun _ _ _ h => h) (Or.inl ⟨by rfl, ?_⟩) ?_ ?_; rotate_left; · (intro w'; go_simp; with_reducible rfl)
                    rotate_left; · (simp only [Act.put, sT, sZ, sS, i64_w, i32_w]; rfl)
                    refine pure_ (i := 12) (N := some 150) (v := ?_) (a' := ?_) #[true, true, true, true, true, true, true, true, true, true, true, true, true, false, false, false, false, false, false, false, false] rfl rfl (any_of HT_.out (by kernel_rfl)) (fun _ _ _ h => h) (Or.inl ⟨by rfl, ?_⟩) ?_ ?_; rotate_left; · (intro w'; go_simp; with_reducible rfl)
                    rotate_left; · (simp only [Act.put, sT, sZ, sS, i64_w, i32_w]; rfl)
                    refine pure_ (i := 13) (N := some 151) (v := ?_) (a' := ?_) #[true, true, true, true, true, true, true, true, true, true, true, true, true, true, false, false, false, false, false, false, false] rfl rfl (any_of HT_.out (by kernel_rfl)) (fun _ _ _ h => h) (Or.inl ⟨by rfl, ?_⟩) ?_ ?_; rotate_left; · (intro w'; go_simp; with_reducible rfl)
                    rotate_left; · (simp only [Act.put, sT, sZ, sS, i64_w, i32_w]; rfl)
                    refine pure_ (i := 15) (N := some 153) (v := ?_) (a' := ?_) #[true, true, true, true, true, true, true, true, true, true, true, true, true, true, false, true, false, false, false, false, false] rfl rfl (any_of HT_.out (by kernel_rfl)) (fun _ _ _ h => h) (Or.inl ⟨by rfl, ?_⟩) ?_ ?_; rotate_left; · (intro w'; go_simp; with_reducible rfl)
                    rotate_left; · (simp only [Act.put, sT, sZ, sS, i64_w, i32_w]; rfl)
                    refine pure_ (i := 16) (N := some 154) (v := ?_) (a' := ?_) #[true, true, true, true, true, true, true, true, true, true, true, true, true, true, false, true, true, false, false, false, false] rfl rfl (any_of HT_.out (by kernel_rfl)) (fun _ _ _ h => h) (Or.inl ⟨by rfl, ?_⟩) ?_ ?_; rotate_left; · (intro w'; go_simp; with_reducible rfl)
                    rotate_left; · (simp only [Act.put, sT, sZ, sS, i64_w, i32_w]; rfl)
                    refine pure_ (i := 17) (N := some 155) (v := ?_) (a' := ?_) #[true, true, true, true, true, true, true, true, true, true, true, true, true, true, false, true, true, true, false, false, false] rfl rfl (any_of HT_.out (by kernel_rfl)) (fun _ _ _ h => h) (Or.inl ⟨by rfl, ?_⟩) ?_ ?_; rotate_left; · (intro w'; go_simp; with_reducible rfl)
                    rotate_left; · (simp only [Act.put, sT, sZ, sS, i64_w, i32_w]; rfl)
                    refine take_ (i := 18) (N := some 156) (v := ?_) (a' := ?_) #[true, true, true, true, true, true, true, true, true, true, true, true, true, true, false, true, true, true, true, false, false] rfl rfl (take_ofW HT_.out HW_.out (by kernel_rfl)) (fun _ _ _ h => h) (Or.inl ⟨by rfl, ?_⟩) hHeld ?_ ?_; rotate_left
                    · rintro w' ⟨s0, s1⟩
                      go_simp
                      with_reducible rfl
                    rotate_left; · (simp only [Act.put, sT, sZ, sS, i64_w, i32_w]; rfl)
                    refine one_ (i := 14) (N := some 152) #[true, true, true, true, true, true, true, true, true, true, true, true, true, true, true, true, true, true, true, false, false] rfl rfl (one_of HT_.out (by kernel_rfl)) (by decide) (fun K hK => ?_)
                    refine goes_ Try.func16 (by kernel_rfl) rfl #[.pointer (some ⟨g3000019, 0, none⟩)] (by rfl) rfl rfl (by (try simp only [List.map_toArray, List.map_cons, List.map_nil]); first | done | rfl | (simp; done)) ?_
                    have hs0_ := (SL.get1 (SL.get1 HS.out))
                    (with_reducible refine (outbox_Box_Lost_i1.slcalls _ _ _ _ _ _ _ _ (HF.out.keep HK.out) hs0_  Hc22.out).mono ?_)
                    rintro e_ w27 ⟨rfl, hsr_, hkr_⟩
                    refine ⟨_, rfl, ?_⟩
                    replace HS := Aside0.mk (hsr_)
                    replace HK := Aside0.mk (HK.out.trans hkr_)
                    refine hK.out _ _ ⟨(((blk_cell (SL.at_ (SL.get2 HS.out)) 0).trans rfl)), (((blk_cell (SL.at_ (SL.get2 HS.out)) 2).trans rfl))⟩ (fun hHeld => ?_)
                    clear hK K
                    refine norm_ (a' := ?_) ?_ ?_; rotate_left
                    · show Act.put _ (some 152) _ = _
                      simp only [Act.put, sT, sZ, sS, i64_w, i32_w]
                      rfl
                    refine pure_ (i := 19) (N := some 157) (v := ?_) (a' := ?_) #[true, true, true, true, true, true, true, true, true, true, true, true, true, true, true, true, true, true, true, true, false] rfl rfl (any_of HT_.out (by kernel_rfl)) (fun _ _ _ h => h) (Or.inl ⟨by rfl, ?_⟩) ?_ ?_; rotate_left; · (intro w'; go_simp; with_reducible rfl)
                    rotate_left; · (simp only [Act.put, sT, sZ, sS, i64_w, i32_w]; rfl)
                    refine pure_ (i := 20) (N := some 158) (v := ?_) (a' := ?_) #[true, true, true, true, true, true, true, true, true, true, true, true, true, true, true, true, true, true, true, true, true] rfl rfl (any_of HT_.out (by kernel_rfl)) (fun _ _ _ h => h) (Or.inl ⟨by rfl, ?_⟩) ?_ ?_; rotate_left; · (intro w'; go_simp; with_reducible rfl)
                    rotate_left; · (simp only [Act.put, sT, sZ, sS, i64_w, i32_w]; rfl)
                    refine done_ (done_of HT_.out (by kernel_rfl)) ?_
                    try go_wp2
                    replace HS := Aside0.mk (SL.get3 (SL.get3 (SL.get1 (SL.get1 HS.out))))
                    go_roundg k1
                    case measure => have := HQ1.out; omega
                    case rel => exact ⟨(t489), (t490), (A491), (c492), (t487), (t488), (wrap64 (x10_0 + 1)), (by first | rfl | (simp; done) | (simp [*]; done)), H', ⟨by have := HQ1.out; omega⟩, HS, HK⟩
                · rw [if_neg c21] at H
                  have c21b0 : (t495 == (t489.length : Int)) = false := beq_eq_false_iff_ne.mpr c21
                  have c21b1 : (t495 != (t489.length : Int)) = true := bne_iff_ne.mpr c21
                  exact absurd H (by simp)
              · rw [if_neg c17] at H
                have c17b0 : ((Go.bits .and .i64 ((rd_T29 l1 x10_0).f0) 7) == 6) = false := beq_eq_false_iff_ne.mpr c17
                have c17b1 : ((Go.bits .and .i64 ((rd_T29 l1 x10_0).f0) 7) != 6) = true := bne_iff_ne.mpr c17
                by_cases c28 : (Go.bits .and .i64 ((rd_T29 l1 x10_0).f0) 7) = 4
                · rw [if_pos c28] at H
                  have c28b0 : ((Go.bits .and .i64 ((rd_T29 l1 x10_0).f0) 7) == 4) = true := beq_iff_eq.mpr c28
                  have c28b1 : ((Go.bits .and .i64 ((rd_T29 l1 x10_0).f0) 7) != 4) = false := bne_eq_false_iff_eq.mpr c28
                  clear c28
                  replace H := Option.bind_eq_some_iff.1 H
                  obtain ⟨⟨t498, t499⟩, Hc290, H⟩ := H
                  try dsimp only at H
                  have Hc29 := Aside0.mk Hc290
                  clear Hc290
                  replace H := Option.bind_eq_some_iff.1 H
                  obtain ⟨⟨t501, t502⟩, Hc300, H⟩ := H
                  try dsimp only at H
                  have Hc30 := Aside0.mk Hc300
                  clear Hc300
                  replace H := Option.bind_eq_some_iff.1 H
                  obtain ⟨t505, Hc310, H⟩ := H
                  try dsimp only at H
                  have Hc31 := Aside0.mk Hc310
                  clear Hc310
                  have H' := Aside0.mk H
                  clear H
                  have pq486 : 0 ≤ (x10_0 : Int) := of_decide_eq_true (by first | (with_reducible assumption) | assumption)
                  have qq486 : x10_0 < ((l1.length : Int) : Int) := of_decide_eq_true (by first | (with_reducible assumption) | assumption)
                  obtain ⟨adq486, eq486, hxq486_0, hxq486_1⟩ := at_T29 (RO.at_ HR1.out HK.out) x10_0 pq486 qq486
                  cases eq486
                  replace pq486 := eq_true pq486
                  replace qq486 := eq_true qq486
                  go_wp2_with (first | ((with_reducible refine gate_dst (N := 102) rfl ?_); refine goesL_ (some 102) rfl rfl Try.func10 (by kernel_rfl) rfl #[.pointer (some ⟨g3000019, 0, none⟩), .int .i64 ((rd_T29 l1 x10_0).f1)] rfl (by (try simp only [List.map_toArray, List.map_cons, List.map_nil]); first | done | rfl | (simp; done)) ?_; have hs0_ := (SL.get3 (SL.get3 HS.out)); (with_reducible refine (outbox_Box_Drain_i1.slcalls k1 _ _ _ _ _ _ _ _ _ _ (HF.out.keep HK.out) hs0_  Hc29.out).mono ?_); rintro e_ w32 ⟨Az3000023, cz3000023, rfl, hsr_, hkr_⟩; refine ⟨_, rfl, ?_⟩; replace HS := Aside0.mk (hsr_); replace HK := Aside0.mk (HK.out.trans hkr_); have pq500 : 0 ≤ (x10_0 : Int) := of_decide_eq_true (by first | (with_reducible assumption) | assumption); have qq500 : x10_0 < ((l1.length : Int) : Int) := of_decide_eq_true (by first | (with_reducible assumption) | assumption); obtain ⟨adq500, eq500, hxq500_0, hxq500_1⟩ := at_T29 (RO.at_ HR1.out HK.out) x10_0 pq500 qq500; obtain rfl : adq486 = adq500 := (by injection eq500); replace pq500 := eq_true pq500; replace qq500 := eq_true qq500) | ((with_reducible refine gate_dst (N := 110) rfl ?_); refine goesL_ (some 110) rfl rfl Try.func12 (by kernel_rfl) rfl #[.pointer (some ⟨g3000021, 0, none⟩), .int .i64 ((rd_T29 l1 x10_0).f1)] rfl (by (try simp only [List.map_toArray, List.map_cons, List.map_nil]); first | done | rfl | (simp; done)) ?_; have hs0_ := (SL.get4 (SL.get4 HS.out)); (with_reducible refine (barrowref26_Box_Drain.slcalls _ _ _ _ _ _ _ _ _ _ _ _ (HF.out.keep HK.out) hs0_  Hc30.out).mono ?_); rintro e_ w33 ⟨A503, c504, Az3000024, cz3000024, rfl, hsr_, hkr_⟩; refine ⟨_, rfl, ?_⟩; replace HS := Aside0.mk (hsr_); replace HK := Aside0.mk (HK.out.trans hkr_)) | ((with_reducible refine gate_dst (N := 111) rfl ?_); refine goesL_ (some 111) rfl rfl Try.func11 (by kernel_rfl) rfl #[.slice Az3000023 t498.length cz3000023, .slice Az3000024 t501.length cz3000024] rfl (by (try simp only [List.map_toArray, List.map_cons, List.map_nil]); first | done | rfl | (simp; done)) ?_; (with_reducible refine (barrowref04_Same.calls k1 _ _ _ _ _ _ _ _ (rows_c (d := (Kd.slice 5 (Kd.int .u8))) reads_inn rfl (SL.get5 HS.out)).2.2 (rows_c (d := (Kd.slice 5 (Kd.int .u8))) reads_inn rfl (SL.get5 HS.out)).2.1 (rows_c (d := (Kd.slice 5 (Kd.int .u8))) reads_inn rfl (SL.get2 HS.out)).2.2 (rows_c (d := (Kd.slice 5 (Kd.int .u8))) reads_inn rfl (SL.get2 HS.out)).2.1 Hc31.out).mono ?_); rintro e_ w34 ⟨rfl, hb_⟩; refine ⟨_, rfl, ?_⟩; replace hb_ := Drawn0.below hb_; replace HS := Aside0.mk (HS.out.below hb_); replace HK := Aside0.mk (HK.out.trans (Keep.below hb_))))
                  try go_simp
                  go_loopg [13] k1 (fun kq v13 w' => ∃ (y3000023_201 : List (List Int)) (x13_201 : Int), v13 = .int .i64 x13_201 ∧ Aside0 (barrowlaw26_OutboxPlays.l201 kq l1 l2 x10_0 t396 t400 x3000021_2_0 x3000019_1_0 t498 t499 t502 t505 y3000023_201 x13_201 = some r) ∧ Aside0 (kq ≤ k1) ∧ Aside0 (SL (cells g3000021 36 [.slice A503 t502.length c504, .int .i64 t400, .bool x3000021_2_0].toArray :: rows (inn (Kd.int .u8) 5) 1 32 (.slice A503 t502.length c504) t502 :: rows (inn (Kd.int .u8) 5) 1 32 (.slice Az3000024 t501.length cz3000024) t501 :: cells g3000019 41 [.chan (some g3000020), .bool x3000019_1_0].toArray :: chano g3000020 (inn (Kd.int .u8) 5) t499 :: rows (inn (Kd.int .u8) 5) 1 32 (.slice Az3000023 t498.length cz3000023) y3000023_201 :: L) w' S) ∧ Aside0 (Keep S w w'))
                  case atStart => exact ⟨(t498), (0), (by first | rfl | (simp; done) | (simp [*]; done)), H', ⟨Nat.le_refl _⟩, HS, HK⟩
                  case round =>
                    clear H' HS HK
                    obtain ⟨y3000023_201, x13_201, rfl, HA, HQ2, HS, HK⟩ := hrel
                    cases gk with
                    | zero => exact absurd HA.out (by simp [barrowlaw26_OutboxPlays.l201])
                    | succ k2 =>
                      have H := HA.out
                      clear HA
                      simp only [barrowlaw26_OutboxPlays.l201] at H
                      by_cases c35 : x13_201 < (t498.length : Int)
                      · rw [if_pos c35] at H
                        have c35b0 : decide (x13_201 < (t498.length : Int)) = true := decide_eq_true c35
                        clear c35
                        by_cases c36 : (t498.length : Int) > 0
                        · rw [if_pos c36] at H
                          have c36b0 : decide (0 < (t498.length : Int)) = true := decide_eq_true c36
                          have c36b1 : decide (0 < t498.length) = true := decide_eq_true (by omega)
                          clear c36
                          have H' := Aside0.mk H
                          clear H
                          go_wp2
                          go_loopg [14] k2 (fun kq v14 w' => ∃ (y3000023_202 : List (List Int)) (x14_202 : Int), v14 = .int .i64 x14_202 ∧ Aside0 (barrowlaw26_OutboxPlays.l202 kq l1 l2 x10_0 t396 t400 x3000021_2_0 x3000019_1_0 t498 t499 t502 t505 x13_201 y3000023_202 x14_202 = some r) ∧ Aside0 (kq ≤ k2) ∧ Aside0 (SL (cells g3000021 36 [.slice A503 t502.length c504, .int .i64 t400, .bool x3000021_2_0].toArray :: rows (inn (Kd.int .u8) 5) 1 32 (.slice A503 t502.length c504) t502 :: rows (inn (Kd.int .u8) 5) 1 32 (.slice Az3000024 t501.length cz3000024) t501 :: cells g3000019 41 [.chan (some g3000020), .bool x3000019_1_0].toArray :: chano g3000020 (inn (Kd.int .u8) 5) t499 :: rows (inn (Kd.int .u8) 5) 1 32 (.slice Az3000023 t498.length cz3000023) y3000023_202 :: L) w' S) ∧ Aside0 (Keep S w w'))
                          case atStart => exact ⟨(y3000023_201), (0), (by first | rfl | (simp; done) | (simp [*]; done)), H', ⟨Nat.le_refl _⟩, HS, HK⟩
                          case round =>
                            clear H' HS HK
                            obtain ⟨y3000023_202, x14_202, rfl, HA, HQ3, HS, HK⟩ := hrel
                            cases gk with
                            | zero => exact absurd HA.out (by simp [barrowlaw26_OutboxPlays.l202])
                            | succ k3 =>
                              have H := HA.out
                              clear HA
                              simp only [barrowlaw26_OutboxPlays.l202] at H
                              by_cases c37 : 0 ≤ x13_201
                              · rw [if_pos c37] at H
                                have c37b0 : decide (0 ≤ x13_201) = true := decide_eq_true c37
                                clear c37
                                by_cases c38 : x13_201 < (t498.length : Int)
                                · rw [if_pos c38] at H
                                  have c38b0 : decide (x13_201 < (t498.length : Int)) = true := decide_eq_true c38
                                  clear c38
                                  replace H := Option.bind_eq_some_iff.1 H
                                  obtain ⟨y507, hy5070, H⟩ := H
                                  try dsimp only at H
                                  have hy507 := Option.some.inj hy5070
                                  clear hy5070
                                  have Ny507 := Aside0.mk hy507
                                  clear hy507
                                  by_cases c39 : x14_202 < (y507.length : Int)
                                  · rw [if_pos c39] at H
                                    have c39b0 : decide (x14_202 < (y507.length : Int)) = true := decide_eq_true c39
                                    clear c39
                                    by_cases c40 : 0 ≤ x14_202
                                    · rw [if_pos c40] at H
                                      have c40b0 : decide (0 ≤ x14_202) = true := decide_eq_true c40
                                      clear c40
                                      replace H := Option.bind_eq_some_iff.1 H
                                      obtain ⟨y510, hy5100, H⟩ := H
                                      try dsimp only at H
                                      have hy510 := Option.some.inj hy5100
                                      clear hy5100
                                      have Ny510 := Aside0.mk hy510
                                      clear hy510
                                      have H' := Aside0.mk H
                                      clear H
                                      have pq506 : 0 ≤ (x13_201 : Int) := of_decide_eq_true (by first | (with_reducible assumption) | assumption)
                                      have qq506 : x13_201 < ((t498.length : Int) : Int) := of_decide_eq_true (by first | (with_reducible assumption) | assumption)
                                      obtain ⟨adq506, Aq506_0, cq506_0, eq506, hxq506_0, hiq506, hlq506⟩ := rows_at (SL.get5 HS.out) rfl x13_201 pq506 qq506 y507 Ny507.out
                                      have HVq506_0 := Aside0.mk hiq506
                                      have HCq506_0 := Aside0.mk hlq506
                                      clear hiq506 hlq506
                                      cases eq506
                                      replace pq506 := eq_true pq506
                                      replace qq506 := eq_true qq506
                                      have pq509 : 0 ≤ (x14_202 : Int) := of_decide_eq_true (by first | (with_reducible assumption) | assumption)
                                      have qq509 : x14_202 < ((y507.length : Int) : Int) := of_decide_eq_true (by first | (with_reducible assumption) | assumption)
                                      obtain ⟨adq509, eq509, hxq509_0⟩ := Kd.at_int HVq506_0.out x14_202 pq509 qq509
                                      cases eq509
                                      replace pq509 := eq_true pq509
                                      replace qq509 := eq_true qq509
                                      go_wp2_with (first | ((with_reducible refine gate_store (t := 5) (p := 137) (v := (.const (.int .u8 99))) rfl ?_); refine wpList_plain rfl (fun K_ hK_ => ?_); refine op_setI (S := S) (enc := Value.int .u8) (h1 := fun _ => rfl) 5 (.tmp 137) (.const (.int .u8 99)) rfl adq506 (x13_201) (SL.get5 HS.out) (of_decide_eq_true (by first | (with_reducible assumption) | assumption)) (of_decide_eq_true (by first | (with_reducible assumption) | assumption)) adq509 y507.length cq506_0 hxq506_0 (x14_202) 99 (by rfl) rfl (by kernel_rfl) (of_decide_eq_true (by first | (with_reducible assumption) | assumption)) (of_decide_eq_true (by first | (with_reducible assumption) | assumption)) y507 Ny507.out y510 Ny510.out ?_; intro w41 hs_ hk_; refine hK_ _ _ ?_; clear hK_ K_; replace HS := Aside0.mk ((SL.back5 (show SL (rows (inn (Kd.int .u8) 5) 1 32 (.slice (some adq506) t498.length cz3000023) y510 :: _) _ _ from hs_))); replace HK := Aside0.mk (HK.out.trans hk_)))
                                      go_roundg k3
                                      case measure => have := HQ1.out; have := HQ2.out; have := HQ3.out; omega
                                      case rel => exact ⟨(y510), (wrap64 (x14_202 + 1)), (by first | rfl | (simp; done) | (simp [*]; done)), H', ⟨by have := HQ1.out; have := HQ2.out; have := HQ3.out; omega⟩, HS, HK⟩
                                    · rw [if_neg c40] at H
                                      exact absurd H (by simp)
                                  · rw [if_neg c39] at H
                                    have c39b0 : decide (x14_202 < (y507.length : Int)) = false := decide_eq_false c39
                                    clear c39
                                    have H' := Aside0.mk H
                                    clear H
                                    have pq506 : 0 ≤ (x13_201 : Int) := of_decide_eq_true (by first | (with_reducible assumption) | assumption)
                                    have qq506 : x13_201 < ((t498.length : Int) : Int) := of_decide_eq_true (by first | (with_reducible assumption) | assumption)
                                    obtain ⟨adq506, Aq506_0, cq506_0, eq506, hxq506_0, hiq506, hlq506⟩ := rows_at (SL.get5 HS.out) rfl x13_201 pq506 qq506 y507 Ny507.out
                                    have HVq506_0 := Aside0.mk hiq506
                                    have HCq506_0 := Aside0.mk hlq506
                                    clear hiq506 hlq506
                                    cases eq506
                                    replace pq506 := eq_true pq506
                                    replace qq506 := eq_true qq506
                                    go_wp2
                                    go_roundg k3
                                    case measure => have := HQ1.out; have := HQ2.out; have := HQ3.out; omega
                                    case rel => exact ⟨(y3000023_202), (wrap64 (x13_201 + 1)), (by first | rfl | (simp; done) | (simp [*]; done)), H', ⟨by have := HQ1.out; have := HQ2.out; have := HQ3.out; omega⟩, HS, HK⟩
                                · rw [if_neg c38] at H
                                  exact absurd H (by simp)
                              · rw [if_neg c37] at H
                                exact absurd H (by simp)
                        · rw [if_neg c36] at H
                          have c36b0 : decide (0 < (t498.length : Int)) = false := decide_eq_false c36
                          have c36b1 : decide (0 < t498.length) = false := decide_eq_false (by omega)
                          clear c36
                          by_cases c42 : t505 = true
                          · subst c42
                            rw [if_pos rfl] at H
                            replace H := Option.bind_eq_some_iff.1 H
                            obtain ⟨t513, Hc430, H⟩ := H
                            try dsimp only at H
                            have Hc43 := Aside0.mk Hc430
                            clear Hc430
                            by_cases c44 : t513 = (t502.length : Int)
                            · rw [if_pos c44] at H
                              have c44b0 : (t513 == (t502.length : Int)) = true := beq_iff_eq.mpr c44
                              have c44b1 : (t513 != (t502.length : Int)) = false := bne_eq_false_iff_eq.mpr c44
                              clear c44
                              replace H := Option.bind_eq_some_iff.1 H
                              obtain ⟨t514, Hc450, H⟩ := H
                              try dsimp only at H
                              have Hc45 := Aside0.mk Hc450
                              clear Hc450
                              by_cases c46 : (t514 != x3000021_2_0) = true
                              · rw [if_pos c46] at H
                                exact absurd H (by simp)
                              · rw [if_neg c46] at H
                                have c46b0 : (t514 != x3000021_2_0) = false := by simpa using c46
                                (try (have c46b1 : decide (t514 = x3000021_2_0) = true := by simpa using c46))
                                (try (have c46b2 : (t514 == x3000021_2_0) = true := by simpa using c46))
                                clear c46
                                have H' := Aside0.mk H
                                clear H
                                try go_wp2
                                refine start_ (n := 21) (S := fun w' => w'.cell? ⟨g3000021, 0, none⟩ = some (.slice A503 t502.length c504) ∧ w'.cell? ⟨g3000021, 2, none⟩ = some (.bool x3000021_2_0)) (ds := []) #[false, false, false, false, false, false, false, false, false, false, false, false, false, false, false, false, false, false, false, false, false] (by kernel_rfl) rfl rfl ⟨(((blk_cell (SL.at_ HS.out) 0).trans rfl)), (((blk_cell (SL.at_ HS.out) 2).trans rfl))⟩ (fun hHeld => ?_); refine with_tabW barrowlaw26_OutboxPlays.tab33 barrowlaw26_OutboxPlays.bits33 (fun HT_ HW_ => ?_)
                                replace HK := Aside0.mk (Keep.drew HK.out)
                                replace HS := Aside0.mk (SL.drew HS.out)
                                refine pure_ (i := 0) (N := some 138) (v := ?_) (a' := ?_) #[true, false, false, false, false, false, false, false, false, false, false, false, false, false, false, false, false, false, false, false, false] rfl rfl (any_of HT_.out (by kernel_rfl)) (fun _ _ _ h => h) (Or.inl ⟨by rfl, ?_⟩) ?_ ?_; rotate_left; · (intro w'; go_simp; with_reducible rfl)
                                rotate_left; · (simp only [Act.put, sT, sZ, sS, i64_w, i32_w]; rfl)
                                refine pure_ (i := 1) (N := some 139) (v := ?_) (a' := ?_) #[true, true, false, false, false, false, false, false, false, false, false, false, false, false, false, false, false, false, false, false, false] rfl rfl (any_of HT_.out (by kernel_rfl)) (fun _ _ _ h => h) (Or.inl ⟨by rfl, ?_⟩) ?_ ?_; rotate_left; · (intro w'; go_simp; with_reducible rfl)
                                rotate_left; · (simp only [Act.put, sT, sZ, sS, i64_w, i32_w]; rfl)
                                refine pure_ (i := 2) (N := some 140) (v := ?_) (a' := ?_) #[true, true, true, false, false, false, false, false, false, false, false, false, false, false, false, false, false, false, false, false, false] rfl rfl (any_of HT_.out (by kernel_rfl)) (fun _ _ _ h => h) (Or.inl ⟨by rfl, ?_⟩) ?_ ?_; rotate_left; · (intro w'; go_simp; with_reducible rfl)
                                rotate_left; · (simp only [Act.put, sT, sZ, sS, i64_w, i32_w]; rfl)
                                refine pure_ (i := 3) (N := some 141) (v := ?_) (a' := ?_) #[true, true, true, true, false, false, false, false, false, false, false, false, false, false, false, false, false, false, false, false, false] rfl rfl (any_of HT_.out (by kernel_rfl)) (fun _ _ _ h => h) (Or.inl ⟨by rfl, ?_⟩) ?_ ?_; rotate_left; · (intro w'; go_simp; with_reducible rfl)
                                rotate_left; · (simp only [Act.put, sT, sZ, sS, i64_w, i32_w]; rfl)
                                refine pure_ (i := 5) (N := some 143) (v := ?_) (a' := ?_) #[true, true, true, true, false, true, false, false, false, false, false, false, false, false, false, false, false, false, false, false, false] rfl rfl (any_of HT_.out (by kernel_rfl)) (fun _ _ _ h => h) (Or.inl ⟨by rfl, ?_⟩) ?_ ?_; rotate_left; · (intro w'; go_simp; with_reducible rfl)
                                rotate_left; · (simp only [Act.put, sT, sZ, sS, i64_w, i32_w]; rfl)
                                refine pure_ (i := 6) (N := some 144) (v := ?_) (a' := ?_) #[true, true, true, true, false, true, true, false, false, false, false, false, false, false, false, false, false, false, false, false, false] rfl rfl (any_of HT_.out (by kernel_rfl)) (fun _ _ _ h => h) (Or.inl ⟨by rfl, ?_⟩) ?_ ?_; rotate_left; · (intro w'; go_simp; with_reducible rfl)
                                rotate_left; · (simp only [Act.put, sT, sZ, sS, i64_w, i32_w]; rfl)
                                refine pure_ (i := 7) (N := some 145) (v := ?_) (a' := ?_) #[true, true, true, true, false, true, true, true, false, false, false, false, false, false, false, false, false, false, false, false, false] rfl rfl (any_of HT_.out (by kernel_rfl)) (fun _ _ _ h => h) (Or.inl ⟨by rfl, ?_⟩) ?_ ?_; rotate_left; · (intro w'; go_simp; with_reducible rfl)
                                rotate_left; · (simp only [Act.put, sT, sZ, sS, i64_w, i32_w]; rfl)
                                refine take_ (i := 8) (N := some 146) (v := ?_) (a' := ?_) #[true, true, true, true, false, true, true, true, true, false, false, false, false, false, false, false, false, false, false, false, false] rfl rfl (take_ofW HT_.out HW_.out (by kernel_rfl)) (fun _ _ _ h => h) (Or.inl ⟨by rfl, ?_⟩) hHeld ?_ ?_; rotate_left
                                · rintro w' ⟨s0, s1⟩
                                  go_simp
                                  with_reducible rfl
                                rotate_left; · (simp only [Act.put, sT, sZ, sS, i64_w, i32_w]; rfl)
                                refine pure_ (i := 9) (N := some 147) (v := ?_) (a' := ?_) #[true, true, true, true, false, true, true, true, true, true, false, false, false, false, false, false, false, false, false, false, false] rfl rfl (any_of HT_.out (by kernel_rfl)) (fun _ _ _ h => h) (Or.inl ⟨by rfl, ?_⟩) ?_ ?_; rotate_left; · (intro w'; go_simp; with_reducible rfl)
                                rotate_left; · (simp only [Act.put, sT, sZ, sS, i64_w, i32_w]; rfl)
                                refine one_ (i := 4) (N := some 142) #[true, true, true, true, true, true, true, true, true, true, false, false, false, false, false, false, false, false, false, false, false] rfl rfl (one_of HT_.out (by kernel_rfl)) (by decide) (fun K hK => ?_)
                                refine goes_ Try.func15 (by kernel_rfl) rfl #[.pointer (some ⟨g3000019, 0, none⟩)] (by rfl) rfl rfl (by (try simp only [List.map_toArray, List.map_cons, List.map_nil]); first | done | rfl | (simp; done)) ?_
                                have hs0_ := (SL.get4 (SL.get4 HS.out))
                                (with_reducible refine (outbox_Box_Len_i1.slcalls _ _ _ _ _ _ _ _ (HF.out.keep HK.out) hs0_  Hc43.out).mono ?_)
                                rintro e_ w47 ⟨rfl, hsr_, hkr_⟩
                                refine ⟨_, rfl, ?_⟩
                                replace HS := Aside0.mk (hsr_)
                                replace HK := Aside0.mk (HK.out.trans hkr_)
                                refine hK.out _ _ ⟨(((blk_cell (SL.at_ (SL.get2 HS.out)) 0).trans rfl)), (((blk_cell (SL.at_ (SL.get2 HS.out)) 2).trans rfl))⟩ (fun hHeld => ?_)
                                clear hK K
                                refine norm_ (a' := ?_) ?_ ?_; rotate_left
                                · show Act.put _ (some 142) _ = _
                                  simp only [Act.put, sT, sZ, sS, i64_w, i32_w]
                                  rfl
                                refine pure_ (i := 10) (N := some 148) (v := ?_) (a' := ?_) #[true, true, true, true, true, true, true, true, true, true, true, false, false, false, false, false, false, false, false, false, false] rfl rfl (any_of HT_.out (by kernel_rfl)) (fun _ _ _ h => h) (Or.inl ⟨by rfl, ?_⟩) ?_ ?_; rotate_left; · (intro w'; go_simp; with_reducible rfl)
                                rotate_left; · (simp only [Act.put, sT, sZ, sS, i64_w, i32_w]; rfl)
                                refine pure_ (i := 11) (N := some 149) (v := ?_) (a' := ?_) #[true, true, true, true, true, true, true, true, true, true, true, true, false, false, false, false, false, false, false, false, false] rfl rfl (any_of HT_.out (by kernel_rfl)) (fun _ _ _ h => h) (Or.inl ⟨by rfl, ?_⟩) ?_ ?_; rotate_left; · (intro w'; go_simp; with_reducible rfl)
                                rotate_left; · (simp only [Act.put, sT, sZ, sS, i64_w, i32_w]; rfl)
                                refine pure_ (i := 12) (N := some 150) (v := ?_) (a' := ?_) #[true, true, true, true, true, true, true, true, true, true, true, true, true, false, false, false, false, false, false, false, false] rfl rfl (any_of HT_.out (by kernel_rfl)) (fun _ _ _ h => h) (Or.inl ⟨by rfl, ?_⟩) ?_ ?_; rotate_left; · (intro w'; go_simp; with_reducible rfl)
                                rotate_left; · (simp only [Act.put, sT, sZ, sS, i64_w, i32_w]; rfl)
                                refine pure_ (i := 13) (N := some 151) (v := ?_) (a' := ?_) #[true, true, true, true, true, true, true, true, true, true, true, true, true, true, false, false, false, false, false, false, false] rfl rfl (any_of HT_.out (by kernel_rfl)) (fun _ _ _ h => h) (Or.inl ⟨by rfl, ?_⟩) ?_ ?_; rotate_left; · (intro w'; go_simp; with_reducible rfl)
                                rotate_left; · (simp only [Act.put, sT, sZ, sS, i64_w, i32_w]; rfl)
                                refine pure_ (i := 15) (N := some 153) (v := ?_) (a' := ?_) #[true, true, true, true, true, true, true, true, true, true, true, true, true, true, false, true, false, false, false, false, false] rfl rfl (any_of HT_.out (by kernel_rfl)) (fun _ _ _ h => h) (Or.inl ⟨by rfl, ?_⟩) ?_ ?_; rotate_left; · (intro w'; go_simp; with_reducible rfl)
                                rotate_left; · (simp only [Act.put, sT, sZ, sS, i64_w, i32_w]; rfl)
                                refine pure_ (i := 16) (N := some 154) (v := ?_) (a' := ?_) #[true, true, true, true, true, true, true, true, true, true, true, true, true, true, false, true, true, false, false, false, false] rfl rfl (any_of HT_.out (by kernel_rfl)) (fun _ _ _ h => h) (Or.inl ⟨by rfl, ?_⟩) ?_ ?_; rotate_left; · (intro w'; go_simp; with_reducible rfl)
                                rotate_left; · (simp only [Act.put, sT, sZ, sS, i64_w, i32_w]; rfl)
                                refine pure_ (i := 17) (N := some 155) (v := ?_) (a' := ?_) #[true, true, true, true, true, true, true, true, true, true, true, true, true, true, false, true, true, true, false, false, false] rfl rfl (any_of HT_.out (by kernel_rfl)) (fun _ _ _ h => h) (Or.inl ⟨by rfl, ?_⟩) ?_ ?_; rotate_left; · (intro w'; go_simp; with_reducible rfl)
                                rotate_left; · (simp only [Act.put, sT, sZ, sS, i64_w, i32_w]; rfl)
                                refine take_ (i := 18) (N := some 156) (v := ?_) (a' := ?_) #[true, true, true, true, true, true, true, true, true, true, true, true, true, true, false, true, true, true, true, false, false] rfl rfl (take_ofW HT_.out HW_.out (by kernel_rfl)) (fun _ _ _ h => h) (Or.inl ⟨by rfl, ?_⟩) hHeld ?_ ?_; rotate_left
                                · rintro w' ⟨s0, s1⟩
                                  go_simp
                                  with_reducible rfl
                                rotate_left; · (simp only [Act.put, sT, sZ, sS, i64_w, i32_w]; rfl)
                                refine one_ (i := 14) (N := some 152) #[true, true, true, true, true, true, true, true, true, true, true, true, true, true, true, true, true, true, true, false, false] rfl rfl (one_of HT_.out (by kernel_rfl)) (by decide) (fun K hK => ?_)
                                refine goes_ Try.func16 (by kernel_rfl) rfl #[.pointer (some ⟨g3000019, 0, none⟩)] (by rfl) rfl rfl (by (try simp only [List.map_toArray, List.map_cons, List.map_nil]); first | done | rfl | (simp; done)) ?_
                                have hs0_ := (SL.get1 (SL.get1 HS.out))
                                (with_reducible refine (outbox_Box_Lost_i1.slcalls _ _ _ _ _ _ _ _ (HF.out.keep HK.out) hs0_  Hc45.out).mono ?_)
                                rintro e_ w48 ⟨rfl, hsr_, hkr_⟩
                                refine ⟨_, rfl, ?_⟩
                                replace HS := Aside0.mk (hsr_)
                                replace HK := Aside0.mk (HK.out.trans hkr_)
                                refine hK.out _ _ ⟨(((blk_cell (SL.at_ (SL.get2 HS.out)) 0).trans rfl)), (((blk_cell (SL.at_ (SL.get2 HS.out)) 2).trans rfl))⟩ (fun hHeld => ?_)
                                clear hK K
                                refine norm_ (a' := ?_) ?_ ?_; rotate_left
                                · show Act.put _ (some 152) _ = _
                                  simp only [Act.put, sT, sZ, sS, i64_w, i32_w]
                                  rfl
                                refine pure_ (i := 19) (N := some 157) (v := ?_) (a' := ?_) #[true, true, true, true, true, true, true, true, true, true, true, true, true, true, true, true, true, true, true, true, false] rfl rfl (any_of HT_.out (by kernel_rfl)) (fun _ _ _ h => h) (Or.inl ⟨by rfl, ?_⟩) ?_ ?_; rotate_left; · (intro w'; go_simp; with_reducible rfl)
                                rotate_left; · (simp only [Act.put, sT, sZ, sS, i64_w, i32_w]; rfl)
                                refine pure_ (i := 20) (N := some 158) (v := ?_) (a' := ?_) #[true, true, true, true, true, true, true, true, true, true, true, true, true, true, true, true, true, true, true, true, true] rfl rfl (any_of HT_.out (by kernel_rfl)) (fun _ _ _ h => h) (Or.inl ⟨by rfl, ?_⟩) ?_ ?_; rotate_left; · (intro w'; go_simp; with_reducible rfl)
                                rotate_left; · (simp only [Act.put, sT, sZ, sS, i64_w, i32_w]; rfl)
                                refine done_ (done_of HT_.out (by kernel_rfl)) ?_
                                try go_wp2
                                replace HS := Aside0.mk (SL.get3 (SL.get3 (SL.get1 (SL.get1 (SL.tail (SL.get4 (SL.tail (SL.get4 HS.out))))))))
                                go_roundg k2
                                case measure => have := HQ1.out; have := HQ2.out; omega
                                case rel => exact ⟨(t502), (x3000021_2_0), (A503), (c504), (x3000019_1_0), (t499), (wrap64 (x10_0 + 1)), (by first | rfl | (simp; done) | (simp [*]; done)), H', ⟨by have := HQ1.out; have := HQ2.out; omega⟩, HS, HK⟩
                            · rw [if_neg c44] at H
                              have c44b0 : (t513 == (t502.length : Int)) = false := beq_eq_false_iff_ne.mpr c44
                              have c44b1 : (t513 != (t502.length : Int)) = true := bne_iff_ne.mpr c44
                              exact absurd H (by simp)
                          · replace c42 := Bool.eq_false_iff.mpr c42
                            subst c42
                            rw [if_neg (show ¬ (false = true) by decide)] at H
                            exact absurd H (by simp)
                      · rw [if_neg c35] at H
                        have c35b0 : decide (x13_201 < (t498.length : Int)) = false := decide_eq_false c35
                        clear c35
                        by_cases c49 : t505 = true
                        · subst c49
                          rw [if_pos rfl] at H
                          replace H := Option.bind_eq_some_iff.1 H
                          obtain ⟨t517, Hc500, H⟩ := H
                          try dsimp only at H
                          have Hc50 := Aside0.mk Hc500
                          clear Hc500
                          by_cases c51 : t517 = (t502.length : Int)
                          · rw [if_pos c51] at H
                            have c51b0 : (t517 == (t502.length : Int)) = true := beq_iff_eq.mpr c51
                            have c51b1 : (t517 != (t502.length : Int)) = false := bne_eq_false_iff_eq.mpr c51
                            clear c51
                            replace H := Option.bind_eq_some_iff.1 H
                            obtain ⟨t518, Hc520, H⟩ := H
                            try dsimp only at H
                            have Hc52 := Aside0.mk Hc520
                            clear Hc520
                            by_cases c53 : (t518 != x3000021_2_0) = true
                            · rw [if_pos c53] at H
                              exact absurd H (by simp)
                            · rw [if_neg c53] at H
                              have c53b0 : (t518 != x3000021_2_0) = false := by simpa using c53
                              (try (have c53b1 : decide (t518 = x3000021_2_0) = true := by simpa using c53))
                              (try (have c53b2 : (t518 == x3000021_2_0) = true := by simpa using c53))
                              clear c53
                              have H' := Aside0.mk H
                              clear H
                              try go_wp2
                              refine start_ (n := 21) (S := fun w' => w'.cell? ⟨g3000021, 0, none⟩ = some (.slice A503 t502.length c504) ∧ w'.cell? ⟨g3000021, 2, none⟩ = some (.bool x3000021_2_0)) (ds := []) #[false, false, false, false, false, false, false, false, false, false, false, false, false, false, false, false, false, false, false, false, false] (by kernel_rfl) rfl rfl ⟨(((blk_cell (SL.at_ HS.out) 0).trans rfl)), (((blk_cell (SL.at_ HS.out) 2).trans rfl))⟩ (fun hHeld => ?_); refine with_tabW barrowlaw26_OutboxPlays.tab33 barrowlaw26_OutboxPlays.bits33 (fun HT_ HW_ => ?_)
                              replace HK := Aside0.mk (Keep.drew HK.out)
                              replace HS := Aside0.mk (SL.drew HS.out)
                              refine pure_ (i := 0) (N := some 138) (v := ?_) (a' := ?_) #[true, false, false, false, false, false, false, false, false, false, false, false, false, false, false, false, false, false, false, false, false] rfl rfl (any_of HT_.out (by kernel_rfl)) (fun _ _ _ h => h) (Or.inl ⟨by rfl, ?_⟩) ?_ ?_; rotate_left; · (intro w'; go_simp; with_reducible rfl)
                              rotate_left; · (simp only [Act.put, sT, sZ, sS, i64_w, i32_w]; rfl)
                              refine pure_ (i := 1) (N := some 139) (v := ?_) (a' := ?_) #[true, true, false, false, false, false, false, false, false, false, false, false, false, false, false, false, false, false, false, false, false] rfl rfl (any_of HT_.out (by kernel_rfl)) (fun _ _ _ h => h) (Or.inl ⟨by rfl, ?_⟩) ?_ ?_; rotate_left; · (intro w'; go_simp; with_reducible rfl)
                              rotate_left; · (simp only [Act.put, sT, sZ, sS, i64_w, i32_w]; rfl)
                              refine pure_ (i := 2) (N := some 140) (v := ?_) (a' := ?_) #[true, true, true, false, false, false, false, false, false, false, false, false, false, false, false, false, false, false, false, false, false] rfl rfl (any_of HT_.out (by kernel_rfl)) (fun _ _ _ h => h) (Or.inl ⟨by rfl, ?_⟩) ?_ ?_; rotate_left; · (intro w'; go_simp; with_reducible rfl)
                              rotate_left; · (simp only [Act.put, sT, sZ, sS, i64_w, i32_w]; rfl)
                              refine pure_ (i := 3) (N := some 141) (v := ?_) (a' := ?_) #[true, true, true, true, false, false, false, false, false, false, false, false, false, false, false, false, false, false, false, false, false] rfl rfl (any_of HT_.out (by kernel_rfl)) (fun _ _ _ h => h) (Or.inl ⟨by rfl, ?_⟩) ?_ ?_; rotate_left; · (intro w'; go_simp; with_reducible rfl)
                              rotate_left; · (simp only [Act.put, sT, sZ, sS, i64_w, i32_w]; rfl)
                              refine pure_ (i := 5) (N := some 143) (v := ?_) (a' := ?_) #[true, true, true, true, false, true, false, false, false, false, false, false, false, false, false, false, false, false, false, false, false] rfl rfl (any_of HT_.out (by kernel_rfl)) (fun _ _ _ h => h) (Or.inl ⟨by rfl, ?_⟩) ?_ ?_; rotate_left; · (intro w'; go_simp; with_reducible rfl)
                              rotate_left; · (simp only [Act.put, sT, sZ, sS, i64_w, i32_w]; rfl)
                              refine pure_ (i := 6) (N := some 144) (v := ?_) (a' := ?_) #[true, true, true, true, false, true, true, false, false, false, false, false, false, false, false, false, false, false, false, false, false] rfl rfl (any_of HT_.out (by kernel_rfl)) (fun _ _ _ h => h) (Or.inl ⟨by rfl, ?_⟩) ?_ ?_; rotate_left; · (intro w'; go_simp; with_reducible rfl)
                              rotate_left; · (simp only [Act.put, sT, sZ, sS, i64_w, i32_w]; rfl)
                              refine pure_ (i := 7) (N := some 145) (v := ?_) (a' := ?_) #[true, true, true, true, false, true, true, true, false, false, false, false, false, false, false, false, false, false, false, false, false] rfl rfl (any_of HT_.out (by kernel_rfl)) (fun _ _ _ h => h) (Or.inl ⟨by rfl, ?_⟩) ?_ ?_; rotate_left; · (intro w'; go_simp; with_reducible rfl)
                              rotate_left; · (simp only [Act.put, sT, sZ, sS, i64_w, i32_w]; rfl)
                              refine take_ (i := 8) (N := some 146) (v := ?_) (a' := ?_) #[true, true, true, true, false, true, true, true, true, false, false, false, false, false, false, false, false, false, false, false, false] rfl rfl (take_ofW HT_.out HW_.out (by kernel_rfl)) (fun _ _ _ h => h) (Or.inl ⟨by rfl, ?_⟩) hHeld ?_ ?_; rotate_left
                              · rintro w' ⟨s0, s1⟩
                                go_simp
                                with_reducible rfl
                              rotate_left; · (simp only [Act.put, sT, sZ, sS, i64_w, i32_w]; rfl)
                              refine pure_ (i := 9) (N := some 147) (v := ?_) (a' := ?_) #[true, true, true, true, false, true, true, true, true, true, false, false, false, false, false, false, false, false, false, false, false] rfl rfl (any_of HT_.out (by kernel_rfl)) (fun _ _ _ h => h) (Or.inl ⟨by rfl, ?_⟩) ?_ ?_; rotate_left; · (intro w'; go_simp; with_reducible rfl)
                              rotate_left; · (simp only [Act.put, sT, sZ, sS, i64_w, i32_w]; rfl)
                              refine one_ (i := 4) (N := some 142) #[true, true, true, true, true, true, true, true, true, true, false, false, false, false, false, false, false, false, false, false, false] rfl rfl (one_of HT_.out (by kernel_rfl)) (by decide) (fun K hK => ?_)
                              refine goes_ Try.func15 (by kernel_rfl) rfl #[.pointer (some ⟨g3000019, 0, none⟩)] (by rfl) rfl rfl (by (try simp only [List.map_toArray, List.map_cons, List.map_nil]); first | done | rfl | (simp; done)) ?_
                              have hs0_ := (SL.get4 (SL.get4 HS.out))
                              (with_reducible refine (outbox_Box_Len_i1.slcalls _ _ _ _ _ _ _ _ (HF.out.keep HK.out) hs0_  Hc50.out).mono ?_)
                              rintro e_ w54 ⟨rfl, hsr_, hkr_⟩
                              refine ⟨_, rfl, ?_⟩
                              replace HS := Aside0.mk (hsr_)
                              replace HK := Aside0.mk (HK.out.trans hkr_)
                              refine hK.out _ _ ⟨(((blk_cell (SL.at_ (SL.get2 HS.out)) 0).trans rfl)), (((blk_cell (SL.at_ (SL.get2 HS.out)) 2).trans rfl))⟩ (fun hHeld => ?_)
                              clear hK K
                              refine norm_ (a' := ?_) ?_ ?_; rotate_left
                              · show Act.put _ (some 142) _ = _
                                simp only [Act.put, sT, sZ, sS, i64_w, i32_w]
                                rfl
                              refine pure_ (i := 10) (N := some 148) (v := ?_) (a' := ?_) #[true, true, true, true, true, true, true, true, true, true, true, false, false, false, false, false, false, false, false, false, false] rfl rfl (any_of HT_.out (by kernel_rfl)) (fun _ _ _ h => h) (Or.inl ⟨by rfl, ?_⟩) ?_ ?_; rotate_left; · (intro w'; go_simp; with_reducible rfl)
                              rotate_left; · (simp only [Act.put, sT, sZ, sS, i64_w, i32_w]; rfl)
                              refine pure_ (i := 11) (N := some 149) (v := ?_) (a' := ?_) #[true, true, true, true, true, true, true, true, true, true, true, true, false, false, false, false, false, false, false, false, false] rfl rfl (any_of HT_.out (by kernel_rfl)) (fun _ _ _ h => h) (Or.inl ⟨by rfl, ?_⟩) ?_ ?_; rotate_left; · (intro w'; go_simp; with_reducible rfl)
                              rotate_left; · (simp only [Act.put, sT, sZ, sS, i64_w, i32_w]; rfl)
                              refine pure_ (i := 12) (N := some 150) (v := ?_) (a' := ?_) #[true, true, true, true, true, true, true, true, true, true, true, true, true, false, false, false, false, false, false, false, false] rfl rfl (any_of HT_.out (by kernel_rfl)) (fun _ _ _ h => h) (Or.inl ⟨by rfl, ?_⟩) ?_ ?_; rotate_left; · (intro w'; go_simp; with_reducible rfl)
                              rotate_left; · (simp only [Act.put, sT, sZ, sS, i64_w, i32_w]; rfl)
                              refine pure_ (i := 13) (N := some 151) (v := ?_) (a' := ?_) #[true, true, true, true, true, true, true, true, true, true, true, true, true, true, false, false, false, false, false, false, false] rfl rfl (any_of HT_.out (by kernel_rfl)) (fun _ _ _ h => h) (Or.inl ⟨by rfl, ?_⟩) ?_ ?_; rotate_left; · (intro w'; go_simp; with_reducible rfl)
                              rotate_left; · (simp only [Act.put, sT, sZ, sS, i64_w, i32_w]; rfl)
                              refine pure_ (i := 15) (N := some 153) (v := ?_) (a' := ?_) #[true, true, true, true, true, true, true, true, true, true, true, true, true, true, false, true, false, false, false, false, false] rfl rfl (any_of HT_.out (by kernel_rfl)) (fun _ _ _ h => h) (Or.inl ⟨by rfl, ?_⟩) ?_ ?_; rotate_left; · (intro w'; go_simp; with_reducible rfl)
                              rotate_left; · (simp only [Act.put, sT, sZ, sS, i64_w, i32_w]; rfl)
                              refine pure_ (i := 16) (N := some 154) (v := ?_) (a' := ?_) #[true, true, true, true, true, true, true, true, true, true, true, true, true, true, false, true, true, false, false, false, false] rfl rfl (any_of HT_.out (by kernel_rfl)) (fun _ _ _ h => h) (Or.inl ⟨by rfl, ?_⟩) ?_ ?_; rotate_left; · (intro w'; go_simp; with_reducible rfl)
                              rotate_left; · (simp only [Act.put, sT, sZ, sS, i64_w, i32_w]; rfl)
                              refine pure_ (i := 17) (N := some 155) (v := ?_) (a' := ?_) #[true, true, true, true, true, true, true, true, true, true, true, true, true, true, false, true, true, true, false, false, false] rfl rfl (any_of HT_.out (by kernel_rfl)) (fun _ _ _ h => h) (Or.inl ⟨by rfl, ?_⟩) ?_ ?_; rotate_left; · (intro w'; go_simp; with_reducible rfl)
                              rotate_left; · (simp only [Act.put, sT, sZ, sS, i64_w, i32_w]; rfl)
                              refine take_ (i := 18) (N := some 156) (v := ?_) (a' := ?_) #[true, true, true, true, true, true, true, true, true, true, true, true, true, true, false, true, true, true, true, false, false] rfl rfl (take_ofW HT_.out HW_.out (by kernel_rfl)) (fun _ _ _ h => h) (Or.inl ⟨by rfl, ?_⟩) hHeld ?_ ?_; rotate_left
                              · rintro w' ⟨s0, s1⟩
                                go_simp
                                with_reducible rfl
                              rotate_left; · (simp only [Act.put, sT, sZ, sS, i64_w, i32_w]; rfl)
                              refine one_ (i := 14) (N := some 152) #[true, true, true, true, true, true, true, true, true, true, true, true, true, true, true, true, true, true, true, false, false] rfl rfl (one_of HT_.out (by kernel_rfl)) (by decide) (fun K hK => ?_)
                              refine goes_ Try.func16 (by kernel_rfl) rfl #[.pointer (some ⟨g3000019, 0, none⟩)] (by rfl) rfl rfl (by (try simp only [List.map_toArray, List.map_cons, List.map_nil]); first | done | rfl | (simp; done)) ?_
                              have hs0_ := (SL.get1 (SL.get1 HS.out))
                              (with_reducible refine (outbox_Box_Lost_i1.slcalls _ _ _ _ _ _ _ _ (HF.out.keep HK.out) hs0_  Hc52.out).mono ?_)
                              rintro e_ w55 ⟨rfl, hsr_, hkr_⟩
                              refine ⟨_, rfl, ?_⟩
                              replace HS := Aside0.mk (hsr_)
                              replace HK := Aside0.mk (HK.out.trans hkr_)
                              refine hK.out _ _ ⟨(((blk_cell (SL.at_ (SL.get2 HS.out)) 0).trans rfl)), (((blk_cell (SL.at_ (SL.get2 HS.out)) 2).trans rfl))⟩ (fun hHeld => ?_)
                              clear hK K
                              refine norm_ (a' := ?_) ?_ ?_; rotate_left
                              · show Act.put _ (some 152) _ = _
                                simp only [Act.put, sT, sZ, sS, i64_w, i32_w]
                                rfl
                              refine pure_ (i := 19) (N := some 157) (v := ?_) (a' := ?_) #[true, true, true, true, true, true, true, true, true, true, true, true, true, true, true, true, true, true, true, true, false] rfl rfl (any_of HT_.out (by kernel_rfl)) (fun _ _ _ h => h) (Or.inl ⟨by rfl, ?_⟩) ?_ ?_; rotate_left; · (intro w'; go_simp; with_reducible rfl)
                              rotate_left; · (simp only [Act.put, sT, sZ, sS, i64_w, i32_w]; rfl)
                              refine pure_ (i := 20) (N := some 158) (v := ?_) (a' := ?_) #[true, true, true, true, true, true, true, true, true, true, true, true, true, true, true, true, true, true, true, true, true] rfl rfl (any_of HT_.out (by kernel_rfl)) (fun _ _ _ h => h) (Or.inl ⟨by rfl, ?_⟩) ?_ ?_; rotate_left; · (intro w'; go_simp; with_reducible rfl)
                              rotate_left; · (simp only [Act.put, sT, sZ, sS, i64_w, i32_w]; rfl)
                              refine done_ (done_of HT_.out (by kernel_rfl)) ?_
                              try go_wp2
                              replace HS := Aside0.mk (SL.get3 (SL.get3 (SL.get1 (SL.get1 (SL.tail (SL.get4 (SL.tail (SL.get4 HS.out))))))))
                              go_roundg k2
                              case measure => have := HQ1.out; have := HQ2.out; omega
                              case rel => exact ⟨(t502), (x3000021_2_0), (A503), (c504), (x3000019_1_0), (t499), (wrap64 (x10_0 + 1)), (by first | rfl | (simp; done) | (simp [*]; done)), H', ⟨by have := HQ1.out; have := HQ2.out; omega⟩, HS, HK⟩
                          · rw [if_neg c51] at H
                            have c51b0 : (t517 == (t502.length : Int)) = false := beq_eq_false_iff_ne.mpr c51
                            have c51b1 : (t517 != (t502.length : Int)) = true := bne_iff_ne.mpr c51
                            exact absurd H (by simp)
                        · replace c49 := Bool.eq_false_iff.mpr c49
                          subst c49
                          rw [if_neg (show ¬ (false = true) by decide)] at H
                          exact absurd H (by simp)
                · rw [if_neg c28] at H
                  have c28b0 : ((Go.bits .and .i64 ((rd_T29 l1 x10_0).f0) 7) == 4) = false := beq_eq_false_iff_ne.mpr c28
                  have c28b1 : ((Go.bits .and .i64 ((rd_T29 l1 x10_0).f0) 7) != 4) = true := bne_iff_ne.mpr c28
                  by_cases c56 : (Go.bits .and .i64 ((rd_T29 l1 x10_0).f0) 7) = 5
                  · rw [if_pos c56] at H
                    have c56b0 : ((Go.bits .and .i64 ((rd_T29 l1 x10_0).f0) 7) == 5) = true := beq_iff_eq.mpr c56
                    have c56b1 : ((Go.bits .and .i64 ((rd_T29 l1 x10_0).f0) 7) != 5) = false := bne_eq_false_iff_eq.mpr c56
                    clear c56
                    replace H := Option.bind_eq_some_iff.1 H
                    obtain ⟨⟨t520, t521⟩, Hc570, H⟩ := H
                    try dsimp only at H
                    have Hc57 := Aside0.mk Hc570
                    clear Hc570
                    replace H := Option.bind_eq_some_iff.1 H
                    obtain ⟨⟨t523, t524⟩, Hc580, H⟩ := H
                    try dsimp only at H
                    have Hc58 := Aside0.mk Hc580
                    clear Hc580
                    replace H := Option.bind_eq_some_iff.1 H
                    obtain ⟨t527, Hc590, H⟩ := H
                    try dsimp only at H
                    have Hc59 := Aside0.mk Hc590
                    clear Hc590
                    have H' := Aside0.mk H
                    clear H
                    have pq486 : 0 ≤ (x10_0 : Int) := of_decide_eq_true (by first | (with_reducible assumption) | assumption)
                    have qq486 : x10_0 < ((l1.length : Int) : Int) := of_decide_eq_true (by first | (with_reducible assumption) | assumption)
                    obtain ⟨adq486, eq486, hxq486_0, hxq486_1⟩ := at_T29 (RO.at_ HR1.out HK.out) x10_0 pq486 qq486
                    cases eq486
                    replace pq486 := eq_true pq486
                    replace qq486 := eq_true qq486
                    go_wp2_with (first | ((with_reducible refine gate_dst (N := 102) rfl ?_); refine goesL_ (some 102) rfl rfl Try.func10 (by kernel_rfl) rfl #[.pointer (some ⟨g3000019, 0, none⟩), .int .i64 ((rd_T29 l1 x10_0).f1)] rfl (by (try simp only [List.map_toArray, List.map_cons, List.map_nil]); first | done | rfl | (simp; done)) ?_; have hs0_ := (SL.get3 (SL.get3 HS.out)); (with_reducible refine (outbox_Box_Drain_i1.slcalls k1 _ _ _ _ _ _ _ _ _ _ (HF.out.keep HK.out) hs0_  Hc57.out).mono ?_); rintro e_ w60 ⟨Az3000023, cz3000023, rfl, hsr_, hkr_⟩; refine ⟨_, rfl, ?_⟩; replace HS := Aside0.mk (hsr_); replace HK := Aside0.mk (HK.out.trans hkr_); have pq522 : 0 ≤ (x10_0 : Int) := of_decide_eq_true (by first | (with_reducible assumption) | assumption); have qq522 : x10_0 < ((l1.length : Int) : Int) := of_decide_eq_true (by first | (with_reducible assumption) | assumption); obtain ⟨adq522, eq522, hxq522_0, hxq522_1⟩ := at_T29 (RO.at_ HR1.out HK.out) x10_0 pq522 qq522; obtain rfl : adq486 = adq522 := (by injection eq522); replace pq522 := eq_true pq522; replace qq522 := eq_true qq522) | ((with_reducible refine gate_dst (N := 110) rfl ?_); refine goesL_ (some 110) rfl rfl Try.func12 (by kernel_rfl) rfl #[.pointer (some ⟨g3000021, 0, none⟩), .int .i64 ((rd_T29 l1 x10_0).f1)] rfl (by (try simp only [List.map_toArray, List.map_cons, List.map_nil]); first | done | rfl | (simp; done)) ?_; have hs0_ := (SL.get4 (SL.get4 HS.out)); (with_reducible refine (barrowref26_Box_Drain.slcalls _ _ _ _ _ _ _ _ _ _ _ _ (HF.out.keep HK.out) hs0_  Hc58.out).mono ?_); rintro e_ w61 ⟨A525, c526, Az3000024, cz3000024, rfl, hsr_, hkr_⟩; refine ⟨_, rfl, ?_⟩; replace HS := Aside0.mk (hsr_); replace HK := Aside0.mk (HK.out.trans hkr_)) | ((with_reducible refine gate_dst (N := 111) rfl ?_); refine goesL_ (some 111) rfl rfl Try.func11 (by kernel_rfl) rfl #[.slice Az3000023 t520.length cz3000023, .slice Az3000024 t523.length cz3000024] rfl (by (try simp only [List.map_toArray, List.map_cons, List.map_nil]); first | done | rfl | (simp; done)) ?_; (with_reducible refine (barrowref04_Same.calls k1 _ _ _ _ _ _ _ _ (rows_c (d := (Kd.slice 5 (Kd.int .u8))) reads_inn rfl (SL.get5 HS.out)).2.2 (rows_c (d := (Kd.slice 5 (Kd.int .u8))) reads_inn rfl (SL.get5 HS.out)).2.1 (rows_c (d := (Kd.slice 5 (Kd.int .u8))) reads_inn rfl (SL.get2 HS.out)).2.2 (rows_c (d := (Kd.slice 5 (Kd.int .u8))) reads_inn rfl (SL.get2 HS.out)).2.1 Hc59.out).mono ?_); rintro e_ w62 ⟨rfl, hb_⟩; refine ⟨_, rfl, ?_⟩; replace hb_ := Drawn0.below hb_; replace HS := Aside0.mk (HS.out.below hb_); replace HK := Aside0.mk (HK.out.trans (Keep.below hb_))))
                    try go_simp
                    go_loopg [13] k1 (fun kq v13 w' => ∃ (y3000023_301 : List (List Int)) (x13_301 : Int), v13 = .int .i64 x13_301 ∧ Aside0 (barrowlaw26_OutboxPlays.l301 kq l1 l2 x10_0 t396 t400 x3000021_2_0 x3000019_1_0 t520 t521 t524 t527 y3000023_301 x13_301 = some r) ∧ Aside0 (kq ≤ k1) ∧ Aside0 (SL (cells g3000021 36 [.slice A525 t524.length c526, .int .i64 t400, .bool x3000021_2_0].toArray :: rows (inn (Kd.int .u8) 5) 1 32 (.slice A525 t524.length c526) t524 :: rows (inn (Kd.int .u8) 5) 1 32 (.slice Az3000024 t523.length cz3000024) t523 :: cells g3000019 41 [.chan (some g3000020), .bool x3000019_1_0].toArray :: chano g3000020 (inn (Kd.int .u8) 5) t521 :: rows (inn (Kd.int .u8) 5) 1 32 (.slice Az3000023 t520.length cz3000023) y3000023_301 :: L) w' S) ∧ Aside0 (Keep S w w'))
                    case atStart => exact ⟨(t520), (0), (by first | rfl | (simp; done) | (simp [*]; done)), H', ⟨Nat.le_refl _⟩, HS, HK⟩
                    case round =>
                      clear H' HS HK
                      obtain ⟨y3000023_301, x13_301, rfl, HA, HQ2, HS, HK⟩ := hrel
                      cases gk with
                      | zero => exact absurd HA.out (by simp [barrowlaw26_OutboxPlays.l301])
                      | succ k2 =>
                        have H := HA.out
                        clear HA
                        simp only [barrowlaw26_OutboxPlays.l301] at H
                        by_cases c63 : x13_301 < (t520.length : Int)
                        · rw [if_pos c63] at H
                          have c63b0 : decide (x13_301 < (t520.length : Int)) = true := decide_eq_true c63
                          clear c63
                          by_cases c64 : (t520.length : Int) > 0
                          · rw [if_pos c64] at H
                            have c64b0 : decide (0 < (t520.length : Int)) = true := decide_eq_true c64
                            have c64b1 : decide (0 < t520.length) = true := decide_eq_true (by omega)
                            clear c64
                            have H' := Aside0.mk H
                            clear H
                            go_wp2
                            go_loopg [14] k2 (fun kq v14 w' => ∃ (y3000023_302 : List (List Int)) (x14_302 : Int), v14 = .int .i64 x14_302 ∧ Aside0 (barrowlaw26_OutboxPlays.l302 kq l1 l2 x10_0 t396 t400 x3000021_2_0 x3000019_1_0 t520 t521 t524 t527 x13_301 y3000023_302 x14_302 = some r) ∧ Aside0 (kq ≤ k2) ∧ Aside0 (SL (cells g3000021 36 [.slice A525 t524.length c526, .int .i64 t400, .bool x3000021_2_0].toArray :: rows (inn (Kd.int .u8) 5) 1 32 (.slice A525 t524.length c526) t524 :: rows (inn (Kd.int .u8) 5) 1 32 (.slice Az3000024 t523.length cz3000024) t523 :: cells g3000019 41 [.chan (some g3000020), .bool x3000019_1_0].toArray :: chano g3000020 (inn (Kd.int .u8) 5) t521 :: rows (inn (Kd.int .u8) 5) 1 32 (.slice Az3000023 t520.length cz3000023) y3000023_302 :: L) w' S) ∧ Aside0 (Keep S w w'))
                            case atStart => exact ⟨(y3000023_301), (0), (by first | rfl | (simp; done) | (simp [*]; done)), H', ⟨Nat.le_refl _⟩, HS, HK⟩
                            case round =>
                              clear H' HS HK
                              obtain ⟨y3000023_302, x14_302, rfl, HA, HQ3, HS, HK⟩ := hrel
                              cases gk with
                              | zero => exact absurd HA.out (by simp [barrowlaw26_OutboxPlays.l302])
                              | succ k3 =>
                                have H := HA.out
                                clear HA
                                simp only [barrowlaw26_OutboxPlays.l302] at H
                                by_cases c65 : 0 ≤ x13_301
                                · rw [if_pos c65] at H
                                  have c65b0 : decide (0 ≤ x13_301) = true := decide_eq_true c65
                                  clear c65
                                  by_cases c66 : x13_301 < (t520.length : Int)
                                  · rw [if_pos c66] at H
                                    have c66b0 : decide (x13_301 < (t520.length : Int)) = true := decide_eq_true c66
                                    clear c66
                                    replace H := Option.bind_eq_some_iff.1 H
                                    obtain ⟨y529, hy5290, H⟩ := H
                                    try dsimp only at H
                                    have hy529 := Option.some.inj hy5290
                                    clear hy5290
                                    have Ny529 := Aside0.mk hy529
                                    clear hy529
                                    by_cases c67 : x14_302 < (y529.length : Int)
                                    · rw [if_pos c67] at H
                                      have c67b0 : decide (x14_302 < (y529.length : Int)) = true := decide_eq_true c67
                                      clear c67
                                      by_cases c68 : 0 ≤ x14_302
                                      · rw [if_pos c68] at H
                                        have c68b0 : decide (0 ≤ x14_302) = true := decide_eq_true c68
                                        clear c68
                                        replace H := Option.bind_eq_some_iff.1 H
                                        obtain ⟨y532, hy5320, H⟩ := H
                                        try dsimp only at H
                                        have hy532 := Option.some.inj hy5320
                                        clear hy5320
                                        have Ny532 := Aside0.mk hy532
                                        clear hy532
                                        have H' := Aside0.mk H
                                        clear H
                                        have pq528 : 0 ≤ (x13_301 : Int) := of_decide_eq_true (by first | (with_reducible assumption) | assumption)
                                        have qq528 : x13_301 < ((t520.length : Int) : Int) := of_decide_eq_true (by first | (with_reducible assumption) | assumption)
                                        obtain ⟨adq528, Aq528_0, cq528_0, eq528, hxq528_0, hiq528, hlq528⟩ := rows_at (SL.get5 HS.out) rfl x13_301 pq528 qq528 y529 Ny529.out
                                        have HVq528_0 := Aside0.mk hiq528
                                        have HCq528_0 := Aside0.mk hlq528
                                        clear hiq528 hlq528
                                        cases eq528
                                        replace pq528 := eq_true pq528
                                        replace qq528 := eq_true qq528
                                        have pq531 : 0 ≤ (x14_302 : Int) := of_decide_eq_true (by first | (with_reducible assumption) | assumption)
                                        have qq531 : x14_302 < ((y529.length : Int) : Int) := of_decide_eq_true (by first | (with_reducible assumption) | assumption)
                                        obtain ⟨adq531, eq531, hxq531_0⟩ := Kd.at_int HVq528_0.out x14_302 pq531 qq531
                                        cases eq531
                                        replace pq531 := eq_true pq531
                                        replace qq531 := eq_true qq531
                                        go_wp2_with (first | ((with_reducible refine gate_store (t := 5) (p := 137) (v := (.const (.int .u8 99))) rfl ?_); refine wpList_plain rfl (fun K_ hK_ => ?_); refine op_setI (S := S) (enc := Value.int .u8) (h1 := fun _ => rfl) 5 (.tmp 137) (.const (.int .u8 99)) rfl adq528 (x13_301) (SL.get5 HS.out) (of_decide_eq_true (by first | (with_reducible assumption) | assumption)) (of_decide_eq_true (by first | (with_reducible assumption) | assumption)) adq531 y529.length cq528_0 hxq528_0 (x14_302) 99 (by rfl) rfl (by kernel_rfl) (of_decide_eq_true (by first | (with_reducible assumption) | assumption)) (of_decide_eq_true (by first | (with_reducible assumption) | assumption)) y529 Ny529.out y532 Ny532.out ?_; intro w69 hs_ hk_; refine hK_ _ _ ?_; clear hK_ K_; replace HS := Aside0.mk ((SL.back5 (show SL (rows (inn (Kd.int .u8) 5) 1 32 (.slice (some adq528) t520.length cz3000023) y532 :: _) _ _ from hs_))); replace HK := Aside0.mk (HK.out.trans hk_)))
                                        go_roundg k3
                                        case measure => have := HQ1.out; have := HQ2.out; have := HQ3.out; omega
                                        case rel => exact ⟨(y532), (wrap64 (x14_302 + 1)), (by first | rfl | (simp; done) | (simp [*]; done)), H', ⟨by have := HQ1.out; have := HQ2.out; have := HQ3.out; omega⟩, HS, HK⟩
                                      · rw [if_neg c68] at H
                                        exact absurd H (by simp)
                                    · rw [if_neg c67] at H
                                      have c67b0 : decide (x14_302 < (y529.length : Int)) = false := decide_eq_false c67
                                      clear c67
                                      have H' := Aside0.mk H
                                      clear H
                                      have pq528 : 0 ≤ (x13_301 : Int) := of_decide_eq_true (by first | (with_reducible assumption) | assumption)
                                      have qq528 : x13_301 < ((t520.length : Int) : Int) := of_decide_eq_true (by first | (with_reducible assumption) | assumption)
                                      obtain ⟨adq528, Aq528_0, cq528_0, eq528, hxq528_0, hiq528, hlq528⟩ := rows_at (SL.get5 HS.out) rfl x13_301 pq528 qq528 y529 Ny529.out
                                      have HVq528_0 := Aside0.mk hiq528
                                      have HCq528_0 := Aside0.mk hlq528
                                      clear hiq528 hlq528
                                      cases eq528
                                      replace pq528 := eq_true pq528
                                      replace qq528 := eq_true qq528
                                      go_wp2
                                      go_roundg k3
                                      case measure => have := HQ1.out; have := HQ2.out; have := HQ3.out; omega
                                      case rel => exact ⟨(y3000023_302), (wrap64 (x13_301 + 1)), (by first | rfl | (simp; done) | (simp [*]; done)), H', ⟨by have := HQ1.out; have := HQ2.out; have := HQ3.out; omega⟩, HS, HK⟩
                                  · rw [if_neg c66] at H
                                    exact absurd H (by simp)
                                · rw [if_neg c65] at H
                                  exact absurd H (by simp)
                          · rw [if_neg c64] at H
                            have c64b0 : decide (0 < (t520.length : Int)) = false := decide_eq_false c64
                            have c64b1 : decide (0 < t520.length) = false := decide_eq_false (by omega)
                            clear c64
                            by_cases c70 : t527 = true
                            · subst c70
                              rw [if_pos rfl] at H
                              replace H := Option.bind_eq_some_iff.1 H
                              obtain ⟨t535, Hc710, H⟩ := H
                              try dsimp only at H
                              have Hc71 := Aside0.mk Hc710
                              clear Hc710
                              by_cases c72 : t535 = (t524.length : Int)
                              · rw [if_pos c72] at H
                                have c72b0 : (t535 == (t524.length : Int)) = true := beq_iff_eq.mpr c72
                                have c72b1 : (t535 != (t524.length : Int)) = false := bne_eq_false_iff_eq.mpr c72
                                clear c72
                                replace H := Option.bind_eq_some_iff.1 H
                                obtain ⟨t536, Hc730, H⟩ := H
                                try dsimp only at H
                                have Hc73 := Aside0.mk Hc730
                                clear Hc730
                                by_cases c74 : (t536 != x3000021_2_0) = true
                                · rw [if_pos c74] at H
                                  exact absurd H (by simp)
                                · rw [if_neg c74] at H
                                  have c74b0 : (t536 != x3000021_2_0) = false := by simpa using c74
                                  (try (have c74b1 : decide (t536 = x3000021_2_0) = true := by simpa using c74))
                                  (try (have c74b2 : (t536 == x3000021_2_0) = true := by simpa using c74))
                                  clear c74
                                  have H' := Aside0.mk H
                                  clear H
                                  try go_wp2
                                  refine start_ (n := 21) (S := fun w' => w'.cell? ⟨g3000021, 0, none⟩ = some (.slice A525 t524.length c526) ∧ w'.cell? ⟨g3000021, 2, none⟩ = some (.bool x3000021_2_0)) (ds := []) #[false, false, false, false, false, false, false, false, false, false, false, false, false, false, false, false, false, false, false, false, false] (by kernel_rfl) rfl rfl ⟨(((blk_cell (SL.at_ HS.out) 0).trans rfl)), (((blk_cell (SL.at_ HS.out) 2).trans rfl))⟩ (fun hHeld => ?_); refine with_tabW barrowlaw26_OutboxPlays.tab33 barrowlaw26_OutboxPlays.bits33 (fun HT_ HW_ => ?_)
                                  replace HK := Aside0.mk (Keep.drew HK.out)
                                  replace HS := Aside0.mk (SL.drew HS.out)
                                  refine pure_ (i := 0) (N := some 138) (v := ?_) (a' := ?_) #[true, false, false, false, false, false, false, false, false, false, false, false, false, false, false, false, false, false, false, false, false] rfl rfl (any_of HT_.out (by kernel_rfl)) (fun _ _ _ h => h) (Or.inl ⟨by rfl, ?_⟩) ?_ ?_; rotate_left; · (intro w'; go_simp; with_reducible rfl)
                                  rotate_left; · (simp only [Act.put, sT, sZ, sS, i64_w, i32_w]; rfl)
                                  refine pure_ (i := 1) (N := some 139) (v := ?_) (a' := ?_) #[true, true, false, false, false, false, false, false, false, false, false, false, false, false, false, false, false, false, false, false, false] rfl rfl (any_of HT_.out (by kernel_rfl)) (fun _ _ _ h => h) (Or.inl ⟨by rfl, ?_⟩) ?_ ?_; rotate_left; · (intro w'; go_simp; with_reducible rfl)
                                  rotate_left; · (simp only [Act.put, sT, sZ, sS, i64_w, i32_w]; rfl)
                                  refine pure_ (i := 2) (N := some 140) (v := ?_) (a' := ?_) #[true, true, true, false, false, false, false, false, false, false, false, false, false, false, false, false, false, false, false, false, false] rfl rfl (any_of HT_.out (by kernel_rfl)) (fun _ _ _ h => h) (Or.inl ⟨by rfl, ?_⟩) ?_ ?_; rotate_left; · (intro w'; go_simp; with_reducible rfl)
                                  rotate_left; · (simp only [Act.put, sT, sZ, sS, i64_w, i32_w]; rfl)
                                  refine pure_ (i := 3) (N := some 141) (v := ?_) (a' := ?_) #[true, true, true, true, false, false, false, false, false, false, false, false, false, false, false, false, false, false, false, false, false] rfl rfl (any_of HT_.out (by kernel_rfl)) (fun _ _ _ h => h) (Or.inl ⟨by rfl, ?_⟩) ?_ ?_; rotate_left; · (intro w'; go_simp; with_reducible rfl)
                                  rotate_left; · (simp only [Act.put, sT, sZ, sS, i64_w, i32_w]; rfl)
                                  refine pure_ (i := 5) (N := some 143) (v := ?_) (a' := ?_) #[true, true, true, true, false, true, false, false, false, false, false, false, false, false, false, false, false, false, false, false, false] rfl rfl (any_of HT_.out (by kernel_rfl)) (fun _ _ _ h => h) (Or.inl ⟨by rfl, ?_⟩) ?_ ?_; rotate_left; · (intro w'; go_simp; with_reducible rfl)
                                  rotate_left; · (simp only [Act.put, sT, sZ, sS, i64_w, i32_w]; rfl)
                                  refine pure_ (i := 6) (N := some 144) (v := ?_) (a' := ?_) #[true, true, true, true, false, true, true, false, false, false, false, false, false, false, false, false, false, false, false, false, false] rfl rfl (any_of HT_.out (by kernel_rfl)) (fun _ _ _ h => h) (Or.inl ⟨by rfl, ?_⟩) ?_ ?_; rotate_left; · (intro w'; go_simp; with_reducible rfl)
                                  rotate_left; · (simp only [Act.put, sT, sZ, sS, i64_w, i32_w]; rfl)
                                  refine pure_ (i := 7) (N := some 145) (v := ?_) (a' := ?_) #[true, true, true, true, false, true, true, true, false, false, false, false, false, false, false, false, false, false, false, false, false] rfl rfl (any_of HT_.out (by kernel_rfl)) (fun _ _ _ h => h) (Or.inl ⟨by rfl, ?_⟩) ?_ ?_; rotate_left; · (intro w'; go_simp; with_reducible rfl)
                                  rotate_left; · (simp only [Act.put, sT, sZ, sS, i64_w, i32_w]; rfl)
                                  refine take_ (i := 8) (N := some 146) (v := ?_) (a' := ?_) #[true, true, true, true, false, true, true, true, true, false, false, false, false, false, false, false, false, false, false, false, false] rfl rfl (take_ofW HT_.out HW_.out (by kernel_rfl)) (fun _ _ _ h => h) (Or.inl ⟨by rfl, ?_⟩) hHeld ?_ ?_; rotate_left
                                  · rintro w' ⟨s0, s1⟩
                                    go_simp
                                    with_reducible rfl
                                  rotate_left; · (simp only [Act.put, sT, sZ, sS, i64_w, i32_w]; rfl)
                                  refine pure_ (i := 9) (N := some 147) (v := ?_) (a' := ?_) #[true, true, true, true, false, true, true, true, true, true, false, false, false, false, false, false, false, false, false, false, false] rfl rfl (any_of HT_.out (by kernel_rfl)) (fun _ _ _ h => h) (Or.inl ⟨by rfl, ?_⟩) ?_ ?_; rotate_left; · (intro w'; go_simp; with_reducible rfl)
                                  rotate_left; · (simp only [Act.put, sT, sZ, sS, i64_w, i32_w]; rfl)
                                  refine one_ (i := 4) (N := some 142) #[true, true, true, true, true, true, true, true, true, true, false, false, false, false, false, false, false, false, false, false, false] rfl rfl (one_of HT_.out (by kernel_rfl)) (by decide) (fun K hK => ?_)
                                  refine goes_ Try.func15 (by kernel_rfl) rfl #[.pointer (some ⟨g3000019, 0, none⟩)] (by rfl) rfl rfl (by (try simp only [List.map_toArray, List.map_cons, List.map_nil]); first | done | rfl | (simp; done)) ?_
                                  have hs0_ := (SL.get4 (SL.get4 HS.out))
                                  (with_reducible refine (outbox_Box_Len_i1.slcalls _ _ _ _ _ _ _ _ (HF.out.keep HK.out) hs0_  Hc71.out).mono ?_)
                                  rintro e_ w75 ⟨rfl, hsr_, hkr_⟩
                                  refine ⟨_, rfl, ?_⟩
                                  replace HS := Aside0.mk (hsr_)
                                  replace HK := Aside0.mk (HK.out.trans hkr_)
                                  refine hK.out _ _ ⟨(((blk_cell (SL.at_ (SL.get2 HS.out)) 0).trans rfl)), (((blk_cell (SL.at_ (SL.get2 HS.out)) 2).trans rfl))⟩ (fun hHeld => ?_)
                                  clear hK K
                                  refine norm_ (a' := ?_) ?_ ?_; rotate_left
                                  · show Act.put _ (some 142) _ = _
                                    simp only [Act.put, sT, sZ, sS, i64_w, i32_w]
                                    rfl
                                  refine pure_ (i := 10) (N := some 148) (v := ?_) (a' := ?_) #[true, true, true, true, true, true, true, true, true, true, true, false, false, false, false, false, false, false, false, false, false] rfl rfl (any_of HT_.out (by kernel_rfl)) (fun _ _ _ h => h) (Or.inl ⟨by rfl, ?_⟩) ?_ ?_; rotate_left; · (intro w'; go_simp; with_reducible rfl)
                                  rotate_left; · (simp only [Act.put, sT, sZ, sS, i64_w, i32_w]; rfl)
                                  refine pure_ (i := 11) (N := some 149) (v := ?_) (a' := ?_) #[true, true, true, true, true, true, true, true, true, true, true, true, false, false, false, false, false, false, false, false, false] rfl rfl (any_of HT_.out (by kernel_rfl)) (fun _ _ _ h => h) (Or.inl ⟨by rfl, ?_⟩) ?_ ?_; rotate_left; · (intro w'; go_simp; with_reducible rfl)
                                  rotate_left; · (simp only [Act.put, sT, sZ, sS, i64_w, i32_w]; rfl)
                                  refine pure_ (i := 12) (N := some 150) (v := ?_) (a' := ?_) #[true, true, true, true, true, true, true, true, true, true, true, true, true, false, false, false, false, false, false, false, false] rfl rfl (any_of HT_.out (by kernel_rfl)) (fun _ _ _ h => h) (Or.inl ⟨by rfl, ?_⟩) ?_ ?_; rotate_left; · (intro w'; go_simp; with_reducible rfl)
                                  rotate_left; · (simp only [Act.put, sT, sZ, sS, i64_w, i32_w]; rfl)
                                  refine pure_ (i := 13) (N := some 151) (v := ?_) (a' := ?_) #[true, true, true, true, true, true, true, true, true, true, true, true, true, true, false, false, false, false, false, false, false] rfl rfl (any_of HT_.out (by kernel_rfl)) (fun _ _ _ h => h) (Or.inl ⟨by rfl, ?_⟩) ?_ ?_; rotate_left; · (intro w'; go_simp; with_reducible rfl)
                                  rotate_left; · (simp only [Act.put, sT, sZ, sS, i64_w, i32_w]; rfl)
                                  refine pure_ (i := 15) (N := some 153) (v := ?_) (a' := ?_) #[true, true, true, true, true, true, true, true, true, true, true, true, true, true, false, true, false, false, false, false, false] rfl rfl (any_of HT_.out (by kernel_rfl)) (fun _ _ _ h => h) (Or.inl ⟨by rfl, ?_⟩) ?_ ?_; rotate_left; · (intro w'; go_simp; with_reducible rfl)
                                  rotate_left; · (simp only [Act.put, sT, sZ, sS, i64_w, i32_w]; rfl)
                                  refine pure_ (i := 16) (N := some 154) (v := ?_) (a' := ?_) #[true, true, true, true, true, true, true, true, true, true, true, true, true, true, false, true, true, false, false, false, false] rfl rfl (any_of HT_.out (by kernel_rfl)) (fun _ _ _ h => h) (Or.inl ⟨by rfl, ?_⟩) ?_ ?_; rotate_left; · (intro w'; go_simp; with_reducible rfl)
                                  rotate_left; · (simp only [Act.put, sT, sZ, sS, i64_w, i32_w]; rfl)
                                  refine pure_ (i := 17) (N := some 155) (v := ?_) (a' := ?_) #[true, true, true, true, true, true, true, true, true, true, true, true, true, true, false, true, true, true, false, false, false] rfl rfl (any_of HT_.out (by kernel_rfl)) (fun _ _ _ h => h) (Or.inl ⟨by rfl, ?_⟩) ?_ ?_; rotate_left; · (intro w'; go_simp; with_reducible rfl)
                                  rotate_left; · (simp only [Act.put, sT, sZ, sS, i64_w, i32_w]; rfl)
                                  refine take_ (i := 18) (N := some 156) (v := ?_) (a' := ?_) #[true, true, true, true, true, true, true, true, true, true, true, true, true, true, false, true, true, true, true, false, false] rfl rfl (take_ofW HT_.out HW_.out (by kernel_rfl)) (fun _ _ _ h => h) (Or.inl ⟨by rfl, ?_⟩) hHeld ?_ ?_; rotate_left
                                  · rintro w' ⟨s0, s1⟩
                                    go_simp
                                    with_reducible rfl
                                  rotate_left; · (simp only [Act.put, sT, sZ, sS, i64_w, i32_w]; rfl)
                                  refine one_ (i := 14) (N := some 152) #[true, true, true, true, true, true, true, true, true, true, true, true, true, true, true, true, true, true, true, false, false] rfl rfl (one_of HT_.out (by kernel_rfl)) (by decide) (fun K hK => ?_)
                                  refine goes_ Try.func16 (by kernel_rfl) rfl #[.pointer (some ⟨g3000019, 0, none⟩)] (by rfl) rfl rfl (by (try simp only [List.map_toArray, List.map_cons, List.map_nil]); first | done | rfl | (simp; done)) ?_
                                  have hs0_ := (SL.get1 (SL.get1 HS.out))
                                  (with_reducible refine (outbox_Box_Lost_i1.slcalls _ _ _ _ _ _ _ _ (HF.out.keep HK.out) hs0_  Hc73.out).mono ?_)
                                  rintro e_ w76 ⟨rfl, hsr_, hkr_⟩
                                  refine ⟨_, rfl, ?_⟩
                                  replace HS := Aside0.mk (hsr_)
                                  replace HK := Aside0.mk (HK.out.trans hkr_)
                                  refine hK.out _ _ ⟨(((blk_cell (SL.at_ (SL.get2 HS.out)) 0).trans rfl)), (((blk_cell (SL.at_ (SL.get2 HS.out)) 2).trans rfl))⟩ (fun hHeld => ?_)
                                  clear hK K
                                  refine norm_ (a' := ?_) ?_ ?_; rotate_left
                                  · show Act.put _ (some 152) _ = _
                                    simp only [Act.put, sT, sZ, sS, i64_w, i32_w]
                                    rfl
                                  refine pure_ (i := 19) (N := some 157) (v := ?_) (a' := ?_) #[true, true, true, true, true, true, true, true, true, true, true, true, true, true, true, true, true, true, true, true, false] rfl rfl (any_of HT_.out (by kernel_rfl)) (fun _ _ _ h => h) (Or.inl ⟨by rfl, ?_⟩) ?_ ?_; rotate_left; · (intro w'; go_simp; with_reducible rfl)
                                  rotate_left; · (simp only [Act.put, sT, sZ, sS, i64_w, i32_w]; rfl)
                                  refine pure_ (i := 20) (N := some 158) (v := ?_) (a' := ?_) #[true, true, true, true, true, true, true, true, true, true, true, true, true, true, true, true, true, true, true, true, true] rfl rfl (any_of HT_.out (by kernel_rfl)) (fun _ _ _ h => h) (Or.inl ⟨by rfl, ?_⟩) ?_ ?_; rotate_left; · (intro w'; go_simp; with_reducible rfl)
                                  rotate_left; · (simp only [Act.put, sT, sZ, sS, i64_w, i32_w]; rfl)
                                  refine done_ (done_of HT_.out (by kernel_rfl)) ?_
                                  try go_wp2
                                  replace HS := Aside0.mk (SL.get3 (SL.get3 (SL.get1 (SL.get1 (SL.tail (SL.get4 (SL.tail (SL.get4 HS.out))))))))
                                  go_roundg k2
                                  case measure => have := HQ1.out; have := HQ2.out; omega
                                  case rel => exact ⟨(t524), (x3000021_2_0), (A525), (c526), (x3000019_1_0), (t521), (wrap64 (x10_0 + 1)), (by first | rfl | (simp; done) | (simp [*]; done)), H', ⟨by have := HQ1.out; have := HQ2.out; omega⟩, HS, HK⟩
                              · rw [if_neg c72] at H
                                have c72b0 : (t535 == (t524.length : Int)) = false := beq_eq_false_iff_ne.mpr c72
                                have c72b1 : (t535 != (t524.length : Int)) = true := bne_iff_ne.mpr c72
                                exact absurd H (by simp)
                            · replace c70 := Bool.eq_false_iff.mpr c70
                              subst c70
                              rw [if_neg (show ¬ (false = true) by decide)] at H
                              exact absurd H (by simp)
                        · rw [if_neg c63] at H
                          have c63b0 : decide (x13_301 < (t520.length : Int)) = false := decide_eq_false c63
                          clear c63
                          by_cases c77 : t527 = true
                          · subst c77
                            rw [if_pos rfl] at H
                            replace H := Option.bind_eq_some_iff.1 H
                            obtain ⟨t539, Hc780, H⟩ := H
                            try dsimp only at H
                            have Hc78 := Aside0.mk Hc780
                            clear Hc780
                            by_cases c79 : t539 = (t524.length : Int)
                            · rw [if_pos c79] at H
                              have c79b0 : (t539 == (t524.length : Int)) = true := beq_iff_eq.mpr c79
                              have c79b1 : (t539 != (t524.length : Int)) = false := bne_eq_false_iff_eq.mpr c79
                              clear c79
                              replace H := Option.bind_eq_some_iff.1 H
                              obtain ⟨t540, Hc800, H⟩ := H
                              try dsimp only at H
                              have Hc80 := Aside0.mk Hc800
                              clear Hc800
                              by_cases c81 : (t540 != x3000021_2_0) = true
                              · rw [if_pos c81] at H
                                exact absurd H (by simp)
                              · rw [if_neg c81] at H
                                have c81b0 : (t540 != x3000021_2_0) = false := by simpa using c81
                                (try (have c81b1 : decide (t540 = x3000021_2_0) = true := by simpa using c81))
                                (try (have c81b2 : (t540 == x3000021_2_0) = true := by simpa using c81))
                                clear c81
                                have H' := Aside0.mk H
                                clear H
                                try go_wp2
                                refine start_ (n := 21) (S := fun w' => w'.cell? ⟨g3000021, 0, none⟩ = some (.slice A525 t524.length c526) ∧ w'.cell? ⟨g3000021, 2, none⟩ = some (.bool x3000021_2_0)) (ds := []) #[false, false, false, false, false, false, false, false, false, false, false, false, false, false, false, false, false, false, false, false, false] (by kernel_rfl) rfl rfl ⟨(((blk_cell (SL.at_ HS.out) 0).trans rfl)), (((blk_cell (SL.at_ HS.out) 2).trans rfl))⟩ (fun hHeld => ?_); refine with_tabW barrowlaw26_OutboxPlays.tab33 barrowlaw26_OutboxPlays.bits33 (fun HT_ HW_ => ?_)
                                replace HK := Aside0.mk (Keep.drew HK.out)
                                replace HS := Aside0.mk (SL.drew HS.out)
                                refine pure_ (i := 0) (N := some 138) (v := ?_) (a' := ?_) #[true, false, false, false, false, false, false, false, false, false, false, false, false, false, false, false, false, false, false, false, false] rfl rfl (any_of HT_.out (by kernel_rfl)) (fun _ _ _ h => h) (Or.inl ⟨by rfl, ?_⟩) ?_ ?_; rotate_left; · (intro w'; go_simp; with_reducible rfl)
                                rotate_left; · (simp only [Act.put, sT, sZ, sS, i64_w, i32_w]; rfl)
                                refine pure_ (i := 1) (N := some 139) (v := ?_) (a' := ?_) #[true, true, false, false, false, false, false, false, false, false, false, false, false, false, false, false, false, false, false, false, false] rfl rfl (any_of HT_.out (by kernel_rfl)) (fun _ _ _ h => h) (Or.inl ⟨by rfl, ?_⟩) ?_ ?_; rotate_left; · (intro w'; go_simp; with_reducible rfl)
                                rotate_left; · (simp only [Act.put, sT, sZ, sS, i64_w, i32_w]; rfl)
                                refine pure_ (i := 2) (N := some 140) (v := ?_) (a' := ?_) #[true, true, true, false, false, false, false, false, false, false, false, false, false, false, false, false, false, false, false, false, false] rfl rfl (any_of HT_.out (by kernel_rfl)) (fun _ _ _ h => h) (Or.inl ⟨by rfl, ?_⟩) ?_ ?_; rotate_left; · (intro w'; go_simp; with_reducible rfl)
                                rotate_left; · (simp only [Act.put, sT, sZ, sS, i64_w, i32_w]; rfl)
                                refine pure_ (i := 3) (N := some 141) (v := ?_) (a' := ?_) #[true, true, true, true, false, false, false, false, false, false, false, false, false, false, false, false, false, false, false, false, false] rfl rfl (any_of HT_.out (by kernel_rfl)) (fun _ _ _ h => h) (Or.inl ⟨by rfl, ?_⟩) ?_ ?_; rotate_left; · (intro w'; go_simp; with_reducible rfl)
                                rotate_left; · (simp only [Act.put, sT, sZ, sS, i64_w, i32_w]; rfl)
                                refine pure_ (i := 5) (N := some 143) (v := ?_) (a' := ?_) #[true, true, true, true, false, true, false, false, false, false, false, false, false, false, false, false, false, false, false, false, false] rfl rfl (any_of HT_.out (by kernel_rfl)) (fun _ _ _ h => h) (Or.inl ⟨by rfl, ?_⟩) ?_ ?_; rotate_left; · (intro w'; go_simp; with_reducible rfl)
                                rotate_left; · (simp only [Act.put, sT, sZ, sS, i64_w, i32_w]; rfl)
                                refine pure_ (i := 6) (N := some 144) (v := ?_) (a' := ?_) #[true, true, true, true, false, true, true, false, false, false, false, false, false, false, false, false, false, false, false, false, false] rfl rfl (any_of HT_.out (by kernel_rfl)) (fun _ _ _ h => h) (Or.inl ⟨by rfl, ?_⟩) ?_ ?_; rotate_left; · (intro w'; go_simp; with_reducible rfl)
                                rotate_left; · (simp only [Act.put, sT, sZ, sS, i64_w, i32_w]; rfl)
                                refine pure_ (i := 7) (N := some 145) (v := ?_) (a' := ?_) #[true, true, true, true, false, true, true, true, false, false, false, false, false, false, false, false, false, false, false, false, false] rfl rfl (any_of HT_.out (by kernel_rfl)) (fun _ _ _ h => h) (Or.inl ⟨by rfl, ?_⟩) ?_ ?_; rotate_left; · (intro w'; go_simp; with_reducible rfl)
                                rotate_left; · (simp only [Act.put, sT, sZ, sS, i64_w, i32_w]; rfl)
                                refine take_ (i := 8) (N := some 146) (v := ?_) (a' := ?_) #[true, true, true, true, false, true, true, true, true, false, false, false, false, false, false, false, false, false, false, false, false] rfl rfl (take_ofW HT_.out HW_.out (by kernel_rfl)) (fun _ _ _ h => h) (Or.inl ⟨by rfl, ?_⟩) hHeld ?_ ?_; rotate_left
                                · rintro w' ⟨s0, s1⟩
                                  go_simp
                                  with_reducible rfl
                                rotate_left; · (simp only [Act.put, sT, sZ, sS, i64_w, i32_w]; rfl)
                                refine pure_ (i := 9) (N := some 147) (v := ?_) (a' := ?_) #[true, true, true, true, false, true, true, true, true, true, false, false, false, false, false, false, false, false, false, false, false] rfl rfl (any_of HT_.out (by kernel_rfl)) (fun _ _ _ h => h) (Or.inl ⟨by rfl, ?_⟩) ?_ ?_; rotate_left; · (intro w'; go_simp; with_reducible rfl)
                                rotate_left; · (simp only [Act.put, sT, sZ, sS, i64_w, i32_w]; rfl)
                                refine one_ (i := 4) (N := some 142) #[true, true, true, true, true, true, true, true, true, true, false, false, false, false, false, false, false, false, false, false, false] rfl rfl (one_of HT_.out (by kernel_rfl)) (by decide) (fun K hK => ?_)
                                refine goes_ Try.func15 (by kernel_rfl) rfl #[.pointer (some ⟨g3000019, 0, none⟩)] (by rfl) rfl rfl (by (try simp only [List.map_toArray, List.map_cons, List.map_nil]); first | done | rfl | (simp; done)) ?_
                                have hs0_ := (SL.get4 (SL.get4 HS.out))
                                (with_reducible refine (outbox_Box_Len_i1.slcalls _ _ _ _ _ _ _ _ (HF.out.keep HK.out) hs0_  Hc78.out).mono ?_)
                                rintro e_ w82 ⟨rfl, hsr_, hkr_⟩
                                refine ⟨_, rfl, ?_⟩
                                replace HS := Aside0.mk (hsr_)
                                replace HK := Aside0.mk (HK.out.trans hkr_)
                                refine hK.out _ _ ⟨(((blk_cell (SL.at_ (SL.get2 HS.out)) 0).trans rfl)), (((blk_cell (SL.at_ (SL.get2 HS.out)) 2).trans rfl))⟩ (fun hHeld => ?_)
                                clear hK K
                                refine norm_ (a' := ?_) ?_ ?_; rotate_left
                                · show Act.put _ (some 142) _ = _
                                  simp only [Act.put, sT, sZ, sS, i64_w, i32_w]
                                  rfl
                                refine pure_ (i := 10) (N := some 148) (v := ?_) (a' := ?_) #[true, true, true, true, true, true, true, true, true, true, true, false, false, false, false, false, false, false, false, false, false] rfl rfl (any_of HT_.out (by kernel_rfl)) (fun _ _ _ h => h) (Or.inl ⟨by rfl, ?_⟩) ?_ ?_; rotate_left; · (intro w'; go_simp; with_reducible rfl)
                                rotate_left; · (simp only [Act.put, sT, sZ, sS, i64_w, i32_w]; rfl)
                                refine pure_ (i := 11) (N := some 149) (v := ?_) (a' := ?_) #[true, true, true, true, true, true, true, true, true, true, true, true, false, false, false, false, false, false, false, false, false] rfl rfl (any_of HT_.out (by kernel_rfl)) (fun _ _ _ h => h) (Or.inl ⟨by rfl, ?_⟩) ?_ ?_; rotate_left; · (intro w'; go_simp; with_reducible rfl)
                                rotate_left; · (simp only [Act.put, sT, sZ, sS, i64_w, i32_w]; rfl)
                                refine pure_ (i := 12) (N := some 150) (v := ?_) (a' := ?_) #[true, true, true, true, true, true, true, true, true, true, true, true, true, false, false, false, false, false, false, false, false] rfl rfl (any_of HT_.out (by kernel_rfl)) (fun _ _ _ h => h) (Or.inl ⟨by rfl, ?_⟩) ?_ ?_; rotate_left; · (intro w'; go_simp; with_reducible rfl)
                                rotate_left; · (simp only [Act.put, sT, sZ, sS, i64_w, i32_w]; rfl)
                                refine pure_ (i := 13) (N := some 151) (v := ?_) (a' := ?_) #[true, true, true, true, true, true, true, true, true, true, true, true, true, true, false, false, false, false, false, false, false] rfl rfl (any_of HT_.out (by kernel_rfl)) (fun _ _ _ h => h) (Or.inl ⟨by rfl, ?_⟩) ?_ ?_; rotate_left; · (intro w'; go_simp; with_reducible rfl)
                                rotate_left; · (simp only [Act.put, sT, sZ, sS, i64_w, i32_w]; rfl)
                                refine pure_ (i := 15) (N := some 153) (v := ?_) (a' := ?_) #[true, true, true, true, true, true, true, true, true, true, true, true, true, true, false, true, false, false, false, false, false] rfl rfl (any_of HT_.out (by kernel_rfl)) (fun _ _ _ h => h) (Or.inl ⟨by rfl, ?_⟩) ?_ ?_; rotate_left; · (intro w'; go_simp; with_reducible rfl)
                                rotate_left; · (simp only [Act.put, sT, sZ, sS, i64_w, i32_w]; rfl)
                                refine pure_ (i := 16) (N := some 154) (v := ?_) (a' := ?_) #[true, true, true, true, true, true, true, true, true, true, true, true, true, true, false, true, true, false, false, false, false] rfl rfl (any_of HT_.out (by kernel_rfl)) (fun _ _ _ h => h) (Or.inl ⟨by rfl, ?_⟩) ?_ ?_; rotate_left; · (intro w'; go_simp; with_reducible rfl)
                                rotate_left; · (simp only [Act.put, sT, sZ, sS, i64_w, i32_w]; rfl)
                                refine pure_ (i := 17) (N := some 155) (v := ?_) (a' := ?_) #[true, true, true, true, true, true, true, true, true, true, true, true, true, true, false, true, true, true, false, false, false] rfl rfl (any_of HT_.out (by kernel_rfl)) (fun _ _ _ h => h) (Or.inl ⟨by rfl, ?_⟩) ?_ ?_; rotate_left; · (intro w'; go_simp; with_reducible rfl)
                                rotate_left; · (simp only [Act.put, sT, sZ, sS, i64_w, i32_w]; rfl)
                                refine take_ (i := 18) (N := some 156) (v := ?_) (a' := ?_) #[true, true, true, true, true, true, true, true, true, true, true, true, true, true, false, true, true, true, true, false, false] rfl rfl (take_ofW HT_.out HW_.out (by kernel_rfl)) (fun _ _ _ h => h) (Or.inl ⟨by rfl, ?_⟩) hHeld ?_ ?_; rotate_left
                                · rintro w' ⟨s0, s1⟩
                                  go_simp
                                  with_reducible rfl
                                rotate_left; · (simp only [Act.put, sT, sZ, sS, i64_w, i32_w]; rfl)
                                refine one_ (i := 14) (N := some 152) #[true, true, true, true, true, true, true, true, true, true, true, true, true, true, true, true, true, true, true, false, false] rfl rfl (one_of HT_.out (by kernel_rfl)) (by decide) (fun K hK => ?_)
                                refine goes_ Try.func16 (by kernel_rfl) rfl #[.pointer (some ⟨g3000019, 0, none⟩)] (by rfl) rfl rfl (by (try simp only [List.map_toArray, List.map_cons, List.map_nil]); first | done | rfl | (simp; done)) ?_
                                have hs0_ := (SL.get1 (SL.get1 HS.out))
                                (with_reducible refine (outbox_Box_Lost_i1.slcalls _ _ _ _ _ _ _ _ (HF.out.keep HK.out) hs0_  Hc80.out).mono ?_)
                                rintro e_ w83 ⟨rfl, hsr_, hkr_⟩
                                refine ⟨_, rfl, ?_⟩
                                replace HS := Aside0.mk (hsr_)
                                replace HK := Aside0.mk (HK.out.trans hkr_)
                                refine hK.out _ _ ⟨(((blk_cell (SL.at_ (SL.get2 HS.out)) 0).trans rfl)), (((blk_cell (SL.at_ (SL.get2 HS.out)) 2).trans rfl))⟩ (fun hHeld => ?_)
                                clear hK K
                                refine norm_ (a' := ?_) ?_ ?_; rotate_left
                                · show Act.put _ (some 152) _ = _
                                  simp only [Act.put, sT, sZ, sS, i64_w, i32_w]
                                  rfl
                                refine pure_ (i := 19) (N := some 157) (v := ?_) (a' := ?_) #[true, true, true, true, true, true, true, true, true, true, true, true, true, true, true, true, true, true, true, true, false] rfl rfl (any_of HT_.out (by kernel_rfl)) (fun _ _ _ h => h) (Or.inl ⟨by rfl, ?_⟩) ?_ ?_; rotate_left; · (intro w'; go_simp; with_reducible rfl)
                                rotate_left; · (simp only [Act.put, sT, sZ, sS, i64_w, i32_w]; rfl)
                                refine pure_ (i := 20) (N := some 158) (v := ?_) (a' := ?_) #[true, true, true, true, true, true, true, true, true, true, true, true, true, true, true, true, true, true, true, true, true] rfl rfl (any_of HT_.out (by kernel_rfl)) (fun _ _ _ h => h) (Or.inl ⟨by rfl, ?_⟩) ?_ ?_; rotate_left; · (intro w'; go_simp; with_reducible rfl)
                                rotate_left; · (simp only [Act.put, sT, sZ, sS, i64_w, i32_w]; rfl)
                                refine done_ (done_of HT_.out (by kernel_rfl)) ?_
                                try go_wp2
                                replace HS := Aside0.mk (SL.get3 (SL.get3 (SL.get1 (SL.get1 (SL.tail (SL.get4 (SL.tail (SL.get4 HS.out))))))))
                                go_roundg k2
                                case measure => have := HQ1.out; have := HQ2.out; omega
                                case rel => exact ⟨(t524), (x3000021_2_0), (A525), (c526), (x3000019_1_0), (t521), (wrap64 (x10_0 + 1)), (by first | rfl | (simp; done) | (simp [*]; done)), H', ⟨by have := HQ1.out; have := HQ2.out; omega⟩, HS, HK⟩
                            · rw [if_neg c79] at H
                              have c79b0 : (t539 == (t524.length : Int)) = false := beq_eq_false_iff_ne.mpr c79
                              have c79b1 : (t539 != (t524.length : Int)) = true := bne_iff_ne.mpr c79
                              exact absurd H (by simp)
                          · replace c77 := Bool.eq_false_iff.mpr c77
                            subst c77
                            rw [if_neg (show ¬ (false = true) by decide)] at H
                            exact absurd H (by simp)
                  · rw [if_neg c56] at H
                    have c56b0 : ((Go.bits .and .i64 ((rd_T29 l1 x10_0).f0) 7) == 5) = false := beq_eq_false_iff_ne.mpr c56
                    have c56b1 : ((Go.bits .and .i64 ((rd_T29 l1 x10_0).f0) 7) != 5) = true := bne_iff_ne.mpr c56
                    by_cases c84 : (l2.length : Int) > 0
                    · rw [if_pos c84] at H
                      have c84b0 : decide (0 < (l2.length : Int)) = true := decide_eq_true c84
                      have c84b1 : decide (0 < l2.length) = true := decide_eq_true (by omega)
                      clear c84
                      replace H := Option.bind_eq_some_iff.1 H
                      obtain ⟨y541, hy5410, H⟩ := H
                      try dsimp only at H
                      have hy541 := Option.some.inj hy5410
                      clear hy5410
                      have Ny541 := Aside0.mk hy541
                      clear hy541
                      by_cases c85 : (l2.length : Int) = 0
                      · rw [if_pos c85] at H
                        exact absurd H (by simp)
                      · rw [if_neg c85] at H
                        have c85b0 : ((l2.length : Int) == 0) = false := beq_eq_false_iff_ne.mpr c85
                        have c85b1 : ((l2.length : Int) != 0) = true := bne_iff_ne.mpr c85
                        have c85b2 : ¬ (l2 = []) := fun h_ => c85 (by rw [h_]; rfl)
                        replace H := Option.bind_eq_some_iff.1 H
                        obtain ⟨j542, hj5420, H⟩ := H
                        try dsimp only at H
                        have hj542 := Option.some.inj hj5420
                        clear hj5420
                        by_cases c86 : 0 ≤ j542
                        · rw [if_pos c86] at H
                          have c86b0 : decide (0 ≤ j542) = true := decide_eq_true c86
                          clear c86
                          by_cases c87 : j542 < (l2.length : Int)
                          · rw [if_pos c87] at H
                            have c87b0 : decide (j542 < (l2.length : Int)) = true := decide_eq_true c87
                            clear c87
                            replace H := Option.bind_eq_some_iff.1 H
                            obtain ⟨y544, hy5440, H⟩ := H
                            try dsimp only at H
                            have hy544 := Option.some.inj hy5440
                            clear hy5440
                            have Ny544 := Aside0.mk hy544
                            clear hy544
                            by_cases c88 : y541.length + y544.length < 140737488355328
                            · rw [if_pos c88] at H
                              have LMc88 := Aside0.mk c88
                              clear c88
                              replace H := Option.bind_eq_some_iff.1 H
                              obtain ⟨y545, hy5450, H⟩ := H
                              try dsimp only at H
                              have hy545 := Option.some.inj hy5450
                              clear hy5450
                              have Ny545 := Aside0.mk hy545
                              clear hy545
                              replace H := Option.bind_eq_some_iff.1 H
                              obtain ⟨⟨t548, t549, t550⟩, Hc890, H⟩ := H
                              try dsimp only at H
                              have Hc89 := Aside0.mk Hc890
                              clear Hc890
                              replace H := Option.bind_eq_some_iff.1 H
                              obtain ⟨y552, hy5520, H⟩ := H
                              try dsimp only at H
                              have hy552 := Option.some.inj hy5520
                              clear hy5520
                              have Ny552 := Aside0.mk hy552
                              clear hy552
                              replace H := Option.bind_eq_some_iff.1 H
                              obtain ⟨⟨t553, t554, t555⟩, Hc900, H⟩ := H
                              try dsimp only at H
                              have Hc90 := Aside0.mk Hc900
                              clear Hc900
                              have H' := Aside0.mk H
                              clear H
                              have pq486 : 0 ≤ (x10_0 : Int) := of_decide_eq_true (by first | (with_reducible assumption) | assumption)
                              have qq486 : x10_0 < ((l1.length : Int) : Int) := of_decide_eq_true (by first | (with_reducible assumption) | assumption)
                              obtain ⟨adq486, eq486, hxq486_0, hxq486_1⟩ := at_T29 (RO.at_ HR1.out HK.out) x10_0 pq486 qq486
                              cases eq486
                              replace pq486 := eq_true pq486
                              replace qq486 := eq_true qq486
                              go_wp2_with (first | ((with_reducible refine gate_dst (N := 55) rfl ?_); refine wpList_plain rfl (fun K_ hK_ => ?_); refine op_row (S := S) (enc := Value.int .u8) (h1 := fun _ => rfl) 5 y541 #[] 0 (by rw [← Ny541.out]; rfl) (by rw [← Ny541.out]; rfl) (by decide) (HF.out.keep HK.out) HS.out (by first | (go_simp; done) | (go_simp; rfl)) ?_; intro Az3000025 cz3000025 w91 hs_ hk_; refine hK_ _ _ ?_; clear hK_ K_; replace HS := Aside0.mk ((show SL (row (Kd.int .u8) 5 (.slice Az3000025 0 cz3000025) y541 :: _) _ _ from hs_)); replace HK := Aside0.mk (HK.out.trans hk_); have pq543 : 0 ≤ (j542 : Int) := of_decide_eq_true (by first | (with_reducible assumption) | assumption); have qq543 : j542 < ((l2.length : Int) : Int) := of_decide_eq_true (by first | (with_reducible assumption) | assumption); obtain ⟨adq543, Aq543_0, cq543_0, eq543, hxxq543, hiq543, hlq543⟩ := RO.inner HR2.out j542 pq543 qq543 y544 Ny544.out; have hxq543_0 := hxxq543 _ HK.out; clear hxxq543; have HRq543_0 := Aside0.mk hiq543; have HCq543_0 := Aside0.mk hlq543; clear hiq543 hlq543; cases eq543; replace pq543 := eq_true pq543; replace qq543 := eq_true qq543) | ((with_reducible refine gate_dst (N := 63) rfl ?_); refine wpList_plain rfl (fun K_ hK_ => ?_); refine op_append (S := S) (enc := Value.int .u8) (h1 := fun _ => rfl) 0 (.tmp 55) (.tmp 62) 32 5 (.int .u8 0) 1 rfl Try.underlying32 info5 rfl (by decide) (.slice Az3000025 0 cz3000025) rfl rfl (HF.out.keep HK.out) HS.out (RO.at_ HRq543_0.out HK.out) (by have := LMc88.out; omega) y545 Ny545.out ?_; intro A546 c547 w92 hs_ hk_; refine hK_ _ _ ?_; clear hK_ K_; replace HS := Aside0.mk ((show SL (row (Kd.int .u8) 5 (.slice A546 y545.length c547) y545 :: _) _ _ from hs_)); replace HK := Aside0.mk (HK.out.trans hk_)) | ((with_reducible refine gate_dst (N := 66) rfl ?_); refine goesL_ (some 66) rfl rfl Try.func13 (by kernel_rfl) rfl #[.pointer (some ⟨g3000019, 0, none⟩), .slice A546 y545.length c547] rfl (by (try simp only [List.map_toArray, List.map_cons, List.map_nil]); first | done | rfl | (simp; done)) ?_; have hs0_ := (SL.get2 (SL.get4 (SL.get4 HS.out))); obtain ⟨U1_, hfU1_, hsub1_, hs1_, hro1_, hback1_⟩ := SL.lend (HF.out.keep HK.out) hs0_ (p := fun w_ => Kd.C (Kd.int .u8) w_ A546 y545.length y545) (fun w_ T_ h_ => (Qs_c h_).2.2); (with_reducible refine (outbox_Box_Put.slcalls k1 _ _ _ _ _ _ _ _ _ _ _ _ _ hfU1_ hs1_ hro1_ (SL.row_c HS.out).2.1 Hc89.out).mono ?_); rintro e_ w93 ⟨rfl, hsr_, hkr_⟩; refine ⟨_, rfl, ?_⟩; replace HS := Aside0.mk ((hback1_ _ _ hkr_ hsr_)); replace HK := Aside0.mk (HK.out.trans (Keep.sub hkr_ (fun k_ h_ => hsub1_ k_ h_))); have pq551 : 0 ≤ (j542 : Int) := of_decide_eq_true (by first | (with_reducible assumption) | assumption); have qq551 : j542 < ((l2.length : Int) : Int) := of_decide_eq_true (by first | (with_reducible assumption) | assumption); obtain ⟨adq551, Aq551_0, cq551_0, eq551, hxxq551, hiq551, hlq551⟩ := RO.inner HR2.out j542 pq551 qq551 y552 Ny552.out; have hxq551_0 := hxxq551 _ HK.out; clear hxxq551; have HRq551_0 := Aside0.mk hiq551; have HCq551_0 := Aside0.mk hlq551; clear hiq551 hlq551; obtain rfl : adq543 = adq551 := (by injection eq551); replace pq551 := eq_true pq551; replace qq551 := eq_true qq551) | ((with_reducible refine gate_dst (N := 76) rfl ?_); refine goesL_ (some 76) rfl rfl Try.func14 (by kernel_rfl) rfl #[.pointer (some ⟨g3000021, 0, none⟩), .slice Aq551_0 y552.length cq551_0] rfl (by (try simp only [List.map_toArray, List.map_cons, List.map_nil]); first | done | rfl | (simp; done)) ?_; have hs0_ := (SL.get4 (SL.get4 HS.out)); (with_reducible refine (barrowref26_Box_Put.slcalls _ _ _ _ _ _ _ _ _ _ _ _ _ _ _ (HF.out.keep HK.out) hs0_ (HRq551_0.out.keep HK.out) HCq551_0.out Hc90.out).mono ?_); rintro e_ w94 ⟨A556, c557, rfl, hsr_, hkr_⟩; refine ⟨_, rfl, ?_⟩; replace HS := Aside0.mk (hsr_); replace HK := Aside0.mk (HK.out.trans hkr_); refine stop_ ?_; intro G_ hG_))
                              have H := H'.out
                              clear H'
                              by_cases c95 : (t548 == t553) = true
                              · rw [if_pos c95] at H
                                have c95b0 : (t548 == t553) = true := c95
                                (try (have c95b1 : decide (t548 = t553) = true := by simpa using c95))
                                (try (have c95b2 : (t548 == t553) = true := by simpa using c95))
                                clear c95
                                have H' := Aside0.mk H
                                clear H
                                refine hG_.out ?_
                                try simp only [c95b0]
                                go_wp2
                                go_loopg [17] k1 (fun kq v17 w' => ∃ (y3000025_3 : List Int) (x17_3 : Int), v17 = .int .i64 x17_3 ∧ Aside0 (barrowlaw26_OutboxPlays.l3 kq l1 l2 x10_0 x17_3 y3000025_3 t396 t400 y545 t549 t550 t554 t555 = some r) ∧ Aside0 (kq ≤ k1) ∧ Aside0 (SL (cells g3000021 36 [.slice A556 t554.length c557, .int .i64 t400, .bool t555].toArray :: rows (inn (Kd.int .u8) 5) 1 32 (.slice A556 t554.length c557) t554 :: row (Kd.int .u8) 5 (.slice A546 y545.length c547) y3000025_3 :: cells g3000019 41 [.chan (some g3000020), .bool t549].toArray :: chano g3000020 (inn (Kd.int .u8) 5) t550 :: L) w' S) ∧ Aside0 (Keep S w w'))
                                case atStart => exact ⟨(y545), (0), (by first | rfl | (simp; done) | (simp [*]; done)), H', ⟨Nat.le_refl _⟩, HS, HK⟩
                                case round =>
                                  clear H' HS HK
                                  obtain ⟨y3000025_3, x17_3, rfl, HA, HQ2, HS, HK⟩ := hrel
                                  cases gk with
                                  | zero => exact absurd HA.out (by simp [barrowlaw26_OutboxPlays.l3])
                                  | succ k2 =>
                                    have H := HA.out
                                    clear HA
                                    simp only [barrowlaw26_OutboxPlays.l3] at H
                                    by_cases c96 : x17_3 < (y545.length : Int)
                                    · rw [if_pos c96] at H
                                      have c96b0 : decide (x17_3 < (y545.length : Int)) = true := decide_eq_true c96
                                      clear c96
                                      by_cases c97 : 0 ≤ x17_3
                                      · rw [if_pos c97] at H
                                        have c97b0 : decide (0 ≤ x17_3) = true := decide_eq_true c97
                                        clear c97
                                        replace H := Option.bind_eq_some_iff.1 H
                                        obtain ⟨y559, hy5590, H⟩ := H
                                        try dsimp only at H
                                        have hy559 := Option.some.inj hy5590
                                        clear hy5590
                                        have Ny559 := Aside0.mk hy559
                                        clear hy559
                                        have H' := Aside0.mk H
                                        clear H
                                        have pq558 : 0 ≤ (x17_3 : Int) := of_decide_eq_true (by first | (with_reducible assumption) | assumption)
                                        have qq558 : x17_3 < ((y545.length : Int) : Int) := of_decide_eq_true (by first | (with_reducible assumption) | assumption)
                                        obtain ⟨adq558, eq558, hxq558_0⟩ := Kd.at_int (SL.row_c (SL.get2 HS.out)).2.2 x17_3 pq558 qq558
                                        cases eq558
                                        replace pq558 := eq_true pq558
                                        replace qq558 := eq_true qq558
                                        go_wp2_with (first | ((with_reducible refine gate_store (t := 5) (p := 86) (v := (.const (.int .u8 98))) rfl ?_); refine wpList_plain rfl (fun K_ hK_ => ?_); refine op_set (S := S) (enc := Value.int .u8) (h1 := fun _ => rfl) 5 (.tmp 86) (.const (.int .u8 98)) rfl adq558 (x17_3) 98 (SL.get2 HS.out) (by rfl) rfl (by kernel_rfl) (of_decide_eq_true (by first | (with_reducible assumption) | assumption)) (of_decide_eq_true (by first | (with_reducible assumption) | assumption)) y559 Ny559.out ?_; intro w98 hs_ hk_; refine hK_ _ _ ?_; clear hK_ K_; replace HS := Aside0.mk ((SL.back2 (show SL (row (Kd.int .u8) 5 (.slice (some adq558) y545.length c547) y559 :: _) _ _ from hs_))); replace HK := Aside0.mk (HK.out.trans hk_)))
                                        go_roundg k2
                                        case measure => have := HQ1.out; have := HQ2.out; omega
                                        case rel => exact ⟨(y559), (wrap64 (x17_3 + 1)), (by first | rfl | (simp; done) | (simp [*]; done)), H', ⟨by have := HQ1.out; have := HQ2.out; omega⟩, HS, HK⟩
                                      · rw [if_neg c97] at H
                                        exact absurd H (by simp)
                                    · rw [if_neg c96] at H
                                      have c96b0 : decide (x17_3 < (y545.length : Int)) = false := decide_eq_false c96
                                      clear c96
                                      replace H := Option.bind_eq_some_iff.1 H
                                      obtain ⟨t562, Hc990, H⟩ := H
                                      try dsimp only at H
                                      have Hc99 := Aside0.mk Hc990
                                      clear Hc990
                                      by_cases c100 : t562 = (t554.length : Int)
                                      · rw [if_pos c100] at H
                                        have c100b0 : (t562 == (t554.length : Int)) = true := beq_iff_eq.mpr c100
                                        have c100b1 : (t562 != (t554.length : Int)) = false := bne_eq_false_iff_eq.mpr c100
                                        clear c100
                                        replace H := Option.bind_eq_some_iff.1 H
                                        obtain ⟨t563, Hc1010, H⟩ := H
                                        try dsimp only at H
                                        have Hc101 := Aside0.mk Hc1010
                                        clear Hc1010
                                        by_cases c102 : (t563 != t555) = true
                                        · rw [if_pos c102] at H
                                          exact absurd H (by simp)
                                        · rw [if_neg c102] at H
                                          have c102b0 : (t563 != t555) = false := by simpa using c102
                                          (try (have c102b1 : decide (t563 = t555) = true := by simpa using c102))
                                          (try (have c102b2 : (t563 == t555) = true := by simpa using c102))
                                          clear c102
                                          have H' := Aside0.mk H
                                          clear H
                                          try go_wp2
                                          refine start_ (n := 21) (S := fun w' => w'.cell? ⟨g3000021, 0, none⟩ = some (.slice A556 t554.length c557) ∧ w'.cell? ⟨g3000021, 2, none⟩ = some (.bool t555)) (ds := []) #[false, false, false, false, false, false, false, false, false, false, false, false, false, false, false, false, false, false, false, false, false] (by kernel_rfl) rfl rfl ⟨(((blk_cell (SL.at_ HS.out) 0).trans rfl)), (((blk_cell (SL.at_ HS.out) 2).trans rfl))⟩ (fun hHeld => ?_); refine with_tabW barrowlaw26_OutboxPlays.tab33 barrowlaw26_OutboxPlays.bits33 (fun HT_ HW_ => ?_)
                                          replace HK := Aside0.mk (Keep.drew HK.out)
                                          replace HS := Aside0.mk (SL.drew HS.out)
                                          refine pure_ (i := 0) (N := some 138) (v := ?_) (a' := ?_) #[true, false, false, false, false, false, false, false, false, false, false, false, false, false, false, false, false, false, false, false, false] rfl rfl (any_of HT_.out (by kernel_rfl)) (fun _ _ _ h => h) (Or.inl ⟨by rfl, ?_⟩) ?_ ?_; rotate_left; · (intro w'; go_simp; with_reducible rfl)
                                          rotate_left; · (simp only [Act.put, sT, sZ, sS, i64_w, i32_w]; rfl)
                                          refine pure_ (i := 1) (N := some 139) (v := ?_) (a' := ?_) #[true, true, false, false, false, false, false, false, false, false, false, false, false, false, false, false, false, false, false, false, false] rfl rfl (any_of HT_.out (by kernel_rfl)) (fun _ _ _ h => h) (Or.inl ⟨by rfl, ?_⟩) ?_ ?_; rotate_left; · (intro w'; go_simp; with_reducible rfl)
                                          rotate_left; · (simp only [Act.put, sT, sZ, sS, i64_w, i32_w]; rfl)
                                          refine pure_ (i := 2) (N := some 140) (v := ?_) (a' := ?_) #[true, true, true, false, false, false, false, false, false, false, false, false, false, false, false, false, false, false, false, false, false] rfl rfl (any_of HT_.out (by kernel_rfl)) (fun _ _ _ h => h) (Or.inl ⟨by rfl, ?_⟩) ?_ ?_; rotate_left; · (intro w'; go_simp; with_reducible rfl)
                                          rotate_left; · (simp only [Act.put, sT, sZ, sS, i64_w, i32_w]; rfl)
                                          refine pure_ (i := 3) (N := some 141) (v := ?_) (a' := ?_) #[true, true, true, true, false, false, false, false, false, false, false, false, false, false, false, false, false, false, false, false, false] rfl rfl (any_of HT_.out (by kernel_rfl)) (fun _ _ _ h => h) (Or.inl ⟨by rfl, ?_⟩) ?_ ?_; rotate_left; · (intro w'; go_simp; with_reducible rfl)
                                          rotate_left; · (simp only [Act.put, sT, sZ, sS, i64_w, i32_w]; rfl)
                                          refine pure_ (i := 5) (N := some 143) (v := ?_) (a' := ?_) #[true, true, true, true, false, true, false, false, false, false, false, false, false, false, false, false, false, false, false, false, false] rfl rfl (any_of HT_.out (by kernel_rfl)) (fun _ _ _ h => h) (Or.inl ⟨by rfl, ?_⟩) ?_ ?_; rotate_left; · (intro w'; go_simp; with_reducible rfl)
                                          rotate_left; · (simp only [Act.put, sT, sZ, sS, i64_w, i32_w]; rfl)
                                          refine pure_ (i := 6) (N := some 144) (v := ?_) (a' := ?_) #[true, true, true, true, false, true, true, false, false, false, false, false, false, false, false, false, false, false, false, false, false] rfl rfl (any_of HT_.out (by kernel_rfl)) (fun _ _ _ h => h) (Or.inl ⟨by rfl, ?_⟩) ?_ ?_; rotate_left; · (intro w'; go_simp; with_reducible rfl)
                                          rotate_left; · (simp only [Act.put, sT, sZ, sS, i64_w, i32_w]; rfl)
                                          refine pure_ (i := 7) (N := some 145) (v := ?_) (a' := ?_) #[true, true, true, true, false, true, true, true, false, false, false, false, false, false, false, false, false, false, false, false, false] rfl rfl (any_of HT_.out (by kernel_rfl)) (fun _ _ _ h => h) (Or.inl ⟨by rfl, ?_⟩) ?_ ?_; rotate_left; · (intro w'; go_simp; with_reducible rfl)
                                          rotate_left; · (simp only [Act.put, sT, sZ, sS, i64_w, i32_w]; rfl)
                                          refine take_ (i := 8) (N := some 146) (v := ?_) (a' := ?_) #[true, true, true, true, false, true, true, true, true, false, false, false, false, false, false, false, false, false, false, false, false] rfl rfl (take_ofW HT_.out HW_.out (by kernel_rfl)) (fun _ _ _ h => h) (Or.inl ⟨by rfl, ?_⟩) hHeld ?_ ?_; rotate_left
                                          · rintro w' ⟨s0, s1⟩
                                            go_simp
                                            with_reducible rfl
                                          rotate_left; · (simp only [Act.put, sT, sZ, sS, i64_w, i32_w]; rfl)
                                          refine pure_ (i := 9) (N := some 147) (v := ?_) (a' := ?_) #[true, true, true, true, false, true, true, true, true, true, false, false, false, false, false, false, false, false, false, false, false] rfl rfl (any_of HT_.out (by kernel_rfl)) (fun _ _ _ h => h) (Or.inl ⟨by rfl, ?_⟩) ?_ ?_; rotate_left; · (intro w'; go_simp; with_reducible rfl)
                                          rotate_left; · (simp only [Act.put, sT, sZ, sS, i64_w, i32_w]; rfl)
                                          refine one_ (i := 4) (N := some 142) #[true, true, true, true, true, true, true, true, true, true, false, false, false, false, false, false, false, false, false, false, false] rfl rfl (one_of HT_.out (by kernel_rfl)) (by decide) (fun K hK => ?_)
                                          refine goes_ Try.func15 (by kernel_rfl) rfl #[.pointer (some ⟨g3000019, 0, none⟩)] (by rfl) rfl rfl (by (try simp only [List.map_toArray, List.map_cons, List.map_nil]); first | done | rfl | (simp; done)) ?_
                                          have hs0_ := (SL.get4 (SL.get4 HS.out))
                                          (with_reducible refine (outbox_Box_Len_i1.slcalls _ _ _ _ _ _ _ _ (HF.out.keep HK.out) hs0_  Hc99.out).mono ?_)
                                          rintro e_ w103 ⟨rfl, hsr_, hkr_⟩
                                          refine ⟨_, rfl, ?_⟩
                                          replace HS := Aside0.mk (hsr_)
                                          replace HK := Aside0.mk (HK.out.trans hkr_)
                                          refine hK.out _ _ ⟨(((blk_cell (SL.at_ (SL.get2 HS.out)) 0).trans rfl)), (((blk_cell (SL.at_ (SL.get2 HS.out)) 2).trans rfl))⟩ (fun hHeld => ?_)
                                          clear hK K
                                          refine norm_ (a' := ?_) ?_ ?_; rotate_left
                                          · show Act.put _ (some 142) _ = _
                                            simp only [Act.put, sT, sZ, sS, i64_w, i32_w]
                                            rfl
                                          refine pure_ (i := 10) (N := some 148) (v := ?_) (a' := ?_) #[true, true, true, true, true, true, true, true, true, true, true, false, false, false, false, false, false, false, false, false, false] rfl rfl (any_of HT_.out (by kernel_rfl)) (fun _ _ _ h => h) (Or.inl ⟨by rfl, ?_⟩) ?_ ?_; rotate_left; · (intro w'; go_simp; with_reducible rfl)
                                          rotate_left; · (simp only [Act.put, sT, sZ, sS, i64_w, i32_w]; rfl)
                                          refine pure_ (i := 11) (N := some 149) (v := ?_) (a' := ?_) #[true, true, true, true, true, true, true, true, true, true, true, true, false, false, false, false, false, false, false, false, false] rfl rfl (any_of HT_.out (by kernel_rfl)) (fun _ _ _ h => h) (Or.inl ⟨by rfl, ?_⟩) ?_ ?_; rotate_left; · (intro w'; go_simp; with_reducible rfl)
                                          rotate_left; · (simp only [Act.put, sT, sZ, sS, i64_w, i32_w]; rfl)
                                          refine pure_ (i := 12) (N := some 150) (v := ?_) (a' := ?_) #[true, true, true, true, true, true, true, true, true, true, true, true, true, false, false, false, false, false, false, false, false] rfl rfl (any_of HT_.out (by kernel_rfl)) (fun _ _ _ h => h) (Or.inl ⟨by rfl, ?_⟩) ?_ ?_; rotate_left; · (intro w'; go_simp; with_reducible rfl)
                                          rotate_left; · (simp only [Act.put, sT, sZ, sS, i64_w, i32_w]; rfl)
                                          refine pure_ (i := 13) (N := some 151) (v := ?_) (a' := ?_) #[true, true, true, true, true, true, true, true, true, true, true, true, true, true, false, false, false, false, false, false, false] rfl rfl (any_of HT_.out (by kernel_rfl)) (fun _ _ _ h => h) (Or.inl ⟨by rfl, ?_⟩) ?_ ?_; rotate_left; · (intro w'; go_simp; with_reducible rfl)
                                          rotate_left; · (simp only [Act.put, sT, sZ, sS, i64_w, i32_w]; rfl)
                                          refine pure_ (i := 15) (N := some 153) (v := ?_) (a' := ?_) #[true, true, true, true, true, true, true, true, true, true, true, true, true, true, false, true, false, false, false, false, false] rfl rfl (any_of HT_.out (by kernel_rfl)) (fun _ _ _ h => h) (Or.inl ⟨by rfl, ?_⟩) ?_ ?_; rotate_left; · (intro w'; go_simp; with_reducible rfl)
                                          rotate_left; · (simp only [Act.put, sT, sZ, sS, i64_w, i32_w]; rfl)
                                          refine pure_ (i := 16) (N := some 154) (v := ?_) (a' := ?_) #[true, true, true, true, true, true, true, true, true, true, true, true, true, true, false, true, true, false, false, false, false] rfl rfl (any_of HT_.out (by kernel_rfl)) (fun _ _ _ h => h) (Or.inl ⟨by rfl, ?_⟩) ?_ ?_; rotate_left; · (intro w'; go_simp; with_reducible rfl)
                                          rotate_left; · (simp only [Act.put, sT, sZ, sS, i64_w, i32_w]; rfl)
                                          refine pure_ (i := 17) (N := some 155) (v := ?_) (a' := ?_) #[true, true, true, true, true, true, true, true, true, true, true, true, true, true, false, true, true, true, false, false, false] rfl rfl (any_of HT_.out (by kernel_rfl)) (fun _ _ _ h => h) (Or.inl ⟨by rfl, ?_⟩) ?_ ?_; rotate_left; · (intro w'; go_simp; with_reducible rfl)
                                          rotate_left; · (simp only [Act.put, sT, sZ, sS, i64_w, i32_w]; rfl)
                                          refine take_ (i := 18) (N := some 156) (v := ?_) (a' := ?_) #[true, true, true, true, true, true, true, true, true, true, true, true, true, true, false, true, true, true, true, false, false] rfl rfl (take_ofW HT_.out HW_.out (by kernel_rfl)) (fun _ _ _ h => h) (Or.inl ⟨by rfl, ?_⟩) hHeld ?_ ?_; rotate_left
                                          · rintro w' ⟨s0, s1⟩
                                            go_simp
                                            with_reducible rfl
                                          rotate_left; · (simp only [Act.put, sT, sZ, sS, i64_w, i32_w]; rfl)
                                          refine one_ (i := 14) (N := some 152) #[true, true, true, true, true, true, true, true, true, true, true, true, true, true, true, true, true, true, true, false, false] rfl rfl (one_of HT_.out (by kernel_rfl)) (by decide) (fun K hK => ?_)
                                          refine goes_ Try.func16 (by kernel_rfl) rfl #[.pointer (some ⟨g3000019, 0, none⟩)] (by rfl) rfl rfl (by (try simp only [List.map_toArray, List.map_cons, List.map_nil]); first | done | rfl | (simp; done)) ?_
                                          have hs0_ := (SL.get1 (SL.get1 HS.out))
                                          (with_reducible refine (outbox_Box_Lost_i1.slcalls _ _ _ _ _ _ _ _ (HF.out.keep HK.out) hs0_  Hc101.out).mono ?_)
                                          rintro e_ w104 ⟨rfl, hsr_, hkr_⟩
                                          refine ⟨_, rfl, ?_⟩
                                          replace HS := Aside0.mk (hsr_)
                                          replace HK := Aside0.mk (HK.out.trans hkr_)
                                          refine hK.out _ _ ⟨(((blk_cell (SL.at_ (SL.get2 HS.out)) 0).trans rfl)), (((blk_cell (SL.at_ (SL.get2 HS.out)) 2).trans rfl))⟩ (fun hHeld => ?_)
                                          clear hK K
                                          refine norm_ (a' := ?_) ?_ ?_; rotate_left
                                          · show Act.put _ (some 152) _ = _
                                            simp only [Act.put, sT, sZ, sS, i64_w, i32_w]
                                            rfl
                                          refine pure_ (i := 19) (N := some 157) (v := ?_) (a' := ?_) #[true, true, true, true, true, true, true, true, true, true, true, true, true, true, true, true, true, true, true, true, false] rfl rfl (any_of HT_.out (by kernel_rfl)) (fun _ _ _ h => h) (Or.inl ⟨by rfl, ?_⟩) ?_ ?_; rotate_left; · (intro w'; go_simp; with_reducible rfl)
                                          rotate_left; · (simp only [Act.put, sT, sZ, sS, i64_w, i32_w]; rfl)
                                          refine pure_ (i := 20) (N := some 158) (v := ?_) (a' := ?_) #[true, true, true, true, true, true, true, true, true, true, true, true, true, true, true, true, true, true, true, true, true] rfl rfl (any_of HT_.out (by kernel_rfl)) (fun _ _ _ h => h) (Or.inl ⟨by rfl, ?_⟩) ?_ ?_; rotate_left; · (intro w'; go_simp; with_reducible rfl)
                                          rotate_left; · (simp only [Act.put, sT, sZ, sS, i64_w, i32_w]; rfl)
                                          refine done_ (done_of HT_.out (by kernel_rfl)) ?_
                                          try go_wp2
                                          replace HS := Aside0.mk (SL.get3 (SL.get3 (SL.get1 (SL.get1 (SL.tail (SL.get4 HS.out))))))
                                          go_roundg k2
                                          case measure => have := HQ1.out; have := HQ2.out; omega
                                          case rel => exact ⟨(t554), (t555), (A556), (c557), (t549), (t550), (wrap64 (x10_0 + 1)), (by first | rfl | (simp; done) | (simp [*]; done)), H', ⟨by have := HQ1.out; have := HQ2.out; omega⟩, HS, HK⟩
                                      · rw [if_neg c100] at H
                                        have c100b0 : (t562 == (t554.length : Int)) = false := beq_eq_false_iff_ne.mpr c100
                                        have c100b1 : (t562 != (t554.length : Int)) = true := bne_iff_ne.mpr c100
                                        exact absurd H (by simp)
                              · rw [if_neg c95] at H
                                have c95b0 : (t548 == t553) = false := by simpa using c95
                                (try (have c95b1 : decide (t548 = t553) = false := by simpa using c95))
                                (try (have c95b2 : (t548 == t553) = false := by simpa using c95))
                                (try (have c95b3 : ¬ (t548 = t553) := by simpa using c95))
                                clear c95
                                have H' := Aside0.mk H
                                clear H
                                refine hG_.out ?_
                                try simp only [c95b0]
                                go_wp2
                                go_loopg [17] k1 (fun kq v17 w' => ∃ (y3000025_103 : List Int) (x17_103 : Int), v17 = .int .i64 x17_103 ∧ Aside0 (barrowlaw26_OutboxPlays.l103 kq y3000025_103 x17_103 y545 = some r) ∧ Aside0 (kq ≤ k1) ∧ Aside0 (SL (cells g3000021 36 [.slice A556 t554.length c557, .int .i64 t400, .bool t555].toArray :: rows (inn (Kd.int .u8) 5) 1 32 (.slice A556 t554.length c557) t554 :: row (Kd.int .u8) 5 (.slice A546 y545.length c547) y3000025_103 :: cells g3000019 41 [.chan (some g3000020), .bool t549].toArray :: chano g3000020 (inn (Kd.int .u8) 5) t550 :: L) w' S) ∧ Aside0 (Keep S w w'))
                                case atStart => exact ⟨(y545), (0), (by first | rfl | (simp; done) | (simp [*]; done)), H', ⟨Nat.le_refl _⟩, HS, HK⟩
                                case round =>
                                  clear H' HS HK
                                  obtain ⟨y3000025_103, x17_103, rfl, HA, HQ2, HS, HK⟩ := hrel
                                  cases gk with
                                  | zero => exact absurd HA.out (by simp [barrowlaw26_OutboxPlays.l103])
                                  | succ k2 =>
                                    have H := HA.out
                                    clear HA
                                    simp only [barrowlaw26_OutboxPlays.l103] at H
                                    by_cases c105 : x17_103 < (y545.length : Int)
                                    · rw [if_pos c105] at H
                                      have c105b0 : decide (x17_103 < (y545.length : Int)) = true := decide_eq_true c105
                                      clear c105
                                      by_cases c106 : 0 ≤ x17_103
                                      · rw [if_pos c106] at H
                                        have c106b0 : decide (0 ≤ x17_103) = true := decide_eq_true c106
                                        clear c106
                                        replace H := Option.bind_eq_some_iff.1 H
                                        obtain ⟨y565, hy5650, H⟩ := H
                                        try dsimp only at H
                                        have hy565 := Option.some.inj hy5650
                                        clear hy5650
                                        have Ny565 := Aside0.mk hy565
                                        clear hy565
                                        have H' := Aside0.mk H
                                        clear H
                                        have pq564 : 0 ≤ (x17_103 : Int) := of_decide_eq_true (by first | (with_reducible assumption) | assumption)
                                        have qq564 : x17_103 < ((y545.length : Int) : Int) := of_decide_eq_true (by first | (with_reducible assumption) | assumption)
                                        obtain ⟨adq564, eq564, hxq564_0⟩ := Kd.at_int (SL.row_c (SL.get2 HS.out)).2.2 x17_103 pq564 qq564
                                        cases eq564
                                        replace pq564 := eq_true pq564
                                        replace qq564 := eq_true qq564
                                        go_wp2_with (first | ((with_reducible refine gate_store (t := 5) (p := 86) (v := (.const (.int .u8 98))) rfl ?_); refine wpList_plain rfl (fun K_ hK_ => ?_); refine op_set (S := S) (enc := Value.int .u8) (h1 := fun _ => rfl) 5 (.tmp 86) (.const (.int .u8 98)) rfl adq564 (x17_103) 98 (SL.get2 HS.out) (by rfl) rfl (by kernel_rfl) (of_decide_eq_true (by first | (with_reducible assumption) | assumption)) (of_decide_eq_true (by first | (with_reducible assumption) | assumption)) y565 Ny565.out ?_; intro w107 hs_ hk_; refine hK_ _ _ ?_; clear hK_ K_; replace HS := Aside0.mk ((SL.back2 (show SL (row (Kd.int .u8) 5 (.slice (some adq564) y545.length c547) y565 :: _) _ _ from hs_))); replace HK := Aside0.mk (HK.out.trans hk_)))
                                        go_roundg k2
                                        case measure => have := HQ1.out; have := HQ2.out; omega
                                        case rel => exact ⟨(y565), (wrap64 (x17_103 + 1)), (by first | rfl | (simp; done) | (simp [*]; done)), H', ⟨by have := HQ1.out; have := HQ2.out; omega⟩, HS, HK⟩
                                      · rw [if_neg c106] at H
                                        exact absurd H (by simp)
                                    · rw [if_neg c105] at H
                                      have c105b0 : decide (x17_103 < (y545.length : Int)) = false := decide_eq_false c105
                                      clear c105
                                      exact absurd H (by simp)
                            · rw [if_neg c88] at H
                              exact absurd H (by simp)
                          · rw [if_neg c87] at H
                            exact absurd H (by simp)
                        · rw [if_neg c86] at H
                          exact absurd H (by simp)
                    · rw [if_neg c84] at H
                      have c84b0 : decide (0 < (l2.length : Int)) = false := decide_eq_false c84
                      have c84b1 : decide (0 < l2.length) = false := decide_eq_false (by omega)
                      clear c84
                      replace H := Option.bind_eq_some_iff.1 H
                      obtain ⟨t568, Hc1080, H⟩ := H
                      try dsimp only at H
                      have Hc108 := Aside0.mk Hc1080
                      clear Hc1080
                      by_cases c109 : t568 = (y3000022_0.length : Int)
                      · rw [if_pos c109] at H
                        have c109b0 : (t568 == (y3000022_0.length : Int)) = true := beq_iff_eq.mpr c109
                        have c109b1 : (t568 != (y3000022_0.length : Int)) = false := bne_eq_false_iff_eq.mpr c109
                        clear c109
                        replace H := Option.bind_eq_some_iff.1 H
                        obtain ⟨t569, Hc1100, H⟩ := H
                        try dsimp only at H
                        have Hc110 := Aside0.mk Hc1100
                        clear Hc1100
                        by_cases c111 : (t569 != x3000021_2_0) = true
                        · rw [if_pos c111] at H
                          exact absurd H (by simp)
                        · rw [if_neg c111] at H
                          have c111b0 : (t569 != x3000021_2_0) = false := by simpa using c111
                          (try (have c111b1 : decide (t569 = x3000021_2_0) = true := by simpa using c111))
                          (try (have c111b2 : (t569 == x3000021_2_0) = true := by simpa using c111))
                          clear c111
                          have H' := Aside0.mk H
                          clear H
                          have pq486 : 0 ≤ (x10_0 : Int) := of_decide_eq_true (by first | (with_reducible assumption) | assumption)
                          have qq486 : x10_0 < ((l1.length : Int) : Int) := of_decide_eq_true (by first | (with_reducible assumption) | assumption)
                          obtain ⟨adq486, eq486, hxq486_0, hxq486_1⟩ := at_T29 (RO.at_ HR1.out HK.out) x10_0 pq486 qq486
                          cases eq486
                          replace pq486 := eq_true pq486
                          replace qq486 := eq_true qq486
                          try go_wp2
                          refine start_ (n := 21) (S := fun w' => w'.cell? ⟨g3000021, 0, none⟩ = some (.slice A3000022_0 y3000022_0.length c3000022_0) ∧ w'.cell? ⟨g3000021, 2, none⟩ = some (.bool x3000021_2_0)) (ds := []) #[false, false, false, false, false, false, false, false, false, false, false, false, false, false, false, false, false, false, false, false, false] (by kernel_rfl) rfl rfl ⟨(((blk_cell (SL.at_ HS.out) 0).trans rfl)), (((blk_cell (SL.at_ HS.out) 2).trans rfl))⟩ (fun hHeld => ?_); refine with_tabW barrowlaw26_OutboxPlays.tab33 barrowlaw26_OutboxPlays.bits33 (fun HT_ HW_ => ?_)
                          replace HK := Aside0.mk (Keep.drew HK.out)
                          replace HS := Aside0.mk (SL.drew HS.out)
                          refine pure_ (i := 0) (N := some 138) (v := ?_) (a' := ?_) #[true, false, false, false, false, false, false, false, false, false, false, false, false, false, false, false, false, false, false, false, false] rfl rfl (any_of HT_.out (by kernel_rfl)) (fun _ _ _ h => h) (Or.inl ⟨by rfl, ?_⟩) ?_ ?_; rotate_left; · (intro w'; go_simp; with_reducible rfl)
                          rotate_left; · (simp only [Act.put, sT, sZ, sS, i64_w, i32_w]; rfl)
                          refine pure_ (i := 1) (N := some 139) (v := ?_) (a' := ?_) #[true, true, false, false, false, false, false, false, false, false, false, false, false, false, false, false, false, false, false, false, false] rfl rfl (any_of HT_.out (by kernel_rfl)) (fun _ _ _ h => h) (Or.inl ⟨by rfl, ?_⟩) ?_ ?_; rotate_left; · (intro w'; go_simp; with_reducible rfl)
                          rotate_left; · (simp only [Act.put, sT, sZ, sS, i64_w, i32_w]; rfl)
                          refine pure_ (i := 2) (N := some 140) (v := ?_) (a' := ?_) #[true, true, true, false, false, false, false, false, false, false, false, false, false, false, false, false, false, false, false, false, false] rfl rfl (any_of HT_.out (by kernel_rfl)) (fun _ _ _ h => h) (Or.inl ⟨by rfl, ?_⟩) ?_ ?_; rotate_left; · (intro w'; go_simp; with_reducible rfl)
                          rotate_left; · (simp only [Act.put, sT, sZ, sS, i64_w, i32_w]; rfl)
                          refine pure_ (i := 3) (N := some 141) (v := ?_) (a' := ?_) #[true, true, true, true, false, false, false, false, false, false, false, false, false, false, false, false, false, false, false, false, false] rfl rfl (any_of HT_.out (by kernel_rfl)) (fun _ _ _ h => h) (Or.inl ⟨by rfl, ?_⟩) ?_ ?_; rotate_left; · (intro w'; go_simp; with_reducible rfl)
                          rotate_left; · (simp only [Act.put, sT, sZ, sS, i64_w, i32_w]; rfl)
                          refine pure_ (i := 5) (N := some 143) (v := ?_) (a' := ?_) #[true, true, true, true, false, true, false, false, false, false, false, false, false, false, false, false, false, false, false, false, false] rfl rfl (any_of HT_.out (by kernel_rfl)) (fun _ _ _ h => h) (Or.inl ⟨by rfl, ?_⟩) ?_ ?_; rotate_left; · (intro w'; go_simp; with_reducible rfl)
                          rotate_left; · (simp only [Act.put, sT, sZ, sS, i64_w, i32_w]; rfl)
                          refine pure_ (i := 6) (N := some 144) (v := ?_) (a' := ?_) #[true, true, true, true, false, true, true, false, false, false, false, false, false, false, false, false, false, false, false, false, false] rfl rfl (any_of HT_.out (by kernel_rfl)) (fun _ _ _ h => h) (Or.inl ⟨by rfl, ?_⟩) ?_ ?_; rotate_left; · (intro w'; go_simp; with_reducible rfl)
                          rotate_left; · (simp only [Act.put, sT, sZ, sS, i64_w, i32_w]; rfl)
                          refine pure_ (i := 7) (N := some 145) (v := ?_) (a' := ?_) #[true, true, true, true, false, true, true, true, false, false, false, false, false, false, false, false, false, false, false, false, false] rfl rfl (any_of HT_.out (by kernel_rfl)) (fun _ _ _ h => h) (Or.inl ⟨by rfl, ?_⟩) ?_ ?_; rotate_left; · (intro w'; go_simp; with_reducible rfl)
                          rotate_left; · (simp only [Act.put, sT, sZ, sS, i64_w, i32_w]; rfl)
                          refine take_ (i := 8) (N := some 146) (v := ?_) (a' := ?_) #[true, true, true, true, false, true, true, true, true, false, false, false, false, false, false, false, false, false, false, false, false] rfl rfl (take_ofW HT_.out HW_.out (by kernel_rfl)) (fun _ _ _ h => h) (Or.inl ⟨by rfl, ?_⟩) hHeld ?_ ?_; rotate_left
                          · rintro w' ⟨s0, s1⟩
                            go_simp
                            with_reducible rfl
                          rotate_left; · (simp only [Act.put, sT, sZ, sS, i64_w, i32_w]; rfl)
                          refine pure_ (i := 9) (N := some 147) (v := ?_) (a' := ?_) #[true, true, true, true, false, true, true, true, true, true, false, false, false, false, false, false, false, false, false, false, false] rfl rfl (any_of HT_.out (by kernel_rfl)) (fun _ _ _ h => h) (Or.inl ⟨by rfl, ?_⟩) ?_ ?_; rotate_left; · (intro w'; go_simp; with_reducible rfl)
                          rotate_left; · (simp only [Act.put, sT, sZ, sS, i64_w, i32_w]; rfl)
                          refine one_ (i := 4) (N := some 142) #[true, true, true, true, true, true, true, true, true, true, false, false, false, false, false, false, false, false, false, false, false] rfl rfl (one_of HT_.out (by kernel_rfl)) (by decide) (fun K hK => ?_)
                          refine goes_ Try.func15 (by kernel_rfl) rfl #[.pointer (some ⟨g3000019, 0, none⟩)] (by rfl) rfl rfl (by (try simp only [List.map_toArray, List.map_cons, List.map_nil]); first | done | rfl | (simp; done)) ?_
                          have hs0_ := (SL.get3 (SL.get3 HS.out))
                          (with_reducible refine (outbox_Box_Len_i1.slcalls _ _ _ _ _ _ _ _ (HF.out.keep HK.out) hs0_  Hc108.out).mono ?_)
                          rintro e_ w112 ⟨rfl, hsr_, hkr_⟩
                          refine ⟨_, rfl, ?_⟩
                          replace HS := Aside0.mk (hsr_)
                          replace HK := Aside0.mk (HK.out.trans hkr_)
                          refine hK.out _ _ ⟨(((blk_cell (SL.at_ (SL.get2 HS.out)) 0).trans rfl)), (((blk_cell (SL.at_ (SL.get2 HS.out)) 2).trans rfl))⟩ (fun hHeld => ?_)
                          clear hK K
                          refine norm_ (a' := ?_) ?_ ?_; rotate_left
                          · show Act.put _ (some 142) _ = _
                            simp only [Act.put, sT, sZ, sS, i64_w, i32_w]
                            rfl
                          refine pure_ (i := 10) (N := some 148) (v := ?_) (a' := ?_) #[true, true, true, true, true, true, true, true, true, true, true, false, false, false, false, false, false, false, false, false, false] rfl rfl (any_of HT_.out (by kernel_rfl)) (fun _ _ _ h => h) (Or.inl ⟨by rfl, ?_⟩) ?_ ?_; rotate_left; · (intro w'; go_simp; with_reducible rfl)
                          rotate_left; · (simp only [Act.put, sT, sZ, sS, i64_w, i32_w]; rfl)
                          refine pure_ (i := 11) (N := some 149) (v := ?_) (a' := ?_) #[true, true, true, true, true, true, true, true, true, true, true, true, false, false, false, false, false, false, false, false, false] rfl rfl (any_of HT_.out (by kernel_rfl)) (fun _ _ _ h => h) (Or.inl ⟨by rfl, ?_⟩) ?_ ?_; rotate_left; · (intro w'; go_simp; with_reducible rfl)
                          rotate_left; · (simp only [Act.put, sT, sZ, sS, i64_w, i32_w]; rfl)
                          refine pure_ (i := 12) (N := some 150) (v := ?_) (a' := ?_) #[true, true, true, true, true, true, true, true, true, true, true, true, true, false, false, false, false, false, false, false, false] rfl rfl (any_of HT_.out (by kernel_rfl)) (fun _ _ _ h => h) (Or.inl ⟨by rfl, ?_⟩) ?_ ?_; rotate_left; · (intro w'; go_simp; with_reducible rfl)
                          rotate_left; · (simp only [Act.put, sT, sZ, sS, i64_w, i32_w]; rfl)
                          refine pure_ (i := 13) (N := some 151) (v := ?_) (a' := ?_) #[true, true, true, true, true, true, true, true, true, true, true, true, true, true, false, false, false, false, false, false, false] rfl rfl (any_of HT_.out (by kernel_rfl)) (fun _ _ _ h => h) (Or.inl ⟨by rfl, ?_⟩) ?_ ?_; rotate_left; · (intro w'; go_simp; with_reducible rfl)
                          rotate_left; · (simp only [Act.put, sT, sZ, sS, i64_w, i32_w]; rfl)
                          refine pure_ (i := 15) (N := some 153) (v := ?_) (a' := ?_) #[true, true, true, true, true, true, true, true, true, true, true, true, true, true, false, true, false, false, false, false, false] rfl rfl (any_of HT_.out (by kernel_rfl)) (fun _ _ _ h => h) (Or.inl ⟨by rfl, ?_⟩) ?_ ?_; rotate_left; · (intro w'; go_simp; with_reducible rfl)
                          rotate_left; · (simp only [Act.put, sT, sZ, sS, i64_w, i32_w]; rfl)
                          refine pure_ (i := 16) (N := some 154) (v := ?_) (a' := ?_) #[true, true, true, true, true, true, true, true, true, true, true, true, true, true, false, true, true, false, false, false, false] rfl rfl (any_of HT_.out (by kernel_rfl)) (fun _ _ _ h => h) (Or.inl ⟨by rfl, ?_⟩) ?_ ?_; rotate_left; · (intro w'; go_simp; with_reducible rfl)
                          rotate_left; · (simp only [Act.put, sT, sZ, sS, i64_w, i32_w]; rfl)
                          refine pure_ (i := 17) (N := some 155) (v := ?_) (a' := ?_) #[true, true, true, true, true, true, true, true, true, true, true, true, true, true, false, true, true, true, false, false, false] rfl rfl (any_of HT_.out (by kernel_rfl)) (fun _ _ _ h => h) (Or.inl ⟨by rfl, ?_⟩) ?_ ?_; rotate_left; · (intro w'; go_simp; with_reducible rfl)
                          rotate_left; · (simp only [Act.put, sT, sZ, sS, i64_w, i32_w]; rfl)
                          refine take_ (i := 18) (N := some 156) (v := ?_) (a' := ?_) #[true, true, true, true, true, true, true, true, true, true, true, true, true, true, false, true, true, true, true, false, false] rfl rfl (take_ofW HT_.out HW_.out (by kernel_rfl)) (fun _ _ _ h => h) (Or.inl ⟨by rfl, ?_⟩) hHeld ?_ ?_; rotate_left
                          · rintro w' ⟨s0, s1⟩
                            go_simp
                            with_reducible rfl
                          rotate_left; · (simp only [Act.put, sT, sZ, sS, i64_w, i32_w]; rfl)
                          refine one_ (i := 14) (N := some 152) #[true, true, true, true, true, true, true, true, true, true, true, true, true, true, true, true, true, true, true, false, false] rfl rfl (one_of HT_.out (by kernel_rfl)) (by decide) (fun K hK => ?_)
                          refine goes_ Try.func16 (by kernel_rfl) rfl #[.pointer (some ⟨g3000019, 0, none⟩)] (by rfl) rfl rfl (by (try simp only [List.map_toArray, List.map_cons, List.map_nil]); first | done | rfl | (simp; done)) ?_
                          have hs0_ := (SL.get1 (SL.get1 HS.out))
                          (with_reducible refine (outbox_Box_Lost_i1.slcalls _ _ _ _ _ _ _ _ (HF.out.keep HK.out) hs0_  Hc110.out).mono ?_)
                          rintro e_ w113 ⟨rfl, hsr_, hkr_⟩
                          refine ⟨_, rfl, ?_⟩
                          replace HS := Aside0.mk (hsr_)
                          replace HK := Aside0.mk (HK.out.trans hkr_)
                          refine hK.out _ _ ⟨(((blk_cell (SL.at_ (SL.get2 HS.out)) 0).trans rfl)), (((blk_cell (SL.at_ (SL.get2 HS.out)) 2).trans rfl))⟩ (fun hHeld => ?_)
                          clear hK K
                          refine norm_ (a' := ?_) ?_ ?_; rotate_left
                          · show Act.put _ (some 152) _ = _
                            simp only [Act.put, sT, sZ, sS, i64_w, i32_w]
                            rfl
                          refine pure_ (i := 19) (N := some 157) (v := ?_) (a' := ?_) #[true, true, true, true, true, true, true, true, true, true, true, true, true, true, true, true, true, true, true, true, false] rfl rfl (any_of HT_.out (by kernel_rfl)) (fun _ _ _ h => h) (Or.inl ⟨by rfl, ?_⟩) ?_ ?_; rotate_left; · (intro w'; go_simp; with_reducible rfl)
                          rotate_left; · (simp only [Act.put, sT, sZ, sS, i64_w, i32_w]; rfl)
                          refine pure_ (i := 20) (N := some 158) (v := ?_) (a' := ?_) #[true, true, true, true, true, true, true, true, true, true, true, true, true, true, true, true, true, true, true, true, true] rfl rfl (any_of HT_.out (by kernel_rfl)) (fun _ _ _ h => h) (Or.inl ⟨by rfl, ?_⟩) ?_ ?_; rotate_left; · (intro w'; go_simp; with_reducible rfl)
                          rotate_left; · (simp only [Act.put, sT, sZ, sS, i64_w, i32_w]; rfl)
                          refine done_ (done_of HT_.out (by kernel_rfl)) ?_
                          try go_wp2
                          replace HS := Aside0.mk (SL.get3 (SL.get3 (SL.get1 (SL.get1 HS.out))))
                          go_roundg k1
                          case measure => have := HQ1.out; omega
                          case rel => exact ⟨(y3000022_0), (x3000021_2_0), (A3000022_0), (c3000022_0), (x3000019_1_0), (y3000020_0), (wrap64 (x10_0 + 1)), (by first | rfl | (simp; done) | (simp [*]; done)), H', ⟨by have := HQ1.out; omega⟩, HS, HK⟩
                      · rw [if_neg c109] at H
                        have c109b0 : (t568 == (y3000022_0.length : Int)) = false := beq_eq_false_iff_ne.mpr c109
                        have c109b1 : (t568 != (y3000022_0.length : Int)) = true := bne_iff_ne.mpr c109
                        exact absurd H (by simp)
            · rw [if_neg c16] at H
              exact absurd H (by simp)
          · rw [if_neg c15] at H
            have c15b0 : decide (x10_0 < (l1.length : Int)) = false := decide_eq_false c15
            clear c15
            obtain rfl := Option.some.inj H
            go_wp2
            go_ret
            replace HS := Aside0.mk (SL.tail (SL.tail (SL.tail (SL.tail HS.out))))
            unfold barrowlaw26_OutboxPlays.Post
            exact ⟨by first | rfl | (simp; done) | (simp [*]; done) | (simp at c15b0 ⊢; first | exact c15b0 | (simp [c15b0]; done)), HS.out, HK.out⟩
theorem barrowlaw26_OutboxPlays.calls (k : Nat) (a0 : Int) (A1 : Option Addr) (c1 : Nat) (l1 : List (S29)) (A2 : Option Addr) (c2 : Nat) (l2 : List (List Int)) (r : Bool) (w : World) (hr1 : Kd.C k29 w A1 l1.length l1) (hc1 : l1.length ≤ c1) (hr2 : Kd.C (Kd.slice 5 (Kd.int .u8)) w A2 l2.length l2) (hc2 : l2.length ≤ c2) (h : barrowlaw26_OutboxPlays.f k a0 l1 l2 = some r) :
    Calls Try.prog 3 #[.int .i64 a0, .slice A1 l1.length c1, .slice A2 l2.length c2] w fun e w' => e = .returned (.bool r) ∧ Below w.heap.size w w' :=
  (barrowlaw26_OutboxPlays.slcalls k a0 A1 c1 l1 A2 c2 l2 r (news w) [] w (fresh_news w) trivial (RO.top hr1) hc1 (RO.top hr2) hc2 h).mono fun _ _ h => ⟨h.1, h.2.2.to_below⟩

/-- THE ONE PURE STATEMENT of barrowlaw26_OutboxPlays. -/
def barrowlaw26_OutboxPlays.Pure : Prop := ∀ (a0 : Int) (l1 : List (S29)) (l2 : List (List Int)), ((Lit.int .i64 a0).wf = true) → (l1.length ≤ maxLen ∧ l1.length * 16 ≤ 140737488351232 ∧ ∀ x570_ ∈ l1, ((Lit.int .i64 x570_.f0).wf = true) ∧ ((Lit.int .i64 x570_.f1).wf = true)) → (l2.length ≤ maxLen ∧ l2.length * 24 ≤ 140737488351232 ∧ ∀ x571_ ∈ l2, x571_.length ≤ maxLen ∧ x571_.length * 1 ≤ 140737488351232 ∧ ∀ x572_ ∈ x571_, (Lit.int .u8 x572_).wf = true) → ∃ k, barrowlaw26_OutboxPlays.f k a0 l1 l2 = some true

end Go.Proofs.Ytebllndphechmaa.XOB
