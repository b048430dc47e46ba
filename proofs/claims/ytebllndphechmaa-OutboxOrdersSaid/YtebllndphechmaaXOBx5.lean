-- Written by xprint.py (a program of this session) for this claim
import Derived.Test.YtebllndphechmaaSL10
import Derived.Test.YtebllndphechmaaSL9
import Derived.Test.YtebllndphechmaaSL5
import Derived.Test.YtebllndphechmaaXOBx0
import Derived.Test.YtebllndphechmaaXOBx1
import Derived.Test.YtebllndphechmaaXOBx3
namespace Go.Proofs.Ytebllndphechmaa.XOB
open Go.Proofs.YtebllndphechmaaV Go.Proofs.YtebllndphechmaaS
open Go.RowKit Go.Proofs.YtebllndphechmaaW.PrintWords Go.Proofs.YtebllndphechmaaW.PrintLast Go.Proofs.YtebllndphechmaaW.PrintMore
attribute [local go_sem] max2_int min2_int max_two min_two max_three min_three max_four min_four   -- for this text's walks alone
set_option linter.unusedVariables false
set_option linter.unusedSimpArgs false

/-! ### barrowlaw26_OutboxOrders: function 4 -/
mutual
def barrowlaw26_OutboxOrders.l0 : Nat → (List (S29)) → Int → Int → Int → (Int × List (List Int)) → Bool → Bool → Option (Bool)
  | 0, _, _, _, _, _, _, _ => none
  | k + 1, l1, x8_0, x9_0, x10_0, y3000027_0, x3000026_1_0, t558 => if x10_0 < (l1.length : Int) then (barrowlaw26_OutboxOrders.l1 k l1 x9_0 x10_0 x8_0 0 y3000027_0 x3000026_1_0 t558) else (some t558)
def barrowlaw26_OutboxOrders.l1 : Nat → (List (S29)) → Int → Int → Int → Int → (Int × List (List Int)) → Bool → Bool → Option (Bool)
  | 0, _, _, _, _, _, _, _, _ => none
  | k + 1, l1, x9_0, x10_0, x8_1, x11_1, y3000027_1, x3000026_1_1, t558 => if 0 ≤ x10_0 then (if x10_0 < (l1.length : Int) then (if x11_1 < (Go.bits .and .i64 ((rd_T29 l1 x10_0).f0) 15) then ((outbox_Box_Len_i1.f x3000026_1_1 y3000027_1).bind fun t562 => (if t562 = 64 then ((some (([(x8_1) % 256, (wrap64 (Int.tdiv x8_1 256)) % 256] : List Int) : List Int)).bind fun y563 => ((outbox_Box_Put.f k y563 x3000026_1_1 y3000027_1).bind fun bt564 => (if (bt564.1 == true) = true then (none) else (if t558 = true then ((outbox_Box_Lost_i1.f bt564.2.1 bt564.2.2).bind fun t567 => (if t567 = true then ((outbox_Box_Len_i1.f bt564.2.1 bt564.2.2).bind fun t568 => (if t568 = 0 then ((outbox_Box_Drain_i1.f k 64 bt564.2.1 bt564.2.2).bind fun bt569 => (if (bt569.1.length : Int) = 0 then ((outbox_Box_Put.f k ([] : List Int) bt564.2.1 bt569.2).bind fun bt571 => (if bt571.1 = true then (none) else (some true))) else (none))) else (none))) else (none))) else (none))))) else ((some (([(x8_1) % 256, (wrap64 (Int.tdiv x8_1 256)) % 256] : List Int) : List Int)).bind fun y574 => ((outbox_Box_Put.f k y574 x3000026_1_1 y3000027_1).bind fun bt575 => (if (bt575.1 == false) = true then (none) else (barrowlaw26_OutboxOrders.l1 k l1 x9_0 x10_0 (wrap64 (x8_1 + 1)) (wrap64 (x11_1 + 1)) bt575.2.2 bt575.2.1 t558)))))) else ((outbox_Box_Len_i1.f x3000026_1_1 y3000027_1).bind fun t578 => (if t578 > 64 then (none) else ((outbox_Box_Len_i1.f x3000026_1_1 y3000027_1).bind fun t579 => (if t579 = (wrap64 (x8_1 - x9_0)) then ((outbox_Box_Drain_i1.f k (Go.bits .and .i64 ((rd_T29 l1 x10_0).f1) 15) x3000026_1_1 y3000027_1).bind fun bt581 => (barrowlaw26_OutboxOrders.l2 k l1 x10_0 x8_1 x9_0 0 x3000026_1_1 t558 bt581.1 bt581.2)) else (none)))))) else (none)) else (none)
def barrowlaw26_OutboxOrders.l2 : Nat → (List (S29)) → Int → Int → Int → Int → Bool → Bool → (List (List Int)) → (Int × List (List Int)) → Option (Bool)
  | 0, _, _, _, _, _, _, _, _, _ => none
  | k + 1, l1, x10_0, x8_1, x9_2, x15_2, x3000026_1_1, t558, t581, t582 => if x15_2 < (t581.length : Int) then (if 0 ≤ x15_2 then ((some (rd_L1 t581 x15_2 : List Int)).bind fun y584 => ((some (([(x9_2) % 256, (wrap64 (Int.tdiv x9_2 256)) % 256] : List Int) : List Int)).bind fun y585 => (if (strOfNums y584).toList = (strOfNums y585).toList then (barrowlaw26_OutboxOrders.l2 k l1 x10_0 x8_1 (wrap64 (x9_2 + 1)) (wrap64 (x15_2 + 1)) x3000026_1_1 t558 t581 t582) else (none)))) else (none)) else ((outbox_Box_Len_i1.f x3000026_1_1 t582).bind fun t586 => (if t586 = (wrap64 (x8_1 - x9_2)) then ((outbox_Box_Lost_i1.f x3000026_1_1 t582).bind fun t587 => (if t587 = true then (none) else (barrowlaw26_OutboxOrders.l0 k l1 x8_1 x9_2 (wrap64 (x10_0 + 1)) t582 x3000026_1_1 t558))) else (none)))
def barrowlaw26_OutboxOrders.l100 : Nat → Int → (List (S29)) → Bool → (Int × List (List Int)) → Bool → Int → Int → Int → Option (Bool)
  | 0, _, _, _, _, _, _, _, _ => none
  | k + 1, a0, l1, t558, y3000027_100, x3000026_1_100, x8_100, x9_100, x10_100 => if x10_100 < (l1.length : Int) then (barrowlaw26_OutboxOrders.l101 k a0 l1 t558 x9_100 x10_100 y3000027_100 x3000026_1_100 x8_100 0) else (some t558)
def barrowlaw26_OutboxOrders.l101 : Nat → Int → (List (S29)) → Bool → Int → Int → (Int × List (List Int)) → Bool → Int → Int → Option (Bool)
  | 0, _, _, _, _, _, _, _, _, _ => none
  | k + 1, a0, l1, t558, x9_100, x10_100, y3000027_101, x3000026_1_101, x8_101, x11_101 => if 0 ≤ x10_100 then (if x10_100 < (l1.length : Int) then (if x11_101 < (Go.bits .and .i64 ((rd_T29 l1 x10_100).f0) 15) then ((outbox_Box_Len_i1.f x3000026_1_101 y3000027_101).bind fun t589 => (if t589 = a0 then ((some (([(x8_101) % 256, (wrap64 (Int.tdiv x8_101 256)) % 256] : List Int) : List Int)).bind fun y590 => ((outbox_Box_Put.f k y590 x3000026_1_101 y3000027_101).bind fun bt591 => (if (bt591.1 == true) = true then (none) else (if t558 = true then ((outbox_Box_Lost_i1.f bt591.2.1 bt591.2.2).bind fun t594 => (if t594 = true then ((outbox_Box_Len_i1.f bt591.2.1 bt591.2.2).bind fun t595 => (if t595 = 0 then ((outbox_Box_Drain_i1.f k a0 bt591.2.1 bt591.2.2).bind fun bt596 => (if (bt596.1.length : Int) = 0 then ((outbox_Box_Put.f k ([] : List Int) bt591.2.1 bt596.2).bind fun bt598 => (if bt598.1 = true then (none) else (some true))) else (none))) else (none))) else (none))) else (none))))) else ((some (([(x8_101) % 256, (wrap64 (Int.tdiv x8_101 256)) % 256] : List Int) : List Int)).bind fun y601 => ((outbox_Box_Put.f k y601 x3000026_1_101 y3000027_101).bind fun bt602 => (if (bt602.1 == false) = true then (none) else (barrowlaw26_OutboxOrders.l101 k a0 l1 t558 x9_100 x10_100 bt602.2.2 bt602.2.1 (wrap64 (x8_101 + 1)) (wrap64 (x11_101 + 1)))))))) else ((outbox_Box_Len_i1.f x3000026_1_101 y3000027_101).bind fun t605 => (if t605 > a0 then (none) else ((outbox_Box_Len_i1.f x3000026_1_101 y3000027_101).bind fun t606 => (if t606 = (wrap64 (x8_101 - x9_100)) then ((outbox_Box_Drain_i1.f k (Go.bits .and .i64 ((rd_T29 l1 x10_100).f1) 15) x3000026_1_101 y3000027_101).bind fun bt608 => (barrowlaw26_OutboxOrders.l102 k a0 l1 t558 x10_100 x3000026_1_101 x8_101 bt608.1 bt608.2 x9_100 0)) else (none)))))) else (none)) else (none)
def barrowlaw26_OutboxOrders.l102 : Nat → Int → (List (S29)) → Bool → Int → Bool → Int → (List (List Int)) → (Int × List (List Int)) → Int → Int → Option (Bool)
  | 0, _, _, _, _, _, _, _, _, _, _ => none
  | k + 1, a0, l1, t558, x10_100, x3000026_1_101, x8_101, t608, t609, x9_102, x15_102 => if x15_102 < (t608.length : Int) then (if 0 ≤ x15_102 then ((some (rd_L1 t608 x15_102 : List Int)).bind fun y611 => ((some (([(x9_102) % 256, (wrap64 (Int.tdiv x9_102 256)) % 256] : List Int) : List Int)).bind fun y612 => (if (strOfNums y611).toList = (strOfNums y612).toList then (barrowlaw26_OutboxOrders.l102 k a0 l1 t558 x10_100 x3000026_1_101 x8_101 t608 t609 (wrap64 (x9_102 + 1)) (wrap64 (x15_102 + 1))) else (none)))) else (none)) else ((outbox_Box_Len_i1.f x3000026_1_101 t609).bind fun t613 => (if t613 = (wrap64 (x8_101 - x9_102)) then ((outbox_Box_Lost_i1.f x3000026_1_101 t609).bind fun t614 => (if t614 = true then (none) else (barrowlaw26_OutboxOrders.l100 k a0 l1 t558 t609 x3000026_1_101 x8_101 x9_102 (wrap64 (x10_100 + 1))))) else (none)))
end
def barrowlaw26_OutboxOrders.f (k : Nat) (a0 : Int) (l1 : List (S29)) : Option (Bool) := (barrowlaw26_small.f k).bind fun t558 => ((outbox_New.f k a0).bind fun bt559 => (if (l1.length : Int) > 100 then (if t558 = true then (some true) else (none)) else (if a0 < 1 then (barrowlaw26_OutboxOrders.l0 k l1 0 0 0 bt559.2 bt559.1 t558) else (if a0 > 64 then (barrowlaw26_OutboxOrders.l0 k l1 0 0 0 bt559.2 bt559.1 t558) else (barrowlaw26_OutboxOrders.l100 k a0 l1 t558 bt559.2 bt559.1 0 0 0)))))
theorem barrowlaw26_OutboxOrders.mono_l : ∀ k, (∀ y0 y1 y2 y3 y4 y5 y6, LeO (barrowlaw26_OutboxOrders.l0 k y0 y1 y2 y3 y4 y5 y6) (barrowlaw26_OutboxOrders.l0 (k + 1) y0 y1 y2 y3 y4 y5 y6)) ∧ (∀ y0 y1 y2 y3 y4 y5 y6 y7, LeO (barrowlaw26_OutboxOrders.l1 k y0 y1 y2 y3 y4 y5 y6 y7) (barrowlaw26_OutboxOrders.l1 (k + 1) y0 y1 y2 y3 y4 y5 y6 y7)) ∧ (∀ y0 y1 y2 y3 y4 y5 y6 y7 y8, LeO (barrowlaw26_OutboxOrders.l2 k y0 y1 y2 y3 y4 y5 y6 y7 y8) (barrowlaw26_OutboxOrders.l2 (k + 1) y0 y1 y2 y3 y4 y5 y6 y7 y8)) ∧ (∀ y0 y1 y2 y3 y4 y5 y6 y7, LeO (barrowlaw26_OutboxOrders.l100 k y0 y1 y2 y3 y4 y5 y6 y7) (barrowlaw26_OutboxOrders.l100 (k + 1) y0 y1 y2 y3 y4 y5 y6 y7)) ∧ (∀ y0 y1 y2 y3 y4 y5 y6 y7 y8, LeO (barrowlaw26_OutboxOrders.l101 k y0 y1 y2 y3 y4 y5 y6 y7 y8) (barrowlaw26_OutboxOrders.l101 (k + 1) y0 y1 y2 y3 y4 y5 y6 y7 y8)) ∧ (∀ y0 y1 y2 y3 y4 y5 y6 y7 y8 y9, LeO (barrowlaw26_OutboxOrders.l102 k y0 y1 y2 y3 y4 y5 y6 y7 y8 y9) (barrowlaw26_OutboxOrders.l102 (k + 1) y0 y1 y2 y3 y4 y5 y6 y7 y8 y9))
  | 0 => ⟨fun _ _ _ _ _ _ _ r h => by simp [barrowlaw26_OutboxOrders.l0] at h, fun _ _ _ _ _ _ _ _ r h => by simp [barrowlaw26_OutboxOrders.l1] at h, fun _ _ _ _ _ _ _ _ _ r h => by simp [barrowlaw26_OutboxOrders.l2] at h, fun _ _ _ _ _ _ _ _ r h => by simp [barrowlaw26_OutboxOrders.l100] at h, fun _ _ _ _ _ _ _ _ _ r h => by simp [barrowlaw26_OutboxOrders.l101] at h, fun _ _ _ _ _ _ _ _ _ _ r h => by simp [barrowlaw26_OutboxOrders.l102] at h⟩
  | k + 1 => by
    obtain ⟨ih0, ih1, ih2, ih3, ih4, ih5⟩ := barrowlaw26_OutboxOrders.mono_l k
    refine ⟨?_, ?_, ?_, ?_, ?_, ?_⟩
    · intro y0 y1 y2 y3 y4 y5 y6
      unfold barrowlaw26_OutboxOrders.l0
      repeat' first
      | (with_reducible exact ih0 _ _ _ _ _ _ _)
      | (with_reducible exact ih1 _ _ _ _ _ _ _ _)
      | (with_reducible exact ih2 _ _ _ _ _ _ _ _ _)
      | (with_reducible exact ih3 _ _ _ _ _ _ _ _)
      | (with_reducible exact ih4 _ _ _ _ _ _ _ _ _)
      | (with_reducible exact ih5 _ _ _ _ _ _ _ _ _ _)
      | (with_reducible exact barrowlaw26_small.mono _)
      | (with_reducible exact outbox_Box_Drain_i1.mono _ _ _ _)
      | (with_reducible exact outbox_Box_Put.mono _ _ _ _)
      | (with_reducible exact outbox_New.mono _ _)
      | (with_reducible exact LeO.refl _)
      | (with_reducible exact LeO.none _)
      | (with_reducible refine LeO.ite ?_ ?_)
      | (with_reducible refine everyOf_le (fun _ => ?_))
      | (with_reducible refine LeO.bind ?_ (fun _ => ?_))
      | exact ih0 _ _ _ _ _ _ _
      | exact ih1 _ _ _ _ _ _ _ _
      | exact ih2 _ _ _ _ _ _ _ _ _
      | exact ih3 _ _ _ _ _ _ _ _
      | exact ih4 _ _ _ _ _ _ _ _ _
      | exact ih5 _ _ _ _ _ _ _ _ _ _
      | exact barrowlaw26_small.mono _
      | exact outbox_Box_Drain_i1.mono _ _ _ _
      | exact outbox_Box_Put.mono _ _ _ _
      | exact outbox_New.mono _ _
      | exact LeO.none _
      | refine LeO.ite ?_ ?_
      | refine LeO.bind ?_ (fun _ => ?_)
    · intro y0 y1 y2 y3 y4 y5 y6 y7
      unfold barrowlaw26_OutboxOrders.l1
      repeat' first
      | (with_reducible exact ih0 _ _ _ _ _ _ _)
      | (with_reducible exact ih1 _ _ _ _ _ _ _ _)
      | (with_reducible exact ih2 _ _ _ _ _ _ _ _ _)
      | (with_reducible exact ih3 _ _ _ _ _ _ _ _)
      | (with_reducible exact ih4 _ _ _ _ _ _ _ _ _)
      | (with_reducible exact ih5 _ _ _ _ _ _ _ _ _ _)
      | (with_reducible exact barrowlaw26_small.mono _)
      | (with_reducible exact outbox_Box_Drain_i1.mono _ _ _ _)
      | (with_reducible exact outbox_Box_Put.mono _ _ _ _)
      | (with_reducible exact outbox_New.mono _ _)
      | (with_reducible exact LeO.refl _)
      | (with_reducible exact LeO.none _)
      | (with_reducible refine LeO.ite ?_ ?_)
      | (with_reducible refine everyOf_le (fun _ => ?_))
      | (with_reducible refine LeO.bind ?_ (fun _ => ?_))
      | exact ih0 _ _ _ _ _ _ _
      | exact ih1 _ _ _ _ _ _ _ _
      | exact ih2 _ _ _ _ _ _ _ _ _
      | exact ih3 _ _ _ _ _ _ _ _
      | exact ih4 _ _ _ _ _ _ _ _ _
      | exact ih5 _ _ _ _ _ _ _ _ _ _
      | exact barrowlaw26_small.mono _
      | exact outbox_Box_Drain_i1.mono _ _ _ _
      | exact outbox_Box_Put.mono _ _ _ _
      | exact outbox_New.mono _ _
      | exact LeO.none _
      | refine LeO.ite ?_ ?_
      | refine LeO.bind ?_ (fun _ => ?_)
    · intro y0 y1 y2 y3 y4 y5 y6 y7 y8
      unfold barrowlaw26_OutboxOrders.l2
      repeat' first
      | (with_reducible exact ih0 _ _ _ _ _ _ _)
      | (with_reducible exact ih1 _ _ _ _ _ _ _ _)
      | (with_reducible exact ih2 _ _ _ _ _ _ _ _ _)
      | (with_reducible exact ih3 _ _ _ _ _ _ _ _)
      | (with_reducible exact ih4 _ _ _ _ _ _ _ _ _)
      | (with_reducible exact ih5 _ _ _ _ _ _ _ _ _ _)
      | (with_reducible exact barrowlaw26_small.mono _)
      | (with_reducible exact outbox_Box_Drain_i1.mono _ _ _ _)
      | (with_reducible exact outbox_Box_Put.mono _ _ _ _)
      | (with_reducible exact outbox_New.mono _ _)
      | (with_reducible exact LeO.refl _)
      | (with_reducible exact LeO.none _)
      | (with_reducible refine LeO.ite ?_ ?_)
      | (with_reducible refine everyOf_le (fun _ => ?_))
      | (with_reducible refine LeO.bind ?_ (fun _ => ?_))
      | exact ih0 _ _ _ _ _ _ _
      | exact ih1 _ _ _ _ _ _ _ _
      | exact ih2 _ _ _ _ _ _ _ _ _
      | exact ih3 _ _ _ _ _ _ _ _
      | exact ih4 _ _ _ _ _ _ _ _ _
      | exact ih5 _ _ _ _ _ _ _ _ _ _
      | exact barrowlaw26_small.mono _
      | exact outbox_Box_Drain_i1.mono _ _ _ _
      | exact outbox_Box_Put.mono _ _ _ _
      | exact outbox_New.mono _ _
      | exact LeO.none _
      | refine LeO.ite ?_ ?_
      | refine LeO.bind ?_ (fun _ => ?_)
    · intro y0 y1 y2 y3 y4 y5 y6 y7
      unfold barrowlaw26_OutboxOrders.l100
      repeat' first
      | (with_reducible exact ih0 _ _ _ _ _ _ _)
      | (with_reducible exact ih1 _ _ _ _ _ _ _ _)
      | (with_reducible exact ih2 _ _ _ _ _ _ _ _ _)
      | (with_reducible exact ih3 _ _ _ _ _ _ _ _)
      | (with_reducible exact ih4 _ _ _ _ _ _ _ _ _)
      | (with_reducible exact ih5 _ _ _ _ _ _ _ _ _ _)
      | (with_reducible exact barrowlaw26_small.mono _)
      | (with_reducible exact outbox_Box_Drain_i1.mono _ _ _ _)
      | (with_reducible exact outbox_Box_Put.mono _ _ _ _)
      | (with_reducible exact outbox_New.mono _ _)
      | (with_reducible exact LeO.refl _)
      | (with_reducible exact LeO.none _)
      | (with_reducible refine LeO.ite ?_ ?_)
      | (with_reducible refine everyOf_le (fun _ => ?_))
      | (with_reducible refine LeO.bind ?_ (fun _ => ?_))
      | exact ih0 _ _ _ _ _ _ _
      | exact ih1 _ _ _ _ _ _ _ _
      | exact ih2 _ _ _ _ _ _ _ _ _
      | exact ih3 _ _ _ _ _ _ _ _
      | exact ih4 _ _ _ _ _ _ _ _ _
      | exact ih5 _ _ _ _ _ _ _ _ _ _
      | exact barrowlaw26_small.mono _
      | exact outbox_Box_Drain_i1.mono _ _ _ _
      | exact outbox_Box_Put.mono _ _ _ _
      | exact outbox_New.mono _ _
      | exact LeO.none _
      | refine LeO.ite ?_ ?_
      | refine LeO.bind ?_ (fun _ => ?_)
    · intro y0 y1 y2 y3 y4 y5 y6 y7 y8
      unfold barrowlaw26_OutboxOrders.l101
      repeat' first
      | (with_reducible exact ih0 _ _ _ _ _ _ _)
      | (with_reducible exact ih1 _ _ _ _ _ _ _ _)
      | (with_reducible exact ih2 _ _ _ _ _ _ _ _ _)
      | (with_reducible exact ih3 _ _ _ _ _ _ _ _)
      | (with_reducible exact ih4 _ _ _ _ _ _ _ _ _)
      | (with_reducible exact ih5 _ _ _ _ _ _ _ _ _ _)
      | (with_reducible exact barrowlaw26_small.mono _)
      | (with_reducible exact outbox_Box_Drain_i1.mono _ _ _ _)
      | (with_reducible exact outbox_Box_Put.mono _ _ _ _)
      | (with_reducible exact outbox_New.mono _ _)
      | (with_reducible exact LeO.refl _)
      | (with_reducible exact LeO.none _)
      | (with_reducible refine LeO.ite ?_ ?_)
      | (with_reducible refine everyOf_le (fun _ => ?_))
      | (with_reducible refine LeO.bind ?_ (fun _ => ?_))
      | exact ih0 _ _ _ _ _ _ _
      | exact ih1 _ _ _ _ _ _ _ _
      | exact ih2 _ _ _ _ _ _ _ _ _
      | exact ih3 _ _ _ _ _ _ _ _
      | exact ih4 _ _ _ _ _ _ _ _ _
      | exact ih5 _ _ _ _ _ _ _ _ _ _
      | exact barrowlaw26_small.mono _
      | exact outbox_Box_Drain_i1.mono _ _ _ _
      | exact outbox_Box_Put.mono _ _ _ _
      | exact outbox_New.mono _ _
      | exact LeO.none _
      | refine LeO.ite ?_ ?_
      | refine LeO.bind ?_ (fun _ => ?_)
    · intro y0 y1 y2 y3 y4 y5 y6 y7 y8 y9
      unfold barrowlaw26_OutboxOrders.l102
      repeat' first
      | (with_reducible exact ih0 _ _ _ _ _ _ _)
      | (with_reducible exact ih1 _ _ _ _ _ _ _ _)
      | (with_reducible exact ih2 _ _ _ _ _ _ _ _ _)
      | (with_reducible exact ih3 _ _ _ _ _ _ _ _)
      | (with_reducible exact ih4 _ _ _ _ _ _ _ _ _)
      | (with_reducible exact ih5 _ _ _ _ _ _ _ _ _ _)
      | (with_reducible exact barrowlaw26_small.mono _)
      | (with_reducible exact outbox_Box_Drain_i1.mono _ _ _ _)
      | (with_reducible exact outbox_Box_Put.mono _ _ _ _)
      | (with_reducible exact outbox_New.mono _ _)
      | (with_reducible exact LeO.refl _)
      | (with_reducible exact LeO.none _)
      | (with_reducible refine LeO.ite ?_ ?_)
      | (with_reducible refine everyOf_le (fun _ => ?_))
      | (with_reducible refine LeO.bind ?_ (fun _ => ?_))
      | exact ih0 _ _ _ _ _ _ _
      | exact ih1 _ _ _ _ _ _ _ _
      | exact ih2 _ _ _ _ _ _ _ _ _
      | exact ih3 _ _ _ _ _ _ _ _
      | exact ih4 _ _ _ _ _ _ _ _ _
      | exact ih5 _ _ _ _ _ _ _ _ _ _
      | exact barrowlaw26_small.mono _
      | exact outbox_Box_Drain_i1.mono _ _ _ _
      | exact outbox_Box_Put.mono _ _ _ _
      | exact outbox_New.mono _ _
      | exact LeO.none _
      | refine LeO.ite ?_ ?_
      | refine LeO.bind ?_ (fun _ => ?_)
theorem barrowlaw26_OutboxOrders.mono : ∀ a0 a1 k, LeO (barrowlaw26_OutboxOrders.f k a0 a1) (barrowlaw26_OutboxOrders.f (k + 1) a0 a1) := by
  intro a0 a1 k
  obtain ⟨ih0, ih1, ih2, ih3, ih4, ih5⟩ := barrowlaw26_OutboxOrders.mono_l k
  unfold barrowlaw26_OutboxOrders.f
  repeat' first
      | (with_reducible exact ih0 _ _ _ _ _ _ _)
      | (with_reducible exact ih1 _ _ _ _ _ _ _ _)
      | (with_reducible exact ih2 _ _ _ _ _ _ _ _ _)
      | (with_reducible exact ih3 _ _ _ _ _ _ _ _)
      | (with_reducible exact ih4 _ _ _ _ _ _ _ _ _)
      | (with_reducible exact ih5 _ _ _ _ _ _ _ _ _ _)
      | (with_reducible exact barrowlaw26_small.mono _)
      | (with_reducible exact outbox_Box_Drain_i1.mono _ _ _ _)
      | (with_reducible exact outbox_Box_Put.mono _ _ _ _)
      | (with_reducible exact outbox_New.mono _ _)
      | (with_reducible exact LeO.refl _)
      | (with_reducible exact LeO.none _)
      | (with_reducible refine LeO.ite ?_ ?_)
      | (with_reducible refine everyOf_le (fun _ => ?_))
      | (with_reducible refine LeO.bind ?_ (fun _ => ?_))
      | exact ih0 _ _ _ _ _ _ _
      | exact ih1 _ _ _ _ _ _ _ _
      | exact ih2 _ _ _ _ _ _ _ _ _
      | exact ih3 _ _ _ _ _ _ _ _
      | exact ih4 _ _ _ _ _ _ _ _ _
      | exact ih5 _ _ _ _ _ _ _ _ _ _
      | exact barrowlaw26_small.mono _
      | exact outbox_Box_Drain_i1.mono _ _ _ _
      | exact outbox_Box_Put.mono _ _ _ _
      | exact outbox_New.mono _ _
      | exact LeO.none _
      | refine LeO.ite ?_ ?_
      | refine LeO.bind ?_ (fun _ => ?_)
def barrowlaw26_OutboxOrders.Post (r : Bool) (S : Nat → Prop) (L : List Asr) (w : World) (e : Ending) (w' : World) : Prop := e = .returned (.bool r) ∧ SL (L) w' S ∧ Keep S w w'
set_option maxHeartbeats 8000000 in
set_option maxRecDepth 100000 in
theorem barrowlaw26_OutboxOrders.slcalls (k : Nat) (a0 : Int) (A1 : Option Addr) (c1 : Nat) (l1 : List (S29)) (r : Bool) (S : Nat → Prop) (L : List Asr) (w : World) (hf : Fresh S w) (hs : SL (L) w S) (hr1 : RO S w (fun w_ => Kd.C k29 w_ A1 l1.length l1)) (hc1 : l1.length ≤ c1) (h : barrowlaw26_OutboxOrders.f k a0 l1 = some r) :
    Calls Try.prog 4 #[.int .i64 a0, .slice A1 l1.length c1] w (barrowlaw26_OutboxOrders.Post r S L w) := by
  have HR1 := Aside0.mk hr1
  have HC1 := Aside0.mk hc1
  clear hr1 hc1
  have HF := Aside0.mk hf
  have HS := Aside0.mk hs
  have HK := Aside0.mk (Keep.refl S w)
  clear hf hs
  have H : ((barrowlaw26_small.f k).bind fun t558 => ((outbox_New.f k a0).bind fun bt559 => (if (l1.length : Int) > 100 then (if t558 = true then (some true) else (none)) else (if a0 < 1 then (barrowlaw26_OutboxOrders.l0 k l1 0 0 0 bt559.2 bt559.1 t558) else (if a0 > 64 then (barrowlaw26_OutboxOrders.l0 k l1 0 0 0 bt559.2 bt559.1 t558) else (barrowlaw26_OutboxOrders.l100 k a0 l1 t558 bt559.2 bt559.1 0 0 0)))))) = some r := h
  clear h
  replace H := Option.bind_eq_some_iff.1 H
  obtain ⟨t558, Hc10, H⟩ := H
  try dsimp only at H
  have Hc1 := Aside0.mk Hc10
  clear Hc10
  replace H := Option.bind_eq_some_iff.1 H
  obtain ⟨⟨t559, t560⟩, Hc20, H⟩ := H
  try dsimp only at H
  have Hc2 := Aside0.mk Hc20
  clear Hc20
  by_cases c3 : (l1.length : Int) > 100
  · rw [if_pos c3] at H
    have c3b0 : decide (100 < (l1.length : Int)) = true := decide_eq_true c3
    have c3b1 : decide (100 < l1.length) = true := decide_eq_true (by omega)
    clear c3
    by_cases c4 : t558 = true
    · subst c4
      rw [if_pos rfl] at H
      obtain rfl := Option.some.inj H
      go_enter Try.func4, Try.ntmps4
      go_wp2_with (first | ((with_reducible refine gate_dst (N := 16) rfl ?_); refine goesL_ (some 16) rfl rfl Try.func5 (by kernel_rfl) rfl #[] rfl (by (try simp only [List.map_toArray, List.map_cons, List.map_nil]); first | done | rfl | (simp; done)) ?_; (with_reducible refine (barrowlaw26_small.calls k _ _  Hc1.out).mono ?_); rintro e_ w5 ⟨rfl, hb_⟩; refine ⟨_, rfl, ?_⟩; replace HS := Aside0.mk (HS.out.below hb_); replace HK := Aside0.mk (HK.out.trans (Keep.below hb_))) | ((with_reducible refine gate_dst (N := 18) rfl ?_); refine goesL_ (some 18) rfl rfl Try.func6 (by kernel_rfl) rfl #[.int .i64 a0] rfl (by (try simp only [List.map_toArray, List.map_cons, List.map_nil]); first | done | rfl | (simp; done)) ?_; have hs0_ := HS.out; (with_reducible refine (outbox_New.slcalls k _ _ _ _ _ _ (HF.out.keep HK.out) hs0_  Hc2.out).mono ?_); rintro e_ w6 ⟨g3000026, g3000027, rfl, hsr_, hkr_⟩; refine ⟨_, rfl, ?_⟩; replace HS := Aside0.mk (hsr_); replace HK := Aside0.mk (HK.out.trans hkr_)))
      go_ret
      replace HS := Aside0.mk (SL.tail (SL.tail HS.out))
      unfold barrowlaw26_OutboxOrders.Post
      exact ⟨by first | rfl | (simp; done) | (simp [*]; done) | (simp at c3b0 ⊢; first | exact c3b0 | (simp [c3b0]; done)), HS.out, HK.out⟩
    · replace c4 := Bool.eq_false_iff.mpr c4
      subst c4
      rw [if_neg (show ¬ (false = true) by decide)] at H
      exact absurd H (by simp)
  · rw [if_neg c3] at H
    have c3b0 : decide (100 < (l1.length : Int)) = false := decide_eq_false c3
    have c3b1 : decide (100 < l1.length) = false := decide_eq_false (by omega)
    clear c3
    by_cases c7 : a0 < 1
    · rw [if_pos c7] at H
      have c7b0 : decide (a0 < 1) = true := decide_eq_true c7
      clear c7
      have H' := Aside0.mk H
      clear H
      go_enter Try.func4, Try.ntmps4
      go_wp2_with (first | ((with_reducible refine gate_dst (N := 16) rfl ?_); refine goesL_ (some 16) rfl rfl Try.func5 (by kernel_rfl) rfl #[] rfl (by (try simp only [List.map_toArray, List.map_cons, List.map_nil]); first | done | rfl | (simp; done)) ?_; (with_reducible refine (barrowlaw26_small.calls k _ _  Hc1.out).mono ?_); rintro e_ w8 ⟨rfl, hb_⟩; refine ⟨_, rfl, ?_⟩; replace HS := Aside0.mk (HS.out.below hb_); replace HK := Aside0.mk (HK.out.trans (Keep.below hb_))) | ((with_reducible refine gate_dst (N := 18) rfl ?_); refine goesL_ (some 18) rfl rfl Try.func6 (by kernel_rfl) rfl #[.int .i64 a0] rfl (by (try simp only [List.map_toArray, List.map_cons, List.map_nil]); first | done | rfl | (simp; done)) ?_; have hs0_ := HS.out; (with_reducible refine (outbox_New.slcalls k _ _ _ _ _ _ (HF.out.keep HK.out) hs0_  Hc2.out).mono ?_); rintro e_ w9 ⟨g3000026, g3000027, rfl, hsr_, hkr_⟩; refine ⟨_, rfl, ?_⟩; replace HS := Aside0.mk (hsr_); replace HK := Aside0.mk (HK.out.trans hkr_)))
      try go_simp
      go_loopg [8, 9, 10] k (fun kq v8 v9 v10 w' => ∃ (x3000026_1_0 : Bool) (y3000027_0 : Int × List (List Int)) (x8_0 : Int) (x9_0 : Int) (x10_0 : Int), v8 = .int .i64 x8_0 ∧ v9 = .int .i64 x9_0 ∧ v10 = .int .i64 x10_0 ∧ Aside0 (barrowlaw26_OutboxOrders.l0 kq l1 x8_0 x9_0 x10_0 y3000027_0 x3000026_1_0 t558 = some r) ∧ Aside0 (kq ≤ k) ∧ Aside0 (SL (cells g3000026 41 [.chan (some g3000027), .bool x3000026_1_0].toArray :: chano g3000027 (inn (Kd.int .u8) 5) y3000027_0 :: L) w' S) ∧ Aside0 (Keep S w w'))
      case atStart => exact ⟨(t559), (t560), (0), (0), (0), (by first | rfl | (simp; done) | (simp [*]; done)), (by first | rfl | (simp; done) | (simp [*]; done)), (by first | rfl | (simp; done) | (simp [*]; done)), H', ⟨Nat.le_refl _⟩, HS, HK⟩
      case round =>
        clear H' HS HK
        obtain ⟨x3000026_1_0, y3000027_0, x8_0, x9_0, x10_0, rfl, rfl, rfl, HA, HQ1, HS, HK⟩ := hrel
        cases gk with
        | zero => exact absurd HA.out (by simp [barrowlaw26_OutboxOrders.l0])
        | succ k1 =>
          have H := HA.out
          clear HA
          simp only [barrowlaw26_OutboxOrders.l0] at H
          by_cases c10 : x10_0 < (l1.length : Int)
          · rw [if_pos c10] at H
            have c10b0 : decide (x10_0 < (l1.length : Int)) = true := decide_eq_true c10
            clear c10
            have H' := Aside0.mk H
            clear H
            go_wp2
            go_loopg [8, 11] k1 (fun kq v8 v11 w' => ∃ (x3000026_1_1 : Bool) (y3000027_1 : Int × List (List Int)) (x8_1 : Int) (x11_1 : Int), v8 = .int .i64 x8_1 ∧ v11 = .int .i64 x11_1 ∧ Aside0 (barrowlaw26_OutboxOrders.l1 kq l1 x9_0 x10_0 x8_1 x11_1 y3000027_1 x3000026_1_1 t558 = some r) ∧ Aside0 (kq ≤ k1) ∧ Aside0 (SL (cells g3000026 41 [.chan (some g3000027), .bool x3000026_1_1].toArray :: chano g3000027 (inn (Kd.int .u8) 5) y3000027_1 :: L) w' S) ∧ Aside0 (Keep S w w'))
            case atStart => exact ⟨(x3000026_1_0), (y3000027_0), (x8_0), (0), (by first | rfl | (simp; done) | (simp [*]; done)), (by first | rfl | (simp; done) | (simp [*]; done)), H', ⟨Nat.le_refl _⟩, HS, HK⟩
            case round =>
              clear H' HS HK
              obtain ⟨x3000026_1_1, y3000027_1, x8_1, x11_1, rfl, rfl, HA, HQ2, HS, HK⟩ := hrel
              cases gk with
              | zero => exact absurd HA.out (by simp [barrowlaw26_OutboxOrders.l1])
              | succ k2 =>
                have H := HA.out
                clear HA
                simp only [barrowlaw26_OutboxOrders.l1] at H
                by_cases c11 : 0 ≤ x10_0
                · rw [if_pos c11] at H
                  have c11b0 : decide (0 ≤ x10_0) = true := decide_eq_true c11
                  clear c11
                  by_cases c12 : x10_0 < (l1.length : Int)
                  · rw [if_pos c12] at H
                    have c12b0 : decide (x10_0 < (l1.length : Int)) = true := decide_eq_true c12
                    clear c12
                    by_cases c13 : x11_1 < (Go.bits .and .i64 ((rd_T29 l1 x10_0).f0) 15)
                    · rw [if_pos c13] at H
                      have c13b0 : decide (x11_1 < (Go.bits .and .i64 ((rd_T29 l1 x10_0).f0) 15)) = true := decide_eq_true c13
                      clear c13
                      replace H := Option.bind_eq_some_iff.1 H
                      obtain ⟨t562, Hc140, H⟩ := H
                      try dsimp only at H
                      have Hc14 := Aside0.mk Hc140
                      clear Hc140
                      by_cases c15 : t562 = 64
                      · rw [if_pos c15] at H
                        have c15b0 : (t562 == 64) = true := beq_iff_eq.mpr c15
                        have c15b1 : (t562 != 64) = false := bne_eq_false_iff_eq.mpr c15
                        clear c15
                        replace H := Option.bind_eq_some_iff.1 H
                        obtain ⟨y563, hy5630, H⟩ := H
                        try dsimp only at H
                        have hy563 := Option.some.inj hy5630
                        clear hy5630
                        have Ny563 := Aside0.mk hy563
                        clear hy563
                        replace H := Option.bind_eq_some_iff.1 H
                        obtain ⟨⟨t564, t565, t566⟩, Hc160, H⟩ := H
                        try dsimp only at H
                        have Hc16 := Aside0.mk Hc160
                        clear Hc160
                        by_cases c17 : (t564 == true) = true
                        · rw [if_pos c17] at H
                          exact absurd H (by simp)
                        · rw [if_neg c17] at H
                          have c17b0 : (t564 == true) = false := by simpa using c17
                          (try (have c17b1 : decide (t564 = true) = false := by simpa using c17))
                          (try (have c17b2 : (t564 == true) = false := by simpa using c17))
                          (try (have c17b3 : ¬ (t564 = true) := by simpa using c17))
                          clear c17
                          by_cases c18 : t558 = true
                          · subst c18
                            rw [if_pos rfl] at H
                            replace H := Option.bind_eq_some_iff.1 H
                            obtain ⟨t567, Hc190, H⟩ := H
                            try dsimp only at H
                            have Hc19 := Aside0.mk Hc190
                            clear Hc190
                            by_cases c20 : t567 = true
                            · subst c20
                              rw [if_pos rfl] at H
                              replace H := Option.bind_eq_some_iff.1 H
                              obtain ⟨t568, Hc210, H⟩ := H
                              try dsimp only at H
                              have Hc21 := Aside0.mk Hc210
                              clear Hc210
                              by_cases c22 : t568 = 0
                              · rw [if_pos c22] at H
                                have c22b0 : (t568 == 0) = true := beq_iff_eq.mpr c22
                                have c22b1 : (t568 != 0) = false := bne_eq_false_iff_eq.mpr c22
                                clear c22
                                replace H := Option.bind_eq_some_iff.1 H
                                obtain ⟨⟨t569, t570⟩, Hc230, H⟩ := H
                                try dsimp only at H
                                have Hc23 := Aside0.mk Hc230
                                clear Hc230
                                by_cases c24 : (t569.length : Int) = 0
                                · rw [if_pos c24] at H
                                  have c24b0 : ((t569.length : Int) == 0) = true := beq_iff_eq.mpr c24
                                  have c24b1 : ((t569.length : Int) != 0) = false := bne_eq_false_iff_eq.mpr c24
                                  clear c24
                                  replace H := Option.bind_eq_some_iff.1 H
                                  obtain ⟨⟨t571, t572, t573⟩, Hc250, H⟩ := H
                                  try dsimp only at H
                                  have Hc25 := Aside0.mk Hc250
                                  clear Hc250
                                  by_cases c26 : t571 = true
                                  · subst c26
                                    rw [if_pos rfl] at H
                                    exact absurd H (by simp)
                                  · replace c26 := Bool.eq_false_iff.mpr c26
                                    subst c26
                                    rw [if_neg (show ¬ (false = true) by decide)] at H
                                    obtain rfl := Option.some.inj H
                                    have pq561 : 0 ≤ (x10_0 : Int) := of_decide_eq_true (by first | (with_reducible assumption) | assumption)
                                    have qq561 : x10_0 < ((l1.length : Int) : Int) := of_decide_eq_true (by first | (with_reducible assumption) | assumption)
                                    obtain ⟨adq561, eq561, hxq561_0, hxq561_1⟩ := at_T29 (RO.at_ HR1.out HK.out) x10_0 pq561 qq561
                                    cases eq561
                                    replace pq561 := eq_true pq561
                                    replace qq561 := eq_true qq561
                                    go_wp2_with (first | ((with_reducible refine gate_dst (N := 55) rfl ?_); refine goesL_ (some 55) rfl rfl Try.func15 (by kernel_rfl) rfl #[.pointer (some ⟨g3000026, 0, none⟩)] rfl (by (try simp only [List.map_toArray, List.map_cons, List.map_nil]); first | done | rfl | (simp; done)) ?_; have hs0_ := (SL.get1 (SL.get1 HS.out)); (with_reducible refine (outbox_Box_Len_i1.slcalls _ _ _ _ _ _ _ _ (HF.out.keep HK.out) hs0_  Hc14.out).mono ?_); rintro e_ w27 ⟨rfl, hsr_, hkr_⟩; refine ⟨_, rfl, ?_⟩; replace HS := Aside0.mk (hsr_); replace HK := Aside0.mk (HK.out.trans hkr_)) | ((with_reducible refine gate_dst (N := 64) rfl ?_); refine wpList_plain rfl (fun K_ hK_ => ?_); refine op_row (S := S) (enc := Value.int .u8) (h1 := fun _ => rfl) 5 y563 #[.int .u8 ((x8_1) % 256), .int .u8 ((wrap64 (Int.tdiv x8_1 256)) % 256)] 2 (by rw [← Ny563.out]; rfl) (by rw [← Ny563.out]; rfl) (by decide) (HF.out.keep HK.out) HS.out (by first | (go_simp; done) | (go_simp; rfl)) ?_; intro Az3000028 cz3000028 w28 hs_ hk_; refine hK_ _ _ ?_; clear hK_ K_; replace HS := Aside0.mk ((show SL (row (Kd.int .u8) 5 (.slice Az3000028 2 cz3000028) y563 :: _) _ _ from hs_)); replace HK := Aside0.mk (HK.out.trans hk_)) | ((with_reducible refine gate_dst (N := 65) rfl ?_); refine goesL_ (some 65) rfl rfl Try.func13 (by kernel_rfl) rfl #[.pointer (some ⟨g3000026, 0, none⟩), .slice Az3000028 2 cz3000028] rfl (by (try simp only [List.map_toArray, List.map_cons, List.map_nil]); first | done | rfl | (simp; done)) ?_; have el3000028_ := Aside0.mk (SL.row_c HS.out).1; refine calls_of_args (args' := #[.pointer (some ⟨g3000026, 0, none⟩), .slice Az3000028 y563.length cz3000028]) (by rw [← el3000028_.out]) ?_; have hs0_ := (SL.get2 (SL.get2 (SL.get2 HS.out))); obtain ⟨U1_, hfU1_, hsub1_, hs1_, hro1_, hback1_⟩ := SL.lend (HF.out.keep HK.out) hs0_ (p := fun w_ => Kd.C (Kd.int .u8) w_ Az3000028 2 y563) (fun w_ T_ h_ => (Qs_c h_).2.2); (with_reducible refine (outbox_Box_Put.slcalls k2 _ _ _ _ _ _ _ _ _ _ _ _ _ hfU1_ hs1_ (by rw [← el3000028_.out]; exact hro1_) (by rw [← el3000028_.out]; exact (SL.row_c HS.out).2.1) Hc16.out).mono ?_); rintro e_ w29 ⟨rfl, hsr_, hkr_⟩; refine ⟨_, rfl, ?_⟩; replace HS := Aside0.mk ((hback1_ _ _ hkr_ hsr_)); replace HK := Aside0.mk (HK.out.trans (Keep.sub hkr_ (fun k_ h_ => hsub1_ k_ h_)))) | ((with_reducible refine gate_dst (N := 73) rfl ?_); (try (refine gate_guard (by rfl) ?_; dsimp only)); refine goesL_ (some 73) rfl rfl Try.func16 (by kernel_rfl) rfl #[.pointer (some ⟨g3000026, 0, none⟩)] rfl (by (try simp only [List.map_toArray, List.map_cons, List.map_nil]); first | done | rfl | (simp; done)) ?_; have hs0_ := (SL.get2 (SL.get2 HS.out)); (with_reducible refine (outbox_Box_Lost_i1.slcalls _ _ _ _ _ _ _ _ (HF.out.keep HK.out) hs0_  Hc19.out).mono ?_); rintro e_ w30 ⟨rfl, hsr_, hkr_⟩; refine ⟨_, rfl, ?_⟩; replace HS := Aside0.mk (hsr_); replace HK := Aside0.mk (HK.out.trans hkr_)) | ((with_reducible refine gate_dst (N := 77) rfl ?_); (try (refine gate_guard (by rfl) ?_; dsimp only)); refine goesL_ (some 77) rfl rfl Try.func15 (by kernel_rfl) rfl #[.pointer (some ⟨g3000026, 0, none⟩)] rfl (by (try simp only [List.map_toArray, List.map_cons, List.map_nil]); first | done | rfl | (simp; done)) ?_; have hs0_ := (SL.get1 (SL.get1 HS.out)); (with_reducible refine (outbox_Box_Len_i1.slcalls _ _ _ _ _ _ _ _ (HF.out.keep HK.out) hs0_  Hc21.out).mono ?_); rintro e_ w31 ⟨rfl, hsr_, hkr_⟩; refine ⟨_, rfl, ?_⟩; replace HS := Aside0.mk (hsr_); replace HK := Aside0.mk (HK.out.trans hkr_)) | ((with_reducible refine gate_dst (N := 83) rfl ?_); (try (refine gate_guard (by rfl) ?_; dsimp only)); refine goesL_ (some 83) rfl rfl Try.func10 (by kernel_rfl) rfl #[.pointer (some ⟨g3000026, 0, none⟩), .int .i64 64] rfl (by (try simp only [List.map_toArray, List.map_cons, List.map_nil]); first | done | rfl | (simp; done)) ?_; have hs0_ := (SL.get1 (SL.get1 HS.out)); (with_reducible refine (outbox_Box_Drain_i1.slcalls k2 _ _ _ _ _ _ _ _ _ _ (HF.out.keep HK.out) hs0_  Hc23.out).mono ?_); rintro e_ w32 ⟨Az3000029, cz3000029, rfl, hsr_, hkr_⟩; refine ⟨_, rfl, ?_⟩; replace HS := Aside0.mk (hsr_); replace HK := Aside0.mk (HK.out.trans hkr_)) | ((with_reducible refine gate_dst (N := 89) rfl ?_); (try (refine gate_guard (by rfl) ?_; dsimp only)); refine goesL_ (some 89) rfl rfl Try.func13 (by kernel_rfl) rfl #[.pointer (some ⟨g3000026, 0, none⟩), .slice none 0 0] rfl (by (try simp only [List.map_toArray, List.map_cons, List.map_nil]); first | done | rfl | (simp; done)) ?_; have hs0_ := (SL.get1 (SL.get1 HS.out)); (refine (outbox_Box_Put.slcalls k2 _ _ _ _ _ _ _ _ _ _ _ _ _ (HF.out.keep HK.out) hs0_ (fun w_ _ => Kd.C_nil _ _) (Nat.le_refl _) Hc25.out).mono ?_); rintro e_ w33 ⟨rfl, hsr_, hkr_⟩; refine ⟨_, rfl, ?_⟩; replace HS := Aside0.mk (hsr_); replace HK := Aside0.mk (HK.out.trans hkr_)))
                                    go_ret
                                    replace HS := Aside0.mk (SL.tail (SL.tail (SL.tail (SL.tail HS.out))))
                                    unfold barrowlaw26_OutboxOrders.Post
                                    exact ⟨by first | rfl | (simp; done) | (simp [*]; done) | (simp at c24b0 ⊢; first | exact c24b0 | (simp [c24b0]; done)), HS.out, HK.out⟩
                                · rw [if_neg c24] at H
                                  exact absurd H (by simp)
                              · rw [if_neg c22] at H
                                exact absurd H (by simp)
                            · replace c20 := Bool.eq_false_iff.mpr c20
                              subst c20
                              rw [if_neg (show ¬ (false = true) by decide)] at H
                              exact absurd H (by simp)
                          · replace c18 := Bool.eq_false_iff.mpr c18
                            subst c18
                            rw [if_neg (show ¬ (false = true) by decide)] at H
                            exact absurd H (by simp)
                      · rw [if_neg c15] at H
                        have c15b0 : (t562 == 64) = false := beq_eq_false_iff_ne.mpr c15
                        have c15b1 : (t562 != 64) = true := bne_iff_ne.mpr c15
                        replace H := Option.bind_eq_some_iff.1 H
                        obtain ⟨y574, hy5740, H⟩ := H
                        try dsimp only at H
                        have hy574 := Option.some.inj hy5740
                        clear hy5740
                        have Ny574 := Aside0.mk hy574
                        clear hy574
                        replace H := Option.bind_eq_some_iff.1 H
                        obtain ⟨⟨t575, t576, t577⟩, Hc340, H⟩ := H
                        try dsimp only at H
                        have Hc34 := Aside0.mk Hc340
                        clear Hc340
                        by_cases c35 : (t575 == false) = true
                        · rw [if_pos c35] at H
                          exact absurd H (by simp)
                        · rw [if_neg c35] at H
                          have c35b0 : (t575 == false) = false := by simpa using c35
                          (try (have c35b1 : decide (t575 = false) = false := by simpa using c35))
                          (try (have c35b2 : (t575 == false) = false := by simpa using c35))
                          (try (have c35b3 : ¬ (t575 = false) := by simpa using c35))
                          clear c35
                          have H' := Aside0.mk H
                          clear H
                          have pq561 : 0 ≤ (x10_0 : Int) := of_decide_eq_true (by first | (with_reducible assumption) | assumption)
                          have qq561 : x10_0 < ((l1.length : Int) : Int) := of_decide_eq_true (by first | (with_reducible assumption) | assumption)
                          obtain ⟨adq561, eq561, hxq561_0, hxq561_1⟩ := at_T29 (RO.at_ HR1.out HK.out) x10_0 pq561 qq561
                          cases eq561
                          replace pq561 := eq_true pq561
                          replace qq561 := eq_true qq561
                          go_wp2_with (first | ((with_reducible refine gate_dst (N := 55) rfl ?_); refine goesL_ (some 55) rfl rfl Try.func15 (by kernel_rfl) rfl #[.pointer (some ⟨g3000026, 0, none⟩)] rfl (by (try simp only [List.map_toArray, List.map_cons, List.map_nil]); first | done | rfl | (simp; done)) ?_; have hs0_ := (SL.get1 (SL.get1 HS.out)); (with_reducible refine (outbox_Box_Len_i1.slcalls _ _ _ _ _ _ _ _ (HF.out.keep HK.out) hs0_  Hc14.out).mono ?_); rintro e_ w36 ⟨rfl, hsr_, hkr_⟩; refine ⟨_, rfl, ?_⟩; replace HS := Aside0.mk (hsr_); replace HK := Aside0.mk (HK.out.trans hkr_)) | ((with_reducible refine gate_dst (N := 64) rfl ?_); refine wpList_plain rfl (fun K_ hK_ => ?_); refine op_row (S := S) (enc := Value.int .u8) (h1 := fun _ => rfl) 5 y574 #[.int .u8 ((x8_1) % 256), .int .u8 ((wrap64 (Int.tdiv x8_1 256)) % 256)] 2 (by rw [← Ny574.out]; rfl) (by rw [← Ny574.out]; rfl) (by decide) (HF.out.keep HK.out) HS.out (by first | (go_simp; done) | (go_simp; rfl)) ?_; intro Az3000028 cz3000028 w37 hs_ hk_; refine hK_ _ _ ?_; clear hK_ K_; replace HS := Aside0.mk ((show SL (row (Kd.int .u8) 5 (.slice Az3000028 2 cz3000028) y574 :: _) _ _ from hs_)); replace HK := Aside0.mk (HK.out.trans hk_)) | ((with_reducible refine gate_dst (N := 65) rfl ?_); refine goesL_ (some 65) rfl rfl Try.func13 (by kernel_rfl) rfl #[.pointer (some ⟨g3000026, 0, none⟩), .slice Az3000028 2 cz3000028] rfl (by (try simp only [List.map_toArray, List.map_cons, List.map_nil]); first | done | rfl | (simp; done)) ?_; have el3000028_ := Aside0.mk (SL.row_c HS.out).1; refine calls_of_args (args' := #[.pointer (some ⟨g3000026, 0, none⟩), .slice Az3000028 y574.length cz3000028]) (by rw [← el3000028_.out]) ?_; have hs0_ := (SL.get2 (SL.get2 (SL.get2 HS.out))); obtain ⟨U1_, hfU1_, hsub1_, hs1_, hro1_, hback1_⟩ := SL.lend (HF.out.keep HK.out) hs0_ (p := fun w_ => Kd.C (Kd.int .u8) w_ Az3000028 2 y574) (fun w_ T_ h_ => (Qs_c h_).2.2); (with_reducible refine (outbox_Box_Put.slcalls k2 _ _ _ _ _ _ _ _ _ _ _ _ _ hfU1_ hs1_ (by rw [← el3000028_.out]; exact hro1_) (by rw [← el3000028_.out]; exact (SL.row_c HS.out).2.1) Hc34.out).mono ?_); rintro e_ w38 ⟨rfl, hsr_, hkr_⟩; refine ⟨_, rfl, ?_⟩; replace HS := Aside0.mk ((hback1_ _ _ hkr_ hsr_)); replace HK := Aside0.mk (HK.out.trans (Keep.sub hkr_ (fun k_ h_ => hsub1_ k_ h_)))))
                          replace HS := Aside0.mk (SL.tail HS.out)
                          go_roundg k2
                          case measure => have := HQ1.out; have := HQ2.out; omega
                          case rel => exact ⟨(t576), (t577), (wrap64 (x8_1 + 1)), (wrap64 (x11_1 + 1)), (by first | rfl | (simp; done) | (simp [*]; done)), (by first | rfl | (simp; done) | (simp [*]; done)), H', ⟨by have := HQ1.out; have := HQ2.out; omega⟩, HS, HK⟩
                    · rw [if_neg c13] at H
                      have c13b0 : decide (x11_1 < (Go.bits .and .i64 ((rd_T29 l1 x10_0).f0) 15)) = false := decide_eq_false c13
                      clear c13
                      replace H := Option.bind_eq_some_iff.1 H
                      obtain ⟨t578, Hc390, H⟩ := H
                      try dsimp only at H
                      have Hc39 := Aside0.mk Hc390
                      clear Hc390
                      by_cases c40 : t578 > 64
                      · rw [if_pos c40] at H
                        exact absurd H (by simp)
                      · rw [if_neg c40] at H
                        have c40b0 : decide (64 < t578) = false := decide_eq_false c40
                        clear c40
                        replace H := Option.bind_eq_some_iff.1 H
                        obtain ⟨t579, Hc410, H⟩ := H
                        try dsimp only at H
                        have Hc41 := Aside0.mk Hc410
                        clear Hc410
                        by_cases c42 : t579 = (wrap64 (x8_1 - x9_0))
                        · rw [if_pos c42] at H
                          have c42b0 : (t579 == (wrap64 (x8_1 - x9_0))) = true := beq_iff_eq.mpr c42
                          have c42b1 : (t579 != (wrap64 (x8_1 - x9_0))) = false := bne_eq_false_iff_eq.mpr c42
                          clear c42
                          replace H := Option.bind_eq_some_iff.1 H
                          obtain ⟨⟨t581, t582⟩, Hc430, H⟩ := H
                          try dsimp only at H
                          have Hc43 := Aside0.mk Hc430
                          clear Hc430
                          have H' := Aside0.mk H
                          clear H
                          have pq561 : 0 ≤ (x10_0 : Int) := of_decide_eq_true (by first | (with_reducible assumption) | assumption)
                          have qq561 : x10_0 < ((l1.length : Int) : Int) := of_decide_eq_true (by first | (with_reducible assumption) | assumption)
                          obtain ⟨adq561, eq561, hxq561_0, hxq561_1⟩ := at_T29 (RO.at_ HR1.out HK.out) x10_0 pq561 qq561
                          cases eq561
                          replace pq561 := eq_true pq561
                          replace qq561 := eq_true qq561
                          go_wp2_with (first | ((with_reducible refine gate_dst (N := 95) rfl ?_); refine goesL_ (some 95) rfl rfl Try.func15 (by kernel_rfl) rfl #[.pointer (some ⟨g3000026, 0, none⟩)] rfl (by (try simp only [List.map_toArray, List.map_cons, List.map_nil]); first | done | rfl | (simp; done)) ?_; have hs0_ := (SL.get1 (SL.get1 HS.out)); (with_reducible refine (outbox_Box_Len_i1.slcalls _ _ _ _ _ _ _ _ (HF.out.keep HK.out) hs0_  Hc39.out).mono ?_); rintro e_ w44 ⟨rfl, hsr_, hkr_⟩; refine ⟨_, rfl, ?_⟩; replace HS := Aside0.mk (hsr_); replace HK := Aside0.mk (HK.out.trans hkr_)) | ((with_reducible refine gate_dst (N := 100) rfl ?_); (try (refine gate_guard (by rfl) ?_; dsimp only)); refine goesL_ (some 100) rfl rfl Try.func15 (by kernel_rfl) rfl #[.pointer (some ⟨g3000026, 0, none⟩)] rfl (by (try simp only [List.map_toArray, List.map_cons, List.map_nil]); first | done | rfl | (simp; done)) ?_; have hs0_ := (SL.get1 (SL.get1 HS.out)); (with_reducible refine (outbox_Box_Len_i1.slcalls _ _ _ _ _ _ _ _ (HF.out.keep HK.out) hs0_  Hc41.out).mono ?_); rintro e_ w45 ⟨rfl, hsr_, hkr_⟩; refine ⟨_, rfl, ?_⟩; replace HS := Aside0.mk (hsr_); replace HK := Aside0.mk (HK.out.trans hkr_); have pq580 : 0 ≤ (x10_0 : Int) := of_decide_eq_true (by first | (with_reducible assumption) | assumption); have qq580 : x10_0 < ((l1.length : Int) : Int) := of_decide_eq_true (by first | (with_reducible assumption) | assumption); obtain ⟨adq580, eq580, hxq580_0, hxq580_1⟩ := at_T29 (RO.at_ HR1.out HK.out) x10_0 pq580 qq580; obtain rfl : adq561 = adq580 := (by injection eq580); replace pq580 := eq_true pq580; replace qq580 := eq_true qq580) | ((with_reducible refine gate_dst (N := 113) rfl ?_); refine goesL_ (some 113) rfl rfl Try.func10 (by kernel_rfl) rfl #[.pointer (some ⟨g3000026, 0, none⟩), .int .i64 (Go.bits .and .i64 ((rd_T29 l1 x10_0).f1) 15)] rfl (by (try simp only [List.map_toArray, List.map_cons, List.map_nil]); first | done | rfl | (simp; done)) ?_; have hs0_ := (SL.get1 (SL.get1 HS.out)); (with_reducible refine (outbox_Box_Drain_i1.slcalls k2 _ _ _ _ _ _ _ _ _ _ (HF.out.keep HK.out) hs0_  Hc43.out).mono ?_); rintro e_ w46 ⟨Az3000030, cz3000030, rfl, hsr_, hkr_⟩; refine ⟨_, rfl, ?_⟩; replace HS := Aside0.mk (hsr_); replace HK := Aside0.mk (HK.out.trans hkr_)))
                          try go_simp
                          go_loopg [9, 15] k2 (fun kq v9 v15 w' => ∃ (x9_2 : Int) (x15_2 : Int), v9 = .int .i64 x9_2 ∧ v15 = .int .i64 x15_2 ∧ Aside0 (barrowlaw26_OutboxOrders.l2 kq l1 x10_0 x8_1 x9_2 x15_2 x3000026_1_1 t558 t581 t582 = some r) ∧ Aside0 (kq ≤ k2) ∧ Aside0 (SL (cells g3000026 41 [.chan (some g3000027), .bool x3000026_1_1].toArray :: chano g3000027 (inn (Kd.int .u8) 5) t582 :: rows (inn (Kd.int .u8) 5) 1 32 (.slice Az3000030 t581.length cz3000030) t581 :: L) w' S) ∧ Aside0 (Keep S w w'))
                          case atStart => exact ⟨(x9_0), (0), (by first | rfl | (simp; done) | (simp [*]; done)), (by first | rfl | (simp; done) | (simp [*]; done)), H', ⟨Nat.le_refl _⟩, HS, HK⟩
                          case round =>
                            clear H' HS HK
                            obtain ⟨x9_2, x15_2, rfl, rfl, HA, HQ3, HS, HK⟩ := hrel
                            cases gk with
                            | zero => exact absurd HA.out (by simp [barrowlaw26_OutboxOrders.l2])
                            | succ k3 =>
                              have H := HA.out
                              clear HA
                              simp only [barrowlaw26_OutboxOrders.l2] at H
                              by_cases c47 : x15_2 < (t581.length : Int)
                              · rw [if_pos c47] at H
                                have c47b0 : decide (x15_2 < (t581.length : Int)) = true := decide_eq_true c47
                                clear c47
                                by_cases c48 : 0 ≤ x15_2
                                · rw [if_pos c48] at H
                                  have c48b0 : decide (0 ≤ x15_2) = true := decide_eq_true c48
                                  clear c48
                                  replace H := Option.bind_eq_some_iff.1 H
                                  obtain ⟨y584, hy5840, H⟩ := H
                                  try dsimp only at H
                                  have hy584 := Option.some.inj hy5840
                                  clear hy5840
                                  have Ny584 := Aside0.mk hy584
                                  clear hy584
                                  replace H := Option.bind_eq_some_iff.1 H
                                  obtain ⟨y585, hy5850, H⟩ := H
                                  try dsimp only at H
                                  have hy585 := Option.some.inj hy5850
                                  clear hy5850
                                  have Ny585 := Aside0.mk hy585
                                  clear hy585
                                  by_cases c49 : (strOfNums y584).toList = (strOfNums y585).toList
                                  · rw [if_pos c49] at H
                                    have c49b0 : ((strOfNums y584).toList == (strOfNums y585).toList) = true := beq_iff_eq.mpr c49
                                    have c49b1 : ((strOfNums y584).toList != (strOfNums y585).toList) = false := bne_eq_false_iff_eq.mpr c49
                                    clear c49
                                    have H' := Aside0.mk H
                                    clear H
                                    try go_wp2
                                    have pq583 : 0 ≤ (x15_2 : Int) := of_decide_eq_true (by first | (with_reducible assumption) | assumption)
                                    have qq583 : x15_2 < ((t581.length : Int) : Int) := of_decide_eq_true (by first | (with_reducible assumption) | assumption)
                                    obtain ⟨adq583, Aq583_0, cq583_0, eq583, hxq583_0, hiq583, hlq583⟩ := rows_at (SL.get2 HS.out) rfl x15_2 pq583 qq583 y584 Ny584.out
                                    have HVq583_0 := Aside0.mk hiq583
                                    have HCq583_0 := Aside0.mk hlq583
                                    clear hiq583 hlq583
                                    cases eq583
                                    replace pq583 := eq_true pq583
                                    replace qq583 := eq_true qq583
                                    have hCB := HVq583_0.out
                                    refine startB_ (n := 13) #[false, false, false, false, false, false, false, false, false, false, false, false, false] (by kernel_rfl) rfl rfl (fun hHeld => ?_)
                                    replace HK := Aside0.mk (Keep.drew HK.out)
                                    replace HS := Aside0.mk (SL.drew HS.out)
                                    refine pure_ (i := 0) (N := some 120) (v := ?_) (a' := ?_) #[true, false, false, false, false, false, false, false, false, false, false, false, false] rfl rfl (by kernel_rfl) (fun _ _ _ h => h) (Or.inl ⟨by rfl, ?_⟩) ?_ ?_; rotate_left; · (intro w'; go_simp; with_reducible rfl)
                                    rotate_left; · (simp only [Act.put, sT, sZ, sS, i64_w, i32_w]; rfl)
                                    refine pure_ (i := 1) (N := some 121) (v := ?_) (a' := ?_) #[true, true, false, false, false, false, false, false, false, false, false, false, false] rfl rfl (by kernel_rfl) (fun _ _ _ h => h) (Or.inl ⟨by rfl, ?_⟩) ?_ ?_; rotate_left; · (intro w'; go_simp; with_reducible rfl)
                                    rotate_left; · (simp only [Act.put, sT, sZ, sS, i64_w, i32_w]; rfl)
                                    refine pure_ (i := 2) (N := some 122) (v := ?_) (a' := ?_) #[true, true, true, false, false, false, false, false, false, false, false, false, false] rfl rfl (by kernel_rfl) (fun _ _ _ h => h) (Or.inl ⟨by rfl, ?_⟩) ?_ ?_; rotate_left; · (intro w'; go_simp; with_reducible rfl)
                                    rotate_left; · (simp only [Act.put, sT, sZ, sS, i64_w, i32_w]; rfl)
                                    refine pure_ (i := 5) (N := some 125) (v := ?_) (a' := ?_) #[true, true, true, false, false, true, false, false, false, false, false, false, false] rfl rfl (by kernel_rfl) (fun _ _ _ h => h) (Or.inl ⟨by rfl, ?_⟩) ?_ ?_; rotate_left; · (intro w'; go_simp; with_reducible rfl)
                                    rotate_left; · (simp only [Act.put, sT, sZ, sS, i64_w, i32_w]; rfl)
                                    refine pure_ (i := 6) (N := some 126) (v := ?_) (a' := ?_) #[true, true, true, false, false, true, true, false, false, false, false, false, false] rfl rfl (by kernel_rfl) (fun _ _ _ h => h) (Or.inl ⟨by rfl, ?_⟩) ?_ ?_; rotate_left; · (intro w'; go_simp; with_reducible rfl)
                                    rotate_left; · (simp only [Act.put, sT, sZ, sS, i64_w, i32_w]; rfl)
                                    refine pure_ (i := 7) (N := some 127) (v := ?_) (a' := ?_) #[true, true, true, false, false, true, true, true, false, false, false, false, false] rfl rfl (by kernel_rfl) (fun _ _ _ h => h) (Or.inl ⟨by rfl, ?_⟩) ?_ ?_; rotate_left; · (intro w'; go_simp; with_reducible rfl)
                                    rotate_left; · (simp only [Act.put, sT, sZ, sS, i64_w, i32_w]; rfl)
                                    refine pure_ (i := 8) (N := some 128) (v := ?_) (a' := ?_) #[true, true, true, false, false, true, true, true, true, false, false, false, false] rfl rfl (by kernel_rfl) (fun _ _ _ h => h) (Or.inl ⟨by rfl, ?_⟩) ?_ ?_; rotate_left; · (intro w'; go_simp; with_reducible rfl)
                                    rotate_left; · (simp only [Act.put, sT, sZ, sS, i64_w, i32_w]; rfl)
                                    refine pure_ (i := 9) (N := some 129) (v := ?_) (a' := ?_) #[true, true, true, false, false, true, true, true, true, true, false, false, false] rfl rfl (by kernel_rfl) (fun _ _ _ h => h) (Or.inl ⟨by rfl, ?_⟩) ?_ ?_; rotate_left; · (intro w'; go_simp; with_reducible rfl)
                                    rotate_left; · (simp only [Act.put, sT, sZ, sS, i64_w, i32_w]; rfl)
                                    refine take_ (i := 3) (N := some 123) (v := ?_) (a' := ?_) #[true, true, true, true, false, true, true, true, true, true, false, false, false] rfl rfl (by kernel_rfl) (fun _ _ _ h => h) (Or.inl ⟨by rfl, ?_⟩) hHeld ?_ ?_; rotate_left
                                    · intro w' s0
                                      have hzc := cellB_ s0 hxq583_0
                                      go_simp
                                      with_reducible rfl
                                    rotate_left; · (simp only [Act.put, sT, sZ, sS, i64_w, i32_w]; rfl)
                                    refine take_ (i := 4) (N := some 124) (v := .string (strOfNums y584)) (a' := ?_) #[true, true, true, true, true, true, true, true, true, true, false, false, false] rfl rfl (by kernel_rfl) (fun _ _ _ h => h) (Or.inl ⟨by rfl, ?_⟩) hHeld ?_ ?_
                                    · intro w' s0
                                      have hcv := Kd.C_string (P := Try.prog) (c := cq583_0) Try.underlying32 Try.underlying5 Try.underlying9 (Kd.C_below hCB s0)
                                      go_simp
                                    rotate_left; · (simp only [Act.put, sT, sZ, sS, i64_w, i32_w]; rfl)
                                    refine one_ (i := 10) (N := some 130) #[true, true, true, true, true, true, true, true, true, true, true, false, false] rfl rfl (by kernel_rfl) (by decide) (fun K hK => ?_)
                                    refine st_of (by rfl) ?_
                                    refine op_rowB (S := S) (enc := Value.int .u8) (h1 := fun _ => rfl) 5 y585 #[.int .u8 ((x9_2) % 256), .int .u8 ((wrap64 (Int.tdiv x9_2 256)) % 256)] 2 (by rw [← Ny585.out]; rfl) (by rw [← Ny585.out]; rfl) (by decide) (HF.out.keep HK.out) HS.out hHeld (by first | (go_simp; done) | (go_simp; rfl)) ?_
                                    intro Ab cb wb hs_ hk_ hb_
                                    replace HS := Aside0.mk hs_
                                    replace HK := Aside0.mk (HK.out.trans hk_)
                                    clear hs_ hk_ hHeld
                                    refine hK.out _ _ hb_ (fun hHeld => ?_)
                                    clear hK K hb_
                                    refine norm_ (a' := ?_) ?_ ?_; rotate_left
                                    · show Act.put _ (some 130) _ = _
                                      simp only [Act.put, sT, sZ, sS, i64_w, i32_w]
                                      rfl
                                    refine one_ (i := 11) (N := some 131) #[true, true, true, true, true, true, true, true, true, true, true, true, false] rfl rfl (by kernel_rfl) (by decide) (fun K hK => ?_)
                                    refine st_of (by rfl) ?_
                                    refine op_value (v := .string (strOfNums y585)) (w1 := wb) (by have hl_ : y585.length = 2 := (by rw [← Ny585.out]; rfl); have hc_ := (SL.row_c HS.out).2.2; rw [← hl_] at hc_; have hcv := Kd.C_string (P := Try.prog) (c := cb) Try.underlying32 Try.underlying5 Try.underlying9 hc_; rw [hl_] at hcv; go_simp) ?_
                                    refine hK.out _ _ hHeld (fun hHeld => ?_)
                                    clear hK K
                                    refine norm_ (a' := ?_) ?_ ?_; rotate_left
                                    · show Act.put _ (some 131) _ = _
                                      simp only [Act.put, sT, sZ, sS, i64_w, i32_w]
                                      rfl
                                    refine pure_ (i := 12) (N := some 132) (v := ?_) (a' := ?_) #[true, true, true, true, true, true, true, true, true, true, true, true, true] rfl rfl (by kernel_rfl) (fun _ _ _ h => h) (Or.inl ⟨by rfl, ?_⟩) ?_ ?_; rotate_left; · (intro w'; go_simp; with_reducible rfl)
                                    rotate_left; · (simp only [Act.put, sT, sZ, sS, i64_w, i32_w]; rfl)
                                    refine done_ (by kernel_rfl) ?_
                                    clear hHeld hCB
                                    try go_wp2
                                    replace HS := Aside0.mk (SL.tail HS.out)
                                    go_roundg k3
                                    case measure => have := HQ1.out; have := HQ2.out; have := HQ3.out; omega
                                    case rel => exact ⟨(wrap64 (x9_2 + 1)), (wrap64 (x15_2 + 1)), (by first | rfl | (simp; done) | (simp [*]; done)), (by first | rfl | (simp; done) | (simp [*]; done)), H', ⟨by have := HQ1.out; have := HQ2.out; have := HQ3.out; omega⟩, HS, HK⟩
                                  · rw [if_neg c49] at H
                                    exact absurd H (by simp)
                                · rw [if_neg c48] at H
                                  exact absurd H (by simp)
                              · rw [if_neg c47] at H
                                have c47b0 : decide (x15_2 < (t581.length : Int)) = false := decide_eq_false c47
                                clear c47
                                replace H := Option.bind_eq_some_iff.1 H
                                obtain ⟨t586, Hc550, H⟩ := H
                                try dsimp only at H
                                have Hc55 := Aside0.mk Hc550
                                clear Hc550
                                by_cases c56 : t586 = (wrap64 (x8_1 - x9_2))
                                · rw [if_pos c56] at H
                                  have c56b0 : (t586 == (wrap64 (x8_1 - x9_2))) = true := beq_iff_eq.mpr c56
                                  have c56b1 : (t586 != (wrap64 (x8_1 - x9_2))) = false := bne_eq_false_iff_eq.mpr c56
                                  clear c56
                                  replace H := Option.bind_eq_some_iff.1 H
                                  obtain ⟨t587, Hc570, H⟩ := H
                                  try dsimp only at H
                                  have Hc57 := Aside0.mk Hc570
                                  clear Hc570
                                  by_cases c58 : t587 = true
                                  · subst c58
                                    rw [if_pos rfl] at H
                                    exact absurd H (by simp)
                                  · replace c58 := Bool.eq_false_iff.mpr c58
                                    subst c58
                                    rw [if_neg (show ¬ (false = true) by decide)] at H
                                    have H' := Aside0.mk H
                                    clear H
                                    go_wp2_with (first | ((with_reducible refine gate_dst (N := 136) rfl ?_); refine goesL_ (some 136) rfl rfl Try.func15 (by kernel_rfl) rfl #[.pointer (some ⟨g3000026, 0, none⟩)] rfl (by (try simp only [List.map_toArray, List.map_cons, List.map_nil]); first | done | rfl | (simp; done)) ?_; have hs0_ := (SL.get1 (SL.get1 HS.out)); (with_reducible refine (outbox_Box_Len_i1.slcalls _ _ _ _ _ _ _ _ (HF.out.keep HK.out) hs0_  Hc55.out).mono ?_); rintro e_ w59 ⟨rfl, hsr_, hkr_⟩; refine ⟨_, rfl, ?_⟩; replace HS := Aside0.mk (hsr_); replace HK := Aside0.mk (HK.out.trans hkr_)) | ((with_reducible refine gate_dst (N := 143) rfl ?_); (try (refine gate_guard (by rfl) ?_; dsimp only)); refine goesL_ (some 143) rfl rfl Try.func16 (by kernel_rfl) rfl #[.pointer (some ⟨g3000026, 0, none⟩)] rfl (by (try simp only [List.map_toArray, List.map_cons, List.map_nil]); first | done | rfl | (simp; done)) ?_; have hs0_ := (SL.get1 (SL.get1 HS.out)); (with_reducible refine (outbox_Box_Lost_i1.slcalls _ _ _ _ _ _ _ _ (HF.out.keep HK.out) hs0_  Hc57.out).mono ?_); rintro e_ w60 ⟨rfl, hsr_, hkr_⟩; refine ⟨_, rfl, ?_⟩; replace HS := Aside0.mk (hsr_); replace HK := Aside0.mk (HK.out.trans hkr_)))
                                    replace HS := Aside0.mk (SL.tail (SL.get2 HS.out))
                                    go_roundg k3
                                    case measure => have := HQ1.out; have := HQ2.out; have := HQ3.out; omega
                                    case rel => exact ⟨(x3000026_1_1), (t582), (x8_1), (x9_2), (wrap64 (x10_0 + 1)), (by first | rfl | (simp; done) | (simp [*]; done)), (by first | rfl | (simp; done) | (simp [*]; done)), (by first | rfl | (simp; done) | (simp [*]; done)), H', ⟨by have := HQ1.out; have := HQ2.out; have := HQ3.out; omega⟩, HS, HK⟩
                                · rw [if_neg c56] at H
                                  exact absurd H (by simp)
                        · rw [if_neg c42] at H
                          exact absurd H (by simp)
                  · rw [if_neg c12] at H
                    exact absurd H (by simp)
                · rw [if_neg c11] at H
                  exact absurd H (by simp)
          · rw [if_neg c10] at H
            have c10b0 : decide (x10_0 < (l1.length : Int)) = false := decide_eq_false c10
            clear c10
            obtain rfl := Option.some.inj H
            go_wp2
            go_ret
            replace HS := Aside0.mk (SL.tail (SL.tail HS.out))
            unfold barrowlaw26_OutboxOrders.Post
            exact ⟨by first | rfl | (simp; done) | (simp [*]; done) | (simp at c10b0 ⊢; first | exact c10b0 | (simp [c10b0]; done)), HS.out, HK.out⟩
    · rw [if_neg c7] at H
      have c7b0 : decide (a0 < 1) = false := decide_eq_false c7
      clear c7
      by_cases c61 : a0 > 64
      · rw [if_pos c61] at H
        have c61b0 : decide (64 < a0) = true := decide_eq_true c61
        clear c61
        have H' := Aside0.mk H
        clear H
        go_enter Try.func4, Try.ntmps4
        go_wp2_with (first | ((with_reducible refine gate_dst (N := 16) rfl ?_); refine goesL_ (some 16) rfl rfl Try.func5 (by kernel_rfl) rfl #[] rfl (by (try simp only [List.map_toArray, List.map_cons, List.map_nil]); first | done | rfl | (simp; done)) ?_; (with_reducible refine (barrowlaw26_small.calls k _ _  Hc1.out).mono ?_); rintro e_ w62 ⟨rfl, hb_⟩; refine ⟨_, rfl, ?_⟩; replace HS := Aside0.mk (HS.out.below hb_); replace HK := Aside0.mk (HK.out.trans (Keep.below hb_))) | ((with_reducible refine gate_dst (N := 18) rfl ?_); refine goesL_ (some 18) rfl rfl Try.func6 (by kernel_rfl) rfl #[.int .i64 a0] rfl (by (try simp only [List.map_toArray, List.map_cons, List.map_nil]); first | done | rfl | (simp; done)) ?_; have hs0_ := HS.out; (with_reducible refine (outbox_New.slcalls k _ _ _ _ _ _ (HF.out.keep HK.out) hs0_  Hc2.out).mono ?_); rintro e_ w63 ⟨g3000026, g3000027, rfl, hsr_, hkr_⟩; refine ⟨_, rfl, ?_⟩; replace HS := Aside0.mk (hsr_); replace HK := Aside0.mk (HK.out.trans hkr_)))
        try go_simp
        go_loopg [8, 9, 10] k (fun kq v8 v9 v10 w' => ∃ (x3000026_1_0 : Bool) (y3000027_0 : Int × List (List Int)) (x8_0 : Int) (x9_0 : Int) (x10_0 : Int), v8 = .int .i64 x8_0 ∧ v9 = .int .i64 x9_0 ∧ v10 = .int .i64 x10_0 ∧ Aside0 (barrowlaw26_OutboxOrders.l0 kq l1 x8_0 x9_0 x10_0 y3000027_0 x3000026_1_0 t558 = some r) ∧ Aside0 (kq ≤ k) ∧ Aside0 (SL (cells g3000026 41 [.chan (some g3000027), .bool x3000026_1_0].toArray :: chano g3000027 (inn (Kd.int .u8) 5) y3000027_0 :: L) w' S) ∧ Aside0 (Keep S w w'))
        case atStart => exact ⟨(t559), (t560), (0), (0), (0), (by first | rfl | (simp; done) | (simp [*]; done)), (by first | rfl | (simp; done) | (simp [*]; done)), (by first | rfl | (simp; done) | (simp [*]; done)), H', ⟨Nat.le_refl _⟩, HS, HK⟩
        case round =>
          clear H' HS HK
          obtain ⟨x3000026_1_0, y3000027_0, x8_0, x9_0, x10_0, rfl, rfl, rfl, HA, HQ1, HS, HK⟩ := hrel
          cases gk with
          | zero => exact absurd HA.out (by simp [barrowlaw26_OutboxOrders.l0])
          | succ k1 =>
            have H := HA.out
            clear HA
            simp only [barrowlaw26_OutboxOrders.l0] at H
            by_cases c64 : x10_0 < (l1.length : Int)
            · rw [if_pos c64] at H
              have c64b0 : decide (x10_0 < (l1.length : Int)) = true := decide_eq_true c64
              clear c64
              have H' := Aside0.mk H
              clear H
              go_wp2
              go_loopg [8, 11] k1 (fun kq v8 v11 w' => ∃ (x3000026_1_1 : Bool) (y3000027_1 : Int × List (List Int)) (x8_1 : Int) (x11_1 : Int), v8 = .int .i64 x8_1 ∧ v11 = .int .i64 x11_1 ∧ Aside0 (barrowlaw26_OutboxOrders.l1 kq l1 x9_0 x10_0 x8_1 x11_1 y3000027_1 x3000026_1_1 t558 = some r) ∧ Aside0 (kq ≤ k1) ∧ Aside0 (SL (cells g3000026 41 [.chan (some g3000027), .bool x3000026_1_1].toArray :: chano g3000027 (inn (Kd.int .u8) 5) y3000027_1 :: L) w' S) ∧ Aside0 (Keep S w w'))
              case atStart => exact ⟨(x3000026_1_0), (y3000027_0), (x8_0), (0), (by first | rfl | (simp; done) | (simp [*]; done)), (by first | rfl | (simp; done) | (simp [*]; done)), H', ⟨Nat.le_refl _⟩, HS, HK⟩
              case round =>
                clear H' HS HK
                obtain ⟨x3000026_1_1, y3000027_1, x8_1, x11_1, rfl, rfl, HA, HQ2, HS, HK⟩ := hrel
                cases gk with
                | zero => exact absurd HA.out (by simp [barrowlaw26_OutboxOrders.l1])
                | succ k2 =>
                  have H := HA.out
                  clear HA
                  simp only [barrowlaw26_OutboxOrders.l1] at H
                  by_cases c65 : 0 ≤ x10_0
                  · rw [if_pos c65] at H
                    have c65b0 : decide (0 ≤ x10_0) = true := decide_eq_true c65
                    clear c65
                    by_cases c66 : x10_0 < (l1.length : Int)
                    · rw [if_pos c66] at H
                      have c66b0 : decide (x10_0 < (l1.length : Int)) = true := decide_eq_true c66
                      clear c66
                      by_cases c67 : x11_1 < (Go.bits .and .i64 ((rd_T29 l1 x10_0).f0) 15)
                      · rw [if_pos c67] at H
                        have c67b0 : decide (x11_1 < (Go.bits .and .i64 ((rd_T29 l1 x10_0).f0) 15)) = true := decide_eq_true c67
                        clear c67
                        replace H := Option.bind_eq_some_iff.1 H
                        obtain ⟨t562, Hc680, H⟩ := H
                        try dsimp only at H
                        have Hc68 := Aside0.mk Hc680
                        clear Hc680
                        by_cases c69 : t562 = 64
                        · rw [if_pos c69] at H
                          have c69b0 : (t562 == 64) = true := beq_iff_eq.mpr c69
                          have c69b1 : (t562 != 64) = false := bne_eq_false_iff_eq.mpr c69
                          clear c69
                          replace H := Option.bind_eq_some_iff.1 H
                          obtain ⟨y563, hy5630, H⟩ := H
                          try dsimp only at H
                          have hy563 := Option.some.inj hy5630
                          clear hy5630
                          have Ny563 := Aside0.mk hy563
                          clear hy563
                          replace H := Option.bind_eq_some_iff.1 H
                          obtain ⟨⟨t564, t565, t566⟩, Hc700, H⟩ := H
                          try dsimp only at H
                          have Hc70 := Aside0.mk Hc700
                          clear Hc700
                          by_cases c71 : (t564 == true) = true
                          · rw [if_pos c71] at H
                            exact absurd H (by simp)
                          · rw [if_neg c71] at H
                            have c71b0 : (t564 == true) = false := by simpa using c71
                            (try (have c71b1 : decide (t564 = true) = false := by simpa using c71))
                            (try (have c71b2 : (t564 == true) = false := by simpa using c71))
                            (try (have c71b3 : ¬ (t564 = true) := by simpa using c71))
                            clear c71
                            by_cases c72 : t558 = true
                            · subst c72
                              rw [if_pos rfl] at H
                              replace H := Option.bind_eq_some_iff.1 H
                              obtain ⟨t567, Hc730, H⟩ := H
                              try dsimp only at H
                              have Hc73 := Aside0.mk Hc730
                              clear Hc730
                              by_cases c74 : t567 = true
                              · subst c74
                                rw [if_pos rfl] at H
                                replace H := Option.bind_eq_some_iff.1 H
                                obtain ⟨t568, Hc750, H⟩ := H
                                try dsimp only at H
                                have Hc75 := Aside0.mk Hc750
                                clear Hc750
                                by_cases c76 : t568 = 0
                                · rw [if_pos c76] at H
                                  have c76b0 : (t568 == 0) = true := beq_iff_eq.mpr c76
                                  have c76b1 : (t568 != 0) = false := bne_eq_false_iff_eq.mpr c76
                                  clear c76
                                  replace H := Option.bind_eq_some_iff.1 H
                                  obtain ⟨⟨t569, t570⟩, Hc770, H⟩ := H
                                  try dsimp only at H
                                  have Hc77 := Aside0.mk Hc770
                                  clear Hc770
                                  by_cases c78 : (t569.length : Int) = 0
                                  · rw [if_pos c78] at H
                                    have c78b0 : ((t569.length : Int) == 0) = true := beq_iff_eq.mpr c78
                                    have c78b1 : ((t569.length : Int) != 0) = false := bne_eq_false_iff_eq.mpr c78
                                    clear c78
                                    replace H := Option.bind_eq_some_iff.1 H
                                    obtain ⟨⟨t571, t572, t573⟩, Hc790, H⟩ := H
                                    try dsimp only at H
                                    have Hc79 := Aside0.mk Hc790
                                    clear Hc790
                                    by_cases c80 : t571 = true
                                    · subst c80
                                      rw [if_pos rfl] at H
                                      exact absurd H (by simp)
                                    · replace c80 := Bool.eq_false_iff.mpr c80
                                      subst c80
                                      rw [if_neg (show ¬ (false = true) by decide)] at H
                                      obtain rfl := Option.some.inj H
                                      have pq561 : 0 ≤ (x10_0 : Int) := of_decide_eq_true (by first | (with_reducible assumption) | assumption)
                                      have qq561 : x10_0 < ((l1.length : Int) : Int) := of_decide_eq_true (by first | (with_reducible assumption) | assumption)
                                      obtain ⟨adq561, eq561, hxq561_0, hxq561_1⟩ := at_T29 (RO.at_ HR1.out HK.out) x10_0 pq561 qq561
                                      cases eq561
                                      replace pq561 := eq_true pq561
                                      replace qq561 := eq_true qq561
                                      go_wp2_with (first | ((with_reducible refine gate_dst (N := 55) rfl ?_); refine goesL_ (some 55) rfl rfl Try.func15 (by kernel_rfl) rfl #[.pointer (some ⟨g3000026, 0, none⟩)] rfl (by (try simp only [List.map_toArray, List.map_cons, List.map_nil]); first | done | rfl | (simp; done)) ?_; have hs0_ := (SL.get1 (SL.get1 HS.out)); (with_reducible refine (outbox_Box_Len_i1.slcalls _ _ _ _ _ _ _ _ (HF.out.keep HK.out) hs0_  Hc68.out).mono ?_); rintro e_ w81 ⟨rfl, hsr_, hkr_⟩; refine ⟨_, rfl, ?_⟩; replace HS := Aside0.mk (hsr_); replace HK := Aside0.mk (HK.out.trans hkr_)) | ((with_reducible refine gate_dst (N := 64) rfl ?_); refine wpList_plain rfl (fun K_ hK_ => ?_); refine op_row (S := S) (enc := Value.int .u8) (h1 := fun _ => rfl) 5 y563 #[.int .u8 ((x8_1) % 256), .int .u8 ((wrap64 (Int.tdiv x8_1 256)) % 256)] 2 (by rw [← Ny563.out]; rfl) (by rw [← Ny563.out]; rfl) (by decide) (HF.out.keep HK.out) HS.out (by first | (go_simp; done) | (go_simp; rfl)) ?_; intro Az3000028 cz3000028 w82 hs_ hk_; refine hK_ _ _ ?_; clear hK_ K_; replace HS := Aside0.mk ((show SL (row (Kd.int .u8) 5 (.slice Az3000028 2 cz3000028) y563 :: _) _ _ from hs_)); replace HK := Aside0.mk (HK.out.trans hk_)) | ((with_reducible refine gate_dst (N := 65) rfl ?_); refine goesL_ (some 65) rfl rfl Try.func13 (by kernel_rfl) rfl #[.pointer (some ⟨g3000026, 0, none⟩), .slice Az3000028 2 cz3000028] rfl (by (try simp only [List.map_toArray, List.map_cons, List.map_nil]); first | done | rfl | (simp; done)) ?_; have el3000028_ := Aside0.mk (SL.row_c HS.out).1; refine calls_of_args (args' := #[.pointer (some ⟨g3000026, 0, none⟩), .slice Az3000028 y563.length cz3000028]) (by rw [← el3000028_.out]) ?_; have hs0_ := (SL.get2 (SL.get2 (SL.get2 HS.out))); obtain ⟨U1_, hfU1_, hsub1_, hs1_, hro1_, hback1_⟩ := SL.lend (HF.out.keep HK.out) hs0_ (p := fun w_ => Kd.C (Kd.int .u8) w_ Az3000028 2 y563) (fun w_ T_ h_ => (Qs_c h_).2.2); (with_reducible refine (outbox_Box_Put.slcalls k2 _ _ _ _ _ _ _ _ _ _ _ _ _ hfU1_ hs1_ (by rw [← el3000028_.out]; exact hro1_) (by rw [← el3000028_.out]; exact (SL.row_c HS.out).2.1) Hc70.out).mono ?_); rintro e_ w83 ⟨rfl, hsr_, hkr_⟩; refine ⟨_, rfl, ?_⟩; replace HS := Aside0.mk ((hback1_ _ _ hkr_ hsr_)); replace HK := Aside0.mk (HK.out.trans (Keep.sub hkr_ (fun k_ h_ => hsub1_ k_ h_)))) | ((with_reducible refine gate_dst (N := 73) rfl ?_); (try (refine gate_guard (by rfl) ?_; dsimp only)); refine goesL_ (some 73) rfl rfl Try.func16 (by kernel_rfl) rfl #[.pointer (some ⟨g3000026, 0, none⟩)] rfl (by (try simp only [List.map_toArray, List.map_cons, List.map_nil]); first | done | rfl | (simp; done)) ?_; have hs0_ := (SL.get2 (SL.get2 HS.out)); (with_reducible refine (outbox_Box_Lost_i1.slcalls _ _ _ _ _ _ _ _ (HF.out.keep HK.out) hs0_  Hc73.out).mono ?_); rintro e_ w84 ⟨rfl, hsr_, hkr_⟩; refine ⟨_, rfl, ?_⟩; replace HS := Aside0.mk (hsr_); replace HK := Aside0.mk (HK.out.trans hkr_)) | ((with_reducible refine gate_dst (N := 77) rfl ?_); (try (refine gate_guard (by rfl) ?_; dsimp only)); refine goesL_ (some 77) rfl rfl Try.func15 (by kernel_rfl) rfl #[.pointer (some ⟨g3000026, 0, none⟩)] rfl (by (try simp only [List.map_toArray, List.map_cons, List.map_nil]); first | done | rfl | (simp; done)) ?_; have hs0_ := (SL.get1 (SL.get1 HS.out)); (with_reducible refine (outbox_Box_Len_i1.slcalls _ _ _ _ _ _ _ _ (HF.out.keep HK.out) hs0_  Hc75.out).mono ?_); rintro e_ w85 ⟨rfl, hsr_, hkr_⟩; refine ⟨_, rfl, ?_⟩; replace HS := Aside0.mk (hsr_); replace HK := Aside0.mk (HK.out.trans hkr_)) | ((with_reducible refine gate_dst (N := 83) rfl ?_); (try (refine gate_guard (by rfl) ?_; dsimp only)); refine goesL_ (some 83) rfl rfl Try.func10 (by kernel_rfl) rfl #[.pointer (some ⟨g3000026, 0, none⟩), .int .i64 64] rfl (by (try simp only [List.map_toArray, List.map_cons, List.map_nil]); first | done | rfl | (simp; done)) ?_; have hs0_ := (SL.get1 (SL.get1 HS.out)); (with_reducible refine (outbox_Box_Drain_i1.slcalls k2 _ _ _ _ _ _ _ _ _ _ (HF.out.keep HK.out) hs0_  Hc77.out).mono ?_); rintro e_ w86 ⟨Az3000029, cz3000029, rfl, hsr_, hkr_⟩; refine ⟨_, rfl, ?_⟩; replace HS := Aside0.mk (hsr_); replace HK := Aside0.mk (HK.out.trans hkr_)) | ((with_reducible refine gate_dst (N := 89) rfl ?_); (try (refine gate_guard (by rfl) ?_; dsimp only)); refine goesL_ (some 89) rfl rfl Try.func13 (by kernel_rfl) rfl #[.pointer (some ⟨g3000026, 0, none⟩), .slice none 0 0] rfl (by (try simp only [List.map_toArray, List.map_cons, List.map_nil]); first | done | rfl | (simp; done)) ?_; have hs0_ := (SL.get1 (SL.get1 HS.out)); (refine (outbox_Box_Put.slcalls k2 _ _ _ _ _ _ _ _ _ _ _ _ _ (HF.out.keep HK.out) hs0_ (fun w_ _ => Kd.C_nil _ _) (Nat.le_refl _) Hc79.out).mono ?_); rintro e_ w87 ⟨rfl, hsr_, hkr_⟩; refine ⟨_, rfl, ?_⟩; replace HS := Aside0.mk (hsr_); replace HK := Aside0.mk (HK.out.trans hkr_)))
                                      go_ret
                                      replace HS := Aside0.mk (SL.tail (SL.tail (SL.tail (SL.tail HS.out))))
                                      unfold barrowlaw26_OutboxOrders.Post
                                      exact ⟨by first | rfl | (simp; done) | (simp [*]; done) | (simp at c78b0 ⊢; first | exact c78b0 | (simp [c78b0]; done)), HS.out, HK.out⟩
                                  · rw [if_neg c78] at H
                                    exact absurd H (by simp)
                                · rw [if_neg c76] at H
                                  exact absurd H (by simp)
                              · replace c74 := Bool.eq_false_iff.mpr c74
                                subst c74
                                rw [if_neg (show ¬ (false = true) by decide)] at H
                                exact absurd H (by simp)
                            · replace c72 := Bool.eq_false_iff.mpr c72
                              subst c72
                              rw [if_neg (show ¬ (false = true) by decide)] at H
                              exact absurd H (by simp)
                        · rw [if_neg c69] at H
                          have c69b0 : (t562 == 64) = false := beq_eq_false_iff_ne.mpr c69
                          have c69b1 : (t562 != 64) = true := bne_iff_ne.mpr c69
                          replace H := Option.bind_eq_some_iff.1 H
                          obtain ⟨y574, hy5740, H⟩ := H
                          try dsimp only at H
                          have hy574 := Option.some.inj hy5740
                          clear hy5740
                          have Ny574 := Aside0.mk hy574
                          clear hy574
                          replace H := Option.bind_eq_some_iff.1 H
                          obtain ⟨⟨t575, t576, t577⟩, Hc880, H⟩ := H
                          try dsimp only at H
                          have Hc88 := Aside0.mk Hc880
                          clear Hc880
                          by_cases c89 : (t575 == false) = true
                          · rw [if_pos c89] at H
                            exact absurd H (by simp)
                          · rw [if_neg c89] at H
                            have c89b0 : (t575 == false) = false := by simpa using c89
                            (try (have c89b1 : decide (t575 = false) = false := by simpa using c89))
                            (try (have c89b2 : (t575 == false) = false := by simpa using c89))
                            (try (have c89b3 : ¬ (t575 = false) := by simpa using c89))
                            clear c89
                            have H' := Aside0.mk H
                            clear H
                            have pq561 : 0 ≤ (x10_0 : Int) := of_decide_eq_true (by first | (with_reducible assumption) | assumption)
                            have qq561 : x10_0 < ((l1.length : Int) : Int) := of_decide_eq_true (by first | (with_reducible assumption) | assumption)
                            obtain ⟨adq561, eq561, hxq561_0, hxq561_1⟩ := at_T29 (RO.at_ HR1.out HK.out) x10_0 pq561 qq561
                            cases eq561
                            replace pq561 := eq_true pq561
                            replace qq561 := eq_true qq561
                            go_wp2_with (first | ((with_reducible refine gate_dst (N := 55) rfl ?_); refine goesL_ (some 55) rfl rfl Try.func15 (by kernel_rfl) rfl #[.pointer (some ⟨g3000026, 0, none⟩)] rfl (by (try simp only [List.map_toArray, List.map_cons, List.map_nil]); first | done | rfl | (simp; done)) ?_; have hs0_ := (SL.get1 (SL.get1 HS.out)); (with_reducible refine (outbox_Box_Len_i1.slcalls _ _ _ _ _ _ _ _ (HF.out.keep HK.out) hs0_  Hc68.out).mono ?_); rintro e_ w90 ⟨rfl, hsr_, hkr_⟩; refine ⟨_, rfl, ?_⟩; replace HS := Aside0.mk (hsr_); replace HK := Aside0.mk (HK.out.trans hkr_)) | ((with_reducible refine gate_dst (N := 64) rfl ?_); refine wpList_plain rfl (fun K_ hK_ => ?_); refine op_row (S := S) (enc := Value.int .u8) (h1 := fun _ => rfl) 5 y574 #[.int .u8 ((x8_1) % 256), .int .u8 ((wrap64 (Int.tdiv x8_1 256)) % 256)] 2 (by rw [← Ny574.out]; rfl) (by rw [← Ny574.out]; rfl) (by decide) (HF.out.keep HK.out) HS.out (by first | (go_simp; done) | (go_simp; rfl)) ?_; intro Az3000028 cz3000028 w91 hs_ hk_; refine hK_ _ _ ?_; clear hK_ K_; replace HS := Aside0.mk ((show SL (row (Kd.int .u8) 5 (.slice Az3000028 2 cz3000028) y574 :: _) _ _ from hs_)); replace HK := Aside0.mk (HK.out.trans hk_)) | ((with_reducible refine gate_dst (N := 65) rfl ?_); refine goesL_ (some 65) rfl rfl Try.func13 (by kernel_rfl) rfl #[.pointer (some ⟨g3000026, 0, none⟩), .slice Az3000028 2 cz3000028] rfl (by (try simp only [List.map_toArray, List.map_cons, List.map_nil]); first | done | rfl | (simp; done)) ?_; have el3000028_ := Aside0.mk (SL.row_c HS.out).1; refine calls_of_args (args' := #[.pointer (some ⟨g3000026, 0, none⟩), .slice Az3000028 y574.length cz3000028]) (by rw [← el3000028_.out]) ?_; have hs0_ := (SL.get2 (SL.get2 (SL.get2 HS.out))); obtain ⟨U1_, hfU1_, hsub1_, hs1_, hro1_, hback1_⟩ := SL.lend (HF.out.keep HK.out) hs0_ (p := fun w_ => Kd.C (Kd.int .u8) w_ Az3000028 2 y574) (fun w_ T_ h_ => (Qs_c h_).2.2); (with_reducible refine (outbox_Box_Put.slcalls k2 _ _ _ _ _ _ _ _ _ _ _ _ _ hfU1_ hs1_ (by rw [← el3000028_.out]; exact hro1_) (by rw [← el3000028_.out]; exact (SL.row_c HS.out).2.1) Hc88.out).mono ?_); rintro e_ w92 ⟨rfl, hsr_, hkr_⟩; refine ⟨_, rfl, ?_⟩; replace HS := Aside0.mk ((hback1_ _ _ hkr_ hsr_)); replace HK := Aside0.mk (HK.out.trans (Keep.sub hkr_ (fun k_ h_ => hsub1_ k_ h_)))))
                            replace HS := Aside0.mk (SL.tail HS.out)
                            go_roundg k2
                            case measure => have := HQ1.out; have := HQ2.out; omega
                            case rel => exact ⟨(t576), (t577), (wrap64 (x8_1 + 1)), (wrap64 (x11_1 + 1)), (by first | rfl | (simp; done) | (simp [*]; done)), (by first | rfl | (simp; done) | (simp [*]; done)), H', ⟨by have := HQ1.out; have := HQ2.out; omega⟩, HS, HK⟩
                      · rw [if_neg c67] at H
                        have c67b0 : decide (x11_1 < (Go.bits .and .i64 ((rd_T29 l1 x10_0).f0) 15)) = false := decide_eq_false c67
                        clear c67
                        replace H := Option.bind_eq_some_iff.1 H
                        obtain ⟨t578, Hc930, H⟩ := H
                        try dsimp only at H
                        have Hc93 := Aside0.mk Hc930
                        clear Hc930
                        by_cases c94 : t578 > 64
                        · rw [if_pos c94] at H
                          exact absurd H (by simp)
                        · rw [if_neg c94] at H
                          have c94b0 : decide (64 < t578) = false := decide_eq_false c94
                          clear c94
                          replace H := Option.bind_eq_some_iff.1 H
                          obtain ⟨t579, Hc950, H⟩ := H
                          try dsimp only at H
                          have Hc95 := Aside0.mk Hc950
                          clear Hc950
                          by_cases c96 : t579 = (wrap64 (x8_1 - x9_0))
                          · rw [if_pos c96] at H
                            have c96b0 : (t579 == (wrap64 (x8_1 - x9_0))) = true := beq_iff_eq.mpr c96
                            have c96b1 : (t579 != (wrap64 (x8_1 - x9_0))) = false := bne_eq_false_iff_eq.mpr c96
                            clear c96
                            replace H := Option.bind_eq_some_iff.1 H
                            obtain ⟨⟨t581, t582⟩, Hc970, H⟩ := H
                            try dsimp only at H
                            have Hc97 := Aside0.mk Hc970
                            clear Hc970
                            have H' := Aside0.mk H
                            clear H
                            have pq561 : 0 ≤ (x10_0 : Int) := of_decide_eq_true (by first | (with_reducible assumption) | assumption)
                            have qq561 : x10_0 < ((l1.length : Int) : Int) := of_decide_eq_true (by first | (with_reducible assumption) | assumption)
                            obtain ⟨adq561, eq561, hxq561_0, hxq561_1⟩ := at_T29 (RO.at_ HR1.out HK.out) x10_0 pq561 qq561
                            cases eq561
                            replace pq561 := eq_true pq561
                            replace qq561 := eq_true qq561
                            go_wp2_with (first | ((with_reducible refine gate_dst (N := 95) rfl ?_); refine goesL_ (some 95) rfl rfl Try.func15 (by kernel_rfl) rfl #[.pointer (some ⟨g3000026, 0, none⟩)] rfl (by (try simp only [List.map_toArray, List.map_cons, List.map_nil]); first | done | rfl | (simp; done)) ?_; have hs0_ := (SL.get1 (SL.get1 HS.out)); (with_reducible refine (outbox_Box_Len_i1.slcalls _ _ _ _ _ _ _ _ (HF.out.keep HK.out) hs0_  Hc93.out).mono ?_); rintro e_ w98 ⟨rfl, hsr_, hkr_⟩; refine ⟨_, rfl, ?_⟩; replace HS := Aside0.mk (hsr_); replace HK := Aside0.mk (HK.out.trans hkr_)) | ((with_reducible refine gate_dst (N := 100) rfl ?_); (try (refine gate_guard (by rfl) ?_; dsimp only)); refine goesL_ (some 100) rfl rfl Try.func15 (by kernel_rfl) rfl #[.pointer (some ⟨g3000026, 0, none⟩)] rfl (by (try simp only [List.map_toArray, List.map_cons, List.map_nil]); first | done | rfl | (simp; done)) ?_; have hs0_ := (SL.get1 (SL.get1 HS.out)); (with_reducible refine (outbox_Box_Len_i1.slcalls _ _ _ _ _ _ _ _ (HF.out.keep HK.out) hs0_  Hc95.out).mono ?_); rintro e_ w99 ⟨rfl, hsr_, hkr_⟩; refine ⟨_, rfl, ?_⟩; replace HS := Aside0.mk (hsr_); replace HK := Aside0.mk (HK.out.trans hkr_); have pq580 : 0 ≤ (x10_0 : Int) := of_decide_eq_true (by first | (with_reducible assumption) | assumption); have qq580 : x10_0 < ((l1.length : Int) : Int) := of_decide_eq_true (by first | (with_reducible assumption) | assumption); obtain ⟨adq580, eq580, hxq580_0, hxq580_1⟩ := at_T29 (RO.at_ HR1.out HK.out) x10_0 pq580 qq580; obtain rfl : adq561 = adq580 := (by injection eq580); replace pq580 := eq_true pq580; replace qq580 := eq_true qq580) | ((with_reducible refine gate_dst (N := 113) rfl ?_); refine goesL_ (some 113) rfl rfl Try.func10 (by kernel_rfl) rfl #[.pointer (some ⟨g3000026, 0, none⟩), .int .i64 (Go.bits .and .i64 ((rd_T29 l1 x10_0).f1) 15)] rfl (by (try simp only [List.map_toArray, List.map_cons, List.map_nil]); first | done | rfl | (simp; done)) ?_; have hs0_ := (SL.get1 (SL.get1 HS.out)); (with_reducible refine (outbox_Box_Drain_i1.slcalls k2 _ _ _ _ _ _ _ _ _ _ (HF.out.keep HK.out) hs0_  Hc97.out).mono ?_); rintro e_ w100 ⟨Az3000030, cz3000030, rfl, hsr_, hkr_⟩; refine ⟨_, rfl, ?_⟩; replace HS := Aside0.mk (hsr_); replace HK := Aside0.mk (HK.out.trans hkr_)))
                            try go_simp
                            go_loopg [9, 15] k2 (fun kq v9 v15 w' => ∃ (x9_2 : Int) (x15_2 : Int), v9 = .int .i64 x9_2 ∧ v15 = .int .i64 x15_2 ∧ Aside0 (barrowlaw26_OutboxOrders.l2 kq l1 x10_0 x8_1 x9_2 x15_2 x3000026_1_1 t558 t581 t582 = some r) ∧ Aside0 (kq ≤ k2) ∧ Aside0 (SL (cells g3000026 41 [.chan (some g3000027), .bool x3000026_1_1].toArray :: chano g3000027 (inn (Kd.int .u8) 5) t582 :: rows (inn (Kd.int .u8) 5) 1 32 (.slice Az3000030 t581.length cz3000030) t581 :: L) w' S) ∧ Aside0 (Keep S w w'))
                            case atStart => exact ⟨(x9_0), (0), (by first | rfl | (simp; done) | (simp [*]; done)), (by first | rfl | (simp; done) | (simp [*]; done)), H', ⟨Nat.le_refl _⟩, HS, HK⟩
                            case round =>
                              clear H' HS HK
                              obtain ⟨x9_2, x15_2, rfl, rfl, HA, HQ3, HS, HK⟩ := hrel
                              cases gk with
                              | zero => exact absurd HA.out (by simp [barrowlaw26_OutboxOrders.l2])
                              | succ k3 =>
                                have H := HA.out
                                clear HA
                                simp only [barrowlaw26_OutboxOrders.l2] at H
                                by_cases c101 : x15_2 < (t581.length : Int)
                                · rw [if_pos c101] at H
                                  have c101b0 : decide (x15_2 < (t581.length : Int)) = true := decide_eq_true c101
                                  clear c101
                                  by_cases c102 : 0 ≤ x15_2
                                  · rw [if_pos c102] at H
                                    have c102b0 : decide (0 ≤ x15_2) = true := decide_eq_true c102
                                    clear c102
                                    replace H := Option.bind_eq_some_iff.1 H
                                    obtain ⟨y584, hy5840, H⟩ := H
                                    try dsimp only at H
                                    have hy584 := Option.some.inj hy5840
                                    clear hy5840
                                    have Ny584 := Aside0.mk hy584
                                    clear hy584
                                    replace H := Option.bind_eq_some_iff.1 H
                                    obtain ⟨y585, hy5850, H⟩ := H
                                    try dsimp only at H
                                    have hy585 := Option.some.inj hy5850
                                    clear hy5850
                                    have Ny585 := Aside0.mk hy585
                                    clear hy585
                                    by_cases c103 : (strOfNums y584).toList = (strOfNums y585).toList
                                    · rw [if_pos c103] at H
                                      have c103b0 : ((strOfNums y584).toList == (strOfNums y585).toList) = true := beq_iff_eq.mpr c103
                                      have c103b1 : ((strOfNums y584).toList != (strOfNums y585).toList) = false := bne_eq_false_iff_eq.mpr c103
                                      clear c103
                                      have H' := Aside0.mk H
                                      clear H
                                      try go_wp2
                                      have pq583 : 0 ≤ (x15_2 : Int) := of_decide_eq_true (by first | (with_reducible assumption) | assumption)
                                      have qq583 : x15_2 < ((t581.length : Int) : Int) := of_decide_eq_true (by first | (with_reducible assumption) | assumption)
                                      obtain ⟨adq583, Aq583_0, cq583_0, eq583, hxq583_0, hiq583, hlq583⟩ := rows_at (SL.get2 HS.out) rfl x15_2 pq583 qq583 y584 Ny584.out
                                      have HVq583_0 := Aside0.mk hiq583
                                      have HCq583_0 := Aside0.mk hlq583
                                      clear hiq583 hlq583
                                      cases eq583
                                      replace pq583 := eq_true pq583
                                      replace qq583 := eq_true qq583
                                      have hCB := HVq583_0.out
                                      refine startB_ (n := 13) #[false, false, false, false, false, false, false, false, false, false, false, false, false] (by kernel_rfl) rfl rfl (fun hHeld => ?_)
                                      replace HK := Aside0.mk (Keep.drew HK.out)
                                      replace HS := Aside0.mk (SL.drew HS.out)
                                      refine pure_ (i := 0) (N := some 120) (v := ?_) (a' := ?_) #[true, false, false, false, false, false, false, false, false, false, false, false, false] rfl rfl (by kernel_rfl) (fun _ _ _ h => h) (Or.inl ⟨by rfl, ?_⟩) ?_ ?_; rotate_left; · (intro w'; go_simp; with_reducible rfl)
                                      rotate_left; · (simp only [Act.put, sT, sZ, sS, i64_w, i32_w]; rfl)
                                      refine pure_ (i := 1) (N := some 121) (v := ?_) (a' := ?_) #[true, true, false, false, false, false, false, false, false, false, false, false, false] rfl rfl (by kernel_rfl) (fun _ _ _ h => h) (Or.inl ⟨by rfl, ?_⟩) ?_ ?_; rotate_left; · (intro w'; go_simp; with_reducible rfl)
                                      rotate_left; · (simp only [Act.put, sT, sZ, sS, i64_w, i32_w]; rfl)
                                      refine pure_ (i := 2) (N := some 122) (v := ?_) (a' := ?_) #[true, true, true, false, false, false, false, false, false, false, false, false, false] rfl rfl (by kernel_rfl) (fun _ _ _ h => h) (Or.inl ⟨by rfl, ?_⟩) ?_ ?_; rotate_left; · (intro w'; go_simp; with_reducible rfl)
                                      rotate_left; · (simp only [Act.put, sT, sZ, sS, i64_w, i32_w]; rfl)
                                      refine pure_ (i := 5) (N := some 125) (v := ?_) (a' := ?_) #[true, true, true, false, false, true, false, false, false, false, false, false, false] rfl rfl (by kernel_rfl) (fun _ _ _ h => h) (Or.inl ⟨by rfl, ?_⟩) ?_ ?_; rotate_left; · (intro w'; go_simp; with_reducible rfl)
                                      rotate_left; · (simp only [Act.put, sT, sZ, sS, i64_w, i32_w]; rfl)
                                      refine pure_ (i := 6) (N := some 126) (v := ?_) (a' := ?_) #[true, true, true, false, false, true, true, false, false, false, false, false, false] rfl rfl (by kernel_rfl) (fun _ _ _ h => h) (Or.inl ⟨by rfl, ?_⟩) ?_ ?_; rotate_left; · (intro w'; go_simp; with_reducible rfl)
                                      rotate_left; · (simp only [Act.put, sT, sZ, sS, i64_w, i32_w]; rfl)
                                      refine pure_ (i := 7) (N := some 127) (v := ?_) (a' := ?_) #[true, true, true, false, false, true, true, true, false, false, false, false, false] rfl rfl (by kernel_rfl) (fun _ _ _ h => h) (Or.inl ⟨by rfl, ?_⟩) ?_ ?_; rotate_left; · (intro w'; go_simp; with_reducible rfl)
                                      rotate_left; · (simp only [Act.put, sT, sZ, sS, i64_w, i32_w]; rfl)
                                      refine pure_ (i := 8) (N := some 128) (v := ?_) (a' := ?_) #[true, true, true, false, false, true, true, true, true, false, false, false, false] rfl rfl (by kernel_rfl) (fun _ _ _ h => h) (Or.inl ⟨by rfl, ?_⟩) ?_ ?_; rotate_left; · (intro w'; go_simp; with_reducible rfl)
                                      rotate_left; · (simp only [Act.put, sT, sZ, sS, i64_w, i32_w]; rfl)
                                      refine pure_ (i := 9) (N := some 129) (v := ?_) (a' := ?_) #[true, true, true, false, false, true, true, true, true, true, false, false, false] rfl rfl (by kernel_rfl) (fun _ _ _ h => h) (Or.inl ⟨by rfl, ?_⟩) ?_ ?_; rotate_left; · (intro w'; go_simp; with_reducible rfl)
                                      rotate_left; · (simp only [Act.put, sT, sZ, sS, i64_w, i32_w]; rfl)
                                      refine take_ (i := 3) (N := some 123) (v := ?_) (a' := ?_) #[true, true, true, true, false, true, true, true, true, true, false, false, false] rfl rfl (by kernel_rfl) (fun _ _ _ h => h) (Or.inl ⟨by rfl, ?_⟩) hHeld ?_ ?_; rotate_left
                                      · intro w' s0
                                        have hzc := cellB_ s0 hxq583_0
                                        go_simp
                                        with_reducible rfl
                                      rotate_left; · (simp only [Act.put, sT, sZ, sS, i64_w, i32_w]; rfl)
                                      refine take_ (i := 4) (N := some 124) (v := .string (strOfNums y584)) (a' := ?_) #[true, true, true, true, true, true, true, true, true, true, false, false, false] rfl rfl (by kernel_rfl) (fun _ _ _ h => h) (Or.inl ⟨by rfl, ?_⟩) hHeld ?_ ?_
                                      · intro w' s0
                                        have hcv := Kd.C_string (P := Try.prog) (c := cq583_0) Try.underlying32 Try.underlying5 Try.underlying9 (Kd.C_below hCB s0)
                                        go_simp
                                      rotate_left; · (simp only [Act.put, sT, sZ, sS, i64_w, i32_w]; rfl)
                                      refine one_ (i := 10) (N := some 130) #[true, true, true, true, true, true, true, true, true, true, true, false, false] rfl rfl (by kernel_rfl) (by decide) (fun K hK => ?_)
                                      refine st_of (by rfl) ?_
                                      refine op_rowB (S := S) (enc := Value.int .u8) (h1 := fun _ => rfl) 5 y585 #[.int .u8 ((x9_2) % 256), .int .u8 ((wrap64 (Int.tdiv x9_2 256)) % 256)] 2 (by rw [← Ny585.out]; rfl) (by rw [← Ny585.out]; rfl) (by decide) (HF.out.keep HK.out) HS.out hHeld (by first | (go_simp; done) | (go_simp; rfl)) ?_
                                      intro Ab cb wb hs_ hk_ hb_
                                      replace HS := Aside0.mk hs_
                                      replace HK := Aside0.mk (HK.out.trans hk_)
                                      clear hs_ hk_ hHeld
                                      refine hK.out _ _ hb_ (fun hHeld => ?_)
                                      clear hK K hb_
                                      refine norm_ (a' := ?_) ?_ ?_; rotate_left
                                      · show Act.put _ (some 130) _ = _
                                        simp only [Act.put, sT, sZ, sS, i64_w, i32_w]
                                        rfl
                                      refine one_ (i := 11) (N := some 131) #[true, true, true, true, true, true, true, true, true, true, true, true, false] rfl rfl (by kernel_rfl) (by decide) (fun K hK => ?_)
                                      refine st_of (by rfl) ?_
                                      refine op_value (v := .string (strOfNums y585)) (w1 := wb) (by have hl_ : y585.length = 2 := (by rw [← Ny585.out]; rfl); have hc_ := (SL.row_c HS.out).2.2; rw [← hl_] at hc_; have hcv := Kd.C_string (P := Try.prog) (c := cb) Try.underlying32 Try.underlying5 Try.underlying9 hc_; rw [hl_] at hcv; go_simp) ?_
                                      refine hK.out _ _ hHeld (fun hHeld => ?_)
                                      clear hK K
                                      refine norm_ (a' := ?_) ?_ ?_; rotate_left
                                      · show Act.put _ (some 131) _ = _
                                        simp only [Act.put, sT, sZ, sS, i64_w, i32_w]
                                        rfl
                                      refine pure_ (i := 12) (N := some 132) (v := ?_) (a' := ?_) #[true, true, true, true, true, true, true, true, true, true, true, true, true] rfl rfl (by kernel_rfl) (fun _ _ _ h => h) (Or.inl ⟨by rfl, ?_⟩) ?_ ?_; rotate_left; · (intro w'; go_simp; with_reducible rfl)
                                      rotate_left; · (simp only [Act.put, sT, sZ, sS, i64_w, i32_w]; rfl)
                                      refine done_ (by kernel_rfl) ?_
                                      clear hHeld hCB
                                      try go_wp2
                                      replace HS := Aside0.mk (SL.tail HS.out)
                                      go_roundg k3
                                      case measure => have := HQ1.out; have := HQ2.out; have := HQ3.out; omega
                                      case rel => exact ⟨(wrap64 (x9_2 + 1)), (wrap64 (x15_2 + 1)), (by first | rfl | (simp; done) | (simp [*]; done)), (by first | rfl | (simp; done) | (simp [*]; done)), H', ⟨by have := HQ1.out; have := HQ2.out; have := HQ3.out; omega⟩, HS, HK⟩
                                    · rw [if_neg c103] at H
                                      exact absurd H (by simp)
                                  · rw [if_neg c102] at H
                                    exact absurd H (by simp)
                                · rw [if_neg c101] at H
                                  have c101b0 : decide (x15_2 < (t581.length : Int)) = false := decide_eq_false c101
                                  clear c101
                                  replace H := Option.bind_eq_some_iff.1 H
                                  obtain ⟨t586, Hc1090, H⟩ := H
                                  try dsimp only at H
                                  have Hc109 := Aside0.mk Hc1090
                                  clear Hc1090
                                  by_cases c110 : t586 = (wrap64 (x8_1 - x9_2))
                                  · rw [if_pos c110] at H
                                    have c110b0 : (t586 == (wrap64 (x8_1 - x9_2))) = true := beq_iff_eq.mpr c110
                                    have c110b1 : (t586 != (wrap64 (x8_1 - x9_2))) = false := bne_eq_false_iff_eq.mpr c110
                                    clear c110
                                    replace H := Option.bind_eq_some_iff.1 H
                                    obtain ⟨t587, Hc1110, H⟩ := H
                                    try dsimp only at H
                                    have Hc111 := Aside0.mk Hc1110
                                    clear Hc1110
                                    by_cases c112 : t587 = true
                                    · subst c112
                                      rw [if_pos rfl] at H
                                      exact absurd H (by simp)
                                    · replace c112 := Bool.eq_false_iff.mpr c112
                                      subst c112
                                      rw [if_neg (show ¬ (false = true) by decide)] at H
                                      have H' := Aside0.mk H
                                      clear H
                                      go_wp2_with (first | ((with_reducible refine gate_dst (N := 136) rfl ?_); refine goesL_ (some 136) rfl rfl Try.func15 (by kernel_rfl) rfl #[.pointer (some ⟨g3000026, 0, none⟩)] rfl (by (try simp only [List.map_toArray, List.map_cons, List.map_nil]); first | done | rfl | (simp; done)) ?_; have hs0_ := (SL.get1 (SL.get1 HS.out)); (with_reducible refine (outbox_Box_Len_i1.slcalls _ _ _ _ _ _ _ _ (HF.out.keep HK.out) hs0_  Hc109.out).mono ?_); rintro e_ w113 ⟨rfl, hsr_, hkr_⟩; refine ⟨_, rfl, ?_⟩; replace HS := Aside0.mk (hsr_); replace HK := Aside0.mk (HK.out.trans hkr_)) | ((with_reducible refine gate_dst (N := 143) rfl ?_); (try (refine gate_guard (by rfl) ?_; dsimp only)); refine goesL_ (some 143) rfl rfl Try.func16 (by kernel_rfl) rfl #[.pointer (some ⟨g3000026, 0, none⟩)] rfl (by (try simp only [List.map_toArray, List.map_cons, List.map_nil]); first | done | rfl | (simp; done)) ?_; have hs0_ := (SL.get1 (SL.get1 HS.out)); (with_reducible refine (outbox_Box_Lost_i1.slcalls _ _ _ _ _ _ _ _ (HF.out.keep HK.out) hs0_  Hc111.out).mono ?_); rintro e_ w114 ⟨rfl, hsr_, hkr_⟩; refine ⟨_, rfl, ?_⟩; replace HS := Aside0.mk (hsr_); replace HK := Aside0.mk (HK.out.trans hkr_)))
                                      replace HS := Aside0.mk (SL.tail (SL.get2 HS.out))
                                      go_roundg k3
                                      case measure => have := HQ1.out; have := HQ2.out; have := HQ3.out; omega
                                      case rel => exact ⟨(x3000026_1_1), (t582), (x8_1), (x9_2), (wrap64 (x10_0 + 1)), (by first | rfl | (simp; done) | (simp [*]; done)), (by first | rfl | (simp; done) | (simp [*]; done)), (by first | rfl | (simp; done) | (simp [*]; done)), H', ⟨by have := HQ1.out; have := HQ2.out; have := HQ3.out; omega⟩, HS, HK⟩
                                  · rw [if_neg c110] at H
                                    exact absurd H (by simp)
                          · rw [if_neg c96] at H
                            exact absurd H (by simp)
                    · rw [if_neg c66] at H
                      exact absurd H (by simp)
                  · rw [if_neg c65] at H
                    exact absurd H (by simp)
            · rw [if_neg c64] at H
              have c64b0 : decide (x10_0 < (l1.length : Int)) = false := decide_eq_false c64
              clear c64
              obtain rfl := Option.some.inj H
              go_wp2
              go_ret
              replace HS := Aside0.mk (SL.tail (SL.tail HS.out))
              unfold barrowlaw26_OutboxOrders.Post
              exact ⟨by first | rfl | (simp; done) | (simp [*]; done) | (simp at c64b0 ⊢; first | exact c64b0 | (simp [c64b0]; done)), HS.out, HK.out⟩
      · rw [if_neg c61] at H
        have c61b0 : decide (64 < a0) = false := decide_eq_false c61
        clear c61
        have H' := Aside0.mk H
        clear H
        go_enter Try.func4, Try.ntmps4
        go_wp2_with (first | ((with_reducible refine gate_dst (N := 16) rfl ?_); refine goesL_ (some 16) rfl rfl Try.func5 (by kernel_rfl) rfl #[] rfl (by (try simp only [List.map_toArray, List.map_cons, List.map_nil]); first | done | rfl | (simp; done)) ?_; (with_reducible refine (barrowlaw26_small.calls k _ _  Hc1.out).mono ?_); rintro e_ w115 ⟨rfl, hb_⟩; refine ⟨_, rfl, ?_⟩; replace HS := Aside0.mk (HS.out.below hb_); replace HK := Aside0.mk (HK.out.trans (Keep.below hb_))) | ((with_reducible refine gate_dst (N := 18) rfl ?_); refine goesL_ (some 18) rfl rfl Try.func6 (by kernel_rfl) rfl #[.int .i64 a0] rfl (by (try simp only [List.map_toArray, List.map_cons, List.map_nil]); first | done | rfl | (simp; done)) ?_; have hs0_ := HS.out; (with_reducible refine (outbox_New.slcalls k _ _ _ _ _ _ (HF.out.keep HK.out) hs0_  Hc2.out).mono ?_); rintro e_ w116 ⟨g3000026, g3000027, rfl, hsr_, hkr_⟩; refine ⟨_, rfl, ?_⟩; replace HS := Aside0.mk (hsr_); replace HK := Aside0.mk (HK.out.trans hkr_)))
        try go_simp
        go_loopg [8, 9, 10] k (fun kq v8 v9 v10 w' => ∃ (x3000026_1_100 : Bool) (y3000027_100 : Int × List (List Int)) (x8_100 : Int) (x9_100 : Int) (x10_100 : Int), v8 = .int .i64 x8_100 ∧ v9 = .int .i64 x9_100 ∧ v10 = .int .i64 x10_100 ∧ Aside0 (barrowlaw26_OutboxOrders.l100 kq a0 l1 t558 y3000027_100 x3000026_1_100 x8_100 x9_100 x10_100 = some r) ∧ Aside0 (kq ≤ k) ∧ Aside0 (SL (cells g3000026 41 [.chan (some g3000027), .bool x3000026_1_100].toArray :: chano g3000027 (inn (Kd.int .u8) 5) y3000027_100 :: L) w' S) ∧ Aside0 (Keep S w w'))
        case atStart => exact ⟨(t559), (t560), (0), (0), (0), (by first | rfl | (simp; done) | (simp [*]; done)), (by first | rfl | (simp; done) | (simp [*]; done)), (by first | rfl | (simp; done) | (simp [*]; done)), H', ⟨Nat.le_refl _⟩, HS, HK⟩
        case round =>
          clear H' HS HK
          obtain ⟨x3000026_1_100, y3000027_100, x8_100, x9_100, x10_100, rfl, rfl, rfl, HA, HQ1, HS, HK⟩ := hrel
          cases gk with
          | zero => exact absurd HA.out (by simp [barrowlaw26_OutboxOrders.l100])
          | succ k1 =>
            have H := HA.out
            clear HA
            simp only [barrowlaw26_OutboxOrders.l100] at H
            by_cases c117 : x10_100 < (l1.length : Int)
            · rw [if_pos c117] at H
              have c117b0 : decide (x10_100 < (l1.length : Int)) = true := decide_eq_true c117
              clear c117
              have H' := Aside0.mk H
              clear H
              go_wp2
              go_loopg [8, 11] k1 (fun kq v8 v11 w' => ∃ (x3000026_1_101 : Bool) (y3000027_101 : Int × List (List Int)) (x8_101 : Int) (x11_101 : Int), v8 = .int .i64 x8_101 ∧ v11 = .int .i64 x11_101 ∧ Aside0 (barrowlaw26_OutboxOrders.l101 kq a0 l1 t558 x9_100 x10_100 y3000027_101 x3000026_1_101 x8_101 x11_101 = some r) ∧ Aside0 (kq ≤ k1) ∧ Aside0 (SL (cells g3000026 41 [.chan (some g3000027), .bool x3000026_1_101].toArray :: chano g3000027 (inn (Kd.int .u8) 5) y3000027_101 :: L) w' S) ∧ Aside0 (Keep S w w'))
              case atStart => exact ⟨(x3000026_1_100), (y3000027_100), (x8_100), (0), (by first | rfl | (simp; done) | (simp [*]; done)), (by first | rfl | (simp; done) | (simp [*]; done)), H', ⟨Nat.le_refl _⟩, HS, HK⟩
              case round =>
                clear H' HS HK
                obtain ⟨x3000026_1_101, y3000027_101, x8_101, x11_101, rfl, rfl, HA, HQ2, HS, HK⟩ := hrel
                cases gk with
                | zero => exact absurd HA.out (by simp [barrowlaw26_OutboxOrders.l101])
                | succ k2 =>
                  have H := HA.out
                  clear HA
                  simp only [barrowlaw26_OutboxOrders.l101] at H
                  by_cases c118 : 0 ≤ x10_100
                  · rw [if_pos c118] at H
                    have c118b0 : decide (0 ≤ x10_100) = true := decide_eq_true c118
                    clear c118
                    by_cases c119 : x10_100 < (l1.length : Int)
                    · rw [if_pos c119] at H
                      have c119b0 : decide (x10_100 < (l1.length : Int)) = true := decide_eq_true c119
                      clear c119
                      by_cases c120 : x11_101 < (Go.bits .and .i64 ((rd_T29 l1 x10_100).f0) 15)
                      · rw [if_pos c120] at H
                        have c120b0 : decide (x11_101 < (Go.bits .and .i64 ((rd_T29 l1 x10_100).f0) 15)) = true := decide_eq_true c120
                        clear c120
                        replace H := Option.bind_eq_some_iff.1 H
                        obtain ⟨t589, Hc1210, H⟩ := H
                        try dsimp only at H
                        have Hc121 := Aside0.mk Hc1210
                        clear Hc1210
                        by_cases c122 : t589 = a0
                        · rw [if_pos c122] at H
                          have c122b0 : (t589 == a0) = true := beq_iff_eq.mpr c122
                          have c122b1 : (t589 != a0) = false := bne_eq_false_iff_eq.mpr c122
                          clear c122
                          replace H := Option.bind_eq_some_iff.1 H
                          obtain ⟨y590, hy5900, H⟩ := H
                          try dsimp only at H
                          have hy590 := Option.some.inj hy5900
                          clear hy5900
                          have Ny590 := Aside0.mk hy590
                          clear hy590
                          replace H := Option.bind_eq_some_iff.1 H
                          obtain ⟨⟨t591, t592, t593⟩, Hc1230, H⟩ := H
                          try dsimp only at H
                          have Hc123 := Aside0.mk Hc1230
                          clear Hc1230
                          by_cases c124 : (t591 == true) = true
                          · rw [if_pos c124] at H
                            exact absurd H (by simp)
                          · rw [if_neg c124] at H
                            have c124b0 : (t591 == true) = false := by simpa using c124
                            (try (have c124b1 : decide (t591 = true) = false := by simpa using c124))
                            (try (have c124b2 : (t591 == true) = false := by simpa using c124))
                            (try (have c124b3 : ¬ (t591 = true) := by simpa using c124))
                            clear c124
                            by_cases c125 : t558 = true
                            · subst c125
                              rw [if_pos rfl] at H
                              replace H := Option.bind_eq_some_iff.1 H
                              obtain ⟨t594, Hc1260, H⟩ := H
                              try dsimp only at H
                              have Hc126 := Aside0.mk Hc1260
                              clear Hc1260
                              by_cases c127 : t594 = true
                              · subst c127
                                rw [if_pos rfl] at H
                                replace H := Option.bind_eq_some_iff.1 H
                                obtain ⟨t595, Hc1280, H⟩ := H
                                try dsimp only at H
                                have Hc128 := Aside0.mk Hc1280
                                clear Hc1280
                                by_cases c129 : t595 = 0
                                · rw [if_pos c129] at H
                                  have c129b0 : (t595 == 0) = true := beq_iff_eq.mpr c129
                                  have c129b1 : (t595 != 0) = false := bne_eq_false_iff_eq.mpr c129
                                  clear c129
                                  replace H := Option.bind_eq_some_iff.1 H
                                  obtain ⟨⟨t596, t597⟩, Hc1300, H⟩ := H
                                  try dsimp only at H
                                  have Hc130 := Aside0.mk Hc1300
                                  clear Hc1300
                                  by_cases c131 : (t596.length : Int) = 0
                                  · rw [if_pos c131] at H
                                    have c131b0 : ((t596.length : Int) == 0) = true := beq_iff_eq.mpr c131
                                    have c131b1 : ((t596.length : Int) != 0) = false := bne_eq_false_iff_eq.mpr c131
                                    clear c131
                                    replace H := Option.bind_eq_some_iff.1 H
                                    obtain ⟨⟨t598, t599, t600⟩, Hc1320, H⟩ := H
                                    try dsimp only at H
                                    have Hc132 := Aside0.mk Hc1320
                                    clear Hc1320
                                    by_cases c133 : t598 = true
                                    · subst c133
                                      rw [if_pos rfl] at H
                                      exact absurd H (by simp)
                                    · replace c133 := Bool.eq_false_iff.mpr c133
                                      subst c133
                                      rw [if_neg (show ¬ (false = true) by decide)] at H
                                      obtain rfl := Option.some.inj H
                                      have pq588 : 0 ≤ (x10_100 : Int) := of_decide_eq_true (by first | (with_reducible assumption) | assumption)
                                      have qq588 : x10_100 < ((l1.length : Int) : Int) := of_decide_eq_true (by first | (with_reducible assumption) | assumption)
                                      obtain ⟨adq588, eq588, hxq588_0, hxq588_1⟩ := at_T29 (RO.at_ HR1.out HK.out) x10_100 pq588 qq588
                                      cases eq588
                                      replace pq588 := eq_true pq588
                                      replace qq588 := eq_true qq588
                                      go_wp2_with (first | ((with_reducible refine gate_dst (N := 55) rfl ?_); refine goesL_ (some 55) rfl rfl Try.func15 (by kernel_rfl) rfl #[.pointer (some ⟨g3000026, 0, none⟩)] rfl (by (try simp only [List.map_toArray, List.map_cons, List.map_nil]); first | done | rfl | (simp; done)) ?_; have hs0_ := (SL.get1 (SL.get1 HS.out)); (with_reducible refine (outbox_Box_Len_i1.slcalls _ _ _ _ _ _ _ _ (HF.out.keep HK.out) hs0_  Hc121.out).mono ?_); rintro e_ w134 ⟨rfl, hsr_, hkr_⟩; refine ⟨_, rfl, ?_⟩; replace HS := Aside0.mk (hsr_); replace HK := Aside0.mk (HK.out.trans hkr_)) | ((with_reducible refine gate_dst (N := 64) rfl ?_); refine wpList_plain rfl (fun K_ hK_ => ?_); refine op_row (S := S) (enc := Value.int .u8) (h1 := fun _ => rfl) 5 y590 #[.int .u8 ((x8_101) % 256), .int .u8 ((wrap64 (Int.tdiv x8_101 256)) % 256)] 2 (by rw [← Ny590.out]; rfl) (by rw [← Ny590.out]; rfl) (by decide) (HF.out.keep HK.out) HS.out (by first | (go_simp; done) | (go_simp; rfl)) ?_; intro Az3000028 cz3000028 w135 hs_ hk_; refine hK_ _ _ ?_; clear hK_ K_; replace HS := Aside0.mk ((show SL (row (Kd.int .u8) 5 (.slice Az3000028 2 cz3000028) y590 :: _) _ _ from hs_)); replace HK := Aside0.mk (HK.out.trans hk_)) | ((with_reducible refine gate_dst (N := 65) rfl ?_); refine goesL_ (some 65) rfl rfl Try.func13 (by kernel_rfl) rfl #[.pointer (some ⟨g3000026, 0, none⟩), .slice Az3000028 2 cz3000028] rfl (by (try simp only [List.map_toArray, List.map_cons, List.map_nil]); first | done | rfl | (simp; done)) ?_; have el3000028_ := Aside0.mk (SL.row_c HS.out).1; refine calls_of_args (args' := #[.pointer (some ⟨g3000026, 0, none⟩), .slice Az3000028 y590.length cz3000028]) (by rw [← el3000028_.out]) ?_; have hs0_ := (SL.get2 (SL.get2 (SL.get2 HS.out))); obtain ⟨U1_, hfU1_, hsub1_, hs1_, hro1_, hback1_⟩ := SL.lend (HF.out.keep HK.out) hs0_ (p := fun w_ => Kd.C (Kd.int .u8) w_ Az3000028 2 y590) (fun w_ T_ h_ => (Qs_c h_).2.2); (with_reducible refine (outbox_Box_Put.slcalls k2 _ _ _ _ _ _ _ _ _ _ _ _ _ hfU1_ hs1_ (by rw [← el3000028_.out]; exact hro1_) (by rw [← el3000028_.out]; exact (SL.row_c HS.out).2.1) Hc123.out).mono ?_); rintro e_ w136 ⟨rfl, hsr_, hkr_⟩; refine ⟨_, rfl, ?_⟩; replace HS := Aside0.mk ((hback1_ _ _ hkr_ hsr_)); replace HK := Aside0.mk (HK.out.trans (Keep.sub hkr_ (fun k_ h_ => hsub1_ k_ h_)))) | ((with_reducible refine gate_dst (N := 73) rfl ?_); (try (refine gate_guard (by rfl) ?_; dsimp only)); refine goesL_ (some 73) rfl rfl Try.func16 (by kernel_rfl) rfl #[.pointer (some ⟨g3000026, 0, none⟩)] rfl (by (try simp only [List.map_toArray, List.map_cons, List.map_nil]); first | done | rfl | (simp; done)) ?_; have hs0_ := (SL.get2 (SL.get2 HS.out)); (with_reducible refine (outbox_Box_Lost_i1.slcalls _ _ _ _ _ _ _ _ (HF.out.keep HK.out) hs0_  Hc126.out).mono ?_); rintro e_ w137 ⟨rfl, hsr_, hkr_⟩; refine ⟨_, rfl, ?_⟩; replace HS := Aside0.mk (hsr_); replace HK := Aside0.mk (HK.out.trans hkr_)) | ((with_reducible refine gate_dst (N := 77) rfl ?_); (try (refine gate_guard (by rfl) ?_; dsimp only)); refine goesL_ (some 77) rfl rfl Try.func15 (by kernel_rfl) rfl #[.pointer (some ⟨g3000026, 0, none⟩)] rfl (by (try simp only [List.map_toArray, List.map_cons, List.map_nil]); first | done | rfl | (simp; done)) ?_; have hs0_ := (SL.get1 (SL.get1 HS.out)); (with_reducible refine (outbox_Box_Len_i1.slcalls _ _ _ _ _ _ _ _ (HF.out.keep HK.out) hs0_  Hc128.out).mono ?_); rintro e_ w138 ⟨rfl, hsr_, hkr_⟩; refine ⟨_, rfl, ?_⟩; replace HS := Aside0.mk (hsr_); replace HK := Aside0.mk (HK.out.trans hkr_)) | ((with_reducible refine gate_dst (N := 83) rfl ?_); (try (refine gate_guard (by rfl) ?_; dsimp only)); refine goesL_ (some 83) rfl rfl Try.func10 (by kernel_rfl) rfl #[.pointer (some ⟨g3000026, 0, none⟩), .int .i64 a0] rfl (by (try simp only [List.map_toArray, List.map_cons, List.map_nil]); first | done | rfl | (simp; done)) ?_; have hs0_ := (SL.get1 (SL.get1 HS.out)); (with_reducible refine (outbox_Box_Drain_i1.slcalls k2 _ _ _ _ _ _ _ _ _ _ (HF.out.keep HK.out) hs0_  Hc130.out).mono ?_); rintro e_ w139 ⟨Az3000029, cz3000029, rfl, hsr_, hkr_⟩; refine ⟨_, rfl, ?_⟩; replace HS := Aside0.mk (hsr_); replace HK := Aside0.mk (HK.out.trans hkr_)) | ((with_reducible refine gate_dst (N := 89) rfl ?_); (try (refine gate_guard (by rfl) ?_; dsimp only)); refine goesL_ (some 89) rfl rfl Try.func13 (by kernel_rfl) rfl #[.pointer (some ⟨g3000026, 0, none⟩), .slice none 0 0] rfl (by (try simp only [List.map_toArray, List.map_cons, List.map_nil]); first | done | rfl | (simp; done)) ?_; have hs0_ := (SL.get1 (SL.get1 HS.out)); (refine (outbox_Box_Put.slcalls k2 _ _ _ _ _ _ _ _ _ _ _ _ _ (HF.out.keep HK.out) hs0_ (fun w_ _ => Kd.C_nil _ _) (Nat.le_refl _) Hc132.out).mono ?_); rintro e_ w140 ⟨rfl, hsr_, hkr_⟩; refine ⟨_, rfl, ?_⟩; replace HS := Aside0.mk (hsr_); replace HK := Aside0.mk (HK.out.trans hkr_)))
                                      go_ret
                                      replace HS := Aside0.mk (SL.tail (SL.tail (SL.tail (SL.tail HS.out))))
                                      unfold barrowlaw26_OutboxOrders.Post
                                      exact ⟨by first | rfl | (simp; done) | (simp [*]; done) | (simp at c131b0 ⊢; first | exact c131b0 | (simp [c131b0]; done)), HS.out, HK.out⟩
                                  · rw [if_neg c131] at H
                                    exact absurd H (by simp)
                                · rw [if_neg c129] at H
                                  exact absurd H (by simp)
                              · replace c127 := Bool.eq_false_iff.mpr c127
                                subst c127
                                rw [if_neg (show ¬ (false = true) by decide)] at H
                                exact absurd H (by simp)
                            · replace c125 := Bool.eq_false_iff.mpr c125
                              subst c125
                              rw [if_neg (show ¬ (false = true) by decide)] at H
                              exact absurd H (by simp)
                        · rw [if_neg c122] at H
                          have c122b0 : (t589 == a0) = false := beq_eq_false_iff_ne.mpr c122
                          have c122b1 : (t589 != a0) = true := bne_iff_ne.mpr c122
                          replace H := Option.bind_eq_some_iff.1 H
                          obtain ⟨y601, hy6010, H⟩ := H
                          try dsimp only at H
                          have hy601 := Option.some.inj hy6010
                          clear hy6010
                          have Ny601 := Aside0.mk hy601
                          clear hy601
                          replace H := Option.bind_eq_some_iff.1 H
                          obtain ⟨⟨t602, t603, t604⟩, Hc1410, H⟩ := H
                          try dsimp only at H
                          have Hc141 := Aside0.mk Hc1410
                          clear Hc1410
                          by_cases c142 : (t602 == false) = true
                          · rw [if_pos c142] at H
                            exact absurd H (by simp)
                          · rw [if_neg c142] at H
                            have c142b0 : (t602 == false) = false := by simpa using c142
                            (try (have c142b1 : decide (t602 = false) = false := by simpa using c142))
                            (try (have c142b2 : (t602 == false) = false := by simpa using c142))
                            (try (have c142b3 : ¬ (t602 = false) := by simpa using c142))
                            clear c142
                            have H' := Aside0.mk H
                            clear H
                            have pq588 : 0 ≤ (x10_100 : Int) := of_decide_eq_true (by first | (with_reducible assumption) | assumption)
                            have qq588 : x10_100 < ((l1.length : Int) : Int) := of_decide_eq_true (by first | (with_reducible assumption) | assumption)
                            obtain ⟨adq588, eq588, hxq588_0, hxq588_1⟩ := at_T29 (RO.at_ HR1.out HK.out) x10_100 pq588 qq588
                            cases eq588
                            replace pq588 := eq_true pq588
                            replace qq588 := eq_true qq588
                            go_wp2_with (first | ((with_reducible refine gate_dst (N := 55) rfl ?_); refine goesL_ (some 55) rfl rfl Try.func15 (by kernel_rfl) rfl #[.pointer (some ⟨g3000026, 0, none⟩)] rfl (by (try simp only [List.map_toArray, List.map_cons, List.map_nil]); first | done | rfl | (simp; done)) ?_; have hs0_ := (SL.get1 (SL.get1 HS.out)); (with_reducible refine (outbox_Box_Len_i1.slcalls _ _ _ _ _ _ _ _ (HF.out.keep HK.out) hs0_  Hc121.out).mono ?_); rintro e_ w143 ⟨rfl, hsr_, hkr_⟩; refine ⟨_, rfl, ?_⟩; replace HS := Aside0.mk (hsr_); replace HK := Aside0.mk (HK.out.trans hkr_)) | ((with_reducible refine gate_dst (N := 64) rfl ?_); refine wpList_plain rfl (fun K_ hK_ => ?_); refine op_row (S := S) (enc := Value.int .u8) (h1 := fun _ => rfl) 5 y601 #[.int .u8 ((x8_101) % 256), .int .u8 ((wrap64 (Int.tdiv x8_101 256)) % 256)] 2 (by rw [← Ny601.out]; rfl) (by rw [← Ny601.out]; rfl) (by decide) (HF.out.keep HK.out) HS.out (by first | (go_simp; done) | (go_simp; rfl)) ?_; intro Az3000028 cz3000028 w144 hs_ hk_; refine hK_ _ _ ?_; clear hK_ K_; replace HS := Aside0.mk ((show SL (row (Kd.int .u8) 5 (.slice Az3000028 2 cz3000028) y601 :: _) _ _ from hs_)); replace HK := Aside0.mk (HK.out.trans hk_)) | ((with_reducible refine gate_dst (N := 65) rfl ?_); refine goesL_ (some 65) rfl rfl Try.func13 (by kernel_rfl) rfl #[.pointer (some ⟨g3000026, 0, none⟩), .slice Az3000028 2 cz3000028] rfl (by (try simp only [List.map_toArray, List.map_cons, List.map_nil]); first | done | rfl | (simp; done)) ?_; have el3000028_ := Aside0.mk (SL.row_c HS.out).1; refine calls_of_args (args' := #[.pointer (some ⟨g3000026, 0, none⟩), .slice Az3000028 y601.length cz3000028]) (by rw [← el3000028_.out]) ?_; have hs0_ := (SL.get2 (SL.get2 (SL.get2 HS.out))); obtain ⟨U1_, hfU1_, hsub1_, hs1_, hro1_, hback1_⟩ := SL.lend (HF.out.keep HK.out) hs0_ (p := fun w_ => Kd.C (Kd.int .u8) w_ Az3000028 2 y601) (fun w_ T_ h_ => (Qs_c h_).2.2); (with_reducible refine (outbox_Box_Put.slcalls k2 _ _ _ _ _ _ _ _ _ _ _ _ _ hfU1_ hs1_ (by rw [← el3000028_.out]; exact hro1_) (by rw [← el3000028_.out]; exact (SL.row_c HS.out).2.1) Hc141.out).mono ?_); rintro e_ w145 ⟨rfl, hsr_, hkr_⟩; refine ⟨_, rfl, ?_⟩; replace HS := Aside0.mk ((hback1_ _ _ hkr_ hsr_)); replace HK := Aside0.mk (HK.out.trans (Keep.sub hkr_ (fun k_ h_ => hsub1_ k_ h_)))))
                            replace HS := Aside0.mk (SL.tail HS.out)
                            go_roundg k2
                            case measure => have := HQ1.out; have := HQ2.out; omega
                            case rel => exact ⟨(t603), (t604), (wrap64 (x8_101 + 1)), (wrap64 (x11_101 + 1)), (by first | rfl | (simp; done) | (simp [*]; done)), (by first | rfl | (simp; done) | (simp [*]; done)), H', ⟨by have := HQ1.out; have := HQ2.out; omega⟩, HS, HK⟩
                      · rw [if_neg c120] at H
                        have c120b0 : decide (x11_101 < (Go.bits .and .i64 ((rd_T29 l1 x10_100).f0) 15)) = false := decide_eq_false c120
                        clear c120
                        replace H := Option.bind_eq_some_iff.1 H
                        obtain ⟨t605, Hc1460, H⟩ := H
                        try dsimp only at H
                        have Hc146 := Aside0.mk Hc1460
                        clear Hc1460
                        by_cases c147 : t605 > a0
                        · rw [if_pos c147] at H
                          exact absurd H (by simp)
                        · rw [if_neg c147] at H
                          have c147b0 : decide (a0 < t605) = false := decide_eq_false c147
                          clear c147
                          replace H := Option.bind_eq_some_iff.1 H
                          obtain ⟨t606, Hc1480, H⟩ := H
                          try dsimp only at H
                          have Hc148 := Aside0.mk Hc1480
                          clear Hc1480
                          by_cases c149 : t606 = (wrap64 (x8_101 - x9_100))
                          · rw [if_pos c149] at H
                            have c149b0 : (t606 == (wrap64 (x8_101 - x9_100))) = true := beq_iff_eq.mpr c149
                            have c149b1 : (t606 != (wrap64 (x8_101 - x9_100))) = false := bne_eq_false_iff_eq.mpr c149
                            clear c149
                            replace H := Option.bind_eq_some_iff.1 H
                            obtain ⟨⟨t608, t609⟩, Hc1500, H⟩ := H
                            try dsimp only at H
                            have Hc150 := Aside0.mk Hc1500
                            clear Hc1500
                            have H' := Aside0.mk H
                            clear H
                            have pq588 : 0 ≤ (x10_100 : Int) := of_decide_eq_true (by first | (with_reducible assumption) | assumption)
                            have qq588 : x10_100 < ((l1.length : Int) : Int) := of_decide_eq_true (by first | (with_reducible assumption) | assumption)
                            obtain ⟨adq588, eq588, hxq588_0, hxq588_1⟩ := at_T29 (RO.at_ HR1.out HK.out) x10_100 pq588 qq588
                            cases eq588
                            replace pq588 := eq_true pq588
                            replace qq588 := eq_true qq588
                            go_wp2_with (first | ((with_reducible refine gate_dst (N := 95) rfl ?_); refine goesL_ (some 95) rfl rfl Try.func15 (by kernel_rfl) rfl #[.pointer (some ⟨g3000026, 0, none⟩)] rfl (by (try simp only [List.map_toArray, List.map_cons, List.map_nil]); first | done | rfl | (simp; done)) ?_; have hs0_ := (SL.get1 (SL.get1 HS.out)); (with_reducible refine (outbox_Box_Len_i1.slcalls _ _ _ _ _ _ _ _ (HF.out.keep HK.out) hs0_  Hc146.out).mono ?_); rintro e_ w151 ⟨rfl, hsr_, hkr_⟩; refine ⟨_, rfl, ?_⟩; replace HS := Aside0.mk (hsr_); replace HK := Aside0.mk (HK.out.trans hkr_)) | ((with_reducible refine gate_dst (N := 100) rfl ?_); (try (refine gate_guard (by rfl) ?_; dsimp only)); refine goesL_ (some 100) rfl rfl Try.func15 (by kernel_rfl) rfl #[.pointer (some ⟨g3000026, 0, none⟩)] rfl (by (try simp only [List.map_toArray, List.map_cons, List.map_nil]); first | done | rfl | (simp; done)) ?_; have hs0_ := (SL.get1 (SL.get1 HS.out)); (with_reducible refine (outbox_Box_Len_i1.slcalls _ _ _ _ _ _ _ _ (HF.out.keep HK.out) hs0_  Hc148.out).mono ?_); rintro e_ w152 ⟨rfl, hsr_, hkr_⟩; refine ⟨_, rfl, ?_⟩; replace HS := Aside0.mk (hsr_); replace HK := Aside0.mk (HK.out.trans hkr_); have pq607 : 0 ≤ (x10_100 : Int) := of_decide_eq_true (by first | (with_reducible assumption) | assumption); have qq607 : x10_100 < ((l1.length : Int) : Int) := of_decide_eq_true (by first | (with_reducible assumption) | assumption); obtain ⟨adq607, eq607, hxq607_0, hxq607_1⟩ := at_T29 (RO.at_ HR1.out HK.out) x10_100 pq607 qq607; obtain rfl : adq588 = adq607 := (by injection eq607); replace pq607 := eq_true pq607; replace qq607 := eq_true qq607) | ((with_reducible refine gate_dst (N := 113) rfl ?_); refine goesL_ (some 113) rfl rfl Try.func10 (by kernel_rfl) rfl #[.pointer (some ⟨g3000026, 0, none⟩), .int .i64 (Go.bits .and .i64 ((rd_T29 l1 x10_100).f1) 15)] rfl (by (try simp only [List.map_toArray, List.map_cons, List.map_nil]); first | done | rfl | (simp; done)) ?_; have hs0_ := (SL.get1 (SL.get1 HS.out)); (with_reducible refine (outbox_Box_Drain_i1.slcalls k2 _ _ _ _ _ _ _ _ _ _ (HF.out.keep HK.out) hs0_  Hc150.out).mono ?_); rintro e_ w153 ⟨Az3000030, cz3000030, rfl, hsr_, hkr_⟩; refine ⟨_, rfl, ?_⟩; replace HS := Aside0.mk (hsr_); replace HK := Aside0.mk (HK.out.trans hkr_)))
                            try go_simp
                            go_loopg [9, 15] k2 (fun kq v9 v15 w' => ∃ (x9_102 : Int) (x15_102 : Int), v9 = .int .i64 x9_102 ∧ v15 = .int .i64 x15_102 ∧ Aside0 (barrowlaw26_OutboxOrders.l102 kq a0 l1 t558 x10_100 x3000026_1_101 x8_101 t608 t609 x9_102 x15_102 = some r) ∧ Aside0 (kq ≤ k2) ∧ Aside0 (SL (cells g3000026 41 [.chan (some g3000027), .bool x3000026_1_101].toArray :: chano g3000027 (inn (Kd.int .u8) 5) t609 :: rows (inn (Kd.int .u8) 5) 1 32 (.slice Az3000030 t608.length cz3000030) t608 :: L) w' S) ∧ Aside0 (Keep S w w'))
                            case atStart => exact ⟨(x9_100), (0), (by first | rfl | (simp; done) | (simp [*]; done)), (by first | rfl | (simp; done) | (simp [*]; done)), H', ⟨Nat.le_refl _⟩, HS, HK⟩
                            case round =>
                              clear H' HS HK
                              obtain ⟨x9_102, x15_102, rfl, rfl, HA, HQ3, HS, HK⟩ := hrel
                              cases gk with
                              | zero => exact absurd HA.out (by simp [barrowlaw26_OutboxOrders.l102])
                              | succ k3 =>
                                have H := HA.out
                                clear HA
                                simp only [barrowlaw26_OutboxOrders.l102] at H
                                by_cases c154 : x15_102 < (t608.length : Int)
                                · rw [if_pos c154] at H
                                  have c154b0 : decide (x15_102 < (t608.length : Int)) = true := decide_eq_true c154
                                  clear c154
                                  by_cases c155 : 0 ≤ x15_102
                                  · rw [if_pos c155] at H
                                    have c155b0 : decide (0 ≤ x15_102) = true := decide_eq_true c155
                                    clear c155
                                    replace H := Option.bind_eq_some_iff.1 H
                                    obtain ⟨y611, hy6110, H⟩ := H
                                    try dsimp only at H
                                    have hy611 := Option.some.inj hy6110
                                    clear hy6110
                                    have Ny611 := Aside0.mk hy611
                                    clear hy611
                                    replace H := Option.bind_eq_some_iff.1 H
                                    obtain ⟨y612, hy6120, H⟩ := H
                                    try dsimp only at H
                                    have hy612 := Option.some.inj hy6120
                                    clear hy6120
                                    have Ny612 := Aside0.mk hy612
                                    clear hy612
                                    by_cases c156 : (strOfNums y611).toList = (strOfNums y612).toList
                                    · rw [if_pos c156] at H
                                      have c156b0 : ((strOfNums y611).toList == (strOfNums y612).toList) = true := beq_iff_eq.mpr c156
                                      have c156b1 : ((strOfNums y611).toList != (strOfNums y612).toList) = false := bne_eq_false_iff_eq.mpr c156
                                      clear c156
                                      have H' := Aside0.mk H
                                      clear H
                                      try go_wp2
                                      have pq610 : 0 ≤ (x15_102 : Int) := of_decide_eq_true (by first | (with_reducible assumption) | assumption)
                                      have qq610 : x15_102 < ((t608.length : Int) : Int) := of_decide_eq_true (by first | (with_reducible assumption) | assumption)
                                      obtain ⟨adq610, Aq610_0, cq610_0, eq610, hxq610_0, hiq610, hlq610⟩ := rows_at (SL.get2 HS.out) rfl x15_102 pq610 qq610 y611 Ny611.out
                                      have HVq610_0 := Aside0.mk hiq610
                                      have HCq610_0 := Aside0.mk hlq610
                                      clear hiq610 hlq610
                                      cases eq610
                                      replace pq610 := eq_true pq610
                                      replace qq610 := eq_true qq610
                                      have hCB := HVq610_0.out
                                      refine startB_ (n := 13) #[false, false, false, false, false, false, false, false, false, false, false, false, false] (by kernel_rfl) rfl rfl (fun hHeld => ?_)
                                      replace HK := Aside0.mk (Keep.drew HK.out)
                                      replace HS := Aside0.mk (SL.drew HS.out)
                                      refine pure_ (i := 0) (N := some 120) (v := ?_) (a' := ?_) #[true, false, false, false, false, false, false, false, false, false, false, false, false] rfl rfl (by kernel_rfl) (fun _ _ _ h => h) (Or.inl ⟨by rfl, ?_⟩) ?_ ?_; rotate_left; · (intro w'; go_simp; with_reducible rfl)
                                      rotate_left; · (simp only [Act.put, sT, sZ, sS, i64_w, i32_w]; rfl)
                                      refine pure_ (i := 1) (N := some 121) (v := ?_) (a' := ?_) #[true, true, false, false, false, false, false, false, false, false, false, false, false] rfl rfl (by kernel_rfl) (fun _ _ _ h => h) (Or.inl ⟨by rfl, ?_⟩) ?_ ?_; rotate_left; · (intro w'; go_simp; with_reducible rfl)
                                      rotate_left; · (simp only [Act.put, sT, sZ, sS, i64_w, i32_w]; rfl)
                                      refine pure_ (i := 2) (N := some 122) (v := ?_) (a' := ?_) #[true, true, true, false, false, false, false, false, false, false, false, false, false] rfl rfl (by kernel_rfl) (fun _ _ _ h => h) (Or.inl ⟨by rfl, ?_⟩) ?_ ?_; rotate_left; · (intro w'; go_simp; with_reducible rfl)
                                      rotate_left; · (simp only [Act.put, sT, sZ, sS, i64_w, i32_w]; rfl)
                                      refine pure_ (i := 5) (N := some 125) (v := ?_) (a' := ?_) #[true, true, true, false, false, true, false, false, false, false, false, false, false] rfl rfl (by kernel_rfl) (fun _ _ _ h => h) (Or.inl ⟨by rfl, ?_⟩) ?_ ?_; rotate_left; · (intro w'; go_simp; with_reducible rfl)
                                      rotate_left; · (simp only [Act.put, sT, sZ, sS, i64_w, i32_w]; rfl)
                                      refine pure_ (i := 6) (N := some 126) (v := ?_) (a' := ?_) #[true, true, true, false, false, true, true, false, false, false, false, false, false] rfl rfl (by kernel_rfl) (fun _ _ _ h => h) (Or.inl ⟨by rfl, ?_⟩) ?_ ?_; rotate_left; · (intro w'; go_simp; with_reducible rfl)
                                      rotate_left; · (simp only [Act.put, sT, sZ, sS, i64_w, i32_w]; rfl)
                                      refine pure_ (i := 7) (N := some 127) (v := ?_) (a' := ?_) #[true, true, true, false, false, true, true, true, false, false, false, false, false] rfl rfl (by kernel_rfl) (fun _ _ _ h => h) (Or.inl ⟨by rfl, ?_⟩) ?_ ?_; rotate_left; · (intro w'; go_simp; with_reducible rfl)
                                      rotate_left; · (simp only [Act.put, sT, sZ, sS, i64_w, i32_w]; rfl)
                                      refine pure_ (i := 8) (N := some 128) (v := ?_) (a' := ?_) #[true, true, true, false, false, true, true, true, true, false, false, false, false] rfl rfl (by kernel_rfl) (fun _ _ _ h => h) (Or.inl ⟨by rfl, ?_⟩) ?_ ?_; rotate_left; · (intro w'; go_simp; with_reducible rfl)
                                      rotate_left; · (simp only [Act.put, sT, sZ, sS, i64_w, i32_w]; rfl)
                                      refine pure_ (i := 9) (N := some 129) (v := ?_) (a' := ?_) #[true, true, true, false, false, true, true, true, true, true, false, false, false] rfl rfl (by kernel_rfl) (fun _ _ _ h => h) (Or.inl ⟨by rfl, ?_⟩) ?_ ?_; rotate_left; · (intro w'; go_simp; with_reducible rfl)
                                      rotate_left; · (simp only [Act.put, sT, sZ, sS, i64_w, i32_w]; rfl)
                                      refine take_ (i := 3) (N := some 123) (v := ?_) (a' := ?_) #[true, true, true, true, false, true, true, true, true, true, false, false, false] rfl rfl (by kernel_rfl) (fun _ _ _ h => h) (Or.inl ⟨by rfl, ?_⟩) hHeld ?_ ?_; rotate_left
                                      · intro w' s0
                                        have hzc := cellB_ s0 hxq610_0
                                        go_simp
                                        with_reducible rfl
                                      rotate_left; · (simp only [Act.put, sT, sZ, sS, i64_w, i32_w]; rfl)
                                      refine take_ (i := 4) (N := some 124) (v := .string (strOfNums y611)) (a' := ?_) #[true, true, true, true, true, true, true, true, true, true, false, false, false] rfl rfl (by kernel_rfl) (fun _ _ _ h => h) (Or.inl ⟨by rfl, ?_⟩) hHeld ?_ ?_
                                      · intro w' s0
                                        have hcv := Kd.C_string (P := Try.prog) (c := cq610_0) Try.underlying32 Try.underlying5 Try.underlying9 (Kd.C_below hCB s0)
                                        go_simp
                                      rotate_left; · (simp only [Act.put, sT, sZ, sS, i64_w, i32_w]; rfl)
                                      refine one_ (i := 10) (N := some 130) #[true, true, true, true, true, true, true, true, true, true, true, false, false] rfl rfl (by kernel_rfl) (by decide) (fun K hK => ?_)
                                      refine st_of (by rfl) ?_
                                      refine op_rowB (S := S) (enc := Value.int .u8) (h1 := fun _ => rfl) 5 y612 #[.int .u8 ((x9_102) % 256), .int .u8 ((wrap64 (Int.tdiv x9_102 256)) % 256)] 2 (by rw [← Ny612.out]; rfl) (by rw [← Ny612.out]; rfl) (by decide) (HF.out.keep HK.out) HS.out hHeld (by first | (go_simp; done) | (go_simp; rfl)) ?_
                                      intro Ab cb wb hs_ hk_ hb_
                                      replace HS := Aside0.mk hs_
                                      replace HK := Aside0.mk (HK.out.trans hk_)
                                      clear hs_ hk_ hHeld
                                      refine hK.out _ _ hb_ (fun hHeld => ?_)
                                      clear hK K hb_
                                      refine norm_ (a' := ?_) ?_ ?_; rotate_left
                                      · show Act.put _ (some 130) _ = _
                                        simp only [Act.put, sT, sZ, sS, i64_w, i32_w]
                                        rfl
                                      refine one_ (i := 11) (N := some 131) #[true, true, true, true, true, true, true, true, true, true, true, true, false] rfl rfl (by kernel_rfl) (by decide) (fun K hK => ?_)
                                      refine st_of (by rfl) ?_
                                      refine op_value (v := .string (strOfNums y612)) (w1 := wb) (by have hl_ : y612.length = 2 := (by rw [← Ny612.out]; rfl); have hc_ := (SL.row_c HS.out).2.2; rw [← hl_] at hc_; have hcv := Kd.C_string (P := Try.prog) (c := cb) Try.underlying32 Try.underlying5 Try.underlying9 hc_; rw [hl_] at hcv; go_simp) ?_
                                      refine hK.out _ _ hHeld (fun hHeld => ?_)
                                      clear hK K
                                      refine norm_ (a' := ?_) ?_ ?_; rotate_left
                                      · show Act.put _ (some 131) _ = _
                                        simp only [Act.put, sT, sZ, sS, i64_w, i32_w]
                                        rfl
                                      refine pure_ (i := 12) (N := some 132) (v := ?_) (a' := ?_) #[true, true, true, true, true, true, true, true, true, true, true, true, true] rfl rfl (by kernel_rfl) (fun _ _ _ h => h) (Or.inl ⟨by rfl, ?_⟩) ?_ ?_; rotate_left; · (intro w'; go_simp; with_reducible rfl)
                                      rotate_left; · (simp only [Act.put, sT, sZ, sS, i64_w, i32_w]; rfl)
                                      refine done_ (by kernel_rfl) ?_
                                      clear hHeld hCB
                                      try go_wp2
                                      replace HS := Aside0.mk (SL.tail HS.out)
                                      go_roundg k3
                                      case measure => have := HQ1.out; have := HQ2.out; have := HQ3.out; omega
                                      case rel => exact ⟨(wrap64 (x9_102 + 1)), (wrap64 (x15_102 + 1)), (by first | rfl | (simp; done) | (simp [*]; done)), (by first | rfl | (simp; done) | (simp [*]; done)), H', ⟨by have := HQ1.out; have := HQ2.out; have := HQ3.out; omega⟩, HS, HK⟩
                                    · rw [if_neg c156] at H
                                      exact absurd H (by simp)
                                  · rw [if_neg c155] at H
                                    exact absurd H (by simp)
                                · rw [if_neg c154] at H
                                  have c154b0 : decide (x15_102 < (t608.length : Int)) = false := decide_eq_false c154
                                  clear c154
                                  replace H := Option.bind_eq_some_iff.1 H
                                  obtain ⟨t613, Hc1620, H⟩ := H
                                  try dsimp only at H
                                  have Hc162 := Aside0.mk Hc1620
                                  clear Hc1620
                                  by_cases c163 : t613 = (wrap64 (x8_101 - x9_102))
                                  · rw [if_pos c163] at H
                                    have c163b0 : (t613 == (wrap64 (x8_101 - x9_102))) = true := beq_iff_eq.mpr c163
                                    have c163b1 : (t613 != (wrap64 (x8_101 - x9_102))) = false := bne_eq_false_iff_eq.mpr c163
                                    clear c163
                                    replace H := Option.bind_eq_some_iff.1 H
                                    obtain ⟨t614, Hc1640, H⟩ := H
                                    try dsimp only at H
                                    have Hc164 := Aside0.mk Hc1640
                                    clear Hc1640
                                    by_cases c165 : t614 = true
                                    · subst c165
                                      rw [if_pos rfl] at H
                                      exact absurd H (by simp)
                                    · replace c165 := Bool.eq_false_iff.mpr c165
                                      subst c165
                                      rw [if_neg (show ¬ (false = true) by decide)] at H
                                      have H' := Aside0.mk H
                                      clear H
                                      go_wp2_with (first | ((with_reducible refine gate_dst (N := 136) rfl ?_); refine goesL_ (some 136) rfl rfl Try.func15 (by kernel_rfl) rfl #[.pointer (some ⟨g3000026, 0, none⟩)] rfl (by (try simp only [List.map_toArray, List.map_cons, List.map_nil]); first | done | rfl | (simp; done)) ?_; have hs0_ := (SL.get1 (SL.get1 HS.out)); (with_reducible refine (outbox_Box_Len_i1.slcalls _ _ _ _ _ _ _ _ (HF.out.keep HK.out) hs0_  Hc162.out).mono ?_); rintro e_ w166 ⟨rfl, hsr_, hkr_⟩; refine ⟨_, rfl, ?_⟩; replace HS := Aside0.mk (hsr_); replace HK := Aside0.mk (HK.out.trans hkr_)) | ((with_reducible refine gate_dst (N := 143) rfl ?_); (try (refine gate_guard (by rfl) ?_; dsimp only)); refine goesL_ (some 143) rfl rfl Try.func16 (by kernel_rfl) rfl #[.pointer (some ⟨g3000026, 0, none⟩)] rfl (by (try simp only [List.map_toArray, List.map_cons, List.map_nil]); first | done | rfl | (simp; done)) ?_; have hs0_ := (SL.get1 (SL.get1 HS.out)); (with_reducible refine (outbox_Box_Lost_i1.slcalls _ _ _ _ _ _ _ _ (HF.out.keep HK.out) hs0_  Hc164.out).mono ?_); rintro e_ w167 ⟨rfl, hsr_, hkr_⟩; refine ⟨_, rfl, ?_⟩; replace HS := Aside0.mk (hsr_); replace HK := Aside0.mk (HK.out.trans hkr_)))
                                      replace HS := Aside0.mk (SL.tail (SL.get2 HS.out))
                                      go_roundg k3
                                      case measure => have := HQ1.out; have := HQ2.out; have := HQ3.out; omega
                                      case rel => exact ⟨(x3000026_1_101), (t609), (x8_101), (x9_102), (wrap64 (x10_100 + 1)), (by first | rfl | (simp; done) | (simp [*]; done)), (by first | rfl | (simp; done) | (simp [*]; done)), (by first | rfl | (simp; done) | (simp [*]; done)), H', ⟨by have := HQ1.out; have := HQ2.out; have := HQ3.out; omega⟩, HS, HK⟩
                                  · rw [if_neg c163] at H
                                    exact absurd H (by simp)
                          · rw [if_neg c149] at H
                            exact absurd H (by simp)
                    · rw [if_neg c119] at H
                      exact absurd H (by simp)
                  · rw [if_neg c118] at H
                    exact absurd H (by simp)
            · rw [if_neg c117] at H
              have c117b0 : decide (x10_100 < (l1.length : Int)) = false := decide_eq_false c117
              clear c117
              obtain rfl := Option.some.inj H
              go_wp2
              go_ret
              replace HS := Aside0.mk (SL.tail (SL.tail HS.out))
              unfold barrowlaw26_OutboxOrders.Post
              exact ⟨by first | rfl | (simp; done) | (simp [*]; done) | (simp at c117b0 ⊢; first | exact c117b0 | (simp [c117b0]; done)), HS.out, HK.out⟩
theorem barrowlaw26_OutboxOrders.calls (k : Nat) (a0 : Int) (A1 : Option Addr) (c1 : Nat) (l1 : List (S29)) (r : Bool) (w : World) (hr1 : Kd.C k29 w A1 l1.length l1) (hc1 : l1.length ≤ c1) (h : barrowlaw26_OutboxOrders.f k a0 l1 = some r) :
    Calls Try.prog 4 #[.int .i64 a0, .slice A1 l1.length c1] w fun e w' => e = .returned (.bool r) ∧ Below w.heap.size w w' :=
  (barrowlaw26_OutboxOrders.slcalls k a0 A1 c1 l1 r (news w) [] w (fresh_news w) trivial (RO.top hr1) hc1 h).mono fun _ _ h => ⟨h.1, h.2.2.to_below⟩

/-- THE ONE PURE STATEMENT of barrowlaw26_OutboxOrders. -/
def barrowlaw26_OutboxOrders.Pure : Prop := ∀ (a0 : Int) (l1 : List (S29)), ((Lit.int .i64 a0).wf = true) → (l1.length ≤ maxLen ∧ l1.length * 16 ≤ 140737488351232 ∧ ∀ x615_ ∈ l1, ((Lit.int .i64 x615_.f0).wf = true) ∧ ((Lit.int .i64 x615_.f1).wf = true)) → ∃ k, barrowlaw26_OutboxOrders.f k a0 l1 = some true

end Go.Proofs.Ytebllndphechmaa.XOB
