-- Written by xprint.py (a program of this session) for this claim
import Derived.Test.YtkidppjaclgkkaaXPWx0
import Derived.Test.YtkidppjaclgkkaaXPWx2
namespace Go.Proofs.Ytkidppjaclgkkaa.XPW
open Go.Proofs.YtkidppjaclgkkaaV Go.Proofs.YtkidppjaclgkkaaS
open Go.RowKit Go.Proofs.YtkidppjaclgkkaaW.PrintWords Go.Proofs.YtkidppjaclgkkaaW.PrintLast Go.Proofs.YtkidppjaclgkkaaW.PrintMore
attribute [local go_sem] max2_int min2_int max_two min_two max_three min_three max_four min_four   -- for this text's walks alone
set_option linter.unusedVariables false
set_option linter.unusedSimpArgs false

/-! ### barrowref03_Text: function 16 -/
def barrowref03_Text.f (k : Nat) (l0 : List Int) (a1 : ByteArray) : Option (List Int) := (barrowref03_Uint.f k l0 (a1.size : Int)).bind fun t224 => (if t224.length + a1.size < 140737488355328 then (some (t224 ++ bytesOf a1)) else (none))
theorem barrowref03_Text.mono : ∀ a0 a1 k, LeO (barrowref03_Text.f k a0 a1) (barrowref03_Text.f (k + 1) a0 a1) := by
  intro a0 a1 k
  unfold barrowref03_Text.f
  repeat' first
      | (with_reducible exact barrowref03_Uint.mono _ _ _)
      | (with_reducible exact LeO.refl _)
      | (with_reducible exact LeO.none _)
      | (with_reducible refine LeO.ite ?_ ?_)
      | (with_reducible refine LeO.bind ?_ (fun _ => ?_))
      | exact barrowref03_Uint.mono _ _ _
      | exact LeO.none _
      | refine LeO.ite ?_ ?_
      | refine LeO.bind ?_ (fun _ => ?_)
set_option maxHeartbeats 8000000 in
set_option maxRecDepth 100000 in
theorem barrowref03_Text.calls (k : Nat) (A0 : Option Addr) (c0 : Nat) (l0 : List Int) (a1 : ByteArray) (r : List Int) (w : World) (hr0 : Kd.C (Kd.int .u8) w A0 l0.length l0) (hc0 : l0.length ≤ c0) (h : barrowref03_Text.f k l0 a1 = some r) :
    Calls Try.prog 16 #[.slice A0 l0.length c0, .string a1] w fun e w' => ∃ v0_ : Value, e = .returned (v0_) ∧ Kd.R (Kd.int .u8) 5 w' w.heap.size (fun _ => True) v0_ r ∧ Below w.heap.size w w' := by
  have HR0 := Aside0.mk hr0
  have HC0 := Aside0.mk hc0
  clear hr0 hc0
  have HB := Aside0.mk (Below.refl w.heap.size w)
  have H : ((barrowref03_Uint.f k l0 (a1.size : Int)).bind fun t224 => (if t224.length + a1.size < 140737488355328 then (some (t224 ++ bytesOf a1)) else (none))) = some r := h
  clear h
  replace H := Option.bind_eq_some_iff.mp H
  obtain ⟨t224, A30, H⟩ := H
  replace H : (if t224.length + a1.size < 140737488355328 then (some (t224 ++ bytesOf a1)) else (none)) = some r := H
  have A3 := Aside0.mk A30
  clear A30
  by_cases c4 : t224.length + a1.size < 140737488355328
  · rw [if_pos c4] at H
    have LMc4 := Aside0.mk c4
    clear c4
    obtain ⟨y227, hy227⟩ : ∃ y_ : List Int, y_ = (t224 ++ bytesOf a1) := ⟨_, rfl⟩
    replace H : (some y227) = some r := by first | (rw [hy227]; with_reducible exact H) | (have H2_ := (Option.bind_some _ _).symm.trans H; rw [hy227]; with_reducible exact H2_) | (have H2_ := (Option.bind_some _ _).symm.trans H; with_reducible exact H2_) | with_reducible exact H | (rw [hy227]; exact H) | exact H
    have Ny227 := Aside0.mk hy227
    clear hy227
    obtain rfl := Option.some.inj H
    go_enter Try.func16, Try.ntmps16
    go_wp2_with (first | ((with_reducible refine gate_callee (f := 14) rfl ?_); refine goesL_ (some 8) rfl rfl Try.func14 (by kernel_rfl) rfl #[.slice A0 l0.length c0, .int .i64 (a1.size : Int)] rfl (by (try simp only [List.map_toArray, List.map_cons, List.map_nil]); first | done | rfl | (simp only [List.length_drop, List.length_take]; rfl)) ?_; (with_reducible refine (barrowref03_Uint.calls k _ _ l0 (a1.size : Int) t224 _ ?side1 ?side2 A3.out).mono ?_); (case side1 => repeat (first | exact HR0.out | (with_reducible refine Kd.C_alloc ?_ _) | (with_reducible refine Kd.C_drewN ?_ _) | (with_reducible refine Kd.C_drew ?_))); (case side2 => exact HC0.out); rintro e w5 ⟨v225, rfl, ho0, hb⟩; refine ⟨_, rfl, ?_⟩; have n0_ := Aside0.mk (Kd.R_lower ho0 (below_size (by repeat (first | (with_reducible first | exact HB.out | apply below_alloc | apply pw_below_drewN | apply below_drew1) | exact HB.out)))); have n1_ := Aside0.mk (below_step (by repeat (first | (with_reducible first | exact HB.out | apply below_alloc | apply pw_below_drewN | apply below_drew1) | exact HB.out)) hb); clear HB; have HO226 := n0_; have HB := n1_; clear n0_ n1_; (try clear hb); (try clear hb2); (try clear hk); (try clear hi); (try clear ho0)) | (at_builtin; refine print_append_str (w0 := w) w.heap.size rfl (.tmp 8) _ 23 9 5 rfl Try.underlying23 Try.underlying9 info5 v225 t224 a1 rfl rfl ?aO ?aB ?aS ?aL ?_; (case aB => exact (by repeat (first | (with_reducible first | exact HB.out | apply below_alloc | apply pw_below_drewN | apply below_drew1) | exact HB.out))); (case aO => exact (Kd.own_of_R (by (with_reducible repeat (first | apply Kd.R_alloc | apply Kd.R_drewN | apply Kd.R_drew)); exact HO226.out))); (case aS => exact (below_size (by repeat (first | (with_reducible first | exact HB.out | apply below_alloc | apply pw_below_drewN | apply below_drew1) | exact HB.out)))); (case aL => have := LMc4.out; omega); intro v228 w6 ho0 hb hg; have ho := Kd.R_of_own (h1 := fun _ => rfl) (ok := fun _ => True) ho0 (fun _ _ => trivial); clear ho0; have hat := True.intro; rw [← Ny227.out] at ho; change Kd.R (Kd.int .u8) 5 w6 w.heap.size (fun _ => True) v228 y227 at ho; have n0_ := Aside0.mk (hb); have n1_ := Aside0.mk (ho); clear HB; clear HO226; have HB := n0_; have HO229 := n1_; clear n0_ n1_; clear ho hb hg hat))
    go_ret
    exact ⟨_, by first | rfl | (simp [errW_none, errW_some] <;> rfl) | (simp [*, errW_none, errW_some] <;> rfl), by (with_reducible repeat (first | apply Kd.R_alloc | apply Kd.R_drewN | apply Kd.R_drew)); exact HO229.out, by repeat (first | (with_reducible first | exact HB.out | apply below_alloc | apply pw_below_drewN | apply below_drew1) | exact HB.out)⟩
  · rw [if_neg c4] at H
    exact absurd H (by simp)

/-! ### barrowref03_Ints: function 17 -/
def barrowref03_Ints.l0 : Nat → List Int → List Int → Int → Option (List Int)
  | 0, _, _, _ => none
  | k + 1, x1, x5, x6 => if x6 < (x1.length : Int) then (if 0 ≤ x6 then ((barrowref03_signed.f (rd x1 x6)).bind fun t234 => ((barrowref03_digits.f k x5 t234).bind fun t235 => (barrowref03_Ints.l0 k x1 t235 (wrap64 (x6 + 1))))) else (none)) else (some x5)
def barrowref03_Ints.f (k : Nat) (l0 : List Int) (l1 : List Int) : Option (List Int) := (barrowref03_Uint.f k l0 (l1.length : Int)).bind fun t230 => (barrowref03_Ints.l0 k l1 t230 0)
theorem barrowref03_Ints.mono_l : ∀ k, (∀ y0 y1 y2, LeO (barrowref03_Ints.l0 k y0 y1 y2) (barrowref03_Ints.l0 (k + 1) y0 y1 y2))
  | 0 => fun _ _ _ r h => by simp [barrowref03_Ints.l0] at h
  | k + 1 => by
    have ih0 := barrowref03_Ints.mono_l k
    · intro y0 y1 y2
      unfold barrowref03_Ints.l0
      repeat' first
      | (with_reducible exact ih0 _ _ _)
      | (with_reducible exact barrowref03_Uint.mono _ _ _)
      | (with_reducible exact barrowref03_digits.mono _ _ _)
      | (with_reducible exact LeO.refl _)
      | (with_reducible exact LeO.none _)
      | (with_reducible refine LeO.ite ?_ ?_)
      | (with_reducible refine LeO.bind ?_ (fun _ => ?_))
      | exact ih0 _ _ _
      | exact barrowref03_Uint.mono _ _ _
      | exact barrowref03_digits.mono _ _ _
      | exact LeO.none _
      | refine LeO.ite ?_ ?_
      | refine LeO.bind ?_ (fun _ => ?_)
theorem barrowref03_Ints.mono : ∀ a0 a1 k, LeO (barrowref03_Ints.f k a0 a1) (barrowref03_Ints.f (k + 1) a0 a1) := by
  intro a0 a1 k
  have ih0 := barrowref03_Ints.mono_l k
  unfold barrowref03_Ints.f
  repeat' first
      | (with_reducible exact ih0 _ _ _)
      | (with_reducible exact barrowref03_Uint.mono _ _ _)
      | (with_reducible exact barrowref03_digits.mono _ _ _)
      | (with_reducible exact LeO.refl _)
      | (with_reducible exact LeO.none _)
      | (with_reducible refine LeO.ite ?_ ?_)
      | (with_reducible refine LeO.bind ?_ (fun _ => ?_))
      | exact ih0 _ _ _
      | exact barrowref03_Uint.mono _ _ _
      | exact barrowref03_digits.mono _ _ _
      | exact LeO.none _
      | refine LeO.ite ?_ ?_
      | refine LeO.bind ?_ (fun _ => ?_)
set_option maxHeartbeats 8000000 in
set_option maxRecDepth 100000 in
theorem barrowref03_Ints.calls (k : Nat) (A0 : Option Addr) (c0 : Nat) (l0 : List Int) (A1 : Option Addr) (c1 : Nat) (l1 : List Int) (r : List Int) (w : World) (hr0 : Kd.C (Kd.int .u8) w A0 l0.length l0) (hc0 : l0.length ≤ c0) (hr1 : Kd.C (Kd.int .i64) w A1 l1.length l1) (hc1 : l1.length ≤ c1) (h : barrowref03_Ints.f k l0 l1 = some r) :
    Calls Try.prog 17 #[.slice A0 l0.length c0, .slice A1 l1.length c1] w fun e w' => ∃ v0_ : Value, e = .returned (v0_) ∧ Kd.R (Kd.int .u8) 5 w' w.heap.size (fun _ => True) v0_ r ∧ Below w.heap.size w w' := by
  have HR0 := Aside0.mk hr0
  have HC0 := Aside0.mk hc0
  clear hr0 hc0
  have HR1 := Aside0.mk hr1
  have HC1 := Aside0.mk hc1
  clear hr1 hc1
  have HB := Aside0.mk (Below.refl w.heap.size w)
  have H : ((barrowref03_Uint.f k l0 (l1.length : Int)).bind fun t230 => (barrowref03_Ints.l0 k l1 t230 0)) = some r := h
  clear h
  replace H := Option.bind_eq_some_iff.mp H
  obtain ⟨t230, A30, H⟩ := H
  replace H : (barrowref03_Ints.l0 k l1 t230 0) = some r := H
  have A3 := Aside0.mk A30
  clear A30
  have H' := Aside0.mk H
  clear H
  go_enter Try.func17, Try.ntmps17
  go_wp2_with (first | ((with_reducible refine gate_callee (f := 14) rfl ?_); refine goesL_ (some 10) rfl rfl Try.func14 (by kernel_rfl) rfl #[.slice A0 l0.length c0, .int .i64 (l1.length : Int)] rfl (by (try simp only [List.map_toArray, List.map_cons, List.map_nil]); first | done | rfl | (simp only [List.length_drop, List.length_take]; rfl)) ?_; (with_reducible refine (barrowref03_Uint.calls k _ _ l0 (l1.length : Int) t230 _ ?side1 ?side2 A3.out).mono ?_); (case side1 => repeat (first | exact HR0.out | (with_reducible refine Kd.C_alloc ?_ _) | (with_reducible refine Kd.C_drewN ?_ _) | (with_reducible refine Kd.C_drew ?_))); (case side2 => exact HC0.out); rintro e w4 ⟨v231, rfl, ho0, hb⟩; refine ⟨_, rfl, ?_⟩; have n0_ := Aside0.mk (Kd.R_lower ho0 (below_size (by repeat (first | (with_reducible first | exact HB.out | apply below_alloc | apply pw_below_drewN | apply below_drew1) | exact HB.out)))); have n1_ := Aside0.mk (below_step (by repeat (first | (with_reducible first | exact HB.out | apply below_alloc | apply pw_below_drewN | apply below_drew1) | exact HB.out)) hb); clear HB; have HO232 := n0_; have HB := n1_; clear n0_ n1_; (try clear hb); (try clear hb2); (try clear hk); (try clear hi); (try clear ho0)))
  go_loopg [5, 6] k (fun kq v5 v6 w' => ∃ (x5_1 : List Int) (x6_1 : Int), v6 = .int .i64 x6_1 ∧ Aside0 (barrowref03_Ints.l0 kq l1 x5_1 x6_1 = some r) ∧ Aside0 (kq ≤ k) ∧ Aside0 (Kd.R (Kd.int .u8) 5 w' w.heap.size (fun _ => True) v5 x5_1) ∧ Aside0 (Below w.heap.size w w'))
  case atStart => exact ⟨(t230), (0), (by first | rfl | (simp; done) | (simp [*]; done)), H', ⟨Nat.le_refl _⟩, ⟨by (with_reducible repeat (first | apply Kd.R_alloc | apply Kd.R_drewN | apply Kd.R_drew)); exact HO232.out⟩, ⟨by repeat (first | (with_reducible first | exact HB.out | apply below_alloc | apply pw_below_drewN | apply below_drew1) | exact HB.out)⟩⟩
  case round =>
    clear H'
    try clear c1
    try clear p2
    obtain ⟨x5_1, x6_1, rfl, HA, HK1, HO_5, HB⟩ := hrel
    cases gk with
    | zero => exact absurd HA.out (by simp [barrowref03_Ints.l0])
    | succ k1 =>
      have H := HA.out
      clear HA
      simp only [barrowref03_Ints.l0] at H
      by_cases c5 : x6_1 < (l1.length : Int)
      · rw [if_pos c5] at H
        have c5b0 : decide (x6_1 < (l1.length : Int)) = true := decide_eq_true c5
        clear c5
        by_cases c6 : 0 ≤ x6_1
        · rw [if_pos c6] at H
          have c6b0 : decide (0 ≤ x6_1) = true := decide_eq_true c6
          clear c6
          replace H := Option.bind_eq_some_iff.mp H
          obtain ⟨t234, A70, H⟩ := H
          replace H : ((barrowref03_digits.f k1 x5_1 t234).bind fun t235 => (barrowref03_Ints.l0 k1 l1 t235 (wrap64 (x6_1 + 1)))) = some r := H
          have A7 := Aside0.mk A70
          clear A70
          replace H := Option.bind_eq_some_iff.mp H
          obtain ⟨t235, A80, H⟩ := H
          replace H : (barrowref03_Ints.l0 k1 l1 t235 (wrap64 (x6_1 + 1))) = some r := H
          have A8 := Aside0.mk A80
          clear A80
          have H' := Aside0.mk H
          clear H
          have p233 : 0 ≤ (x6_1 : Int) := of_decide_eq_true (by first | (with_reducible assumption) | assumption)
          have q233 : x6_1 < (l1.length : Int) := of_decide_eq_true (by first | (with_reducible assumption) | assumption)
          obtain ⟨ad233, e233, hx233_0⟩ := Kd.at_int HR1.out x6_1 p233 q233
          cases e233
          replace hx233_0 := (HB.out.cell (World.block_lt_of_cell? w _ hx233_0)).trans hx233_0
          replace p233 := eq_true p233
          replace q233 := eq_true q233
          go_wp2_with (first | ((with_reducible refine gate_callee (f := 32) rfl ?_); refine goesL_ (some 22) rfl rfl Try.func32 (by kernel_rfl) rfl #[.int .i64 (rd l1 x6_1)] rfl (by (try simp only [List.map_toArray, List.map_cons, List.map_nil]); first | done | rfl | (simp only [List.length_drop, List.length_take]; rfl)) ?_; (with_reducible refine (barrowref03_signed.calls (rd l1 x6_1) t234 _ A7.out).mono ?_); rintro e w' ⟨rfl, ⟨nd, rfl⟩⟩; refine ⟨_, rfl, ?_⟩; obtain ⟨Ao9, co9, eo9⟩ := Kd.R_slice HO_5.out; subst eo9) | ((with_reducible refine gate_callee (f := 30) rfl ?_); refine goesL_ (some 23) rfl rfl Try.func30 (by kernel_rfl) rfl #[.slice Ao9 x5_1.length co9, .int .u64 t234] rfl (by (try simp only [List.map_toArray, List.map_cons, List.map_nil]); first | done | rfl | (simp only [List.length_drop, List.length_take]; rfl)) ?_; (with_reducible refine (barrowref03_digits.calls k1 (fun k_ => some k_ = (.slice Ao9 x5_1.length co9 : Value).ownBlock) (.slice Ao9 x5_1.length co9) x5_1 t234 t235 w _ ?side1 ?side2 A8.out).mono ?_); (case side1 => repeat (first | (with_reducible first | exact HB.out | apply below_alloc | apply pw_below_drewN | apply below_drew1) | exact HB.out)); (case side2 => exact Kd.R_tight rfl HO_5.out); rintro e w10 ⟨v236, rfl, ho0, hb, hkp⟩; refine ⟨_, rfl, ?_⟩; have n0_ := Aside0.mk (Kd.R_mono (ok' := fun k_ => True) ho0 (fun k_ hk_ => trivial)); have n1_ := Aside0.mk (hb); clear HB; clear HO_5; have HO237 := n0_; have HB := n1_; clear n0_ n1_; (try clear hb); (try clear hkp); (try clear ho0)))
          go_roundg k1
          case measure => have := HK1.out; omega
          case rel => exact ⟨(t235), (wrap64 (x6_1 + 1)), (by first | rfl | (simp; done) | (simp [*]; done)), H', ⟨by have := HK1.out; omega⟩, ⟨by (with_reducible repeat (first | apply Kd.R_alloc | apply Kd.R_drewN | apply Kd.R_drew)); exact HO237.out⟩, ⟨by repeat (first | (with_reducible first | exact HB.out | apply below_alloc | apply pw_below_drewN | apply below_drew1) | exact HB.out)⟩⟩
        · rw [if_neg c6] at H
          exact absurd H (by simp)
      · rw [if_neg c5] at H
        have c5b0 : decide (x6_1 < (l1.length : Int)) = false := decide_eq_false c5
        clear c5
        obtain rfl := Option.some.inj H
        go_wp2
        go_ret
        exact ⟨_, by first | rfl | (simp [errW_none, errW_some] <;> rfl) | (simp [*, errW_none, errW_some] <;> rfl), by (with_reducible repeat (first | apply Kd.R_alloc | apply Kd.R_drewN | apply Kd.R_drew)); exact HO_5.out, by repeat (first | (with_reducible first | exact HB.out | apply below_alloc | apply pw_below_drewN | apply below_drew1) | exact HB.out)⟩

/-! ### barrowref03_read: function 34 -/
mutual
def barrowref03_read.j1 : Nat → List Int → Int → Int → Option (Int × Int × Bool)
  | 0, _, _, _ => none
  | k + 1, x0, x1, x7 => if x7 ≥ (x0.length : Int) then (barrowref03_read.j2 k x0 x1 x7 true) else (if (wrap64 (x7 - x1)) > 9 then (barrowref03_read.j2 k x0 x1 x7 true) else (if x7 > x1 then (if 0 ≤ x7 then (if x7 < (x0.length : Int) then (if (rd x0 x7) = 0 then (barrowref03_read.j2 k x0 x1 x7 true) else (if (wrap64 (x7 - x1)) = 9 then (barrowref03_read.j2 k x0 x1 x7 (decide ((rd x0 x7) > 1))) else (barrowref03_read.j2 k x0 x1 x7 false))) else (none)) else (none)) else (if (wrap64 (x7 - x1)) = 9 then (if 0 ≤ x7 then (if x7 < (x0.length : Int) then (barrowref03_read.j2 k x0 x1 x7 (decide ((rd x0 x7) > 1))) else (none)) else (none)) else (barrowref03_read.j2 k x0 x1 x7 false))))
def barrowref03_read.j2 : Nat → List Int → Int → Int → Bool → Option (Int × Int × Bool)
  | 0, _, _, _, _ => none
  | k + 1, x0, x1, x7, x61 => if x61 = true then (some (0, x1, false)) else (barrowref03_read.l1 k x0 x1 x7 0 x7)
def barrowref03_read.l1 : Nat → List Int → Int → Int → Int → Int → Option (Int × Int × Bool)
  | 0, _, _, _, _, _ => none
  | k + 1, x0, x1, x7, x8, x9 => if x9 ≥ x1 then (if 0 ≤ x9 then (if x9 < (x0.length : Int) then (barrowref03_read.l1 k x0 x1 x7 (IntKind.u64.wrap ((IntKind.u64.wrap (128 * x8)) + (IntKind.u64.wrap (Int.tmod (rd x0 x9) 128)))) (wrap64 (x9 - 1))) else (none)) else (none)) else (some (x8, wrap64 (x7 + 1), true))
def barrowref03_read.l0 : Nat → List Int → Int → Int → Option (Int × Int × Bool)
  | 0, _, _, _ => none
  | k + 1, x0, x1, x7 => if x7 < (x0.length : Int) then (if 0 ≤ x7 then (if (rd x0 x7) ≥ 128 then (barrowref03_read.l0 k x0 x1 (wrap64 (x7 + 1))) else (barrowref03_read.j1 k x0 x1 x7)) else (none)) else (barrowref03_read.j1 k x0 x1 x7)
end
def barrowref03_read.f (k : Nat) (l0 : List Int) (a1 : Int) : Option (Int × Int × Bool) := if a1 < 0 then (some (0, a1, false)) else (barrowref03_read.l0 k l0 a1 a1)
theorem barrowref03_read.mono_l : ∀ k, (∀ y0 y1 y2, LeO (barrowref03_read.j1 k y0 y1 y2) (barrowref03_read.j1 (k + 1) y0 y1 y2)) ∧ (∀ y0 y1 y2 y3, LeO (barrowref03_read.j2 k y0 y1 y2 y3) (barrowref03_read.j2 (k + 1) y0 y1 y2 y3)) ∧ (∀ y0 y1 y2 y3 y4, LeO (barrowref03_read.l1 k y0 y1 y2 y3 y4) (barrowref03_read.l1 (k + 1) y0 y1 y2 y3 y4)) ∧ (∀ y0 y1 y2, LeO (barrowref03_read.l0 k y0 y1 y2) (barrowref03_read.l0 (k + 1) y0 y1 y2))
  | 0 => ⟨fun _ _ _ r h => by simp [barrowref03_read.j1] at h, fun _ _ _ _ r h => by simp [barrowref03_read.j2] at h, fun _ _ _ _ _ r h => by simp [barrowref03_read.l1] at h, fun _ _ _ r h => by simp [barrowref03_read.l0] at h⟩
  | k + 1 => by
    obtain ⟨ih0, ih1, ih2, ih3⟩ := barrowref03_read.mono_l k
    refine ⟨?_, ?_, ?_, ?_⟩
    · intro y0 y1 y2
      unfold barrowref03_read.j1
      repeat' first
      | (with_reducible exact ih0 _ _ _)
      | (with_reducible exact ih1 _ _ _ _)
      | (with_reducible exact ih2 _ _ _ _ _)
      | (with_reducible exact ih3 _ _ _)
      | (with_reducible exact LeO.refl _)
      | (with_reducible exact LeO.none _)
      | (with_reducible refine LeO.ite ?_ ?_)
      | (with_reducible refine LeO.bind ?_ (fun _ => ?_))
      | exact ih0 _ _ _
      | exact ih1 _ _ _ _
      | exact ih2 _ _ _ _ _
      | exact ih3 _ _ _
      | exact LeO.none _
      | refine LeO.ite ?_ ?_
      | refine LeO.bind ?_ (fun _ => ?_)
    · intro y0 y1 y2 y3
      unfold barrowref03_read.j2
      repeat' first
      | (with_reducible exact ih0 _ _ _)
      | (with_reducible exact ih1 _ _ _ _)
      | (with_reducible exact ih2 _ _ _ _ _)
      | (with_reducible exact ih3 _ _ _)
      | (with_reducible exact LeO.refl _)
      | (with_reducible exact LeO.none _)
      | (with_reducible refine LeO.ite ?_ ?_)
      | (with_reducible refine LeO.bind ?_ (fun _ => ?_))
      | exact ih0 _ _ _
      | exact ih1 _ _ _ _
      | exact ih2 _ _ _ _ _
      | exact ih3 _ _ _
      | exact LeO.none _
      | refine LeO.ite ?_ ?_
      | refine LeO.bind ?_ (fun _ => ?_)
    · intro y0 y1 y2 y3 y4
      unfold barrowref03_read.l1
      repeat' first
      | (with_reducible exact ih0 _ _ _)
      | (with_reducible exact ih1 _ _ _ _)
      | (with_reducible exact ih2 _ _ _ _ _)
      | (with_reducible exact ih3 _ _ _)
      | (with_reducible exact LeO.refl _)
      | (with_reducible exact LeO.none _)
      | (with_reducible refine LeO.ite ?_ ?_)
      | (with_reducible refine LeO.bind ?_ (fun _ => ?_))
      | exact ih0 _ _ _
      | exact ih1 _ _ _ _
      | exact ih2 _ _ _ _ _
      | exact ih3 _ _ _
      | exact LeO.none _
      | refine LeO.ite ?_ ?_
      | refine LeO.bind ?_ (fun _ => ?_)
    · intro y0 y1 y2
      unfold barrowref03_read.l0
      repeat' first
      | (with_reducible exact ih0 _ _ _)
      | (with_reducible exact ih1 _ _ _ _)
      | (with_reducible exact ih2 _ _ _ _ _)
      | (with_reducible exact ih3 _ _ _)
      | (with_reducible exact LeO.refl _)
      | (with_reducible exact LeO.none _)
      | (with_reducible refine LeO.ite ?_ ?_)
      | (with_reducible refine LeO.bind ?_ (fun _ => ?_))
      | exact ih0 _ _ _
      | exact ih1 _ _ _ _
      | exact ih2 _ _ _ _ _
      | exact ih3 _ _ _
      | exact LeO.none _
      | refine LeO.ite ?_ ?_
      | refine LeO.bind ?_ (fun _ => ?_)
theorem barrowref03_read.mono : ∀ a0 a1 k, LeO (barrowref03_read.f k a0 a1) (barrowref03_read.f (k + 1) a0 a1) := by
  intro a0 a1 k
  obtain ⟨ih0, ih1, ih2, ih3⟩ := barrowref03_read.mono_l k
  unfold barrowref03_read.f
  repeat' first
      | (with_reducible exact ih0 _ _ _)
      | (with_reducible exact ih1 _ _ _ _)
      | (with_reducible exact ih2 _ _ _ _ _)
      | (with_reducible exact ih3 _ _ _)
      | (with_reducible exact LeO.refl _)
      | (with_reducible exact LeO.none _)
      | (with_reducible refine LeO.ite ?_ ?_)
      | (with_reducible refine LeO.bind ?_ (fun _ => ?_))
      | exact ih0 _ _ _
      | exact ih1 _ _ _ _
      | exact ih2 _ _ _ _ _
      | exact ih3 _ _ _
      | exact LeO.none _
      | refine LeO.ite ?_ ?_
      | refine LeO.bind ?_ (fun _ => ?_)
set_option maxHeartbeats 8000000 in
set_option maxRecDepth 100000 in
theorem barrowref03_read.calls (k : Nat) (A0 : Option Addr) (c0 : Nat) (l0 : List Int) (a1 : Int) (r1 : Int) (r2 : Int) (r3 : Bool) (w : World) (hr0 : Kd.C (Kd.int .u8) w A0 l0.length l0) (hc0 : l0.length ≤ c0) (h : barrowref03_read.f k l0 a1 = some (r1, r2, r3)) :
    Calls Try.prog 34 #[.slice A0 l0.length c0, .int .i64 a1] w fun e w' => e = .returned (.tuple #[.int .u64 r1, .int .i64 r2, .bool r3]) ∧ Drawn0 w w' := by
  have HR0 := Aside0.mk hr0
  have HC0 := Aside0.mk hc0
  clear hr0 hc0
  have H : (if a1 < 0 then (some (0, a1, false)) else (barrowref03_read.l0 k l0 a1 a1)) = some (r1, r2, r3) := h
  clear h
  by_cases c3 : a1 < 0
  · rw [if_pos c3] at H
    have c3b0 : decide (a1 < 0) = true := decide_eq_true c3
    clear c3
    simp only [Option.some.injEq, Prod.mk.injEq] at H
    obtain ⟨rfl, rfl, rfl⟩ := H
    go_enter Try.func34, Try.ntmps34
    go_wp2
    go_ret3
    exact ⟨by first | rfl | (simp; done) | (simp [*]; done), by repeat (first | exact Drawn0.refl _ | apply Drawn0.step)⟩
  · rw [if_neg c3] at H
    have c3b0 : decide (a1 < 0) = false := decide_eq_false c3
    clear c3
    have HC4 := Aside0.mk H
    clear H
    go_enter Try.func34, Try.ntmps34
    go_upto_block 0 with (fail)
    go_cut [7] (fun v7 wc => ∃ (kq : Nat) (x7_3 : Int), v7 = .int .i64 x7_3 ∧ Aside0 (barrowref03_read.j1 kq l0 a1 x7_3 = some (r1, r2, r3)) ∧ Aside0 (kq ≤ k) ∧ Drawn0 w wc)
    case first =>
      have H := HC4.out
      clear HC4
      have H' := Aside0.mk H
      clear H
      go_wp2
      go_loopg [7] k (fun kq v7 w' => ∃ (x7_1 : Int), v7 = .int .i64 x7_1 ∧ Aside0 (barrowref03_read.l0 kq l0 a1 x7_1 = some (r1, r2, r3)) ∧ Aside0 (kq ≤ k) ∧ Drawn0 w w')
      case atStart => exact ⟨(a1), (by first | rfl | (simp; done) | (simp [*]; done)), H', ⟨Nat.le_refl _⟩, by repeat (first | exact Drawn0.refl _ | apply Drawn0.step)⟩
      case round =>
        clear H'
        try clear p2
        try clear c3
        try clear c3b0
        obtain ⟨x7_1, rfl, HA, HK1, ⟨m1, rfl⟩⟩ := hrel
        cases gk with
        | zero => exact absurd HA.out (by simp [barrowref03_read.l0])
        | succ k1 =>
          have H := HA.out
          clear HA
          simp only [barrowref03_read.l0] at H
          by_cases c5 : x7_1 < (l0.length : Int)
          · rw [if_pos c5] at H
            have c5b0 : decide (x7_1 < (l0.length : Int)) = true := decide_eq_true c5
            clear c5
            (first | rw [c5b0] | (simp only [i64_w, i32_w]; rw [c5b0]) | skip)
            by_cases c6 : 0 ≤ x7_1
            · rw [if_pos c6] at H
              have c6b0 : decide (0 ≤ x7_1) = true := decide_eq_true c6
              clear c6
              by_cases c7 : (rd l0 x7_1) ≥ 128
              · rw [if_pos c7] at H
                have c7b0 : decide (128 ≤ (rd l0 x7_1)) = true := decide_eq_true c7
                clear c7
                have H' := Aside0.mk H
                clear H
                have p341 : 0 ≤ (x7_1 : Int) := of_decide_eq_true (by first | (with_reducible assumption) | assumption)
                have q341 : x7_1 < (l0.length : Int) := of_decide_eq_true (by first | (with_reducible assumption) | assumption)
                obtain ⟨ad341, e341, hx341_0⟩ := Kd.at_int HR0.out x7_1 p341 q341
                cases e341
                replace p341 := eq_true p341
                replace q341 := eq_true q341
                go_wp2
                go_roundg k1
                case measure => have := HK1.out; omega
                case rel => exact ⟨(wrap64 (x7_1 + 1)), (by first | rfl | (simp; done) | (simp [*]; done)), H', ⟨by have := HK1.out; omega⟩, by repeat (first | exact Drawn0.refl _ | apply Drawn0.step)⟩
              · rw [if_neg c7] at H
                have c7b0 : decide (128 ≤ (rd l0 x7_1)) = false := decide_eq_false c7
                clear c7
                have H' := Aside0.mk H
                clear H
                have p341 : 0 ≤ (x7_1 : Int) := of_decide_eq_true (by first | (with_reducible assumption) | assumption)
                have q341 : x7_1 < (l0.length : Int) := of_decide_eq_true (by first | (with_reducible assumption) | assumption)
                obtain ⟨ad341, e341, hx341_0⟩ := Kd.at_int HR0.out x7_1 p341 q341
                cases e341
                replace p341 := eq_true p341
                replace q341 := eq_true q341
                go_wp2
                go_meet
                case rel => exact ⟨_, (x7_1), (by first | rfl | (simp; done) | (simp [*]; done)), H', ⟨by have := HK1.out; first | omega | exact Nat.le_refl _⟩, by repeat (first | exact Drawn0.refl _ | apply Drawn0.step)⟩
            · rw [if_neg c6] at H
              exact absurd H (by simp)
          · rw [if_neg c5] at H
            have c5b0 : decide (x7_1 < (l0.length : Int)) = false := decide_eq_false c5
            clear c5
            (first | rw [c5b0] | (simp only [i64_w, i32_w]; rw [c5b0]) | skip)
            have H' := Aside0.mk H
            clear H
            go_wp2
            go_meet
            case rel => exact ⟨_, (x7_1), (by first | rfl | (simp; done) | (simp [*]; done)), H', ⟨by have := HK1.out; first | omega | exact Nat.le_refl _⟩, by repeat (first | exact Drawn0.refl _ | apply Drawn0.step)⟩
    case rest =>
      clear HC4
      try clear p2
      try clear c3
      try clear c3b0
      try clear p3
      try clear q3
      try clear hx3
      try clear c5
      try clear c5b0
      try clear c6
      try clear c6b0
      try clear p6
      try clear c7
      try clear c7b0
      try clear hx341_0
      try clear p2
      try clear p341
      try clear q341
      obtain ⟨kq, x7_3, rfl, HA, HJ3, ⟨mc3, rfl⟩⟩ := hcut
      cases kq with
      | zero => exact absurd HA.out (by simp [barrowref03_read.j1])
      | succ kj3 =>
        have H := HA.out
        clear HA
        simp only [barrowref03_read.j1] at H
        have HC8 := Aside0.mk H
        clear H
        go_upto_region 6 with (fail)
        go_cut [61] (fun v61 wc => ∃ (kq : Nat) (x61_7 : Bool), v61 = .bool x61_7 ∧ Aside0 (barrowref03_read.j2 kq l0 a1 x7_3 x61_7 = some (r1, r2, r3)) ∧ Aside0 (kq ≤ kj3) ∧ Drawn0 w wc)
        case first =>
          have H := HC8.out
          clear HC8
          by_cases c9 : x7_3 ≥ (l0.length : Int)
          · rw [if_pos c9] at H
            have c9b0 : decide ((l0.length : Int) ≤ x7_3) = true := decide_eq_true c9
            clear c9
            (first | rw [c9b0] | (simp only [i64_w, i32_w]; rw [c9b0]) | skip)
            have H' := Aside0.mk H
            clear H
            go_wp2
            go_meet
            case rel => exact ⟨_, (true), (by first | rfl | (simp; done) | (simp [*]; done)), H', ⟨by have := HJ3.out; first | omega | exact Nat.le_refl _⟩, by repeat (first | exact Drawn0.refl _ | apply Drawn0.step)⟩
          · rw [if_neg c9] at H
            have c9b0 : decide ((l0.length : Int) ≤ x7_3) = false := decide_eq_false c9
            clear c9
            (first | rw [c9b0] | (simp only [i64_w, i32_w]; rw [c9b0]) | skip)
            by_cases c10 : (wrap64 (x7_3 - a1)) > 9
            · rw [if_pos c10] at H
              have c10b0 : decide (9 < (wrap64 (x7_3 - a1))) = true := decide_eq_true c10
              clear c10
              have H' := Aside0.mk H
              clear H
              go_wp2
              go_meet
              case rel => exact ⟨_, (true), (by first | rfl | (simp; done) | (simp [*]; done)), H', ⟨by have := HJ3.out; first | omega | exact Nat.le_refl _⟩, by repeat (first | exact Drawn0.refl _ | apply Drawn0.step)⟩
            · rw [if_neg c10] at H
              have c10b0 : decide (9 < (wrap64 (x7_3 - a1))) = false := decide_eq_false c10
              clear c10
              by_cases c11 : x7_3 > a1
              · rw [if_pos c11] at H
                have c11b0 : decide (a1 < x7_3) = true := decide_eq_true c11
                clear c11
                by_cases c12 : 0 ≤ x7_3
                · rw [if_pos c12] at H
                  have c12b0 : decide (0 ≤ x7_3) = true := decide_eq_true c12
                  clear c12
                  by_cases c13 : x7_3 < (l0.length : Int)
                  · rw [if_pos c13] at H
                    have c13b0 : decide (x7_3 < (l0.length : Int)) = true := decide_eq_true c13
                    clear c13
                    by_cases c14 : (rd l0 x7_3) = 0
                    · rw [if_pos c14] at H
                      have c14b0 : ((rd l0 x7_3) == 0) = true := beq_iff_eq.mpr c14
                      have c14b1 : ((rd l0 x7_3) != 0) = false := bne_eq_false_iff_eq.mpr c14
                      clear c14
                      have H' := Aside0.mk H
                      clear H
                      have p342 : 0 ≤ (x7_3 : Int) := of_decide_eq_true (by first | (with_reducible assumption) | assumption)
                      have q342 : x7_3 < (l0.length : Int) := of_decide_eq_true (by first | (with_reducible assumption) | assumption)
                      obtain ⟨ad342, e342, hx342_0⟩ := Kd.at_int HR0.out x7_3 p342 q342
                      cases e342
                      replace p342 := eq_true p342
                      replace q342 := eq_true q342
                      go_wp2
                      go_meet
                      case rel => exact ⟨_, (true), (by first | rfl | (simp; done) | (simp [*]; done)), H', ⟨by have := HJ3.out; first | omega | exact Nat.le_refl _⟩, by repeat (first | exact Drawn0.refl _ | apply Drawn0.step)⟩
                    · rw [if_neg c14] at H
                      have c14b0 : ((rd l0 x7_3) == 0) = false := beq_eq_false_iff_ne.mpr c14
                      have c14b1 : ((rd l0 x7_3) != 0) = true := bne_iff_ne.mpr c14
                      by_cases c15 : (wrap64 (x7_3 - a1)) = 9
                      · rw [if_pos c15] at H
                        have c15b0 : ((wrap64 (x7_3 - a1)) == 9) = true := beq_iff_eq.mpr c15
                        have c15b1 : ((wrap64 (x7_3 - a1)) != 9) = false := bne_eq_false_iff_eq.mpr c15
                        clear c15
                        have H' := Aside0.mk H
                        clear H
                        have p342 : 0 ≤ (x7_3 : Int) := of_decide_eq_true (by first | (with_reducible assumption) | assumption)
                        have q342 : x7_3 < (l0.length : Int) := of_decide_eq_true (by first | (with_reducible assumption) | assumption)
                        obtain ⟨ad342, e342, hx342_0⟩ := Kd.at_int HR0.out x7_3 p342 q342
                        cases e342
                        replace p342 := eq_true p342
                        replace q342 := eq_true q342
                        have p343 : 0 ≤ (x7_3 : Int) := of_decide_eq_true (by first | (with_reducible assumption) | assumption)
                        have q343 : x7_3 < (l0.length : Int) := of_decide_eq_true (by first | (with_reducible assumption) | assumption)
                        obtain ⟨ad343, e343, hx343_0⟩ := Kd.at_int HR0.out x7_3 p343 q343
                        obtain rfl : ad342 = ad343 := (by injection e343)
                        replace p343 := eq_true p343
                        replace q343 := eq_true q343
                        go_wp2
                        go_meet
                        case rel => exact ⟨_, (decide ((rd l0 x7_3) > 1)), (by first | rfl | (simp; done) | (simp [*]; done)), H', ⟨by have := HJ3.out; first | omega | exact Nat.le_refl _⟩, by repeat (first | exact Drawn0.refl _ | apply Drawn0.step)⟩
                      · rw [if_neg c15] at H
                        have c15b0 : ((wrap64 (x7_3 - a1)) == 9) = false := beq_eq_false_iff_ne.mpr c15
                        have c15b1 : ((wrap64 (x7_3 - a1)) != 9) = true := bne_iff_ne.mpr c15
                        have H' := Aside0.mk H
                        clear H
                        have p342 : 0 ≤ (x7_3 : Int) := of_decide_eq_true (by first | (with_reducible assumption) | assumption)
                        have q342 : x7_3 < (l0.length : Int) := of_decide_eq_true (by first | (with_reducible assumption) | assumption)
                        obtain ⟨ad342, e342, hx342_0⟩ := Kd.at_int HR0.out x7_3 p342 q342
                        cases e342
                        replace p342 := eq_true p342
                        replace q342 := eq_true q342
                        go_wp2
                        go_meet
                        case rel => exact ⟨_, (false), (by first | rfl | (simp; done) | (simp [*]; done)), H', ⟨by have := HJ3.out; first | omega | exact Nat.le_refl _⟩, by repeat (first | exact Drawn0.refl _ | apply Drawn0.step)⟩
                  · rw [if_neg c13] at H
                    exact absurd H (by simp)
                · rw [if_neg c12] at H
                  exact absurd H (by simp)
              · rw [if_neg c11] at H
                have c11b0 : decide (a1 < x7_3) = false := decide_eq_false c11
                clear c11
                by_cases c16 : (wrap64 (x7_3 - a1)) = 9
                · rw [if_pos c16] at H
                  have c16b0 : ((wrap64 (x7_3 - a1)) == 9) = true := beq_iff_eq.mpr c16
                  have c16b1 : ((wrap64 (x7_3 - a1)) != 9) = false := bne_eq_false_iff_eq.mpr c16
                  clear c16
                  by_cases c17 : 0 ≤ x7_3
                  · rw [if_pos c17] at H
                    have c17b0 : decide (0 ≤ x7_3) = true := decide_eq_true c17
                    clear c17
                    by_cases c18 : x7_3 < (l0.length : Int)
                    · rw [if_pos c18] at H
                      have c18b0 : decide (x7_3 < (l0.length : Int)) = true := decide_eq_true c18
                      clear c18
                      have H' := Aside0.mk H
                      clear H
                      have p344 : 0 ≤ (x7_3 : Int) := of_decide_eq_true (by first | (with_reducible assumption) | assumption)
                      have q344 : x7_3 < (l0.length : Int) := of_decide_eq_true (by first | (with_reducible assumption) | assumption)
                      obtain ⟨ad344, e344, hx344_0⟩ := Kd.at_int HR0.out x7_3 p344 q344
                      cases e344
                      replace p344 := eq_true p344
                      replace q344 := eq_true q344
                      go_wp2
                      go_meet
                      case rel => exact ⟨_, (decide ((rd l0 x7_3) > 1)), (by first | rfl | (simp; done) | (simp [*]; done)), H', ⟨by have := HJ3.out; first | omega | exact Nat.le_refl _⟩, by repeat (first | exact Drawn0.refl _ | apply Drawn0.step)⟩
                    · rw [if_neg c18] at H
                      exact absurd H (by simp)
                  · rw [if_neg c17] at H
                    exact absurd H (by simp)
                · rw [if_neg c16] at H
                  have c16b0 : ((wrap64 (x7_3 - a1)) == 9) = false := beq_eq_false_iff_ne.mpr c16
                  have c16b1 : ((wrap64 (x7_3 - a1)) != 9) = true := bne_iff_ne.mpr c16
                  have H' := Aside0.mk H
                  clear H
                  go_wp2
                  go_meet
                  case rel => exact ⟨_, (false), (by first | rfl | (simp; done) | (simp [*]; done)), H', ⟨by have := HJ3.out; first | omega | exact Nat.le_refl _⟩, by repeat (first | exact Drawn0.refl _ | apply Drawn0.step)⟩
        case rest =>
          clear HC8
          try clear c1
          try clear p2
          try clear c3
          try clear c3b0
          try clear p3
          try clear q3
          try clear hx3
          try clear c5
          try clear c5b0
          try clear c6
          try clear c6b0
          try clear p6
          try clear c7
          try clear c7b0
          try clear c9
          try clear c9b0
          try clear c10
          try clear c10b0
          try clear c11
          try clear c11b0
          try clear c12
          try clear c12b0
          try clear c13
          try clear c13b0
          try clear c14
          try clear c14b0
          try clear c14b1
          try clear c15
          try clear c15b0
          try clear c15b1
          try clear c16
          try clear c16b0
          try clear c16b1
          try clear c17
          try clear c17b0
          try clear c18
          try clear c18b0
          try clear hx341_0
          try clear hx342_0
          try clear hx343_0
          try clear hx344_0
          try clear p2
          try clear p3
          try clear p341
          try clear p342
          try clear p343
          try clear p344
          try clear p6
          try clear q3
          try clear q341
          try clear q342
          try clear q343
          try clear q344
          obtain ⟨kq, x61_7, rfl, HA, HJ7, ⟨mc7, rfl⟩⟩ := hcut
          cases kq with
          | zero => exact absurd HA.out (by simp [barrowref03_read.j2])
          | succ kj7 =>
            have H := HA.out
            clear HA
            simp only [barrowref03_read.j2] at H
            by_cases c19 : x61_7 = true
            · subst c19
              have H1 : (some (0, a1, false)) = some (r1, r2, r3) := by rw [if_pos rfl] at H; exact H
              clear H
              have H := H1
              clear H1
              simp only [Option.some.injEq, Prod.mk.injEq] at H
              obtain ⟨rfl, rfl, rfl⟩ := H
              go_wp2
              go_ret3
              exact ⟨by first | rfl | (simp; done) | (simp [*]; done), by repeat (first | exact Drawn0.refl _ | apply Drawn0.step)⟩
            · replace c19 := Bool.eq_false_iff.mpr c19
              subst c19
              have H1 : (barrowref03_read.l1 kj7 l0 a1 x7_3 0 x7_3) = some (r1, r2, r3) := by rw [if_neg (show ¬ (false = true) by decide)] at H; exact H
              clear H
              have H := H1
              clear H1
              have H' := Aside0.mk H
              clear H
              go_wp2
              go_loopg [8, 9] kj7 (fun kq v8 v9 w' => ∃ (x8_3 : Int) (x9_3 : Int), v8 = .int .u64 x8_3 ∧ v9 = .int .i64 x9_3 ∧ Aside0 (barrowref03_read.l1 kq l0 a1 x7_3 x8_3 x9_3 = some (r1, r2, r3)) ∧ Aside0 (kq ≤ kj7) ∧ Drawn0 w w')
              case atStart => exact ⟨(0), (x7_3), (by first | rfl | (simp; done) | (simp [*]; done)), (by first | rfl | (simp; done) | (simp [*]; done)), H', ⟨Nat.le_refl _⟩, by repeat (first | exact Drawn0.refl _ | apply Drawn0.step)⟩
              case round =>
                clear H'
                try clear c1
                try clear p2
                try clear c3
                try clear c3b0
                try clear p3
                try clear q3
                try clear hx3
                try clear c5
                try clear c5b0
                try clear c6
                try clear c6b0
                try clear p6
                try clear c7
                try clear c7b0
                try clear c9
                try clear c9b0
                try clear c10
                try clear c10b0
                try clear c11
                try clear c11b0
                try clear c12
                try clear c12b0
                try clear c13
                try clear c13b0
                try clear c14
                try clear c14b0
                try clear c14b1
                try clear c15
                try clear c15b0
                try clear c15b1
                try clear c16
                try clear c16b0
                try clear c16b1
                try clear c17
                try clear c17b0
                try clear c18
                try clear c18b0
                try clear c19
                try clear hx341_0
                try clear hx342_0
                try clear hx343_0
                try clear hx344_0
                try clear p2
                try clear p3
                try clear p341
                try clear p342
                try clear p343
                try clear p344
                try clear p6
                try clear q3
                try clear q341
                try clear q342
                try clear q343
                try clear q344
                obtain ⟨x8_3, x9_3, rfl, rfl, HA, HK3, ⟨m3, rfl⟩⟩ := hrel
                cases gk with
                | zero => exact absurd HA.out (by simp [barrowref03_read.l1])
                | succ k3 =>
                  have H := HA.out
                  clear HA
                  simp only [barrowref03_read.l1] at H
                  by_cases c20 : x9_3 ≥ a1
                  · rw [if_pos c20] at H
                    have c20b0 : decide (a1 ≤ x9_3) = true := decide_eq_true c20
                    clear c20
                    by_cases c21 : 0 ≤ x9_3
                    · rw [if_pos c21] at H
                      have c21b0 : decide (0 ≤ x9_3) = true := decide_eq_true c21
                      clear c21
                      by_cases c22 : x9_3 < (l0.length : Int)
                      · rw [if_pos c22] at H
                        have c22b0 : decide (x9_3 < (l0.length : Int)) = true := decide_eq_true c22
                        clear c22
                        have H' := Aside0.mk H
                        clear H
                        have p345 : 0 ≤ (x9_3 : Int) := of_decide_eq_true (by first | (with_reducible assumption) | assumption)
                        have q345 : x9_3 < (l0.length : Int) := of_decide_eq_true (by first | (with_reducible assumption) | assumption)
                        obtain ⟨ad345, e345, hx345_0⟩ := Kd.at_int HR0.out x9_3 p345 q345
                        cases e345
                        replace p345 := eq_true p345
                        replace q345 := eq_true q345
                        go_wp2
                        go_roundg k3
                        case measure => have := HJ3.out; have := HJ7.out; have := HK3.out; omega
                        case rel => exact ⟨(IntKind.u64.wrap ((IntKind.u64.wrap (128 * x8_3)) + (IntKind.u64.wrap (Int.tmod (rd l0 x9_3) 128)))), (wrap64 (x9_3 - 1)), (by first | rfl | (simp; done) | (simp [*]; done)), (by first | rfl | (simp; done) | (simp [*]; done)), H', ⟨by have := HJ3.out; have := HJ7.out; have := HK3.out; omega⟩, by repeat (first | exact Drawn0.refl _ | apply Drawn0.step)⟩
                      · rw [if_neg c22] at H
                        exact absurd H (by simp)
                    · rw [if_neg c21] at H
                      exact absurd H (by simp)
                  · rw [if_neg c20] at H
                    have c20b0 : decide (a1 ≤ x9_3) = false := decide_eq_false c20
                    clear c20
                    simp only [Option.some.injEq, Prod.mk.injEq] at H
                    obtain ⟨rfl, rfl, rfl⟩ := H
                    go_wp2
                    go_ret3
                    exact ⟨by first | rfl | (simp; done) | (simp [*]; done), by repeat (first | exact Drawn0.refl _ | apply Drawn0.step)⟩

/-! ### barrowref03_ReadUint: function 19 -/
def barrowref03_ReadUint.f (k : Nat) (l0 : List Int) (a1 : Int) : Option (Int × Int × Int) := (barrowref03_read.f k l0 a1).bind fun bt351 => (if bt351.2.2 = true then (if bt351.1 > 9223372036854775807 then (some (0, a1, 2)) else (some (wrap64 (bt351.1), bt351.2.1, 0))) else (some (0, a1, 2)))
theorem barrowref03_ReadUint.mono : ∀ a0 a1 k, LeO (barrowref03_ReadUint.f k a0 a1) (barrowref03_ReadUint.f (k + 1) a0 a1) := by
  intro a0 a1 k
  unfold barrowref03_ReadUint.f
  repeat' first
      | (with_reducible exact barrowref03_read.mono _ _ _)
      | (with_reducible exact LeO.refl _)
      | (with_reducible exact LeO.none _)
      | (with_reducible refine LeO.ite ?_ ?_)
      | (with_reducible refine LeO.bind ?_ (fun _ => ?_))
      | exact barrowref03_read.mono _ _ _
      | exact LeO.none _
      | refine LeO.ite ?_ ?_
      | refine LeO.bind ?_ (fun _ => ?_)
set_option maxHeartbeats 8000000 in
set_option maxRecDepth 100000 in
theorem barrowref03_ReadUint.calls (k : Nat) (A0 : Option Addr) (c0 : Nat) (l0 : List Int) (a1 : Int) (r1 : Int) (r2 : Int) (r3 : Int) (w : World) (hr0 : Kd.C (Kd.int .u8) w A0 l0.length l0) (hc0 : l0.length ≤ c0) (h : barrowref03_ReadUint.f k l0 a1 = some (r1, r2, r3)) :
    Calls Try.prog 19 #[.slice A0 l0.length c0, .int .i64 a1] w fun e w' => e = .returned (.tuple #[.int .i64 r1, .int .i64 r2, .int .i64 r3]) ∧ Drawn0 w w' := by
  have HR0 := Aside0.mk hr0
  have HC0 := Aside0.mk hc0
  clear hr0 hc0
  have H : ((barrowref03_read.f k l0 a1).bind fun bt351 => (if bt351.2.2 = true then (if bt351.1 > 9223372036854775807 then (some (0, a1, 2)) else (some (wrap64 (bt351.1), bt351.2.1, 0))) else (some (0, a1, 2)))) = some (r1, r2, r3) := h
  clear h
  replace H := Option.bind_eq_some_iff.mp H
  obtain ⟨⟨t351, t352, t353⟩, A30, H⟩ := H
  replace H : (if t353 = true then (if t351 > 9223372036854775807 then (some (0, a1, 2)) else (some (wrap64 (t351), t352, 0))) else (some (0, a1, 2))) = some (r1, r2, r3) := H
  have A3 := Aside0.mk A30
  clear A30
  by_cases c4 : t353 = true
  · subst c4
    have H1 : (if t351 > 9223372036854775807 then (some (0, a1, 2)) else (some (wrap64 (t351), t352, 0))) = some (r1, r2, r3) := by rw [if_pos rfl] at H; exact H
    clear H
    have H := H1
    clear H1
    by_cases c5 : t351 > 9223372036854775807
    · rw [if_pos c5] at H
      have c5b0 : decide (9223372036854775807 < t351) = true := decide_eq_true c5
      clear c5
      simp only [Option.some.injEq, Prod.mk.injEq] at H
      obtain ⟨rfl, rfl, rfl⟩ := H
      go_enter Try.func19, Try.ntmps19
      go_wp2_with (first | ((with_reducible refine gate_callee (f := 34) rfl ?_); refine goesL_ (some 13) rfl rfl Try.func34 (by kernel_rfl) rfl #[.slice A0 l0.length c0, .int .i64 a1] rfl (by (try simp only [List.map_toArray, List.map_cons, List.map_nil]); first | done | rfl | (simp only [List.length_drop, List.length_take]; rfl)) ?_; (with_reducible refine (barrowref03_read.calls k _ _ l0 a1 t351 t352 true _ ?side1 ?side2 A3.out).mono ?_); (case side1 => repeat (first | exact HR0.out | (with_reducible refine Kd.C_alloc ?_ _) | (with_reducible refine Kd.C_drewN ?_ _) | (with_reducible refine Kd.C_drew ?_))); (case side2 => exact HC0.out); rintro e w' ⟨rfl, ⟨nd, rfl⟩⟩; refine ⟨_, rfl, ?_⟩))
      go_ret3
      exact ⟨by first | rfl | (simp; done) | (simp [*]; done), by repeat (first | exact Drawn0.refl _ | apply Drawn0.step)⟩
    · rw [if_neg c5] at H
      have c5b0 : decide (9223372036854775807 < t351) = false := decide_eq_false c5
      clear c5
      simp only [Option.some.injEq, Prod.mk.injEq] at H
      obtain ⟨rfl, rfl, rfl⟩ := H
      go_enter Try.func19, Try.ntmps19
      go_wp2_with (first | ((with_reducible refine gate_callee (f := 34) rfl ?_); refine goesL_ (some 13) rfl rfl Try.func34 (by kernel_rfl) rfl #[.slice A0 l0.length c0, .int .i64 a1] rfl (by (try simp only [List.map_toArray, List.map_cons, List.map_nil]); first | done | rfl | (simp only [List.length_drop, List.length_take]; rfl)) ?_; (with_reducible refine (barrowref03_read.calls k _ _ l0 a1 t351 t352 true _ ?side1 ?side2 A3.out).mono ?_); (case side1 => repeat (first | exact HR0.out | (with_reducible refine Kd.C_alloc ?_ _) | (with_reducible refine Kd.C_drewN ?_ _) | (with_reducible refine Kd.C_drew ?_))); (case side2 => exact HC0.out); rintro e w' ⟨rfl, ⟨nd, rfl⟩⟩; refine ⟨_, rfl, ?_⟩))
      go_ret3
      exact ⟨by first | rfl | (simp; done) | (simp [*]; done), by repeat (first | exact Drawn0.refl _ | apply Drawn0.step)⟩
  · replace c4 := Bool.eq_false_iff.mpr c4
    subst c4
    have H1 : (some (0, a1, 2)) = some (r1, r2, r3) := by rw [if_neg (show ¬ (false = true) by decide)] at H; exact H
    clear H
    have H := H1
    clear H1
    simp only [Option.some.injEq, Prod.mk.injEq] at H
    obtain ⟨rfl, rfl, rfl⟩ := H
    go_enter Try.func19, Try.ntmps19
    go_wp2_with (first | ((with_reducible refine gate_callee (f := 34) rfl ?_); refine goesL_ (some 13) rfl rfl Try.func34 (by kernel_rfl) rfl #[.slice A0 l0.length c0, .int .i64 a1] rfl (by (try simp only [List.map_toArray, List.map_cons, List.map_nil]); first | done | rfl | (simp only [List.length_drop, List.length_take]; rfl)) ?_; (with_reducible refine (barrowref03_read.calls k _ _ l0 a1 t351 t352 false _ ?side1 ?side2 A3.out).mono ?_); (case side1 => repeat (first | exact HR0.out | (with_reducible refine Kd.C_alloc ?_ _) | (with_reducible refine Kd.C_drewN ?_ _) | (with_reducible refine Kd.C_drew ?_))); (case side2 => exact HC0.out); rintro e w' ⟨rfl, ⟨nd, rfl⟩⟩; refine ⟨_, rfl, ?_⟩))
    go_ret3
    exact ⟨by first | rfl | (simp; done) | (simp [*]; done), by repeat (first | exact Drawn0.refl _ | apply Drawn0.step)⟩

/-! ### pack_unfold: function 35 -/
def pack_unfold.f (a0 : Int) : Option (Int) := some (Go.bits .xor .i64 (wrap64 (a0 / 2)) (wrap64 (-(wrap64 (Go.bits .and .u64 a0 1)))))
set_option maxHeartbeats 8000000 in
set_option maxRecDepth 100000 in
theorem pack_unfold.calls (a0 : Int) (r : Int) (w : World) (h : pack_unfold.f a0 = some r) :
    Calls Try.prog 35 #[.int .u64 a0] w fun e w' => e = .returned (.int .i64 r) ∧ Drawn0 w w' := by
  have H : (some (Go.bits .xor .i64 (wrap64 (a0 / 2)) (wrap64 (-(wrap64 (Go.bits .and .u64 a0 1)))))) = some r := h
  clear h
  obtain rfl := Option.some.inj H
  go_enter Try.func35, Try.ntmps35
  go_wp2
  go_ret
  exact ⟨by first | rfl | (simp; done) | (simp [*]; done), by repeat (first | exact Drawn0.refl _ | apply Drawn0.step)⟩

/-! ### pack_ReadInt: function 20 -/
def pack_ReadInt.f (k : Nat) (l0 : List Int) (a1 : Int) : Option (Int × Int × Int) := (pack_read.f k l0 a1).bind fun bt354 => ((pack_unfold.f bt354.1).bind fun t357 => (some (t357, bt354.2.1, bt354.2.2)))
theorem pack_ReadInt.mono : ∀ a0 a1 k, LeO (pack_ReadInt.f k a0 a1) (pack_ReadInt.f (k + 1) a0 a1) := by
  intro a0 a1 k
  unfold pack_ReadInt.f
  repeat' first
      | (with_reducible exact pack_read.mono _ _ _)
      | (with_reducible exact LeO.refl _)
      | (with_reducible exact LeO.none _)
      | (with_reducible refine LeO.ite ?_ ?_)
      | (with_reducible refine LeO.bind ?_ (fun _ => ?_))
      | exact pack_read.mono _ _ _
      | exact LeO.none _
      | refine LeO.ite ?_ ?_
      | refine LeO.bind ?_ (fun _ => ?_)
set_option maxHeartbeats 8000000 in
set_option maxRecDepth 100000 in
theorem pack_ReadInt.calls (k : Nat) (A0 : Option Addr) (c0 : Nat) (l0 : List Int) (a1 : Int) (r1 : Int) (r2 : Int) (r3 : Int) (w : World) (hr0 : Kd.C (Kd.int .u8) w A0 l0.length l0) (hc0 : l0.length ≤ c0) (h : pack_ReadInt.f k l0 a1 = some (r1, r2, r3)) :
    Calls Try.prog 20 #[.slice A0 l0.length c0, .int .i64 a1] w fun e w' => e = .returned (.tuple #[.int .i64 r1, .int .i64 r2, .int .i64 r3]) ∧ Below w.heap.size w w' := by
  have HR0 := Aside0.mk hr0
  have HC0 := Aside0.mk hc0
  clear hr0 hc0
  have HB := Aside0.mk (Below.refl w.heap.size w)
  have H : ((pack_read.f k l0 a1).bind fun bt354 => ((pack_unfold.f bt354.1).bind fun t357 => (some (t357, bt354.2.1, bt354.2.2)))) = some (r1, r2, r3) := h
  clear h
  replace H := Option.bind_eq_some_iff.mp H
  obtain ⟨⟨t354, t355, t356⟩, A30, H⟩ := H
  replace H : ((pack_unfold.f t354).bind fun t357 => (some (t357, t355, t356))) = some (r1, r2, r3) := H
  have A3 := Aside0.mk A30
  clear A30
  replace H := Option.bind_eq_some_iff.mp H
  obtain ⟨t357, A40, H⟩ := H
  replace H : (some (t357, t355, t356)) = some (r1, r2, r3) := H
  have A4 := Aside0.mk A40
  clear A40
  simp only [Option.some.injEq, Prod.mk.injEq] at H
  obtain ⟨rfl, rfl, rfl⟩ := H
  go_enter Try.func20, Try.ntmps20
  go_wp2_with (first | ((with_reducible refine gate_callee (f := 33) rfl ?_); refine goesL_ (some 13) rfl rfl Try.func33 (by kernel_rfl) rfl #[.slice A0 l0.length c0, .int .i64 a1] rfl (by (try simp only [List.map_toArray, List.map_cons, List.map_nil]); first | done | rfl | (simp only [List.length_drop, List.length_take]; rfl)) ?_; (with_reducible refine (pack_read.calls k _ _ l0 a1 t354 t355 t356 _ ?side1 ?side2 A3.out).mono ?_); (case side1 => repeat (first | exact HR0.out | (with_reducible refine Kd.C_alloc ?_ _) | (with_reducible refine Kd.C_drewN ?_ _) | (with_reducible refine Kd.C_drew ?_))); (case side2 => exact HC0.out); rintro e w5 ⟨rfl, hb⟩; refine ⟨_, rfl, ?_⟩; have n0_ := Aside0.mk (below_step (by repeat (first | (with_reducible first | exact HB.out | apply below_alloc | apply pw_below_drewN | apply below_drew1) | exact HB.out)) hb); clear HB; have HB := n0_; clear n0_; (try clear hb); (try clear hb2); (try clear hk); (try clear hi)) | ((with_reducible refine gate_callee (f := 35) rfl ?_); refine goesL_ (some 18) rfl rfl Try.func35 (by kernel_rfl) rfl #[.int .u64 t354] rfl (by (try simp only [List.map_toArray, List.map_cons, List.map_nil]); first | done | rfl | (simp only [List.length_drop, List.length_take]; rfl)) ?_; (with_reducible refine (pack_unfold.calls t354 t357 _ A4.out).mono ?_); rintro e w' ⟨rfl, ⟨nd, rfl⟩⟩; refine ⟨_, rfl, ?_⟩))
  go_ret3
  exact ⟨by first | rfl | (simp [errW_none, errW_some] <;> rfl) | (simp [*, errW_none, errW_some] <;> rfl), by repeat (first | (with_reducible first | exact HB.out | apply below_alloc | apply pw_below_drewN | apply below_drew1) | exact HB.out)⟩

end Go.Proofs.Ytkidppjaclgkkaa.XPW
