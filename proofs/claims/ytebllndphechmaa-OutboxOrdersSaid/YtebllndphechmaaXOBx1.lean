-- Written by xprint.py (a program of this session) for this claim
import Derived.Test.YtebllndphechmaaSL9
import Derived.Test.YtebllndphechmaaSL5
import Derived.Test.YtebllndphechmaaXOBx0
namespace Go.Proofs.Ytebllndphechmaa.XOB
open Go.Proofs.YtebllndphechmaaV Go.Proofs.YtebllndphechmaaS
open Go.RowKit Go.Proofs.YtebllndphechmaaW.PrintWords Go.Proofs.YtebllndphechmaaW.PrintLast Go.Proofs.YtebllndphechmaaW.PrintMore
attribute [local go_sem] max2_int min2_int max_two min_two max_three min_three max_four min_four   -- for this text's walks alone
set_option linter.unusedVariables false
set_option linter.unusedSimpArgs false

/-! ### outbox_New: function 6 -/
def outbox_New.l199 : Nat → Int → Bool → Option (Bool × (Int × List (List Int)))
  | 0, _, _ => none
  | k + 1, a0, x8_199 => if x8_199 = true then ((some ((64, []) : Int × List (List Int))).bind fun y101 => (some (false, y101))) else (if 0 ≤ a0 then (if a0 ≤ 1000000 then ((some ((a0, []) : Int × List (List Int))).bind fun y102 => (some (false, y102))) else (none)) else (none))
def outbox_New.f (k : Nat) (a0 : Int) : Option (Bool × (Int × List (List Int))) := if a0 < 1 then (outbox_New.l199 k a0 true) else (outbox_New.l199 k a0 (decide (a0 > 64)))
theorem outbox_New.mono_l : ∀ k, (∀ y0 y1, LeO (outbox_New.l199 k y0 y1) (outbox_New.l199 (k + 1) y0 y1))
  | 0 => fun _ _ r h => by simp [outbox_New.l199] at h
  | k + 1 => by
    have ih0 := outbox_New.mono_l k
    · intro y0 y1
      unfold outbox_New.l199
      repeat' first
      | (with_reducible exact ih0 _ _)
      | (with_reducible exact LeO.refl _)
      | (with_reducible exact LeO.none _)
      | (with_reducible refine LeO.ite ?_ ?_)
      | (with_reducible refine everyOf_le (fun _ => ?_))
      | (with_reducible refine LeO.bind ?_ (fun _ => ?_))
      | exact ih0 _ _
      | exact LeO.none _
      | refine LeO.ite ?_ ?_
      | refine LeO.bind ?_ (fun _ => ?_)
theorem outbox_New.mono : ∀ a0 k, LeO (outbox_New.f k a0) (outbox_New.f (k + 1) a0) := by
  intro a0 k
  have ih0 := outbox_New.mono_l k
  unfold outbox_New.f
  repeat' first
      | (with_reducible exact ih0 _ _)
      | (with_reducible exact LeO.refl _)
      | (with_reducible exact LeO.none _)
      | (with_reducible refine LeO.ite ?_ ?_)
      | (with_reducible refine everyOf_le (fun _ => ?_))
      | (with_reducible refine LeO.bind ?_ (fun _ => ?_))
      | exact ih0 _ _
      | exact LeO.none _
      | refine LeO.ite ?_ ?_
      | refine LeO.bind ?_ (fun _ => ?_)
def outbox_New.Post (r1 : Bool) (r2 : Int × List (List Int)) (S : Nat → Prop) (L : List Asr) (w : World) (e : Ending) (w' : World) : Prop := ∃ (gr0 : Nat) (gr1 : Nat), e = .returned (.pointer (some ⟨gr0, 0, none⟩)) ∧ SL (cells gr0 41 [.chan (some gr1), .bool r1].toArray :: chano gr1 (inn (Kd.int .u8) 5) r2 :: L) w' S ∧ Keep S w w'
set_option maxHeartbeats 8000000 in
set_option maxRecDepth 100000 in
theorem outbox_New.slcalls (k : Nat) (a0 : Int) (r1 : Bool) (r2 : Int × List (List Int)) (S : Nat → Prop) (L : List Asr) (w : World) (hf : Fresh S w) (hs : SL (L) w S) (h : outbox_New.f k a0 = some (r1, r2)) :
    Calls Try.prog 6 #[.int .i64 a0] w (outbox_New.Post r1 r2 S L w) := by
  have HF := Aside0.mk hf
  have HS := Aside0.mk hs
  have HK := Aside0.mk (Keep.refl S w)
  clear hf hs
  have hu41 := Try.underlying41
  have H : (if a0 < 1 then (outbox_New.l199 k a0 true) else (outbox_New.l199 k a0 (decide (a0 > 64)))) = some (r1, r2) := h
  clear h
  have H' := Aside0.mk H
  clear H
  go_enter Try.func6, Try.ntmps6
  try go_upto_region 1 with (fail)
  (try simp only [Act.put, sT, sZ, sS])
  go_cut [8] (fun v8 wc => ∃ (kq : Nat) (x8_199 : Bool), v8 = .bool x8_199 ∧ Aside0 (outbox_New.l199 kq a0 x8_199 = some (r1, r2)) ∧ Aside0 (kq ≤ k) ∧ Aside0 (SL (L) wc S) ∧ Aside0 (Keep S w wc))
  case first =>
    have H := H'.out
    clear H'
    by_cases c1 : a0 < 1
    · rw [if_pos c1] at H
      have c1b0 : decide (a0 < 1) = true := decide_eq_true c1
      clear c1
      have H' := Aside0.mk H
      clear H
      go_wp2
      go_meet
      case rel => exact ⟨k, (true), (by first | rfl | (simp; done) | (simp [*]; done)), H', ⟨by omega⟩, HS, HK⟩
    · rw [if_neg c1] at H
      have c1b0 : decide (a0 < 1) = false := decide_eq_false c1
      clear c1
      have H' := Aside0.mk H
      clear H
      go_wp2
      go_meet
      case rel => exact ⟨k, (decide (a0 > 64)), (by first | rfl | (simp; done) | (simp [*]; done)), H', ⟨by omega⟩, HS, HK⟩
  case rest =>
    clear H' HS HK
    obtain ⟨kq, x8_199, rfl, HA, HQ1, HS, HK⟩ := hcut
    cases kq with
    | zero => exact absurd HA.out (by simp [outbox_New.l199])
    | succ k1 =>
      have H := HA.out
      clear HA
      simp only [outbox_New.l199] at H
      by_cases c2 : x8_199 = true
      · subst c2
        rw [if_pos rfl] at H
        replace H := Option.bind_eq_some_iff.1 H
        obtain ⟨y101, hy1010, H⟩ := H
        try dsimp only at H
        have hy101 := Option.some.inj hy1010
        clear hy1010
        have Ny101 := Aside0.mk hy101
        clear hy101
        simp only [Option.some.injEq, Prod.mk.injEq] at H
        obtain ⟨rfl, rfl⟩ := H
        go_wp2_with (first | ((with_reducible refine gate_dst (N := 10) rfl ?_); refine wpList_plain rfl (fun K_ hK_ => ?_); refine op_makeChan (S := S) (w := _) (bytes := 24) (inn (Kd.int .u8) 5) 39 (.tmp 9) rfl Try.underlying39 (by kernel_rfl) 64 rfl (by first | omega | (simp only [decide_eq_true_eq] at *; omega)) (by first | omega | (simp only [decide_eq_true_eq] at *; omega)) (by decide) (HF.out.keep HK.out) HS.out y101 Ny101.out ?_; intro g3000000 w3 hs_ hk_; refine hK_ _ _ ?_; clear hK_ K_; replace HS := Aside0.mk ((show SL (chano g3000000 (inn (Kd.int .u8) 5) y101 :: _) _ _ from hs_)); replace HK := Aside0.mk (HK.out.trans hk_)) | ((with_reducible refine gate_dst (N := 12) rfl ?_); refine wpList_plain rfl (fun K_ hK_ => ?_); refine op_box (S := S) (cs := #[.chan (some g3000000), .bool false]) (t := 41) (HF.out.keep HK.out) HS.out (by first | (go_simp; done) | (go_simp; rfl)) ?_; intro g3000001 w4 hs_ hk_; refine hK_ _ _ ?_; clear hK_ K_; replace HS := Aside0.mk (hs_); replace HK := Aside0.mk (HK.out.trans hk_)))
        go_ret
        unfold outbox_New.Post
        exact ⟨g3000001, g3000000, by first | rfl | (simp; done) | (simp [*]; done), HS.out, HK.out⟩
      · replace c2 := Bool.eq_false_iff.mpr c2
        subst c2
        rw [if_neg (show ¬ (false = true) by decide)] at H
        by_cases c5 : 0 ≤ a0
        · rw [if_pos c5] at H
          have c5b0 := eq_true c5
          have c5b1 : decide (0 ≤ a0) = true := decide_eq_true c5
          clear c5
          by_cases c6 : a0 ≤ 1000000
          · rw [if_pos c6] at H
            have c6b0 := eq_true c6
            have c6b1 : decide (a0 ≤ 1000000) = true := decide_eq_true c6
            clear c6
            replace H := Option.bind_eq_some_iff.1 H
            obtain ⟨y102, hy1020, H⟩ := H
            try dsimp only at H
            have hy102 := Option.some.inj hy1020
            clear hy1020
            have Ny102 := Aside0.mk hy102
            clear hy102
            simp only [Option.some.injEq, Prod.mk.injEq] at H
            obtain ⟨rfl, rfl⟩ := H
            go_wp2_with (first | ((with_reducible refine gate_dst (N := 10) rfl ?_); refine wpList_plain rfl (fun K_ hK_ => ?_); refine op_makeChan (S := S) (w := _) (bytes := 24) (inn (Kd.int .u8) 5) 39 (.tmp 9) rfl Try.underlying39 (by kernel_rfl) a0 rfl (by first | omega | (simp only [decide_eq_true_eq] at *; omega)) (by first | omega | (simp only [decide_eq_true_eq] at *; omega)) (by decide) (HF.out.keep HK.out) HS.out y102 Ny102.out ?_; intro g3000000 w7 hs_ hk_; refine hK_ _ _ ?_; clear hK_ K_; replace HS := Aside0.mk ((show SL (chano g3000000 (inn (Kd.int .u8) 5) y102 :: _) _ _ from hs_)); replace HK := Aside0.mk (HK.out.trans hk_)) | ((with_reducible refine gate_dst (N := 12) rfl ?_); refine wpList_plain rfl (fun K_ hK_ => ?_); refine op_box (S := S) (cs := #[.chan (some g3000000), .bool false]) (t := 41) (HF.out.keep HK.out) HS.out (by first | (go_simp; done) | (go_simp; rfl)) ?_; intro g3000001 w8 hs_ hk_; refine hK_ _ _ ?_; clear hK_ K_; replace HS := Aside0.mk (hs_); replace HK := Aside0.mk (HK.out.trans hk_)))
            go_ret
            unfold outbox_New.Post
            exact ⟨g3000001, g3000000, by first | rfl | (simp; done) | (simp [*]; done) | (simp at c6b0 ⊢; first | exact c6b0 | (simp [c6b0]; done)), HS.out, HK.out⟩
          · rw [if_neg c6] at H
            exact absurd H (by simp)
        · rw [if_neg c5] at H
          exact absurd H (by simp)

-- NOT PRINTED: function 18 (outbox_Box_take)

-- NOT PRINTED: function 17 (outbox_Box_forget)

-- NOT PRINTED: function 8 (outbox_Box_Again)

-- NOT PRINTED: function 10 (outbox_Box_Drain)

/-! ### slices_Clone_byte_byte: function 19 -/
def slices_Clone_byte_byte.f (l0 : List Int) : Option (List Int) := (some (([] : List Int) : List Int)).bind fun y103 => (if y103.length + l0.length < 140737488355328 then (some (y103 ++ l0)) else (none))
set_option maxHeartbeats 8000000 in
set_option maxRecDepth 100000 in
theorem slices_Clone_byte_byte.calls (A0 : Option Addr) (c0 : Nat) (l0 : List Int) (r : List Int) (w : World) (hr0 : Kd.C (Kd.int .u8) w A0 l0.length l0) (hc0 : l0.length ≤ c0) (h : slices_Clone_byte_byte.f l0 = some r) :
    Calls Try.prog 19 #[.slice A0 l0.length c0] w fun e w' => ∃ v0_ : Value, e = .returned (v0_) ∧ Kd.R (Kd.int .u8) 5 w' w.heap.size (fun _ => True) v0_ r ∧ Below w.heap.size w w' := by
  cases A0 with
  | none =>
    have hl0 : l0 = [] := by
      cases l0 with
      | nil => rfl
      | cons z_ zs_ => obtain ⟨ad_, e_, _⟩ := hr0.2.2 (by simp); cases e_
    subst hl0
    have hr_ : r = [] := by simpa [slices_Clone_byte_byte.f] using h.symm
    subst hr_
    have hnil := fun (w : World) => Lib.run_eql_slice_nil (P := Try.prog) w 32 5 none ([] : List Int).length c0 0 0 Try.underlying32
    have hnil0 := fun (w : World) => Lib.run_eql_slice_nil (P := Try.prog) w 32 5 none 0 c0 0 0 Try.underlying32
    go_enter Try.func19, Try.ntmps19
    go_wp2
    go_ret
    exact ⟨_, rfl, Kd.R_nil _ _ _ _ _, Below.refl _ _⟩
  | some A0 =>
    have hnil := fun (w : World) => Lib.run_eql_slice_nil (P := Try.prog) w 32 5 (some A0) l0.length c0 0 0 Try.underlying32
    have HR0 := Aside0.mk hr0
    have HC0 := Aside0.mk hc0
    clear hr0 hc0
    have HB := Aside0.mk (Below.refl w.heap.size w)
    have H : ((some (([] : List Int) : List Int)).bind fun y103 => (if y103.length + l0.length < 140737488355328 then (some (y103 ++ l0)) else (none))) = some r := h
    clear h
    obtain ⟨y103, hy103⟩ : ∃ y_ : List Int, y_ = (([] : List Int)) := ⟨_, rfl⟩
    replace H : (if y103.length + l0.length < 140737488355328 then (some (y103 ++ l0)) else (none)) = some r := by first | (rw [hy103]; with_reducible exact H) | (have H2_ := (Option.bind_some _ _).symm.trans H; rw [hy103]; with_reducible exact H2_) | (have H2_ := (Option.bind_some _ _).symm.trans H; with_reducible exact H2_) | with_reducible exact H | (rw [hy103]; exact H) | exact H
    have Ny103 := Aside0.mk hy103
    clear hy103
    by_cases c2 : y103.length + l0.length < 140737488355328
    · rw [if_pos c2] at H
      have LMc2 := Aside0.mk c2
      clear c2
      obtain ⟨y106, hy106⟩ : ∃ y_ : List Int, y_ = (y103 ++ l0) := ⟨_, rfl⟩
      replace H : (some y106) = some r := by first | (rw [hy106]; with_reducible exact H) | (have H2_ := (Option.bind_some _ _).symm.trans H; rw [hy106]; with_reducible exact H2_) | (have H2_ := (Option.bind_some _ _).symm.trans H; with_reducible exact H2_) | with_reducible exact H | (rw [hy106]; exact H) | exact H
      have Ny106 := Aside0.mk hy106
      clear hy106
      obtain rfl := Option.some.inj H
      go_enter Try.func19, Try.ntmps19
      go_wp2_with (first | ((with_reducible refine gate_dst (N := 5) rfl ?_); refine Kd.R_lit (Kd.int .u8) _ 5 ?hg (N := 5) ?hd (xs := ([] : List Int)) (inner := []) (ok := fun _ => True) (okp := fun _ => True) ?hr ?hp (fun _ hk => hk) trivial (Below.refl _ _) (Nat.le_refl _) (by simp) ?_; (case hd => rfl); (case hg => rfl); (case hr => first | (go_simp; done) | (go_simp; rfl)); (case hp => exact (Reps.none _ _)); intro v104 w3 ho4 hb hg_ hnew_; clear hg_ hnew_; (first | rw [← Ny103.out] at ho4 | (simp only [Int.reduceToNat] at ho4; rw [← Ny103.out] at ho4)); have n0_ := Aside0.mk (Kd.R_lower ho4 (below_size (by repeat (first | (with_reducible first | exact HB.out | apply below_alloc | apply pw_below_drewN | apply below_drew1) | exact HB.out)))); have n1_ := Aside0.mk (below_step (by repeat (first | (with_reducible first | exact HB.out | apply below_alloc | apply pw_below_drewN | apply below_drew1) | exact HB.out)) hb); clear HB; have HO105 := n0_; have HB := n1_; clear n0_ n1_; clear hb ho4) | ((with_reducible refine gate_builtin (b := .append) (xs := #[.tmp 5, .tmp 6]) rfl ?_); at_builtin; refine Kd.R_append_rows (Kd.int .u8) (w0 := w) w.heap.size rfl (.tmp 5) (.tmp 6) 32 5 (.int .u8 0) 1 rfl Try.underlying32 info5 rfl (by decide) (by omega) v104 y103 l0 _ _ _ (fun _ => True) (fun _ => False) rfl rfl ?aO ?aR (fun _ _ h => h) (fun _ h => h.elim) ?aF ?aB ?aS ?aL ?_; (case aR => repeat (first | exact (Kd.C_below HR0.out HB.out) | (with_reducible refine Kd.C_alloc ?_ _) | (with_reducible refine Kd.C_drewN ?_ _) | (with_reducible refine Kd.C_drew ?_))); (case aB => exact (by repeat (first | (with_reducible first | exact HB.out | apply below_alloc | apply pw_below_drewN | apply below_drew1) | exact HB.out))); (case aF => exact (fun _ _ => trivial)); (case aO => exact (by (with_reducible repeat (first | apply Kd.R_alloc | apply Kd.R_drewN | apply Kd.R_drew)); exact HO105.out)); (case aS => exact (below_size (by repeat (first | (with_reducible first | exact HB.out | apply below_alloc | apply pw_below_drewN | apply below_drew1) | exact HB.out)))); (case aL => have := LMc2.out; omega); intro v107 w5 ho hb hg hat; rw [← Ny106.out] at ho; have n0_ := Aside0.mk (hb); have n1_ := Aside0.mk (ho); clear HB; clear HO105; have HB := n0_; have HO108 := n1_; clear n0_ n1_; clear ho hb hg hat))
      go_ret
      exact ⟨_, by first | rfl | (simp [errW_none, errW_some] <;> rfl) | (simp [*, errW_none, errW_some] <;> rfl), by (with_reducible repeat (first | apply Kd.R_alloc | apply Kd.R_drewN | apply Kd.R_drew)); exact HO108.out, by repeat (first | (with_reducible first | exact HB.out | apply below_alloc | apply pw_below_drewN | apply below_drew1) | exact HB.out)⟩
    · rw [if_neg c2] at H
      exact absurd H (by simp)

-- NOT PRINTED: function 13 (outbox_Box_Put)

-- NOT PRINTED: function 15 (outbox_Box_Len)

-- NOT PRINTED: function 16 (outbox_Box_Lost)

/-! ### outbox_Box_take: function 18, by hand -/
def outbox_Box_take.f (s0_1 : Bool) (sm1 : Int × List (List Int)) : Option (List Int × Bool × (Int × List (List Int))) := some (match sm1.2 with | [] => ([], false, sm1) | x :: xs => (x, true, (sm1.1, xs)))
def outbox_Box_take.Post (b0 : Nat) (b1 : Nat) (s0_1 : Bool) (r1 : List Int) (r2 : Bool) (r3 : Int × List (List Int)) (S : Nat → Prop) (L : List Asr) (w : World) (e : Ending) (w' : World) : Prop :=
  ∃ (Ar1 : Option Addr) (cr1 : Nat), e = .returned (.tuple #[.slice Ar1 r1.length cr1, .bool r2]) ∧ SL (cells b0 41 [.chan (some b1), .bool s0_1].toArray :: chano b1 (inn (Kd.int .u8) 5) r3 :: row (Kd.int .u8) 5 (.slice Ar1 r1.length cr1) r1 :: L) w' S ∧ Keep S w w'
set_option maxHeartbeats 8000000 in
set_option maxRecDepth 100000 in
theorem outbox_Box_take.slcalls (b0 : Nat) (s0_1 : Bool) (b1 : Nat) (sm1 : Int × List (List Int)) (r1 : List Int) (r2 : Bool) (r3 : Int × List (List Int)) (S : Nat → Prop) (L : List Asr) (w : World) (hf : Fresh S w) (hs : SL (cells b0 41 [.chan (some b1), .bool s0_1].toArray :: chano b1 (inn (Kd.int .u8) 5) sm1 :: L) w S) (h : outbox_Box_take.f s0_1 sm1 = some (r1, r2, r3)) :
    Calls Try.prog 18 #[.pointer (some ⟨b0, 0, none⟩)] w (outbox_Box_take.Post b0 b1 s0_1 r1 r2 r3 S L w) := by
  have hu41 := Try.underlying41
  have hb_ := SL.at_ hs
  have hz0 := ((blk_cell hb_ 0).trans rfl : _ = some (Value.chan (some b1)))
  have hz1 := ((blk_cell hb_ 1).trans rfl : _ = some (.bool s0_1))
  clear hb_
  go_enter Try.func18, Try.ntmps18
  try go_upto_region 2 with (fail)
  rename_i K hK
  refine ops_region ?_
  obtain ⟨vs, hl, hs2⟩ := chan_open (SL.get1 hs)
  obtain ⟨_, s, r, hc⟩ := chraw_at hs2
  unfold outbox_Box_take.f at h
  obtain ⟨cap, xs⟩ := sm1
  cases xs with
  | nil =>
    simp only [Option.some.injEq, Prod.mk.injEq] at h
    obtain ⟨rfl, rfl, rfl⟩ := h
    have hv : vs = [] := List.eq_nil_of_length_eq_zero hl
    subst hv
    refine ops_recv0 (i := 0) (rest := [1, 2]) (c := b1) (z := .slice none 0 0) rfl (by rfl) (by go_simp; rfl) hc ?_
    refine ops_value (i := 1) (v := .int .i64 (-1)) (w1 := w) rfl (by rfl) (by go_simp) ?_
    refine ops_value (i := 2) (v := .bool false) (w1 := w) rfl (by rfl) (by go_simp) ?_
    refine ops_done (hK _ _ ?_)
    clear hK K
    go_wp2
    go_ret2
    refine ⟨none, 0, rfl, ?_, Keep.refl _ _⟩
    exact SL.back2 (SL.nil_row _ _ hs)
  | cons x xs =>
    simp only [Option.some.injEq, Prod.mk.injEq] at h
    obtain ⟨rfl, rfl, rfl⟩ := h
    cases vs with
    | nil => simp at hl
    | cons v vs =>
    have hs2' : SL (chraw b1 cap.toNat (v :: vs) :: inn (Kd.int .u8) 5 x [v] :: (List.zipWith (inn (Kd.int .u8) 5) xs (vs.map fun v => [v]) ++ cells b0 41 #[.chan (some b1), .bool s0_1] :: L)) w S := hs2
    clear hs2
    have hH : ∃ A c, v = .slice A x.length c := by
      obtain ⟨T, U, _, _, _, ⟨v', hv', hq⟩, _⟩ := SL.get1 hs2'
      obtain ⟨A, c, hA, _⟩ := Qs_reads hq
      injection hv' with hv' _
      exact ⟨A, c, hv'.trans hA⟩
    obtain ⟨A1, c1, rfl⟩ := hH
    obtain ⟨hs3, hk3⟩ := chraw_set hs2' vs s (r + 1)
    refine ops_recv (i := 0) (rest := [1, 2]) (c := b1) (z := .slice none 0 0) rfl (by rfl) (by go_simp; rfl) hc ?_
    generalize hw3 : w.setChan b1 cap.toNat vs.toArray false s (r + 1) false = w3 at hs3 hk3
    refine ops_value (i := 1) (v := .int .i64 0) (w1 := w3) rfl (by rfl) (by go_simp) ?_
    refine ops_value (i := 2) (v := .bool true) (w1 := w3) rfl (by rfl) (by go_simp) ?_
    refine ops_done (hK _ _ ?_)
    clear hK K
    go_wp2
    go_ret2
    refine ⟨A1, c1, rfl, ?_, hk3⟩
    have h5 : SL (row (Kd.int .u8) 5 (.slice A1 x.length c1) x :: chraw b1 cap.toNat vs :: (List.zipWith (inn (Kd.int .u8) 5) xs (vs.map fun v => [v]) ++ cells b0 41 #[.chan (some b1), .bool s0_1] :: L)) w3 S := SL.imp (fun T h_ => by
      obtain ⟨v', hv', hq⟩ := h_
      injection hv' with hv' _
      subst hv'
      exact hq) (SL.get1 hs3)
    have hl' : vs.length = xs.length := by simpa using hl
    refine SL.get1 (chan_close (D := (cap, xs)) hl' (SL.perm ?_ h5))
    refine (List.Perm.swap _ _ _).trans (List.Perm.cons _ ?_)
    have := (List.perm_middle (a := row (Kd.int .u8) 5 (.slice A1 x.length c1) x) (l₁ := List.zipWith (inn (Kd.int .u8) 5) xs (vs.map fun v => [v]) ++ [cells b0 41 #[.chan (some b1), .bool s0_1]]) (l₂ := L)).symm
    simpa using this

/-! ### outbox_Box_forget_i1: function 17 -/
def outbox_Box_forget_i1.l0 : Nat → Bool → (Int × List (List Int)) → Option ((Int × List (List Int)))
  | 0, _, _ => none
  | k + 1, s0_1, y1_0 => (outbox_Box_take.f s0_1 y1_0).bind fun bt118 => (if bt118.2.1 = true then (outbox_Box_forget_i1.l0 k s0_1 bt118.2.2) else (some bt118.2.2))
def outbox_Box_forget_i1.f (k : Nat) (s0_1 : Bool) (sm1 : Int × List (List Int)) : Option ((Int × List (List Int))) := outbox_Box_forget_i1.l0 k s0_1 sm1
theorem outbox_Box_forget_i1.mono_l : ∀ k, (∀ y0 y1, LeO (outbox_Box_forget_i1.l0 k y0 y1) (outbox_Box_forget_i1.l0 (k + 1) y0 y1))
  | 0 => fun _ _ r h => by simp [outbox_Box_forget_i1.l0] at h
  | k + 1 => by
    have ih0 := outbox_Box_forget_i1.mono_l k
    · intro y0 y1
      unfold outbox_Box_forget_i1.l0
      repeat' first
      | (with_reducible exact ih0 _ _)
      | (with_reducible exact LeO.refl _)
      | (with_reducible exact LeO.none _)
      | (with_reducible refine LeO.ite ?_ ?_)
      | (with_reducible refine everyOf_le (fun _ => ?_))
      | (with_reducible refine LeO.bind ?_ (fun _ => ?_))
      | exact ih0 _ _
      | exact LeO.none _
      | refine LeO.ite ?_ ?_
      | refine LeO.bind ?_ (fun _ => ?_)
theorem outbox_Box_forget_i1.mono : ∀ a0 a1 k, LeO (outbox_Box_forget_i1.f k a0 a1) (outbox_Box_forget_i1.f (k + 1) a0 a1) := by
  intro a0 a1 k
  have ih0 := outbox_Box_forget_i1.mono_l k
  unfold outbox_Box_forget_i1.f
  repeat' first
      | (with_reducible exact ih0 _ _)
      | (with_reducible exact LeO.refl _)
      | (with_reducible exact LeO.none _)
      | (with_reducible refine LeO.ite ?_ ?_)
      | (with_reducible refine everyOf_le (fun _ => ?_))
      | (with_reducible refine LeO.bind ?_ (fun _ => ?_))
      | exact ih0 _ _
      | exact LeO.none _
      | refine LeO.ite ?_ ?_
      | refine LeO.bind ?_ (fun _ => ?_)
def outbox_Box_forget_i1.Post (b0 : Nat) (s0_1 : Bool) (b1 : Nat) (r : Int × List (List Int)) (S : Nat → Prop) (L : List Asr) (w : World) (e : Ending) (w' : World) : Prop := e = .returned (.tuple #[]) ∧ SL (cells b0 41 [.chan (some b1), .bool s0_1].toArray :: chano b1 (inn (Kd.int .u8) 5) r :: L) w' S ∧ Keep S w w'
set_option maxHeartbeats 8000000 in
set_option maxRecDepth 100000 in
theorem outbox_Box_forget_i1.slcalls (k : Nat) (b0 : Nat) (s0_1 : Bool) (b1 : Nat) (sm1 : Int × List (List Int)) (r : Int × List (List Int)) (S : Nat → Prop) (L : List Asr) (w : World) (hf : Fresh S w) (hs : SL (cells b0 41 [.chan (some b1), .bool s0_1].toArray :: chano b1 (inn (Kd.int .u8) 5) sm1 :: L) w S) (h : outbox_Box_forget_i1.f k s0_1 sm1 = some r) :
    Calls Try.prog 17 #[.pointer (some ⟨b0, 0, none⟩)] w (outbox_Box_forget_i1.Post b0 s0_1 b1 r S L w) := by
  have HF := Aside0.mk hf
  have HS := Aside0.mk hs
  have HK := Aside0.mk (Keep.refl S w)
  clear hf hs
  have H : (outbox_Box_forget_i1.l0 k s0_1 sm1) = some r := h
  clear h
  have H' := Aside0.mk H
  clear H
  go_enter Try.func17, Try.ntmps17
  go_wp2
  go_loopg [] k (fun kq w' => ∃ (y1_0 : Int × List (List Int)), Aside0 (outbox_Box_forget_i1.l0 kq s0_1 y1_0 = some r) ∧ Aside0 (kq ≤ k) ∧ Aside0 (SL (cells b0 41 [.chan (some b1), .bool s0_1].toArray :: chano b1 (inn (Kd.int .u8) 5) y1_0 :: L) w' S) ∧ Aside0 (Keep S w w'))
  case atStart => exact ⟨(sm1), H', ⟨Nat.le_refl _⟩, HS, HK⟩
  case round =>
    clear H' HS HK
    obtain ⟨y1_0, HA, HQ1, HS, HK⟩ := hrel
    cases gk with
    | zero => exact absurd HA.out (by simp [outbox_Box_forget_i1.l0])
    | succ k1 =>
      have H := HA.out
      clear HA
      simp only [outbox_Box_forget_i1.l0] at H
      replace H := Option.bind_eq_some_iff.1 H
      obtain ⟨⟨t118, t119, t120⟩, Hc10, H⟩ := H
      try dsimp only at H
      have Hc1 := Aside0.mk Hc10
      clear Hc10
      by_cases c2 : t119 = true
      · subst c2
        rw [if_pos rfl] at H
        have H' := Aside0.mk H
        clear H
        go_wp2_with (first | ((with_reducible refine gate_dst (N := 6) rfl ?_); refine goesL_ (some 6) rfl rfl Try.func18 (by kernel_rfl) rfl #[.pointer (some ⟨b0, 0, none⟩)] rfl (by (try simp only [List.map_toArray, List.map_cons, List.map_nil]); first | done | rfl | (simp; done)) ?_; have hs0_ := (SL.get1 (SL.get1 HS.out)); (with_reducible refine (outbox_Box_take.slcalls _ _ _ _ _ _ _ _ _ _ (HF.out.keep HK.out) hs0_  Hc1.out).mono ?_); rintro e_ w3 ⟨Az3000005, cz3000005, rfl, hsr_, hkr_⟩; refine ⟨_, rfl, ?_⟩; replace HS := Aside0.mk (hsr_); replace HK := Aside0.mk (HK.out.trans hkr_)))
        replace HS := Aside0.mk (SL.tail (SL.get2 HS.out))
        go_roundg k1
        case measure => have := HQ1.out; omega
        case rel => exact ⟨(t120), H', ⟨by have := HQ1.out; omega⟩, HS, HK⟩
      · replace c2 := Bool.eq_false_iff.mpr c2
        subst c2
        rw [if_neg (show ¬ (false = true) by decide)] at H
        obtain rfl := Option.some.inj H
        go_wp2_with (first | ((with_reducible refine gate_dst (N := 6) rfl ?_); refine goesL_ (some 6) rfl rfl Try.func18 (by kernel_rfl) rfl #[.pointer (some ⟨b0, 0, none⟩)] rfl (by (try simp only [List.map_toArray, List.map_cons, List.map_nil]); first | done | rfl | (simp; done)) ?_; have hs0_ := (SL.get1 (SL.get1 HS.out)); (with_reducible refine (outbox_Box_take.slcalls _ _ _ _ _ _ _ _ _ _ (HF.out.keep HK.out) hs0_  Hc1.out).mono ?_); rintro e_ w4 ⟨Az3000005, cz3000005, rfl, hsr_, hkr_⟩; refine ⟨_, rfl, ?_⟩; replace HS := Aside0.mk (hsr_); replace HK := Aside0.mk (HK.out.trans hkr_)))
        first | go_end0 | ((try simp only [Exit.inBlock, Exit.then]); refine bodyPost_ret (results_none rfl _ _ _) rfl ?_)
        replace HS := Aside0.mk (SL.tail (SL.get2 HS.out))
        unfold outbox_Box_forget_i1.Post
        exact ⟨by first | rfl | (simp; done) | (simp [*]; done), HS.out, HK.out⟩

/-! ### outbox_Box_Put: function 13, by hand -/
def outbox_Box_Put.f (k : Nat) (l1 : List Int) (s0_1 : Bool) (sm1 : Int × List (List Int)) : Option (Bool × Bool × (Int × List (List Int))) := if s0_1 = true then some (false, s0_1, sm1) else (slices_Clone_byte_byte.f l1).bind fun y => if (sm1.2.length : Int) < sm1.1 then some (true, s0_1, (sm1.1, sm1.2 ++ [y])) else (outbox_Box_forget_i1.f k s0_1 sm1).bind fun t => some (false, true, t)
theorem outbox_Box_Put.mono : ∀ a0 a1 a2 k, LeO (outbox_Box_Put.f k a0 a1 a2) (outbox_Box_Put.f (k + 1) a0 a1 a2) := by
  intro a0 a1 a2 k
  unfold outbox_Box_Put.f
  repeat' first
      | (with_reducible exact outbox_Box_forget_i1.mono _ _ _)
      | (with_reducible exact LeO.refl _)
      | (with_reducible refine LeO.ite ?_ ?_)
      | (with_reducible refine LeO.bind ?_ (fun _ => ?_))
def outbox_Box_Put.Post (b0 : Nat) (b1 : Nat) (r1 : Bool) (r2 : Bool) (r3 : Int × List (List Int)) (S : Nat → Prop) (L : List Asr) (w : World) (e : Ending) (w' : World) : Prop :=
  e = .returned (.bool r1) ∧ SL (cells b0 41 [.chan (some b1), .bool r2].toArray :: chano b1 (inn (Kd.int .u8) 5) r3 :: L) w' S ∧ Keep S w w'
set_option maxHeartbeats 8000000 in
set_option maxRecDepth 100000 in
theorem outbox_Box_Put.slcalls (k : Nat) (A1 : Option Addr) (c1 : Nat) (l1 : List Int) (b0 : Nat) (s0_1 : Bool) (b1 : Nat) (sm1 : Int × List (List Int)) (r1 : Bool) (r2 : Bool) (r3 : Int × List (List Int)) (S : Nat → Prop) (L : List Asr) (w : World) (hf : Fresh S w) (hs : SL (cells b0 41 [.chan (some b1), .bool s0_1].toArray :: chano b1 (inn (Kd.int .u8) 5) sm1 :: L) w S) (hr1 : RO S w (fun w_ => Kd.C (Kd.int .u8) w_ A1 l1.length l1)) (hc1 : l1.length ≤ c1) (h : outbox_Box_Put.f k l1 s0_1 sm1 = some (r1, r2, r3)) :
    Calls Try.prog 13 #[.pointer (some ⟨b0, 0, none⟩), .slice A1 l1.length c1] w (outbox_Box_Put.Post b0 b1 r1 r2 r3 S L w) := by
  have hu41 := Try.underlying41
  have HF := Aside0.mk hf
  have HS := Aside0.mk hs
  have HK := Aside0.mk (Keep.refl S w)
  have HR1 := Aside0.mk hr1
  have HC1 := Aside0.mk hc1
  clear hf hs hr1 hc1
  have hb_ := SL.at_ HS.out
  have hz0 := ((blk_cell hb_ 0).trans rfl : _ = some (Value.chan (some b1)))
  have hz1 := ((blk_cell hb_ 1).trans rfl : _ = some (.bool s0_1))
  clear hb_
  unfold outbox_Box_Put.f at h
  cases s0_1 with
  | true =>
    rw [if_pos rfl] at h
    simp only [Option.some.injEq, Prod.mk.injEq] at h
    obtain ⟨rfl, rfl, rfl⟩ := h
    go_enter Try.func13, Try.ntmps13
    go_wp2
    go_ret
    exact ⟨rfl, HS.out, HK.out⟩
  | false =>
    rw [if_neg (by decide)] at h
    obtain ⟨y, hy, h⟩ := Option.bind_eq_some_iff.1 h
    have HY := Aside0.mk hy
    have H := Aside0.mk h
    clear hy h
    go_enter Try.func13, Try.ntmps13
    go_upto_region 5 with (first | ((with_reducible refine gate_dst (N := 14) rfl ?_); refine goesL_ (some 14) rfl rfl Try.func19 (by kernel_rfl) rfl #[.slice A1 l1.length c1] rfl (by (try simp only [List.map_toArray, List.map_cons, List.map_nil]); first | done | rfl | (simp; done)) ?_; (with_reducible refine (slices_Clone_byte_byte.calls _ _ _ _ _ (RO.at_ HR1.out HK.out) HC1.out HY.out).mono ?_); rintro e_ w2 ⟨v_, rfl, ho_, hb_⟩; refine ⟨_, rfl, ?_⟩; have hs_ := (SL.new (HF.out.keep HK.out) HS.out hb_ (row_of_R ho_)).1; obtain ⟨Ay, cy, e2_, _, _⟩ := SL.row_reads hs_; subst e2_; replace HS := Aside0.mk hs_; replace HK := Aside0.mk (HK.out.trans (Keep.below hb_)); clear hs_ ho_ hb_))
    rename_i K hK
    have H := H.out
    obtain ⟨cap, xs⟩ := sm1
    obtain ⟨vs, hl, hs2⟩ := chan_open (SL.get2 HS.out)
    obtain ⟨_, s, r, hc⟩ := chraw_at hs2
    have hl' : vs.length = xs.length := hl
    by_cases cl : (xs.length : Int) < cap
    · rw [if_pos cl] at H
      simp only [Option.some.injEq, Prod.mk.injEq] at H
      obtain ⟨rfl, rfl, rfl⟩ := H
      obtain ⟨hs3, hk3⟩ := chraw_set hs2 (vs ++ [Value.slice Ay y.length cy]) (s + 1) r
      refine ops_region ?_
      refine ops_send (i := 0) (rest := [1, 2]) (c := b1) (v := .slice Ay y.length cy) (z := .slice none 0 0) rfl (by rfl) (by go_simp; rfl) hc (by omega) ?_
      generalize hw3 : w2.setChan b1 cap.toNat (vs ++ [Value.slice Ay y.length cy]).toArray false (s + 1) r false = w3 at hs3 hk3
      refine ops_value (i := 1) (v := .int .i64 0) (w1 := w3) rfl (by rfl) (by go_simp) ?_
      refine ops_value (i := 2) (v := .bool true) (w1 := w3) rfl (by rfl) (by go_simp) ?_
      refine ops_done (hK _ _ ?_)
      clear hK K
      go_wp2
      go_ret
      refine ⟨rfl, ?_, HK.out.trans hk3⟩
      have h5 : SL (inn (Kd.int .u8) 5 y [.slice Ay y.length cy] :: chraw b1 cap.toNat (vs ++ [Value.slice Ay y.length cy]) :: (List.zipWith (inn (Kd.int .u8) 5) xs (vs.map fun v => [v]) ++ cells b0 41 [.chan (some b1), .bool false].toArray :: L)) w3 S :=
        SL.imp (A := row (Kd.int .u8) 5 (.slice Ay y.length cy) y) (fun T hT => ⟨_, rfl, hT⟩) (SL.perm ?_ hs3)
      · refine SL.get1 (chan_close (D := (cap, xs ++ [y])) (vs := vs ++ [Value.slice Ay y.length cy]) (by simp [hl']) (SL.perm ?_ h5))
        rw [List.map_append, List.zipWith_append (by simp [hl']), List.append_assoc]
        refine (List.Perm.swap _ _ _).trans (List.Perm.cons _ ?_)
        exact (List.perm_middle (l₁ := List.zipWith (inn (Kd.int .u8) 5) xs (vs.map fun v => [v]))).symm
      · refine List.Perm.trans (List.Perm.cons _ ?_) (List.Perm.swap _ _ _)
        exact List.perm_middle (a := row (Kd.int .u8) 5 (.slice Ay y.length cy) y) (l₁ := List.zipWith (inn (Kd.int .u8) 5) xs (vs.map fun v => [v]))
    · rw [if_neg cl] at H
      obtain ⟨t, ht, H⟩ := Option.bind_eq_some_iff.1 H
      have HT := Aside0.mk ht
      simp only [Option.some.injEq, Prod.mk.injEq] at H
      obtain ⟨rfl, rfl, rfl⟩ := H
      clear ht
      refine ops_region ?_
      refine ops_send1 (i := 0) (rest := [1, 2]) (c := b1) (v := .slice Ay y.length cy) (z := .slice none 0 0) rfl (by rfl) (by go_simp; rfl) hc (by simp only; omega) ?_
      refine ops_value (i := 1) (v := .int .i64 (-1)) (w1 := w2) rfl (by rfl) (by go_simp) ?_
      refine ops_value (i := 2) (v := .bool false) (w1 := w2) rfl (by rfl) (by go_simp) ?_
      refine ops_done (hK _ _ ?_)
      clear hK K hs2 hc
      replace HS := Aside0.mk (SL.tail HS.out)
      go_wp2_with (first | ((with_reducible refine gate_dst (N := 19) rfl ?_); refine goesL_ (some 19) rfl rfl Try.func17 (by kernel_rfl) rfl #[.pointer (some ⟨b0, 0, none⟩)] rfl (by (try simp only [List.map_toArray, List.map_cons, List.map_nil]); first | done | rfl | (simp; done)) ?_; (with_reducible refine (outbox_Box_forget_i1.slcalls k _ _ _ _ _ _ _ _ (HF.out.keep HK.out) HS.out HT.out).mono ?_); rintro e_ w4 ⟨rfl, hsr_, hkr_⟩; refine ⟨_, rfl, ?_⟩; replace HS := Aside0.mk hsr_; replace HK := Aside0.mk (HK.out.trans hkr_); clear hsr_ hkr_; try clear hz0 hz1; have hb_ := SL.at_ HS.out; have hz3 := ((blk_cell hb_ 0).trans rfl : _ = some (Value.chan (some b1))); have hz4 := ((blk_cell hb_ 1).trans rfl : _ = some (.bool false)); clear hb_) | ((with_reducible refine gate_store (t := 4) (p := 22) (v := (.const (.bool true))) rfl ?_); refine wpList_plain rfl (fun K_ hK_ => ?_); refine op_store (S := S) 4 (.tmp 22) (.const (.bool true)) rfl b0 1 (.bool true) [.bool true] rfl rfl rfl (by kernel_rfl) (by simp [Value.oneCell']) HS.out (by simp) ?_; intro w5 hs_ hk_; refine hK_ _ _ ?_; clear hK_ K_; replace HS := Aside0.mk ((show SL (cells b0 41 [.chan (some b1), .bool true].toArray :: _) _ _ from hs_)); replace HK := Aside0.mk (HK.out.trans hk_); clear hs_ hk_))
      go_ret
      exact ⟨rfl, HS.out, HK.out⟩

/-! ### outbox_Box_Len_i1: function 15 -/
def outbox_Box_Len_i1.f (s0_1 : Bool) (sm1 : Int × List (List Int)) : Option (Int) := some (sm1.2.length : Int)
def outbox_Box_Len_i1.Post (b0 : Nat) (s0_1 : Bool) (b1 : Nat) (sm1 : Int × List (List Int)) (r : Int) (S : Nat → Prop) (L : List Asr) (w : World) (e : Ending) (w' : World) : Prop := e = .returned (.int .i64 r) ∧ SL (cells b0 41 [.chan (some b1), .bool s0_1].toArray :: chano b1 (inn (Kd.int .u8) 5) sm1 :: L) w' S ∧ Keep S w w'
set_option maxHeartbeats 8000000 in
set_option maxRecDepth 100000 in
theorem outbox_Box_Len_i1.slcalls (b0 : Nat) (s0_1 : Bool) (b1 : Nat) (sm1 : Int × List (List Int)) (r : Int) (S : Nat → Prop) (L : List Asr) (w : World) (hf : Fresh S w) (hs : SL (cells b0 41 [.chan (some b1), .bool s0_1].toArray :: chano b1 (inn (Kd.int .u8) 5) sm1 :: L) w S) (h : outbox_Box_Len_i1.f s0_1 sm1 = some r) :
    Calls Try.prog 15 #[.pointer (some ⟨b0, 0, none⟩)] w (outbox_Box_Len_i1.Post b0 s0_1 b1 sm1 r S L w) := by
  have HF := Aside0.mk hf
  have HS := Aside0.mk hs
  have HK := Aside0.mk (Keep.refl S w)
  clear hf hs
  have H : (some (sm1.2.length : Int)) = some r := h
  clear h
  obtain rfl := Option.some.inj H
  have hb_ := SL.at_ HS.out
  have hz0_0_0 := ((blk_cell hb_ 0).trans rfl : _ = some (.chan (some b1)))
  have hz0_1_0 := ((blk_cell hb_ 1).trans rfl : _ = some (.bool s0_1))
  clear hb_
  go_enter Try.func15, Try.ntmps15
  go_wp2_with (first | ((with_reducible refine gate_dst (N := 7) rfl ?_); refine wpList_plain rfl (fun K_ hK_ => ?_); refine op_chanLen (.tmp 6) rfl Try.underlying39 b1 rfl (SL.get1 HS.out) ?_; refine hK_ _ _ ?_; clear hK_ K_))
  go_ret
  unfold outbox_Box_Len_i1.Post
  exact ⟨by first | rfl | (simp; done) | (simp [*]; done), HS.out, HK.out⟩

/-! ### outbox_Box_Lost_i1: function 16 -/
def outbox_Box_Lost_i1.f (s0_1 : Bool) (sm1 : Int × List (List Int)) : Option (Bool) := some s0_1
def outbox_Box_Lost_i1.Post (b0 : Nat) (s0_1 : Bool) (b1 : Nat) (sm1 : Int × List (List Int)) (r : Bool) (S : Nat → Prop) (L : List Asr) (w : World) (e : Ending) (w' : World) : Prop := e = .returned (.bool r) ∧ SL (cells b0 41 [.chan (some b1), .bool s0_1].toArray :: chano b1 (inn (Kd.int .u8) 5) sm1 :: L) w' S ∧ Keep S w w'
set_option maxHeartbeats 8000000 in
set_option maxRecDepth 100000 in
theorem outbox_Box_Lost_i1.slcalls (b0 : Nat) (s0_1 : Bool) (b1 : Nat) (sm1 : Int × List (List Int)) (r : Bool) (S : Nat → Prop) (L : List Asr) (w : World) (hf : Fresh S w) (hs : SL (cells b0 41 [.chan (some b1), .bool s0_1].toArray :: chano b1 (inn (Kd.int .u8) 5) sm1 :: L) w S) (h : outbox_Box_Lost_i1.f s0_1 sm1 = some r) :
    Calls Try.prog 16 #[.pointer (some ⟨b0, 0, none⟩)] w (outbox_Box_Lost_i1.Post b0 s0_1 b1 sm1 r S L w) := by
  have HF := Aside0.mk hf
  have HS := Aside0.mk hs
  have HK := Aside0.mk (Keep.refl S w)
  clear hf hs
  have H : (some s0_1) = some r := h
  clear h
  obtain rfl := Option.some.inj H
  have hb_ := SL.at_ HS.out
  have hz0_0_0 := ((blk_cell hb_ 0).trans rfl : _ = some (.chan (some b1)))
  have hz0_1_0 := ((blk_cell hb_ 1).trans rfl : _ = some (.bool s0_1))
  clear hb_
  go_enter Try.func16, Try.ntmps16
  go_wp2
  go_ret
  unfold outbox_Box_Lost_i1.Post
  exact ⟨by first | rfl | (simp; done) | (simp [*]; done), HS.out, HK.out⟩

/-! ### outbox_Box_Again_i1: function 8 -/
def outbox_Box_Again_i1.f (k : Nat) (s0_1 : Bool) (sm1 : Int × List (List Int)) : Option (Bool × (Int × List (List Int))) := (outbox_Box_forget_i1.f k s0_1 sm1).bind fun t136 => (some (false, t136))
theorem outbox_Box_Again_i1.mono : ∀ a0 a1 k, LeO (outbox_Box_Again_i1.f k a0 a1) (outbox_Box_Again_i1.f (k + 1) a0 a1) := by
  intro a0 a1 k
  unfold outbox_Box_Again_i1.f
  repeat' first
      | (with_reducible exact outbox_Box_forget_i1.mono _ _ _)
      | (with_reducible exact LeO.refl _)
      | (with_reducible exact LeO.none _)
      | (with_reducible refine LeO.ite ?_ ?_)
      | (with_reducible refine everyOf_le (fun _ => ?_))
      | (with_reducible refine LeO.bind ?_ (fun _ => ?_))
      | exact outbox_Box_forget_i1.mono _ _ _
      | exact LeO.none _
      | refine LeO.ite ?_ ?_
      | refine LeO.bind ?_ (fun _ => ?_)
def outbox_Box_Again_i1.Post (b0 : Nat) (b1 : Nat) (r1 : Bool) (r2 : Int × List (List Int)) (S : Nat → Prop) (L : List Asr) (w : World) (e : Ending) (w' : World) : Prop := e = .returned (.tuple #[]) ∧ SL (cells b0 41 [.chan (some b1), .bool r1].toArray :: chano b1 (inn (Kd.int .u8) 5) r2 :: L) w' S ∧ Keep S w w'
set_option maxHeartbeats 8000000 in
set_option maxRecDepth 100000 in
theorem outbox_Box_Again_i1.slcalls (k : Nat) (b0 : Nat) (s0_1 : Bool) (b1 : Nat) (sm1 : Int × List (List Int)) (r1 : Bool) (r2 : Int × List (List Int)) (S : Nat → Prop) (L : List Asr) (w : World) (hf : Fresh S w) (hs : SL (cells b0 41 [.chan (some b1), .bool s0_1].toArray :: chano b1 (inn (Kd.int .u8) 5) sm1 :: L) w S) (h : outbox_Box_Again_i1.f k s0_1 sm1 = some (r1, r2)) :
    Calls Try.prog 8 #[.pointer (some ⟨b0, 0, none⟩)] w (outbox_Box_Again_i1.Post b0 b1 r1 r2 S L w) := by
  have HF := Aside0.mk hf
  have HS := Aside0.mk hs
  have HK := Aside0.mk (Keep.refl S w)
  clear hf hs
  have H : ((outbox_Box_forget_i1.f k s0_1 sm1).bind fun t136 => (some (false, t136))) = some (r1, r2) := h
  clear h
  replace H := Option.bind_eq_some_iff.1 H
  obtain ⟨t136, Hc10, H⟩ := H
  try dsimp only at H
  have Hc1 := Aside0.mk Hc10
  clear Hc10
  simp only [Option.some.injEq, Prod.mk.injEq] at H
  obtain ⟨rfl, rfl⟩ := H
  go_enter Try.func8, Try.ntmps8
  go_wp2_with (first | ((with_reducible refine gate_dst (N := 3) rfl ?_); refine goesL_ (some 3) rfl rfl Try.func17 (by kernel_rfl) rfl #[.pointer (some ⟨b0, 0, none⟩)] rfl (by (try simp only [List.map_toArray, List.map_cons, List.map_nil]); first | done | rfl | (simp; done)) ?_; have hs0_ := (SL.get1 (SL.get1 HS.out)); (with_reducible refine (outbox_Box_forget_i1.slcalls k _ _ _ _ _ _ _ _ (HF.out.keep HK.out) hs0_  Hc1.out).mono ?_); rintro e_ w2 ⟨rfl, hsr_, hkr_⟩; refine ⟨_, rfl, ?_⟩; replace HS := Aside0.mk (hsr_); replace HK := Aside0.mk (HK.out.trans hkr_)) | ((with_reducible refine gate_store (t := 4) (p := 6) (v := (.const (.bool false))) rfl ?_); refine wpList_plain rfl (fun K_ hK_ => ?_); refine op_store (S := S) 4 (.tmp 6) (.const (.bool false)) rfl b0 1 (.bool false) [.bool false] rfl rfl rfl (by kernel_rfl) (by simp [Value.oneCell']) HS.out (by simp) ?_; intro w3 hs_ hk_; refine hK_ _ _ ?_; clear hK_ K_; replace HS := Aside0.mk ((show SL (cells b0 41 [.chan (some b1), .bool false].toArray :: _) _ _ from hs_)); replace HK := Aside0.mk (HK.out.trans hk_)))
  first | go_end0 | ((try simp only [Exit.inBlock, Exit.then]); refine bodyPost_ret (results_none rfl _ _ _) rfl ?_)
  unfold outbox_Box_Again_i1.Post
  exact ⟨by first | rfl | (simp; done) | (simp [*]; done), HS.out, HK.out⟩

/-! ### outbox_Box_Drain_i1: function 10 -/
def outbox_Box_Drain_i1.l0 : Nat → Bool → (List (List Int)) → Int → (Int × List (List Int)) → Int → Option ((List (List Int)) × (Int × List (List Int)))
  | 0, _, _, _, _, _ => none
  | k + 1, s0_1, x5_0, x16_0, y1_0, j160 => if x16_0 < j160 then ((outbox_Box_take.f s0_1 y1_0).bind fun bt161 => ((some (([bt161.1] : List (List Int)) : List (List Int))).bind fun y164 => (if x5_0.length + y164.length < 5864062014805 then ((some (x5_0 ++ y164 : List (List Int))).bind fun y165 => (outbox_Box_Drain_i1.l0 k s0_1 y165 (wrap64 (x16_0 + 1)) bt161.2.2 j160)) else (none)))) else (some (x5_0, y1_0))
def outbox_Box_Drain_i1.f (k : Nat) (a1 : Int) (s0_1 : Bool) (sm1 : Int × List (List Int)) : Option ((List (List Int)) × (Int × List (List Int))) := (some (mx a1 0 : Int)).bind fun j159 => ((some (mn j159 (sm1.2.length : Int) : Int)).bind fun j160 => (outbox_Box_Drain_i1.l0 k s0_1 ([] : List (List Int)) 0 sm1 j160))
theorem outbox_Box_Drain_i1.mono_l : ∀ k, (∀ y0 y1 y2 y3 y4, LeO (outbox_Box_Drain_i1.l0 k y0 y1 y2 y3 y4) (outbox_Box_Drain_i1.l0 (k + 1) y0 y1 y2 y3 y4))
  | 0 => fun _ _ _ _ _ r h => by simp [outbox_Box_Drain_i1.l0] at h
  | k + 1 => by
    have ih0 := outbox_Box_Drain_i1.mono_l k
    · intro y0 y1 y2 y3 y4
      unfold outbox_Box_Drain_i1.l0
      repeat' first
      | (with_reducible exact ih0 _ _ _ _ _)
      | (with_reducible exact LeO.refl _)
      | (with_reducible exact LeO.none _)
      | (with_reducible refine LeO.ite ?_ ?_)
      | (with_reducible refine everyOf_le (fun _ => ?_))
      | (with_reducible refine LeO.bind ?_ (fun _ => ?_))
      | exact ih0 _ _ _ _ _
      | exact LeO.none _
      | refine LeO.ite ?_ ?_
      | refine LeO.bind ?_ (fun _ => ?_)
theorem outbox_Box_Drain_i1.mono : ∀ a0 a1 a2 k, LeO (outbox_Box_Drain_i1.f k a0 a1 a2) (outbox_Box_Drain_i1.f (k + 1) a0 a1 a2) := by
  intro a0 a1 a2 k
  have ih0 := outbox_Box_Drain_i1.mono_l k
  unfold outbox_Box_Drain_i1.f
  repeat' first
      | (with_reducible exact ih0 _ _ _ _ _)
      | (with_reducible exact LeO.refl _)
      | (with_reducible exact LeO.none _)
      | (with_reducible refine LeO.ite ?_ ?_)
      | (with_reducible refine everyOf_le (fun _ => ?_))
      | (with_reducible refine LeO.bind ?_ (fun _ => ?_))
      | exact ih0 _ _ _ _ _
      | exact LeO.none _
      | refine LeO.ite ?_ ?_
      | refine LeO.bind ?_ (fun _ => ?_)
def outbox_Box_Drain_i1.Post (b0 : Nat) (s0_1 : Bool) (b1 : Nat) (r1 : List (List Int)) (r2 : Int × List (List Int)) (S : Nat → Prop) (L : List Asr) (w : World) (e : Ending) (w' : World) : Prop := ∃ (Ar1 : Option Addr) (cr1 : Nat), e = .returned (.slice Ar1 r1.length cr1) ∧ SL (cells b0 41 [.chan (some b1), .bool s0_1].toArray :: chano b1 (inn (Kd.int .u8) 5) r2 :: rows (inn (Kd.int .u8) 5) 1 32 (.slice Ar1 r1.length cr1) r1 :: L) w' S ∧ Keep S w w'
set_option maxHeartbeats 8000000 in
set_option maxRecDepth 100000 in
theorem outbox_Box_Drain_i1.slcalls (k : Nat) (a1 : Int) (b0 : Nat) (s0_1 : Bool) (b1 : Nat) (sm1 : Int × List (List Int)) (r1 : List (List Int)) (r2 : Int × List (List Int)) (S : Nat → Prop) (L : List Asr) (w : World) (hf : Fresh S w) (hs : SL (cells b0 41 [.chan (some b1), .bool s0_1].toArray :: chano b1 (inn (Kd.int .u8) 5) sm1 :: L) w S) (h : outbox_Box_Drain_i1.f k a1 s0_1 sm1 = some (r1, r2)) :
    Calls Try.prog 10 #[.pointer (some ⟨b0, 0, none⟩), .int .i64 a1] w (outbox_Box_Drain_i1.Post b0 s0_1 b1 r1 r2 S L w) := by
  have HF := Aside0.mk hf
  have HS := Aside0.mk hs
  have HK := Aside0.mk (Keep.refl S w)
  clear hf hs
  have H : ((some (mx a1 0 : Int)).bind fun j159 => ((some (mn j159 (sm1.2.length : Int) : Int)).bind fun j160 => (outbox_Box_Drain_i1.l0 k s0_1 ([] : List (List Int)) 0 sm1 j160))) = some (r1, r2) := h
  clear h
  replace H := Option.bind_eq_some_iff.1 H
  obtain ⟨j159, hj1590, H⟩ := H
  try dsimp only at H
  have hj159 := Option.some.inj hj1590
  clear hj1590
  have hj159_ : (if a1 < 0 then 0 else a1) = j159 := hj159
  replace H := Option.bind_eq_some_iff.1 H
  obtain ⟨j160, hj1600, H⟩ := H
  try dsimp only at H
  have hj160 := Option.some.inj hj1600
  clear hj1600
  have hj160_ : (if (sm1.2.length : Int) < j159 then (sm1.2.length : Int) else j159) = j160 := hj160
  have H' := Aside0.mk H
  clear H
  have hb_ := SL.at_ HS.out
  have hz0_0_0 := ((blk_cell hb_ 0).trans rfl : _ = some (.chan (some b1)))
  have hz0_1_0 := ((blk_cell hb_ 1).trans rfl : _ = some (.bool s0_1))
  clear hb_
  go_enter Try.func10, Try.ntmps10
  go_wp2_with (first | ((with_reducible refine gate_dst (N := 14) rfl ?_); refine wpList_plain rfl (fun K_ hK_ => ?_); refine op_chanLen (.tmp 13) rfl Try.underlying39 b1 rfl (SL.get1 HS.out) ?_; refine hK_ _ _ ?_; clear hK_ K_; have n2_ := Aside0.mk (rows_nil (inn (Kd.int .u8) 5) 1 32 HS.out); clear HS; have HS := n2_; clear n2_))
  go_loopg [5, 16] k (fun kq v5 v16 w' => ∃ (x5_0 : List (List Int)) (Ax5_0 : Option Addr) (cx5_0 : Nat) (y1_0 : Int × List (List Int)) (x16_0 : Int), v5 = .slice Ax5_0 x5_0.length cx5_0 ∧ v16 = .int .i64 x16_0 ∧ Aside0 (outbox_Box_Drain_i1.l0 kq s0_1 x5_0 x16_0 y1_0 j160 = some (r1, r2)) ∧ Aside0 (kq ≤ k) ∧ Aside0 (SL (rows (inn (Kd.int .u8) 5) 1 32 (.slice Ax5_0 x5_0.length cx5_0) x5_0 :: cells b0 41 [.chan (some b1), .bool s0_1].toArray :: chano b1 (inn (Kd.int .u8) 5) y1_0 :: L) w' S) ∧ Aside0 (Keep S w w'))
  case atStart => exact ⟨(([] : List (List Int))), (none), (0), (sm1), (0), (by first | rfl | (simp; done) | (simp [*]; done)), (by first | rfl | (simp; done) | (simp [*]; done)), H', ⟨Nat.le_refl _⟩, HS, HK⟩
  case round =>
    clear H' HS HK
    try clear hz0_0_0 hz0_1_0
    obtain ⟨x5_0, Ax5_0, cx5_0, y1_0, x16_0, rfl, rfl, HA, HQ1, HS, HK⟩ := hrel
    cases gk with
    | zero => exact absurd HA.out (by simp [outbox_Box_Drain_i1.l0])
    | succ k1 =>
      have H := HA.out
      clear HA
      simp only [outbox_Box_Drain_i1.l0] at H
      by_cases c2 : x16_0 < j160
      · rw [if_pos c2] at H
        have c2b0 : decide (x16_0 < j160) = true := decide_eq_true c2
        clear c2
        replace H := Option.bind_eq_some_iff.1 H
        obtain ⟨⟨t161, t162, t163⟩, Hc30, H⟩ := H
        try dsimp only at H
        have Hc3 := Aside0.mk Hc30
        clear Hc30
        replace H := Option.bind_eq_some_iff.1 H
        obtain ⟨y164, hy1640, H⟩ := H
        try dsimp only at H
        have hy164 := Option.some.inj hy1640
        clear hy1640
        have Ny164 := Aside0.mk hy164
        clear hy164
        by_cases c4 : x5_0.length + y164.length < 5864062014805
        · rw [if_pos c4] at H
          have LMc4 := Aside0.mk c4
          clear c4
          replace H := Option.bind_eq_some_iff.1 H
          obtain ⟨y165, hy1650, H⟩ := H
          try dsimp only at H
          have hy165 := Option.some.inj hy1650
          clear hy1650
          have Ny165 := Aside0.mk hy165
          clear hy165
          have H' := Aside0.mk H
          clear H
          go_wp2_with (first | ((with_reducible refine gate_dst (N := 20) rfl ?_); refine goesL_ (some 20) rfl rfl Try.func18 (by kernel_rfl) rfl #[.pointer (some ⟨b0, 0, none⟩)] rfl (by (try simp only [List.map_toArray, List.map_cons, List.map_nil]); first | done | rfl | (simp; done)) ?_; have hs0_ := (SL.get2 (SL.get2 HS.out)); (with_reducible refine (outbox_Box_take.slcalls _ _ _ _ _ _ _ _ _ _ (HF.out.keep HK.out) hs0_  Hc3.out).mono ?_); rintro e_ w5 ⟨Az3000009, cz3000009, rfl, hsr_, hkr_⟩; refine ⟨_, rfl, ?_⟩; replace HS := Aside0.mk (hsr_); replace HK := Aside0.mk (HK.out.trans hkr_)) | ((with_reducible refine gate_dst (N := 25) rfl ?_); refine wpList_plain rfl (fun K_ hK_ => ?_); refine op_rowR (K := (inn (Kd.int .u8) 5)) (n := 1) (S := S) 32 t161 [.slice Az3000009 t161.length cz3000009] (HF.out.keep HK.out) (SL.get2 HS.out) (fun _ _ h_ => ⟨_, rfl, h_⟩) (fun _ h_ => inn_len _ h_) y164 Ny164.out (by first | (go_simp; done) | (go_simp; rfl)) ?_; intro Az3000010 cz3000010 w6 hs_ hk_; refine hK_ _ _ ?_; clear hK_ K_; replace HS := Aside0.mk ((show SL (rows (inn (Kd.int .u8) 5) 1 32 (.slice Az3000010 1 cz3000010) y164 :: _) _ _ from hs_)); replace HK := Aside0.mk (HK.out.trans hk_)) | ((with_reducible refine gate_dst (N := 26) rfl ?_); have hs2_ := (SL.get3 HS.out); have e2_ := (rows_c (d := (Kd.slice 5 (Kd.int .u8))) reads_inn rfl (SL.tail hs2_)).1; refine wpList_plain rfl (fun K_ hK_ => ?_); refine op_appendR (S := S) (.tmp 23) (.tmp 25) 23 32 (.slice none 0 0) 24 rfl Try.underlying23 info32 rfl (by decide) (by decide) (.slice Ax5_0 x5_0.length cx5_0) rfl rfl (HF.out.keep HK.out) hs2_ (by have := LMc4.out; omega) y165 Ny165.out ?_; intro A166 c167 w7 hs_ hk_; refine hK_ _ _ ?_; clear hK_ K_; clear hs2_ e2_; replace HS := Aside0.mk ((SL.back2 (show SL (rows (inn (Kd.int .u8) 5) 1 32 (.slice A166 y165.length c167) y165 :: _) _ _ from hs_))); replace HK := Aside0.mk (HK.out.trans hk_)))
          replace HS := Aside0.mk (SL.get2 (SL.get1 (SL.get1 HS.out)))
          go_roundg k1
          case measure => have := HQ1.out; omega
          case rel => exact ⟨(y165), (A166), (c167), (t163), (wrap64 (x16_0 + 1)), (by first | rfl | (simp; done) | (simp [*]; done)), (by first | rfl | (simp; done) | (simp [*]; done)), H', ⟨by have := HQ1.out; omega⟩, HS, HK⟩
        · rw [if_neg c4] at H
          exact absurd H (by simp)
      · rw [if_neg c2] at H
        have c2b0 : decide (x16_0 < j160) = false := decide_eq_false c2
        clear c2
        simp only [Option.some.injEq, Prod.mk.injEq] at H
        obtain ⟨rfl, rfl⟩ := H
        go_wp2
        go_ret
        replace HS := Aside0.mk (SL.get2 (SL.get2 HS.out))
        unfold outbox_Box_Drain_i1.Post
        exact ⟨Ax5_0, cx5_0, by first | rfl | (simp; done) | (simp [*]; done) | (simp at c2b0 ⊢; first | exact c2b0 | (simp [c2b0]; done)), HS.out, HK.out⟩

/-! ### barrowref26_New: function 7 -/
def barrowref26_New.l199 : Nat → Int → Bool → Option ((List (List Int)) × Int × Bool)
  | 0, _, _ => none
  | k + 1, a0, x8_199 => if x8_199 = true then (some (([] : List (List Int)), 64, false)) else (some (([] : List (List Int)), a0, false))
def barrowref26_New.f (k : Nat) (a0 : Int) : Option ((List (List Int)) × Int × Bool) := if a0 < 1 then (barrowref26_New.l199 k a0 true) else (barrowref26_New.l199 k a0 (decide (a0 > 64)))
theorem barrowref26_New.mono_l : ∀ k, (∀ y0 y1, LeO (barrowref26_New.l199 k y0 y1) (barrowref26_New.l199 (k + 1) y0 y1))
  | 0 => fun _ _ r h => by simp [barrowref26_New.l199] at h
  | k + 1 => by
    have ih0 := barrowref26_New.mono_l k
    · intro y0 y1
      unfold barrowref26_New.l199
      repeat' first
      | (with_reducible exact ih0 _ _)
      | (with_reducible exact LeO.refl _)
      | (with_reducible exact LeO.none _)
      | (with_reducible refine LeO.ite ?_ ?_)
      | (with_reducible refine everyOf_le (fun _ => ?_))
      | (with_reducible refine LeO.bind ?_ (fun _ => ?_))
      | exact ih0 _ _
      | exact LeO.none _
      | refine LeO.ite ?_ ?_
      | refine LeO.bind ?_ (fun _ => ?_)
theorem barrowref26_New.mono : ∀ a0 k, LeO (barrowref26_New.f k a0) (barrowref26_New.f (k + 1) a0) := by
  intro a0 k
  have ih0 := barrowref26_New.mono_l k
  unfold barrowref26_New.f
  repeat' first
      | (with_reducible exact ih0 _ _)
      | (with_reducible exact LeO.refl _)
      | (with_reducible exact LeO.none _)
      | (with_reducible refine LeO.ite ?_ ?_)
      | (with_reducible refine everyOf_le (fun _ => ?_))
      | (with_reducible refine LeO.bind ?_ (fun _ => ?_))
      | exact ih0 _ _
      | exact LeO.none _
      | refine LeO.ite ?_ ?_
      | refine LeO.bind ?_ (fun _ => ?_)
def barrowref26_New.Post (r1 : List (List Int)) (r2 : Int) (r3 : Bool) (S : Nat → Prop) (L : List Asr) (w : World) (e : Ending) (w' : World) : Prop := ∃ (gr0 : Nat) (Ar1 : Option Addr) (cr1 : Nat), e = .returned (.pointer (some ⟨gr0, 0, none⟩)) ∧ SL (cells gr0 36 [.slice Ar1 r1.length cr1, .int .i64 r2, .bool r3].toArray :: rows (inn (Kd.int .u8) 5) 1 32 (.slice Ar1 r1.length cr1) r1 :: L) w' S ∧ Keep S w w'
set_option maxHeartbeats 8000000 in
set_option maxRecDepth 100000 in
theorem barrowref26_New.slcalls (k : Nat) (a0 : Int) (r1 : List (List Int)) (r2 : Int) (r3 : Bool) (S : Nat → Prop) (L : List Asr) (w : World) (hf : Fresh S w) (hs : SL (L) w S) (h : barrowref26_New.f k a0 = some (r1, r2, r3)) :
    Calls Try.prog 7 #[.int .i64 a0] w (barrowref26_New.Post r1 r2 r3 S L w) := by
  have HF := Aside0.mk hf
  have HS := Aside0.mk hs
  have HK := Aside0.mk (Keep.refl S w)
  clear hf hs
  have hu36 := Try.underlying36
  have H : (if a0 < 1 then (barrowref26_New.l199 k a0 true) else (barrowref26_New.l199 k a0 (decide (a0 > 64)))) = some (r1, r2, r3) := h
  clear h
  have H' := Aside0.mk H
  clear H
  go_enter Try.func7, Try.ntmps7
  try go_upto_region 1 with (fail)
  (try simp only [Act.put, sT, sZ, sS])
  go_cut [8] (fun v8 wc => ∃ (kq : Nat) (x8_199 : Bool), v8 = .bool x8_199 ∧ Aside0 (barrowref26_New.l199 kq a0 x8_199 = some (r1, r2, r3)) ∧ Aside0 (kq ≤ k) ∧ Aside0 (SL (L) wc S) ∧ Aside0 (Keep S w wc))
  case first =>
    have H := H'.out
    clear H'
    by_cases c1 : a0 < 1
    · rw [if_pos c1] at H
      have c1b0 : decide (a0 < 1) = true := decide_eq_true c1
      clear c1
      have H' := Aside0.mk H
      clear H
      go_wp2
      go_meet
      case rel => exact ⟨k, (true), (by first | rfl | (simp; done) | (simp [*]; done)), H', ⟨by omega⟩, HS, HK⟩
    · rw [if_neg c1] at H
      have c1b0 : decide (a0 < 1) = false := decide_eq_false c1
      clear c1
      have H' := Aside0.mk H
      clear H
      go_wp2
      go_meet
      case rel => exact ⟨k, (decide (a0 > 64)), (by first | rfl | (simp; done) | (simp [*]; done)), H', ⟨by omega⟩, HS, HK⟩
  case rest =>
    clear H' HS HK
    obtain ⟨kq, x8_199, rfl, HA, HQ1, HS, HK⟩ := hcut
    cases kq with
    | zero => exact absurd HA.out (by simp [barrowref26_New.l199])
    | succ k1 =>
      have H := HA.out
      clear HA
      simp only [barrowref26_New.l199] at H
      by_cases c2 : x8_199 = true
      · subst c2
        rw [if_pos rfl] at H
        simp only [Option.some.injEq, Prod.mk.injEq] at H
        obtain ⟨rfl, rfl, rfl⟩ := H
        go_wp2_with (first | ((with_reducible refine gate_dst (N := 11) rfl ?_); refine wpList_plain rfl (fun K_ hK_ => ?_); refine op_box (S := S) (cs := #[.slice none 0 0, .int .i64 64, .bool false]) (t := 36) (HF.out.keep HK.out) HS.out (by first | (go_simp; done) | (go_simp; rfl)) ?_; intro g3000013 w3 hs_ hk_; refine hK_ _ _ ?_; clear hK_ K_; replace HS := Aside0.mk (hs_); replace HK := Aside0.mk (HK.out.trans hk_); have n2_ := Aside0.mk (rows_nil (inn (Kd.int .u8) 5) 1 32 HS.out); clear HS; have HS := n2_; clear n2_))
        go_ret
        replace HS := Aside0.mk (SL.get1 HS.out)
        unfold barrowref26_New.Post
        exact ⟨g3000013, none, 0, by first | rfl | (simp; done) | (simp [*]; done), HS.out, HK.out⟩
      · replace c2 := Bool.eq_false_iff.mpr c2
        subst c2
        rw [if_neg (show ¬ (false = true) by decide)] at H
        simp only [Option.some.injEq, Prod.mk.injEq] at H
        obtain ⟨rfl, rfl, rfl⟩ := H
        go_wp2_with (first | ((with_reducible refine gate_dst (N := 11) rfl ?_); refine wpList_plain rfl (fun K_ hK_ => ?_); refine op_box (S := S) (cs := #[.slice none 0 0, .int .i64 a0, .bool false]) (t := 36) (HF.out.keep HK.out) HS.out (by first | (go_simp; done) | (go_simp; rfl)) ?_; intro g3000013 w4 hs_ hk_; refine hK_ _ _ ?_; clear hK_ K_; replace HS := Aside0.mk (hs_); replace HK := Aside0.mk (HK.out.trans hk_); have n2_ := Aside0.mk (rows_nil (inn (Kd.int .u8) 5) 1 32 HS.out); clear HS; have HS := n2_; clear n2_))
        go_ret
        replace HS := Aside0.mk (SL.get1 HS.out)
        unfold barrowref26_New.Post
        exact ⟨g3000013, none, 0, by first | rfl | (simp; done) | (simp [*]; done), HS.out, HK.out⟩

/-! ### barrowref26_Box_Again: function 9 -/
def barrowref26_Box_Again.f (s0_0 : List (List Int)) (s0_1 : Int) (s0_2 : Bool) : Option ((List (List Int)) × Bool) := some (([] : List (List Int)), false)
def barrowref26_Box_Again.Post (b0 : Nat) (s0_1 : Int) (r1 : List (List Int)) (r2 : Bool) (S : Nat → Prop) (L : List Asr) (w : World) (e : Ending) (w' : World) : Prop := ∃ (Ar1 : Option Addr) (cr1 : Nat), e = .returned (.tuple #[]) ∧ SL (cells b0 36 [.slice Ar1 r1.length cr1, .int .i64 s0_1, .bool r2].toArray :: rows (inn (Kd.int .u8) 5) 1 32 (.slice Ar1 r1.length cr1) r1 :: L) w' S ∧ Keep S w w'
set_option maxHeartbeats 8000000 in
set_option maxRecDepth 100000 in
theorem barrowref26_Box_Again.slcalls (b0 : Nat) (As0_0 : Option Addr) (cs0_0 : Nat) (s0_0 : List (List Int)) (s0_1 : Int) (s0_2 : Bool) (r1 : List (List Int)) (r2 : Bool) (S : Nat → Prop) (L : List Asr) (w : World) (hf : Fresh S w) (hs : SL (cells b0 36 [.slice As0_0 s0_0.length cs0_0, .int .i64 s0_1, .bool s0_2].toArray :: rows (inn (Kd.int .u8) 5) 1 32 (.slice As0_0 s0_0.length cs0_0) s0_0 :: L) w S) (h : barrowref26_Box_Again.f s0_0 s0_1 s0_2 = some (r1, r2)) :
    Calls Try.prog 9 #[.pointer (some ⟨b0, 0, none⟩)] w (barrowref26_Box_Again.Post b0 s0_1 r1 r2 S L w) := by
  have HF := Aside0.mk hf
  have HS := Aside0.mk hs
  have HK := Aside0.mk (Keep.refl S w)
  clear hf hs
  have H : (some (([] : List (List Int)), false)) = some (r1, r2) := h
  clear h
  simp only [Option.some.injEq, Prod.mk.injEq] at H
  obtain ⟨rfl, rfl⟩ := H
  go_enter Try.func9, Try.ntmps9
  go_wp2_with (first | ((with_reducible refine gate_store (t := 23) (p := 4) (v := (.const (.slice none 0 0))) rfl ?_); refine wpList_plain rfl (fun K_ hK_ => ?_); refine op_store (S := S) 23 (.tmp 4) (.const (.slice none 0 0)) rfl b0 0 (.slice none 0 0) [.slice none 0 0] rfl rfl rfl (by kernel_rfl) (by simp [Value.oneCell']) HS.out (by simp) ?_; intro w1 hs_ hk_; refine hK_ _ _ ?_; clear hK_ K_; replace HS := Aside0.mk ((show SL (cells b0 36 [.slice none 0 0, .int .i64 s0_1, .bool s0_2].toArray :: _) _ _ from hs_)); replace HK := Aside0.mk (HK.out.trans hk_)) | ((with_reducible refine gate_store (t := 4) (p := 7) (v := (.const (.bool false))) rfl ?_); refine wpList_plain rfl (fun K_ hK_ => ?_); refine op_store (S := S) 4 (.tmp 7) (.const (.bool false)) rfl b0 2 (.bool false) [.bool false] rfl rfl rfl (by kernel_rfl) (by simp [Value.oneCell']) HS.out (by simp) ?_; intro w2 hs_ hk_; refine hK_ _ _ ?_; clear hK_ K_; replace HS := Aside0.mk ((show SL (cells b0 36 [.slice none 0 0, .int .i64 s0_1, .bool false].toArray :: _) _ _ from hs_)); replace HK := Aside0.mk (HK.out.trans hk_); have n2_ := Aside0.mk (rows_nil (inn (Kd.int .u8) 5) 1 32 HS.out); clear HS; have HS := n2_; clear n2_))
  first | go_end0 | ((try simp only [Exit.inBlock, Exit.then]); refine bodyPost_ret (results_none rfl _ _ _) rfl ?_)
  replace HS := Aside0.mk (SL.get1 (SL.tail (SL.get2 HS.out)))
  unfold barrowref26_Box_Again.Post
  exact ⟨none, 0, by first | rfl | (simp; done) | (simp [*]; done), HS.out, HK.out⟩

end Go.Proofs.Ytebllndphechmaa.XOB
