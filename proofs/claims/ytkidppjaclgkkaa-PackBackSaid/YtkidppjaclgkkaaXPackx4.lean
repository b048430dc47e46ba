-- Written by xprint.py (a program of this session) for this claim
import Derived.Test.YtkidppjaclgkkaaXPackx0
import Derived.Test.YtkidppjaclgkkaaXPackx1
namespace Go.Proofs.Ytkidppjaclgkkaa.XPack
open Go.Proofs.YtkidppjaclgkkaaV
open Go.RowKit Go.Proofs.YtkidppjaclgkkaaW.PrintWords Go.Proofs.YtkidppjaclgkkaaW.PrintLast Go.Proofs.YtkidppjaclgkkaaW.PrintMore
attribute [local go_sem] max2_int min2_int max_two min_two max_three min_three max_four min_four   -- for this text's walks alone
set_option linter.unusedVariables false
set_option linter.unusedSimpArgs false

/-! ### barrowlaw03_small: function 7 -/
def barrowlaw03_small.f (k : Nat)  : Option (Bool) := (pack_ReadUint.f k (([9, 172, 2] : List Int)) 1).bind fun bt142 => ((pack_ReadUint.f k (([128, 0] : List Int)) 0).bind fun bt148 => ((pack_Uint.f k ([] : List Int) 300).bind fun t151 => (if (strOfNums t151).toList = ([172, 2] : List UInt8) then ((pack_Int.f k ([] : List Int) (-1)).bind fun t154 => (if (strOfNums t154).toList = ([1] : List UInt8) then ((pack_Int.f k ([] : List Int) 1).bind fun t157 => (if (strOfNums t157).toList = ([2] : List UInt8) then ((pack_Text.f k ([] : List Int) (⟨#[97, 98]⟩ : ByteArray)).bind fun t160 => (if (strOfNums t160).toList = ([2, 97, 98] : List UInt8) then (if bt142.1 = 300 then (if bt142.2.1 = 3 then (if bt142.2.2 = 0 then (if bt148.2.1 = 0 then (some (bt148.2.2 == 2)) else (none)) else (none)) else (none)) else (none)) else (none))) else (none))) else (none))) else (none))))
theorem barrowlaw03_small.mono : ∀ k, LeO (barrowlaw03_small.f k ) (barrowlaw03_small.f (k + 1) ) := by
  intro  k
  unfold barrowlaw03_small.f
  repeat' first
      | (with_reducible exact pack_Int.mono _ _ _)
      | (with_reducible exact pack_ReadUint.mono _ _ _)
      | (with_reducible exact pack_Text.mono _ _ _)
      | (with_reducible exact pack_Uint.mono _ _ _)
      | (with_reducible exact LeO.refl _)
      | (with_reducible exact LeO.none _)
      | (with_reducible refine LeO.ite ?_ ?_)
      | (with_reducible refine LeO.bind ?_ (fun _ => ?_))
      | exact pack_Int.mono _ _ _
      | exact pack_ReadUint.mono _ _ _
      | exact pack_Text.mono _ _ _
      | exact pack_Uint.mono _ _ _
      | exact LeO.none _
      | refine LeO.ite ?_ ?_
      | refine LeO.bind ?_ (fun _ => ?_)
set_option maxHeartbeats 8000000 in
set_option maxRecDepth 100000 in
theorem barrowlaw03_small.calls (k : Nat)  (r : Bool) (w : World) (h : barrowlaw03_small.f k  = some r) :
    Calls Try.prog 7 #[] w fun e w' => e = .returned (.bool r) ∧ Below w.heap.size w w' := by
  have HB := Aside0.mk (Below.refl w.heap.size w)
  have H : ((pack_ReadUint.f k (([9, 172, 2] : List Int)) 1).bind fun bt142 => ((pack_ReadUint.f k (([128, 0] : List Int)) 0).bind fun bt148 => ((pack_Uint.f k ([] : List Int) 300).bind fun t151 => (if (strOfNums t151).toList = ([172, 2] : List UInt8) then ((pack_Int.f k ([] : List Int) (-1)).bind fun t154 => (if (strOfNums t154).toList = ([1] : List UInt8) then ((pack_Int.f k ([] : List Int) 1).bind fun t157 => (if (strOfNums t157).toList = ([2] : List UInt8) then ((pack_Text.f k ([] : List Int) (⟨#[97, 98]⟩ : ByteArray)).bind fun t160 => (if (strOfNums t160).toList = ([2, 97, 98] : List UInt8) then (if bt142.1 = 300 then (if bt142.2.1 = 3 then (if bt142.2.2 = 0 then (if bt148.2.1 = 0 then (some (bt148.2.2 == 2)) else (none)) else (none)) else (none)) else (none)) else (none))) else (none))) else (none))) else (none))))) = some r := h
  clear h
  obtain ⟨y139, hy139⟩ : ∃ y_ : List Int, y_ = (([9, 172, 2] : List Int)) := ⟨_, rfl⟩
  replace H : ((pack_ReadUint.f k y139 1).bind fun bt142 => ((pack_ReadUint.f k (([128, 0] : List Int)) 0).bind fun bt148 => ((pack_Uint.f k ([] : List Int) 300).bind fun t151 => (if (strOfNums t151).toList = ([172, 2] : List UInt8) then ((pack_Int.f k ([] : List Int) (-1)).bind fun t154 => (if (strOfNums t154).toList = ([1] : List UInt8) then ((pack_Int.f k ([] : List Int) 1).bind fun t157 => (if (strOfNums t157).toList = ([2] : List UInt8) then ((pack_Text.f k ([] : List Int) (⟨#[97, 98]⟩ : ByteArray)).bind fun t160 => (if (strOfNums t160).toList = ([2, 97, 98] : List UInt8) then (if bt142.1 = 300 then (if bt142.2.1 = 3 then (if bt142.2.2 = 0 then (if bt148.2.1 = 0 then (some (bt148.2.2 == 2)) else (none)) else (none)) else (none)) else (none)) else (none))) else (none))) else (none))) else (none))))) = some r := by first | (rw [hy139]; with_reducible exact H) | (have H2_ := (Option.bind_some _ _).symm.trans H; rw [hy139]; with_reducible exact H2_) | (have H2_ := (Option.bind_some _ _).symm.trans H; with_reducible exact H2_) | with_reducible exact H | (rw [hy139]; exact H) | exact H
  have Ny139 := Aside0.mk hy139
  clear hy139
  replace H := Option.bind_eq_some_iff.mp H
  obtain ⟨⟨t142, t143, t144⟩, A10, H⟩ := H
  replace H : ((pack_ReadUint.f k (([128, 0] : List Int)) 0).bind fun bt148 => ((pack_Uint.f k ([] : List Int) 300).bind fun t151 => (if (strOfNums t151).toList = ([172, 2] : List UInt8) then ((pack_Int.f k ([] : List Int) (-1)).bind fun t154 => (if (strOfNums t154).toList = ([1] : List UInt8) then ((pack_Int.f k ([] : List Int) 1).bind fun t157 => (if (strOfNums t157).toList = ([2] : List UInt8) then ((pack_Text.f k ([] : List Int) (⟨#[97, 98]⟩ : ByteArray)).bind fun t160 => (if (strOfNums t160).toList = ([2, 97, 98] : List UInt8) then (if t142 = 300 then (if t143 = 3 then (if t144 = 0 then (if bt148.2.1 = 0 then (some (bt148.2.2 == 2)) else (none)) else (none)) else (none)) else (none)) else (none))) else (none))) else (none))) else (none)))) = some r := H
  have A1 := Aside0.mk A10
  clear A10
  obtain ⟨y145, hy145⟩ : ∃ y_ : List Int, y_ = (([128, 0] : List Int)) := ⟨_, rfl⟩
  replace H : ((pack_ReadUint.f k y145 0).bind fun bt148 => ((pack_Uint.f k ([] : List Int) 300).bind fun t151 => (if (strOfNums t151).toList = ([172, 2] : List UInt8) then ((pack_Int.f k ([] : List Int) (-1)).bind fun t154 => (if (strOfNums t154).toList = ([1] : List UInt8) then ((pack_Int.f k ([] : List Int) 1).bind fun t157 => (if (strOfNums t157).toList = ([2] : List UInt8) then ((pack_Text.f k ([] : List Int) (⟨#[97, 98]⟩ : ByteArray)).bind fun t160 => (if (strOfNums t160).toList = ([2, 97, 98] : List UInt8) then (if t142 = 300 then (if t143 = 3 then (if t144 = 0 then (if bt148.2.1 = 0 then (some (bt148.2.2 == 2)) else (none)) else (none)) else (none)) else (none)) else (none))) else (none))) else (none))) else (none)))) = some r := by first | (rw [hy145]; with_reducible exact H) | (have H2_ := (Option.bind_some _ _).symm.trans H; rw [hy145]; with_reducible exact H2_) | (have H2_ := (Option.bind_some _ _).symm.trans H; with_reducible exact H2_) | with_reducible exact H | (rw [hy145]; exact H) | exact H
  have Ny145 := Aside0.mk hy145
  clear hy145
  replace H := Option.bind_eq_some_iff.mp H
  obtain ⟨⟨t148, t149, t150⟩, A20, H⟩ := H
  replace H : ((pack_Uint.f k ([] : List Int) 300).bind fun t151 => (if (strOfNums t151).toList = ([172, 2] : List UInt8) then ((pack_Int.f k ([] : List Int) (-1)).bind fun t154 => (if (strOfNums t154).toList = ([1] : List UInt8) then ((pack_Int.f k ([] : List Int) 1).bind fun t157 => (if (strOfNums t157).toList = ([2] : List UInt8) then ((pack_Text.f k ([] : List Int) (⟨#[97, 98]⟩ : ByteArray)).bind fun t160 => (if (strOfNums t160).toList = ([2, 97, 98] : List UInt8) then (if t142 = 300 then (if t143 = 3 then (if t144 = 0 then (if t149 = 0 then (some (t150 == 2)) else (none)) else (none)) else (none)) else (none)) else (none))) else (none))) else (none))) else (none))) = some r := H
  have A2 := Aside0.mk A20
  clear A20
  replace H := Option.bind_eq_some_iff.mp H
  obtain ⟨t151, A30, H⟩ := H
  replace H : (if (strOfNums t151).toList = ([172, 2] : List UInt8) then ((pack_Int.f k ([] : List Int) (-1)).bind fun t154 => (if (strOfNums t154).toList = ([1] : List UInt8) then ((pack_Int.f k ([] : List Int) 1).bind fun t157 => (if (strOfNums t157).toList = ([2] : List UInt8) then ((pack_Text.f k ([] : List Int) (⟨#[97, 98]⟩ : ByteArray)).bind fun t160 => (if (strOfNums t160).toList = ([2, 97, 98] : List UInt8) then (if t142 = 300 then (if t143 = 3 then (if t144 = 0 then (if t149 = 0 then (some (t150 == 2)) else (none)) else (none)) else (none)) else (none)) else (none))) else (none))) else (none))) else (none)) = some r := H
  have A3 := Aside0.mk A30
  clear A30
  by_cases c4 : (strOfNums t151).toList = ([172, 2] : List UInt8)
  · rw [if_pos c4] at H
    have c4b0 : ((strOfNums t151).toList == ([172, 2] : List UInt8)) = true := beq_iff_eq.mpr c4
    have c4b1 : ((strOfNums t151).toList != ([172, 2] : List UInt8)) = false := bne_eq_false_iff_eq.mpr c4
    clear c4
    replace H := Option.bind_eq_some_iff.mp H
    obtain ⟨t154, A50, H⟩ := H
    replace H : (if (strOfNums t154).toList = ([1] : List UInt8) then ((pack_Int.f k ([] : List Int) 1).bind fun t157 => (if (strOfNums t157).toList = ([2] : List UInt8) then ((pack_Text.f k ([] : List Int) (⟨#[97, 98]⟩ : ByteArray)).bind fun t160 => (if (strOfNums t160).toList = ([2, 97, 98] : List UInt8) then (if t142 = 300 then (if t143 = 3 then (if t144 = 0 then (if t149 = 0 then (some (t150 == 2)) else (none)) else (none)) else (none)) else (none)) else (none))) else (none))) else (none)) = some r := H
    have A5 := Aside0.mk A50
    clear A50
    by_cases c6 : (strOfNums t154).toList = ([1] : List UInt8)
    · rw [if_pos c6] at H
      have c6b0 : ((strOfNums t154).toList == ([1] : List UInt8)) = true := beq_iff_eq.mpr c6
      have c6b1 : ((strOfNums t154).toList != ([1] : List UInt8)) = false := bne_eq_false_iff_eq.mpr c6
      clear c6
      replace H := Option.bind_eq_some_iff.mp H
      obtain ⟨t157, A70, H⟩ := H
      replace H : (if (strOfNums t157).toList = ([2] : List UInt8) then ((pack_Text.f k ([] : List Int) (⟨#[97, 98]⟩ : ByteArray)).bind fun t160 => (if (strOfNums t160).toList = ([2, 97, 98] : List UInt8) then (if t142 = 300 then (if t143 = 3 then (if t144 = 0 then (if t149 = 0 then (some (t150 == 2)) else (none)) else (none)) else (none)) else (none)) else (none))) else (none)) = some r := H
      have A7 := Aside0.mk A70
      clear A70
      by_cases c8 : (strOfNums t157).toList = ([2] : List UInt8)
      · rw [if_pos c8] at H
        have c8b0 : ((strOfNums t157).toList == ([2] : List UInt8)) = true := beq_iff_eq.mpr c8
        have c8b1 : ((strOfNums t157).toList != ([2] : List UInt8)) = false := bne_eq_false_iff_eq.mpr c8
        clear c8
        replace H := Option.bind_eq_some_iff.mp H
        obtain ⟨t160, A90, H⟩ := H
        replace H : (if (strOfNums t160).toList = ([2, 97, 98] : List UInt8) then (if t142 = 300 then (if t143 = 3 then (if t144 = 0 then (if t149 = 0 then (some (t150 == 2)) else (none)) else (none)) else (none)) else (none)) else (none)) = some r := H
        have A9 := Aside0.mk A90
        clear A90
        by_cases c10 : (strOfNums t160).toList = ([2, 97, 98] : List UInt8)
        · rw [if_pos c10] at H
          have c10b0 : ((strOfNums t160).toList == ([2, 97, 98] : List UInt8)) = true := beq_iff_eq.mpr c10
          have c10b1 : ((strOfNums t160).toList != ([2, 97, 98] : List UInt8)) = false := bne_eq_false_iff_eq.mpr c10
          clear c10
          by_cases c11 : t142 = 300
          · rw [if_pos c11] at H
            have c11b0 : (t142 == 300) = true := beq_iff_eq.mpr c11
            have c11b1 : (t142 != 300) = false := bne_eq_false_iff_eq.mpr c11
            clear c11
            by_cases c12 : t143 = 3
            · rw [if_pos c12] at H
              have c12b0 : (t143 == 3) = true := beq_iff_eq.mpr c12
              have c12b1 : (t143 != 3) = false := bne_eq_false_iff_eq.mpr c12
              clear c12
              by_cases c13 : t144 = 0
              · rw [if_pos c13] at H
                have c13b0 : (t144 == 0) = true := beq_iff_eq.mpr c13
                have c13b1 : (t144 != 0) = false := bne_eq_false_iff_eq.mpr c13
                clear c13
                by_cases c14 : t149 = 0
                · rw [if_pos c14] at H
                  have c14b0 : (t149 == 0) = true := beq_iff_eq.mpr c14
                  have c14b1 : (t149 != 0) = false := bne_eq_false_iff_eq.mpr c14
                  clear c14
                  obtain rfl := Option.some.inj H
                  go_enter Try.func7, Try.ntmps7
                  go_wp2_with (first | ((with_reducible refine gate_dst (N := 8) rfl ?_); refine Kd.R_lit (Kd.int .u8) _ 5 ?hg (N := 8) ?hd (xs := ([9, 172, 2] : List Int)) (inner := [.int .u8 9, .int .u8 172, .int .u8 2]) (ok := fun _ => True) (okp := fun _ => True) ?hr ?hp (fun _ hk => hk) trivial (Below.refl _ _) (Nat.le_refl _) (by simp) ?_; (case hd => rfl); (case hg => rfl); (case hr => first | (go_simp; done) | (go_simp; rfl)); (case hp => exact (Reps.one (show Kd.M (Kd.int .u8) _ _ _ 9 [.int .u8 9] from rfl) (Reps.one (show Kd.M (Kd.int .u8) _ _ _ 172 [.int .u8 172] from rfl) (Reps.one (show Kd.M (Kd.int .u8) _ _ _ 2 [.int .u8 2] from rfl) (Reps.none _ _))))); intro v140 w15 ho16 hb hg_ hnew_; clear hg_ hnew_; (first | rw [← Ny139.out] at ho16 | (simp only [Int.reduceToNat] at ho16; rw [← Ny139.out] at ho16)); have n0_ := Aside0.mk (Kd.R_lower ho16 (below_size (by repeat (first | (with_reducible first | exact HB.out | apply below_alloc | apply pw_below_drewN | apply below_drew1) | exact HB.out)))); have n1_ := Aside0.mk (below_step (by repeat (first | (with_reducible first | exact HB.out | apply below_alloc | apply pw_below_drewN | apply below_drew1) | exact HB.out)) hb); clear HB; have HO141 := n0_; have HB := n1_; clear n0_ n1_; clear hb ho16; obtain ⟨Ao17, co17, eo17⟩ := Kd.R_slice HO141.out; subst eo17) | ((with_reducible refine gate_callee (f := 18) rfl ?_); refine goesL_ (some 9) rfl rfl Try.func18 (by kernel_rfl) rfl #[.slice Ao17 y139.length co17, .int .i64 1] rfl (by (try simp only [List.map_toArray, List.map_cons, List.map_nil]); first | done | rfl | (simp only [List.length_drop, List.length_take]; rfl)) ?_; (with_reducible refine (pack_ReadUint.calls k _ _ y139 1 t142 t143 t144 _ ?side1 ?side2 A1.out).mono ?_); (case side1 => repeat (first | exact (Kd.R_reads' HO141.out).2.2 | (with_reducible refine Kd.C_alloc ?_ _) | (with_reducible refine Kd.C_drewN ?_ _) | (with_reducible refine Kd.C_drew ?_))); (case side2 => exact (Kd.R_reads' HO141.out).2.1); rintro e w18 ⟨rfl, hb⟩; refine ⟨_, rfl, ?_⟩; have n0_ := Aside0.mk (Kd.R_below (by (with_reducible repeat (first | apply Kd.R_alloc | apply Kd.R_drewN | apply Kd.R_drew)); exact HO141.out) hb); have n1_ := Aside0.mk (below_step (by repeat (first | (with_reducible first | exact HB.out | apply below_alloc | apply pw_below_drewN | apply below_drew1) | exact HB.out)) hb); clear HO141; clear HB; have HO141 := n0_; have HB := n1_; clear n0_ n1_; (try clear hb); (try clear hb2); (try clear hk); (try clear hi)) | ((with_reducible refine gate_dst (N := 14) rfl ?_); refine Kd.R_lit (Kd.int .u8) _ 5 ?hg (N := 14) ?hd (xs := ([128, 0] : List Int)) (inner := [.int .u8 128, .int .u8 0]) (ok := fun _ => True) (okp := fun _ => True) ?hr ?hp (fun _ hk => hk) trivial (Below.refl _ _) (Nat.le_refl _) (by simp) ?_; (case hd => rfl); (case hg => rfl); (case hr => first | (go_simp; done) | (go_simp; rfl)); (case hp => exact (Reps.one (show Kd.M (Kd.int .u8) _ _ _ 128 [.int .u8 128] from rfl) (Reps.one (show Kd.M (Kd.int .u8) _ _ _ 0 [.int .u8 0] from rfl) (Reps.none _ _)))); intro v146 w19 ho20 hb hg_ hnew_; clear hg_ hnew_; (first | rw [← Ny145.out] at ho20 | (simp only [Int.reduceToNat] at ho20; rw [← Ny145.out] at ho20)); have n0_ := Aside0.mk (Kd.R_elder' (by (with_reducible repeat (first | apply Kd.R_alloc | apply Kd.R_drewN | apply Kd.R_drew)); exact HO141.out) (Kd.R_base ho20) hb); have n1_ := Aside0.mk (Kd.R_lower (Kd.R_new' ho20 (Kd.R_lt (by (with_reducible repeat (first | apply Kd.R_alloc | apply Kd.R_drewN | apply Kd.R_drew)); exact HO141.out))) (below_size (by repeat (first | (with_reducible first | exact HB.out | apply below_alloc | apply pw_below_drewN | apply below_drew1) | exact HB.out)))); have n2_ := Aside0.mk (below_step (by repeat (first | (with_reducible first | exact HB.out | apply below_alloc | apply pw_below_drewN | apply below_drew1) | exact HB.out)) hb); clear HO141; clear HB; have HO141 := n0_; have HO147 := n1_; have HB := n2_; clear n0_ n1_ n2_; clear hb ho20; obtain ⟨Ao21, co21, eo21⟩ := Kd.R_slice HO147.out; subst eo21) | ((with_reducible refine gate_callee (f := 18) rfl ?_); refine goesL_ (some 15) rfl rfl Try.func18 (by kernel_rfl) rfl #[.slice Ao21 y145.length co21, .int .i64 0] rfl (by (try simp only [List.map_toArray, List.map_cons, List.map_nil]); first | done | rfl | (simp only [List.length_drop, List.length_take]; rfl)) ?_; (with_reducible refine (pack_ReadUint.calls k _ _ y145 0 t148 t149 t150 _ ?side1 ?side2 A2.out).mono ?_); (case side1 => repeat (first | exact (Kd.R_reads' HO147.out).2.2 | (with_reducible refine Kd.C_alloc ?_ _) | (with_reducible refine Kd.C_drewN ?_ _) | (with_reducible refine Kd.C_drew ?_))); (case side2 => exact (Kd.R_reads' HO147.out).2.1); rintro e w22 ⟨rfl, hb⟩; refine ⟨_, rfl, ?_⟩; have n0_ := Aside0.mk (Kd.R_below (by (with_reducible repeat (first | apply Kd.R_alloc | apply Kd.R_drewN | apply Kd.R_drew)); exact HO141.out) hb); have n1_ := Aside0.mk (Kd.R_below (by (with_reducible repeat (first | apply Kd.R_alloc | apply Kd.R_drewN | apply Kd.R_drew)); exact HO147.out) hb); have n2_ := Aside0.mk (below_step (by repeat (first | (with_reducible first | exact HB.out | apply below_alloc | apply pw_below_drewN | apply below_drew1) | exact HB.out)) hb); clear HO141; clear HO147; clear HB; have HO141 := n0_; have HO147 := n1_; have HB := n2_; clear n0_ n1_ n2_; (try clear hb); (try clear hb2); (try clear hk); (try clear hi)) | ((with_reducible refine gate_callee (f := 8) rfl ?_); refine goesL_ (some 19) rfl rfl Try.func8 (by kernel_rfl) rfl #[.slice none 0 0, .int .i64 300] rfl (by (try simp only [List.map_toArray, List.map_cons, List.map_nil]); first | done | rfl | (simp only [List.length_drop, List.length_take]; rfl)) ?_; (refine (pack_Uint.calls k _ _ ([] : List Int) 300 t151 _ ?side1 ?side2 A3.out).mono ?_); (case side1 => exact Kd.C_nil _ _); (case side2 => exact Nat.le_refl _); rintro e w23 ⟨v152, rfl, ho0, hb⟩; refine ⟨_, rfl, ?_⟩; have n0_ := Aside0.mk (Kd.R_elder' (by (with_reducible repeat (first | apply Kd.R_alloc | apply Kd.R_drewN | apply Kd.R_drew)); exact HO141.out) (Kd.R_base ho0) hb); have n1_ := Aside0.mk (Kd.R_elder' (by (with_reducible repeat (first | apply Kd.R_alloc | apply Kd.R_drewN | apply Kd.R_drew)); exact HO147.out) (Kd.R_base ho0) hb); have n2_ := Aside0.mk (Kd.R_lower (Kd.R_new' (Kd.R_new' ho0 (Kd.R_lt (by (with_reducible repeat (first | apply Kd.R_alloc | apply Kd.R_drewN | apply Kd.R_drew)); exact HO141.out))) (Kd.R_lt (by (with_reducible repeat (first | apply Kd.R_alloc | apply Kd.R_drewN | apply Kd.R_drew)); exact HO147.out))) (below_size (by repeat (first | (with_reducible first | exact HB.out | apply below_alloc | apply pw_below_drewN | apply below_drew1) | exact HB.out)))); have n3_ := Aside0.mk (below_step (by repeat (first | (with_reducible first | exact HB.out | apply below_alloc | apply pw_below_drewN | apply below_drew1) | exact HB.out)) hb); clear HO141; clear HO147; clear HB; have HO141 := n0_; have HO147 := n1_; have HO153 := n2_; have HB := n3_; clear n0_ n1_ n2_ n3_; (try clear hb); (try clear hb2); (try clear hk); (try clear hi); (try clear ho0); have hcv24 := own_string (P := Try.prog) Try.underlying23 Try.underlying5 Try.underlying9 (Kd.own_of_R HO153.out); have hcvd24 := fun n_ : Nat => own_string (P := Try.prog) Try.underlying23 Try.underlying5 Try.underlying9 (pw_own_drewN (Kd.own_of_R HO153.out) n_)) | (go_at_call 10; (with_reducible refine calls_of_args (args' := #[_, .int .i64 (-1)]) rfl ?_); (refine (pack_Int.calls k _ _ ([] : List Int) (-1) t154 _ ?side1 ?side2 A5.out).mono ?_); (case side1 => exact Kd.C_nil _ _); (case side2 => exact Nat.le_refl _); rintro e w25 ⟨v155, rfl, ho0, hb⟩; have n0_ := Aside0.mk (Kd.R_elder' (by (with_reducible repeat (first | apply Kd.R_alloc | apply Kd.R_drewN | apply Kd.R_drew)); exact HO141.out) (Kd.R_base ho0) hb); have n1_ := Aside0.mk (Kd.R_elder' (by (with_reducible repeat (first | apply Kd.R_alloc | apply Kd.R_drewN | apply Kd.R_drew)); exact HO147.out) (Kd.R_base ho0) hb); have n2_ := Aside0.mk (Kd.R_elder' (by (with_reducible repeat (first | apply Kd.R_alloc | apply Kd.R_drewN | apply Kd.R_drew)); exact HO153.out) (Kd.R_base ho0) hb); have n3_ := Aside0.mk (Kd.R_lower (Kd.R_new' (Kd.R_new' (Kd.R_new' ho0 (Kd.R_lt (by (with_reducible repeat (first | apply Kd.R_alloc | apply Kd.R_drewN | apply Kd.R_drew)); exact HO141.out))) (Kd.R_lt (by (with_reducible repeat (first | apply Kd.R_alloc | apply Kd.R_drewN | apply Kd.R_drew)); exact HO147.out))) (Kd.R_lt (by (with_reducible repeat (first | apply Kd.R_alloc | apply Kd.R_drewN | apply Kd.R_drew)); exact HO153.out))) (below_size (by repeat (first | (with_reducible first | exact HB.out | apply below_alloc | apply pw_below_drewN | apply below_drew1) | exact HB.out)))); have n4_ := Aside0.mk (below_step (by repeat (first | (with_reducible first | exact HB.out | apply below_alloc | apply pw_below_drewN | apply below_drew1) | exact HB.out)) hb); clear HO141; clear HO147; clear HO153; clear HB; have HO141 := n0_; have HO147 := n1_; have HO153 := n2_; have HO156 := n3_; have HB := n4_; clear n0_ n1_ n2_ n3_ n4_; (try clear hb); (try clear hb2); (try clear hk); (try clear hi); (try clear ho0); have hcv26 := own_string (P := Try.prog) Try.underlying23 Try.underlying5 Try.underlying9 (Kd.own_of_R HO156.out); have hcvd26 := fun n_ : Nat => own_string (P := Try.prog) Try.underlying23 Try.underlying5 Try.underlying9 (pw_own_drewN (Kd.own_of_R HO156.out) n_)) | (go_at_call 10; (with_reducible refine calls_of_args (args' := #[_, .int .i64 1]) rfl ?_); (refine (pack_Int.calls k _ _ ([] : List Int) 1 t157 _ ?side1 ?side2 A7.out).mono ?_); (case side1 => exact Kd.C_nil _ _); (case side2 => exact Nat.le_refl _); rintro e w27 ⟨v158, rfl, ho0, hb⟩; have n0_ := Aside0.mk (Kd.R_elder' (by (with_reducible repeat (first | apply Kd.R_alloc | apply Kd.R_drewN | apply Kd.R_drew)); exact HO141.out) (Kd.R_base ho0) hb); have n1_ := Aside0.mk (Kd.R_elder' (by (with_reducible repeat (first | apply Kd.R_alloc | apply Kd.R_drewN | apply Kd.R_drew)); exact HO147.out) (Kd.R_base ho0) hb); have n2_ := Aside0.mk (Kd.R_elder' (by (with_reducible repeat (first | apply Kd.R_alloc | apply Kd.R_drewN | apply Kd.R_drew)); exact HO153.out) (Kd.R_base ho0) hb); have n3_ := Aside0.mk (Kd.R_elder' (by (with_reducible repeat (first | apply Kd.R_alloc | apply Kd.R_drewN | apply Kd.R_drew)); exact HO156.out) (Kd.R_base ho0) hb); have n4_ := Aside0.mk (Kd.R_lower (Kd.R_new' (Kd.R_new' (Kd.R_new' (Kd.R_new' ho0 (Kd.R_lt (by (with_reducible repeat (first | apply Kd.R_alloc | apply Kd.R_drewN | apply Kd.R_drew)); exact HO141.out))) (Kd.R_lt (by (with_reducible repeat (first | apply Kd.R_alloc | apply Kd.R_drewN | apply Kd.R_drew)); exact HO147.out))) (Kd.R_lt (by (with_reducible repeat (first | apply Kd.R_alloc | apply Kd.R_drewN | apply Kd.R_drew)); exact HO153.out))) (Kd.R_lt (by (with_reducible repeat (first | apply Kd.R_alloc | apply Kd.R_drewN | apply Kd.R_drew)); exact HO156.out))) (below_size (by repeat (first | (with_reducible first | exact HB.out | apply below_alloc | apply pw_below_drewN | apply below_drew1) | exact HB.out)))); have n5_ := Aside0.mk (below_step (by repeat (first | (with_reducible first | exact HB.out | apply below_alloc | apply pw_below_drewN | apply below_drew1) | exact HB.out)) hb); clear HO141; clear HO147; clear HO153; clear HO156; clear HB; have HO141 := n0_; have HO147 := n1_; have HO153 := n2_; have HO156 := n3_; have HO159 := n4_; have HB := n5_; clear n0_ n1_ n2_ n3_ n4_ n5_; (try clear hb); (try clear hb2); (try clear hk); (try clear hi); (try clear ho0); have hcv28 := own_string (P := Try.prog) Try.underlying23 Try.underlying5 Try.underlying9 (Kd.own_of_R HO159.out); have hcvd28 := fun n_ : Nat => own_string (P := Try.prog) Try.underlying23 Try.underlying5 Try.underlying9 (pw_own_drewN (Kd.own_of_R HO159.out) n_)) | (go_at_call 11; (refine (pack_Text.calls k _ _ ([] : List Int) (⟨#[97, 98]⟩ : ByteArray) t160 _ ?side1 ?side2 A9.out).mono ?_); (case side1 => exact Kd.C_nil _ _); (case side2 => exact Nat.le_refl _); rintro e w29 ⟨v161, rfl, ho0, hb⟩; have n0_ := Aside0.mk (Kd.R_elder' (by (with_reducible repeat (first | apply Kd.R_alloc | apply Kd.R_drewN | apply Kd.R_drew)); exact HO141.out) (Kd.R_base ho0) hb); have n1_ := Aside0.mk (Kd.R_elder' (by (with_reducible repeat (first | apply Kd.R_alloc | apply Kd.R_drewN | apply Kd.R_drew)); exact HO147.out) (Kd.R_base ho0) hb); have n2_ := Aside0.mk (Kd.R_elder' (by (with_reducible repeat (first | apply Kd.R_alloc | apply Kd.R_drewN | apply Kd.R_drew)); exact HO153.out) (Kd.R_base ho0) hb); have n3_ := Aside0.mk (Kd.R_elder' (by (with_reducible repeat (first | apply Kd.R_alloc | apply Kd.R_drewN | apply Kd.R_drew)); exact HO156.out) (Kd.R_base ho0) hb); have n4_ := Aside0.mk (Kd.R_elder' (by (with_reducible repeat (first | apply Kd.R_alloc | apply Kd.R_drewN | apply Kd.R_drew)); exact HO159.out) (Kd.R_base ho0) hb); have n5_ := Aside0.mk (Kd.R_lower (Kd.R_new' (Kd.R_new' (Kd.R_new' (Kd.R_new' (Kd.R_new' ho0 (Kd.R_lt (by (with_reducible repeat (first | apply Kd.R_alloc | apply Kd.R_drewN | apply Kd.R_drew)); exact HO141.out))) (Kd.R_lt (by (with_reducible repeat (first | apply Kd.R_alloc | apply Kd.R_drewN | apply Kd.R_drew)); exact HO147.out))) (Kd.R_lt (by (with_reducible repeat (first | apply Kd.R_alloc | apply Kd.R_drewN | apply Kd.R_drew)); exact HO153.out))) (Kd.R_lt (by (with_reducible repeat (first | apply Kd.R_alloc | apply Kd.R_drewN | apply Kd.R_drew)); exact HO156.out))) (Kd.R_lt (by (with_reducible repeat (first | apply Kd.R_alloc | apply Kd.R_drewN | apply Kd.R_drew)); exact HO159.out))) (below_size (by repeat (first | (with_reducible first | exact HB.out | apply below_alloc | apply pw_below_drewN | apply below_drew1) | exact HB.out)))); have n6_ := Aside0.mk (below_step (by repeat (first | (with_reducible first | exact HB.out | apply below_alloc | apply pw_below_drewN | apply below_drew1) | exact HB.out)) hb); clear HO141; clear HO147; clear HO153; clear HO156; clear HO159; clear HB; have HO141 := n0_; have HO147 := n1_; have HO153 := n2_; have HO156 := n3_; have HO159 := n4_; have HO162 := n5_; have HB := n6_; clear n0_ n1_ n2_ n3_ n4_ n5_ n6_; (try clear hb); (try clear hb2); (try clear hk); (try clear hi); (try clear ho0); have hcv30 := own_string (P := Try.prog) Try.underlying23 Try.underlying5 Try.underlying9 (Kd.own_of_R HO162.out); have hcvd30 := fun n_ : Nat => own_string (P := Try.prog) Try.underlying23 Try.underlying5 Try.underlying9 (pw_own_drewN (Kd.own_of_R HO162.out) n_)))
                  go_ret
                  exact ⟨by first | rfl | (simp [errW_none, errW_some] <;> rfl) | (simp [*, errW_none, errW_some] <;> rfl), by repeat (first | (with_reducible first | exact HB.out | apply below_alloc | apply pw_below_drewN | apply below_drew1) | exact HB.out)⟩
                · rw [if_neg c14] at H
                  exact absurd H (by simp)
              · rw [if_neg c13] at H
                exact absurd H (by simp)
            · rw [if_neg c12] at H
              exact absurd H (by simp)
          · rw [if_neg c11] at H
            exact absurd H (by simp)
        · rw [if_neg c10] at H
          exact absurd H (by simp)
      · rw [if_neg c8] at H
        exact absurd H (by simp)
    · rw [if_neg c6] at H
      exact absurd H (by simp)
  · rw [if_neg c4] at H
    exact absurd H (by simp)

end Go.Proofs.Ytkidppjaclgkkaa.XPack
