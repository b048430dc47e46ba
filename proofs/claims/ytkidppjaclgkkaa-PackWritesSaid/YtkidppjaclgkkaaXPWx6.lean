-- Written by xprint.py (a program of this session) for this claim
import Derived.Test.YtkidppjaclgkkaaSL5
import Derived.Test.YtkidppjaclgkkaaXPWx0
import Derived.Test.YtkidppjaclgkkaaXPWx1
import Derived.Test.YtkidppjaclgkkaaXPWx2
namespace Go.Proofs.Ytkidppjaclgkkaa.XPW
open Go.Proofs.YtkidppjaclgkkaaV Go.Proofs.YtkidppjaclgkkaaS
open Go.RowKit Go.Proofs.YtkidppjaclgkkaaW.PrintWords Go.Proofs.YtkidppjaclgkkaaW.PrintLast Go.Proofs.YtkidppjaclgkkaaW.PrintMore
attribute [local go_sem] max2_int min2_int max_two min_two max_three min_three max_four min_four   -- for this text's walks alone
set_option linter.unusedVariables false
set_option linter.unusedSimpArgs false

/-! ### barrowlaw03_small: function 7 -/
def barrowlaw03_small.f (k : Nat)  : Option (Bool) := (some (([9, 172, 2] : List Int) : List Int)).bind fun y165 => ((pack_ReadUint.f k y165 1).bind fun bt166 => ((some (([128, 0] : List Int) : List Int)).bind fun y169 => ((pack_ReadUint.f k y169 0).bind fun bt170 => ((pack_Uint.f k ([] : List Int) 300).bind fun t173 => (if (strOfNums t173).toList = ([172, 2] : List UInt8) then ((pack_Int.f k ([] : List Int) (-1)).bind fun t174 => (if (strOfNums t174).toList = ([1] : List UInt8) then ((pack_Int.f k ([] : List Int) 1).bind fun t175 => (if (strOfNums t175).toList = ([2] : List UInt8) then ((pack_Text.f k ([] : List Int) (⟨#[97, 98]⟩ : ByteArray)).bind fun t176 => (if (strOfNums t176).toList = ([2, 97, 98] : List UInt8) then (if bt166.1 = 300 then (if bt166.2.1 = 3 then (if bt166.2.2 = 0 then (if bt170.2.1 = 0 then (if bt170.2.2 = 2 then (some true) else (none)) else (none)) else (none)) else (none)) else (none)) else (none))) else (none))) else (none))) else (none))))))
theorem barrowlaw03_small.mono : ∀ k, LeO (barrowlaw03_small.f k ) (barrowlaw03_small.f (k + 1) ) := by
  intro  k
  unfold barrowlaw03_small.f
  repeat' first
      | (with_reducible exact pack_Int.mono _ _ _)
      | (with_reducible exact pack_ReadUint.mono _ _ _)
      | (with_reducible exact pack_Text.mono _ _ _)
      | (with_reducible exact pack_Uint.mono _ _ _)
      | (with_reducible exact LeO.refl _)
      | (with_reducible exact LeO.none _)
      | (with_reducible refine LeO.ite ?_ ?_)
      | (with_reducible refine everyOf_le (fun _ => ?_))
      | (with_reducible refine LeO.bind ?_ (fun _ => ?_))
      | exact pack_Int.mono _ _ _
      | exact pack_ReadUint.mono _ _ _
      | exact pack_Text.mono _ _ _
      | exact pack_Uint.mono _ _ _
      | exact LeO.none _
      | refine LeO.ite ?_ ?_
      | refine LeO.bind ?_ (fun _ => ?_)
def barrowlaw03_small.Post (r : Bool) (S : Nat → Prop) (L : List Asr) (w : World) (e : Ending) (w' : World) : Prop := e = .returned (.bool r) ∧ SL (L) w' S ∧ Keep S w w'
set_option maxHeartbeats 8000000 in
set_option maxRecDepth 100000 in
theorem barrowlaw03_small.slcalls (k : Nat)  (r : Bool) (S : Nat → Prop) (L : List Asr) (w : World) (hf : Fresh S w) (hs : SL (L) w S) (h : barrowlaw03_small.f k  = some r) :
    Calls Try.prog 7 #[] w (barrowlaw03_small.Post r S L w) := by
  have HF := Aside0.mk hf
  have HS := Aside0.mk hs
  have HK := Aside0.mk (Keep.refl S w)
  clear hf hs
  have H : ((some (([9, 172, 2] : List Int) : List Int)).bind fun y165 => ((pack_ReadUint.f k y165 1).bind fun bt166 => ((some (([128, 0] : List Int) : List Int)).bind fun y169 => ((pack_ReadUint.f k y169 0).bind fun bt170 => ((pack_Uint.f k ([] : List Int) 300).bind fun t173 => (if (strOfNums t173).toList = ([172, 2] : List UInt8) then ((pack_Int.f k ([] : List Int) (-1)).bind fun t174 => (if (strOfNums t174).toList = ([1] : List UInt8) then ((pack_Int.f k ([] : List Int) 1).bind fun t175 => (if (strOfNums t175).toList = ([2] : List UInt8) then ((pack_Text.f k ([] : List Int) (⟨#[97, 98]⟩ : ByteArray)).bind fun t176 => (if (strOfNums t176).toList = ([2, 97, 98] : List UInt8) then (if bt166.1 = 300 then (if bt166.2.1 = 3 then (if bt166.2.2 = 0 then (if bt170.2.1 = 0 then (if bt170.2.2 = 2 then (some true) else (none)) else (none)) else (none)) else (none)) else (none)) else (none))) else (none))) else (none))) else (none))))))) = some r := h
  clear h
  replace H := Option.bind_eq_some_iff.1 H
  obtain ⟨y165, hy1650, H⟩ := H
  try dsimp only at H
  have hy165 := Option.some.inj hy1650
  clear hy1650
  have Ny165 := Aside0.mk hy165
  clear hy165
  replace H := Option.bind_eq_some_iff.1 H
  obtain ⟨⟨t166, t167, t168⟩, Hc10, H⟩ := H
  try dsimp only at H
  have Hc1 := Aside0.mk Hc10
  clear Hc10
  replace H := Option.bind_eq_some_iff.1 H
  obtain ⟨y169, hy1690, H⟩ := H
  try dsimp only at H
  have hy169 := Option.some.inj hy1690
  clear hy1690
  have Ny169 := Aside0.mk hy169
  clear hy169
  replace H := Option.bind_eq_some_iff.1 H
  obtain ⟨⟨t170, t171, t172⟩, Hc20, H⟩ := H
  try dsimp only at H
  have Hc2 := Aside0.mk Hc20
  clear Hc20
  replace H := Option.bind_eq_some_iff.1 H
  obtain ⟨t173, Hc30, H⟩ := H
  try dsimp only at H
  have Hc3 := Aside0.mk Hc30
  clear Hc30
  by_cases c4 : (strOfNums t173).toList = ([172, 2] : List UInt8)
  · rw [if_pos c4] at H
    have c4b0 : ((strOfNums t173).toList == ([172, 2] : List UInt8)) = true := beq_iff_eq.mpr c4
    have c4b1 : ((strOfNums t173).toList != ([172, 2] : List UInt8)) = false := bne_eq_false_iff_eq.mpr c4
    clear c4
    replace H := Option.bind_eq_some_iff.1 H
    obtain ⟨t174, Hc50, H⟩ := H
    try dsimp only at H
    have Hc5 := Aside0.mk Hc50
    clear Hc50
    by_cases c6 : (strOfNums t174).toList = ([1] : List UInt8)
    · rw [if_pos c6] at H
      have c6b0 : ((strOfNums t174).toList == ([1] : List UInt8)) = true := beq_iff_eq.mpr c6
      have c6b1 : ((strOfNums t174).toList != ([1] : List UInt8)) = false := bne_eq_false_iff_eq.mpr c6
      clear c6
      replace H := Option.bind_eq_some_iff.1 H
      obtain ⟨t175, Hc70, H⟩ := H
      try dsimp only at H
      have Hc7 := Aside0.mk Hc70
      clear Hc70
      by_cases c8 : (strOfNums t175).toList = ([2] : List UInt8)
      · rw [if_pos c8] at H
        have c8b0 : ((strOfNums t175).toList == ([2] : List UInt8)) = true := beq_iff_eq.mpr c8
        have c8b1 : ((strOfNums t175).toList != ([2] : List UInt8)) = false := bne_eq_false_iff_eq.mpr c8
        clear c8
        replace H := Option.bind_eq_some_iff.1 H
        obtain ⟨t176, Hc90, H⟩ := H
        try dsimp only at H
        have Hc9 := Aside0.mk Hc90
        clear Hc90
        by_cases c10 : (strOfNums t176).toList = ([2, 97, 98] : List UInt8)
        · rw [if_pos c10] at H
          have c10b0 : ((strOfNums t176).toList == ([2, 97, 98] : List UInt8)) = true := beq_iff_eq.mpr c10
          have c10b1 : ((strOfNums t176).toList != ([2, 97, 98] : List UInt8)) = false := bne_eq_false_iff_eq.mpr c10
          clear c10
          by_cases c11 : t166 = 300
          · rw [if_pos c11] at H
            have c11b0 : (t166 == 300) = true := beq_iff_eq.mpr c11
            have c11b1 : (t166 != 300) = false := bne_eq_false_iff_eq.mpr c11
            clear c11
            by_cases c12 : t167 = 3
            · rw [if_pos c12] at H
              have c12b0 : (t167 == 3) = true := beq_iff_eq.mpr c12
              have c12b1 : (t167 != 3) = false := bne_eq_false_iff_eq.mpr c12
              clear c12
              by_cases c13 : t168 = 0
              · rw [if_pos c13] at H
                have c13b0 : (t168 == 0) = true := beq_iff_eq.mpr c13
                have c13b1 : (t168 != 0) = false := bne_eq_false_iff_eq.mpr c13
                clear c13
                by_cases c14 : t171 = 0
                · rw [if_pos c14] at H
                  have c14b0 : (t171 == 0) = true := beq_iff_eq.mpr c14
                  have c14b1 : (t171 != 0) = false := bne_eq_false_iff_eq.mpr c14
                  clear c14
                  by_cases c15 : t172 = 2
                  · rw [if_pos c15] at H
                    have c15b0 : (t172 == 2) = true := beq_iff_eq.mpr c15
                    have c15b1 : (t172 != 2) = false := bne_eq_false_iff_eq.mpr c15
                    clear c15
                    obtain rfl := Option.some.inj H
                    go_enter Try.func7, Try.ntmps7
                    go_wp2_with (first | ((with_reducible refine gate_dst (N := 8) rfl ?_); refine wpList_plain rfl (fun K_ hK_ => ?_); refine op_row (S := S) (enc := Value.int .u8) (h1 := fun _ => rfl) 5 y165 #[.int .u8 9, .int .u8 172, .int .u8 2] 3 (by rw [← Ny165.out]; rfl) (by rw [← Ny165.out]; rfl) (by decide) (HF.out.keep HK.out) HS.out (by first | (go_simp; done) | (go_simp; rfl)) ?_; intro Az3000000 cz3000000 w16 hs_ hk_; refine hK_ _ _ ?_; clear hK_ K_; replace HS := Aside0.mk ((show SL (row (Kd.int .u8) 5 (.slice Az3000000 3 cz3000000) y165 :: _) _ _ from hs_)); replace HK := Aside0.mk (HK.out.trans hk_)) | ((with_reducible refine gate_dst (N := 9) rfl ?_); refine goesL_ (some 9) rfl rfl Try.func18 (by kernel_rfl) rfl #[.slice Az3000000 3 cz3000000, .int .i64 1] rfl (by (try simp only [List.map_toArray, List.map_cons, List.map_nil]); first | done | rfl | (simp; done)) ?_; have el3000000_ := Aside0.mk (SL.row_c HS.out).1; refine calls_of_args (args' := #[.slice Az3000000 y165.length cz3000000, .int .i64 1]) (by rw [← el3000000_.out]) ?_; (with_reducible refine (pack_ReadUint.calls k _ _ _ _ _ _ _ _ (by have e_ := (SL.row_c HS.out).1; have h_ := (SL.row_c HS.out).2.2; rw [e_] at h_; exact h_) (by have e_ := (SL.row_c HS.out).1; have h_ := (SL.row_c HS.out).2.1; (try dsimp only at e_ h_); (try dsimp only); omega) Hc1.out).mono ?_); rintro e_ w17 ⟨rfl, hb_⟩; refine ⟨_, rfl, ?_⟩; replace HS := Aside0.mk (HS.out.below hb_); replace HK := Aside0.mk (HK.out.trans (Keep.below hb_))) | ((with_reducible refine gate_dst (N := 14) rfl ?_); refine wpList_plain rfl (fun K_ hK_ => ?_); refine op_row (S := S) (enc := Value.int .u8) (h1 := fun _ => rfl) 5 y169 #[.int .u8 128, .int .u8 0] 2 (by rw [← Ny169.out]; rfl) (by rw [← Ny169.out]; rfl) (by decide) (HF.out.keep HK.out) HS.out (by first | (go_simp; done) | (go_simp; rfl)) ?_; intro Az3000001 cz3000001 w18 hs_ hk_; refine hK_ _ _ ?_; clear hK_ K_; replace HS := Aside0.mk ((show SL (row (Kd.int .u8) 5 (.slice Az3000001 2 cz3000001) y169 :: _) _ _ from hs_)); replace HK := Aside0.mk (HK.out.trans hk_)) | ((with_reducible refine gate_dst (N := 15) rfl ?_); refine goesL_ (some 15) rfl rfl Try.func18 (by kernel_rfl) rfl #[.slice Az3000001 2 cz3000001, .int .i64 0] rfl (by (try simp only [List.map_toArray, List.map_cons, List.map_nil]); first | done | rfl | (simp; done)) ?_; have el3000001_ := Aside0.mk (SL.row_c HS.out).1; refine calls_of_args (args' := #[.slice Az3000001 y169.length cz3000001, .int .i64 0]) (by rw [← el3000001_.out]) ?_; (with_reducible refine (pack_ReadUint.calls k _ _ _ _ _ _ _ _ (by have e_ := (SL.row_c HS.out).1; have h_ := (SL.row_c HS.out).2.2; rw [e_] at h_; exact h_) (by have e_ := (SL.row_c HS.out).1; have h_ := (SL.row_c HS.out).2.1; (try dsimp only at e_ h_); (try dsimp only); omega) Hc2.out).mono ?_); rintro e_ w19 ⟨rfl, hb_⟩; refine ⟨_, rfl, ?_⟩; replace HS := Aside0.mk (HS.out.below hb_); replace HK := Aside0.mk (HK.out.trans (Keep.below hb_))) | ((with_reducible refine gate_dst (N := 19) rfl ?_); refine goesL_ (some 19) rfl rfl Try.func8 (by kernel_rfl) rfl #[.slice none 0 0, .int .i64 300] rfl (by (try simp only [List.map_toArray, List.map_cons, List.map_nil]); first | done | rfl | (simp; done)) ?_; (refine (pack_Uint.calls k _ _ _ _ _ _ (Kd.C_nil _ _) (Nat.le_refl _) Hc3.out).mono ?_); rintro e_ w20 ⟨v3000002_, rfl, ho3000002_, hb_⟩; refine ⟨_, rfl, ?_⟩; have hs_ := (SL.new (HF.out.keep HK.out) HS.out hb_ (row_of_R ho3000002_)).1; obtain ⟨Az3000002, cz3000002, e2_, _, _⟩ := SL.row_reads hs_; subst e2_; replace HS := Aside0.mk (hs_); replace HK := Aside0.mk (HK.out.trans (Keep.below hb_)); have hcs22 := Kd.C_string (P := Try.prog) (A := Az3000002) (c := cz3000002) Try.underlying23 Try.underlying5 Try.underlying9 (SL.row_c HS.out).2.2) | ((with_reducible refine gate_dst (N := 23) rfl ?_); (try (refine gate_guard (by rfl) ?_; dsimp only)); refine goesL_ (some 23) rfl rfl Try.func10 (by kernel_rfl) rfl #[.slice none 0 0, .int .i64 (-1)] rfl (by (try simp only [List.map_toArray, List.map_cons, List.map_nil]); first | done | rfl | (simp; done)) ?_; (refine (pack_Int.calls k _ _ _ _ _ _ (Kd.C_nil _ _) (Nat.le_refl _) Hc5.out).mono ?_); rintro e_ w23 ⟨v3000003_, rfl, ho3000003_, hb_⟩; refine ⟨_, rfl, ?_⟩; have hs_ := (SL.new (HF.out.keep HK.out) HS.out hb_ (row_of_R ho3000003_)).1; obtain ⟨Az3000003, cz3000003, e2_, _, _⟩ := SL.row_reads hs_; subst e2_; replace HS := Aside0.mk (hs_); replace HK := Aside0.mk (HK.out.trans (Keep.below hb_)); have hcs25 := Kd.C_string (P := Try.prog) (A := Az3000003) (c := cz3000003) Try.underlying23 Try.underlying5 Try.underlying9 (SL.row_c HS.out).2.2) | ((with_reducible refine gate_dst (N := 28) rfl ?_); (try (refine gate_guard (by rfl) ?_; dsimp only)); refine goesL_ (some 28) rfl rfl Try.func10 (by kernel_rfl) rfl #[.slice none 0 0, .int .i64 1] rfl (by (try simp only [List.map_toArray, List.map_cons, List.map_nil]); first | done | rfl | (simp; done)) ?_; (refine (pack_Int.calls k _ _ _ _ _ _ (Kd.C_nil _ _) (Nat.le_refl _) Hc7.out).mono ?_); rintro e_ w26 ⟨v3000004_, rfl, ho3000004_, hb_⟩; refine ⟨_, rfl, ?_⟩; have hs_ := (SL.new (HF.out.keep HK.out) HS.out hb_ (row_of_R ho3000004_)).1; obtain ⟨Az3000004, cz3000004, e2_, _, _⟩ := SL.row_reads hs_; subst e2_; replace HS := Aside0.mk (hs_); replace HK := Aside0.mk (HK.out.trans (Keep.below hb_)); have hcs28 := Kd.C_string (P := Try.prog) (A := Az3000004) (c := cz3000004) Try.underlying23 Try.underlying5 Try.underlying9 (SL.row_c HS.out).2.2) | ((with_reducible refine gate_dst (N := 33) rfl ?_); (try (refine gate_guard (by rfl) ?_; dsimp only)); refine goesL_ (some 33) rfl rfl Try.func11 (by kernel_rfl) rfl #[.slice none 0 0, .string (⟨#[97, 98]⟩ : ByteArray)] rfl (by (try simp only [List.map_toArray, List.map_cons, List.map_nil]); first | done | rfl | (simp; done)) ?_; (refine (pack_Text.calls k _ _ _ _ _ _ (Kd.C_nil _ _) (Nat.le_refl _) Hc9.out).mono ?_); rintro e_ w29 ⟨v3000005_, rfl, ho3000005_, hb_⟩; refine ⟨_, rfl, ?_⟩; have hs_ := (SL.new (HF.out.keep HK.out) HS.out hb_ (row_of_R ho3000005_)).1; obtain ⟨Az3000005, cz3000005, e2_, _, _⟩ := SL.row_reads hs_; subst e2_; replace HS := Aside0.mk (hs_); replace HK := Aside0.mk (HK.out.trans (Keep.below hb_)); have hcs31 := Kd.C_string (P := Try.prog) (A := Az3000005) (c := cz3000005) Try.underlying23 Try.underlying5 Try.underlying9 (SL.row_c HS.out).2.2))
                    go_ret
                    replace HS := Aside0.mk (SL.tail (SL.tail (SL.tail (SL.tail (SL.tail (SL.tail HS.out))))))
                    unfold barrowlaw03_small.Post
                    exact ⟨by first | rfl | (simp; done) | (simp [*]; done) | (simp at c15b0 ⊢; first | exact c15b0 | (simp [c15b0]; done)), HS.out, HK.out⟩
                  · rw [if_neg c15] at H
                    exact absurd H (by simp)
                · rw [if_neg c14] at H
                  exact absurd H (by simp)
              · rw [if_neg c13] at H
                exact absurd H (by simp)
            · rw [if_neg c12] at H
              exact absurd H (by simp)
          · rw [if_neg c11] at H
            exact absurd H (by simp)
        · rw [if_neg c10] at H
          exact absurd H (by simp)
      · rw [if_neg c8] at H
        exact absurd H (by simp)
    · rw [if_neg c6] at H
      exact absurd H (by simp)
  · rw [if_neg c4] at H
    exact absurd H (by simp)
theorem barrowlaw03_small.calls (k : Nat)  (r : Bool) (w : World) (h : barrowlaw03_small.f k  = some r) :
    Calls Try.prog 7 #[] w fun e w' => e = .returned (.bool r) ∧ Below w.heap.size w w' :=
  (barrowlaw03_small.slcalls k  r (news w) [] w (fresh_news w) trivial h).mono fun _ _ h => ⟨h.1, h.2.2.to_below⟩

end Go.Proofs.Ytkidppjaclgkkaa.XPW
