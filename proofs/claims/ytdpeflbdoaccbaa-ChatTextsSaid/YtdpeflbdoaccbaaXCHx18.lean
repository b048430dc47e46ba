-- Written by xprint.py (a program of this session) for this claim
import Derived.Test.YtdpeflbdoaccbaaSL5
import Derived.Test.YtdpeflbdoaccbaaXCHx0
import Derived.Test.YtdpeflbdoaccbaaXCHx6
import Derived.Test.YtdpeflbdoaccbaaXCHx7
import Derived.Test.YtdpeflbdoaccbaaXCHx8
import Derived.Test.YtdpeflbdoaccbaaXCHx12
import Derived.Test.YtdpeflbdoaccbaaXCHx13
import Derived.Test.YtdpeflbdoaccbaaXCHx14
import Derived.Test.YtdpeflbdoaccbaaXCHx15
import Derived.Test.YtdpeflbdoaccbaaXCHx17
namespace Go.Proofs.Ytdpeflbdoaccbaa.XCH
open Go.Proofs.YtdpeflbdoaccbaaV Go.Proofs.YtdpeflbdoaccbaaS
open Go.RowKit Go.Proofs.YtdpeflbdoaccbaaW.PrintWords Go.Proofs.YtdpeflbdoaccbaaW.PrintLast Go.Proofs.YtdpeflbdoaccbaaW.PrintMore
attribute [local go_sem] max2_int min2_int max_two min_two max_three min_three max_four min_four   -- for this text's walks alone
set_option linter.unusedVariables false
set_option linter.unusedSimpArgs false

/-! ### barrowlaw38_ChatTexts: function 4 -/
noncomputable def barrowlaw38_ChatTexts.f (k : Nat) (a0 : ByteArray) (l1 : List ByteArray) (a2 : Int) : Option (Bool) := (barrowlaw38_small.f k).bind fun t596 => ((barrowlaw38_few.f k l1 a0).bind fun t597 => (if t597 = true then (if t596 = true then ((chat_Right.f k a0).bind fun t598 => ((barrowref38_Right.f k a0).bind fun t599 => (if (t598 == t599) = true then ((chat_Clean.f k a0 l1).bind fun t600 => ((barrowref38_Clean.f k a0 l1).bind fun t601 => (if t600.toList = t601.toList then ((chat_Words.f k a0).bind fun t602 => ((barrowref38_Words.f k a0).bind fun t603 => ((barrowref37_SameTexts.f k t602 t603).bind fun t604 => (if t604 = true then ((chat_Cut.f k a0 a2).bind fun t605 => ((barrowref38_Cut.f k a0 a2).bind fun t606 => ((barrowref37_SameTexts.f k t605 t606).bind fun t607 => (some t607)))) else (none))))) else (none)))) else (none)))) else (none)) else (some t596)))
theorem barrowlaw38_ChatTexts.mono : ∀ a0 a1 a2 k, LeO (barrowlaw38_ChatTexts.f k a0 a1 a2) (barrowlaw38_ChatTexts.f (k + 1) a0 a1 a2) := by
  intro a0 a1 a2 k
  unfold barrowlaw38_ChatTexts.f
  repeat' first
      | (with_reducible exact barrowlaw38_few.mono _ _ _)
      | (with_reducible exact barrowlaw38_small.mono _)
      | (with_reducible exact barrowref37_SameTexts.mono _ _ _)
      | (with_reducible exact barrowref38_Clean.mono _ _ _)
      | (with_reducible exact barrowref38_Cut.mono _ _ _)
      | (with_reducible exact barrowref38_Right.mono _ _)
      | (with_reducible exact barrowref38_Words.mono _ _)
      | (with_reducible exact chat_Clean.mono _ _ _)
      | (with_reducible exact chat_Cut.mono _ _ _)
      | (with_reducible exact chat_Right.mono _ _)
      | (with_reducible exact chat_Words.mono _ _)
      | (with_reducible exact LeO.refl _)
      | (with_reducible exact LeO.none _)
      | (with_reducible refine LeO.ite ?_ ?_)
      | (with_reducible refine everyOf_le (fun _ => ?_))
      | (with_reducible refine LeO.bind ?_ (fun _ => ?_))
      | exact barrowlaw38_few.mono _ _ _
      | exact barrowlaw38_small.mono _
      | exact barrowref37_SameTexts.mono _ _ _
      | exact barrowref38_Clean.mono _ _ _
      | exact barrowref38_Cut.mono _ _ _
      | exact barrowref38_Right.mono _ _
      | exact barrowref38_Words.mono _ _
      | exact chat_Clean.mono _ _ _
      | exact chat_Cut.mono _ _ _
      | exact chat_Right.mono _ _
      | exact chat_Words.mono _ _
      | exact LeO.none _
      | refine LeO.ite ?_ ?_
      | refine LeO.bind ?_ (fun _ => ?_)
def barrowlaw38_ChatTexts.Post (r : Bool) (S : Nat → Prop) (L : List Asr) (w : World) (e : Ending) (w' : World) : Prop := e = .returned (.bool r) ∧ SL (L) w' S ∧ Keep S w w'
set_option maxHeartbeats 8000000 in
set_option maxRecDepth 100000 in
theorem barrowlaw38_ChatTexts.slcalls (k : Nat) (a0 : ByteArray) (A1 : Option Addr) (c1 : Nat) (l1 : List ByteArray) (a2 : Int) (r : Bool) (S : Nat → Prop) (L : List Asr) (w : World) (hf : Fresh S w) (hs : SL (L) w S) (hr1 : RO S w (fun w_ => Kd.C Kd.string w_ A1 l1.length l1)) (hc1 : l1.length ≤ c1) (h : barrowlaw38_ChatTexts.f k a0 l1 a2 = some r) :
    Calls Try.prog 4 #[.string a0, .slice A1 l1.length c1, .int .i64 a2] w (barrowlaw38_ChatTexts.Post r S L w) := by
  have HR1 := Aside0.mk hr1
  have HC1 := Aside0.mk hc1
  clear hr1 hc1
  have HF := Aside0.mk hf
  have HS := Aside0.mk hs
  have HK := Aside0.mk (Keep.refl S w)
  clear hf hs
  have H : ((barrowlaw38_small.f k).bind fun t596 => ((barrowlaw38_few.f k l1 a0).bind fun t597 => (if t597 = true then (if t596 = true then ((chat_Right.f k a0).bind fun t598 => ((barrowref38_Right.f k a0).bind fun t599 => (if (t598 == t599) = true then ((chat_Clean.f k a0 l1).bind fun t600 => ((barrowref38_Clean.f k a0 l1).bind fun t601 => (if t600.toList = t601.toList then ((chat_Words.f k a0).bind fun t602 => ((barrowref38_Words.f k a0).bind fun t603 => ((barrowref37_SameTexts.f k t602 t603).bind fun t604 => (if t604 = true then ((chat_Cut.f k a0 a2).bind fun t605 => ((barrowref38_Cut.f k a0 a2).bind fun t606 => ((barrowref37_SameTexts.f k t605 t606).bind fun t607 => (some t607)))) else (none))))) else (none)))) else (none)))) else (none)) else (some t596)))) = some r := h
  clear h
  replace H := Option.bind_eq_some_iff.1 H
  obtain ⟨t596, Hc10, H⟩ := H
  try dsimp only at H
  have Hc1 := Aside0.mk Hc10
  clear Hc10
  replace H := Option.bind_eq_some_iff.1 H
  obtain ⟨t597, Hc20, H⟩ := H
  try dsimp only at H
  have Hc2 := Aside0.mk Hc20
  clear Hc20
  by_cases c3 : t597 = true
  · subst c3
    rw [if_pos rfl] at H
    by_cases c4 : t596 = true
    · subst c4
      rw [if_pos rfl] at H
      replace H := Option.bind_eq_some_iff.1 H
      obtain ⟨t598, Hc50, H⟩ := H
      try dsimp only at H
      have Hc5 := Aside0.mk Hc50
      clear Hc50
      replace H := Option.bind_eq_some_iff.1 H
      obtain ⟨t599, Hc60, H⟩ := H
      try dsimp only at H
      have Hc6 := Aside0.mk Hc60
      clear Hc60
      by_cases c7 : (t598 == t599) = true
      · rw [if_pos c7] at H
        have c7b0 : (t598 == t599) = true := c7
        (try (have c7b1 : decide (t598 = t599) = true := by simpa using c7))
        (try (have c7b2 : (t598 == t599) = true := by simpa using c7))
        clear c7
        replace H := Option.bind_eq_some_iff.1 H
        obtain ⟨t600, Hc80, H⟩ := H
        try dsimp only at H
        have Hc8 := Aside0.mk Hc80
        clear Hc80
        replace H := Option.bind_eq_some_iff.1 H
        obtain ⟨t601, Hc90, H⟩ := H
        try dsimp only at H
        have Hc9 := Aside0.mk Hc90
        clear Hc90
        by_cases c10 : t600.toList = t601.toList
        · rw [if_pos c10] at H
          have c10b0 : (t600.toList == t601.toList) = true := beq_iff_eq.mpr c10
          have c10b1 : (t600.toList != t601.toList) = false := bne_eq_false_iff_eq.mpr c10
          clear c10
          replace H := Option.bind_eq_some_iff.1 H
          obtain ⟨t602, Hc110, H⟩ := H
          try dsimp only at H
          have Hc11 := Aside0.mk Hc110
          clear Hc110
          replace H := Option.bind_eq_some_iff.1 H
          obtain ⟨t603, Hc120, H⟩ := H
          try dsimp only at H
          have Hc12 := Aside0.mk Hc120
          clear Hc120
          replace H := Option.bind_eq_some_iff.1 H
          obtain ⟨t604, Hc130, H⟩ := H
          try dsimp only at H
          have Hc13 := Aside0.mk Hc130
          clear Hc130
          by_cases c14 : t604 = true
          · subst c14
            rw [if_pos rfl] at H
            replace H := Option.bind_eq_some_iff.1 H
            obtain ⟨t605, Hc150, H⟩ := H
            try dsimp only at H
            have Hc15 := Aside0.mk Hc150
            clear Hc150
            replace H := Option.bind_eq_some_iff.1 H
            obtain ⟨t606, Hc160, H⟩ := H
            try dsimp only at H
            have Hc16 := Aside0.mk Hc160
            clear Hc160
            replace H := Option.bind_eq_some_iff.1 H
            obtain ⟨t607, Hc170, H⟩ := H
            try dsimp only at H
            have Hc17 := Aside0.mk Hc170
            clear Hc170
            obtain rfl := Option.some.inj H
            go_enter Try.func4, Try.ntmps4
            go_wp2_with (first | ((with_reducible refine gate_dst (N := 9) rfl ?_); refine goesL_ (some 9) rfl rfl Try.func7 (by kernel_rfl) rfl #[] rfl (by (try simp only [List.map_toArray, List.map_cons, List.map_nil]); first | done | rfl | (simp; done)) ?_; (with_reducible refine (barrowlaw38_small.calls k _ _  Hc1.out).mono ?_); rintro e_ w18 ⟨rfl, hb_⟩; refine ⟨_, rfl, ?_⟩; replace HS := Aside0.mk (HS.out.below hb_); replace HK := Aside0.mk (HK.out.trans (Keep.below hb_))) | ((with_reducible refine gate_dst (N := 12) rfl ?_); refine goesL_ (some 12) rfl rfl Try.func13 (by kernel_rfl) rfl #[.slice A1 l1.length c1, .string a0] rfl (by (try simp only [List.map_toArray, List.map_cons, List.map_nil]); first | done | rfl | (simp; done)) ?_; (with_reducible refine (barrowlaw38_few.calls k _ _ _ _ _ _ (RO.at_ HR1.out HK.out) HC1.out Hc2.out).mono ?_); rintro e_ w19 ⟨rfl, hb_⟩; refine ⟨_, rfl, ?_⟩; replace hb_ := Drawn0.below hb_; replace HS := Aside0.mk (HS.out.below hb_); replace HK := Aside0.mk (HK.out.trans (Keep.below hb_))) | ((with_reducible refine gate_dst (N := 19) rfl ?_); (try (refine gate_guard (by rfl) ?_; dsimp only)); refine goesL_ (some 19) rfl rfl Try.func14 (by kernel_rfl) rfl #[.string a0] rfl (by (try simp only [List.map_toArray, List.map_cons, List.map_nil]); first | done | rfl | (simp; done)) ?_; (with_reducible refine (chat_Right.calls k _ _ _  Hc5.out).mono ?_); rintro e_ w20 ⟨rfl, hb_⟩; refine ⟨_, rfl, ?_⟩; replace hb_ := Drawn0.below hb_; replace HS := Aside0.mk (HS.out.below hb_); replace HK := Aside0.mk (HK.out.trans (Keep.below hb_))) | ((with_reducible refine gate_dst (N := 21) rfl ?_); (try (refine gate_guard (by rfl) ?_; dsimp only)); refine goesL_ (some 21) rfl rfl Try.func15 (by kernel_rfl) rfl #[.string a0] rfl (by (try simp only [List.map_toArray, List.map_cons, List.map_nil]); first | done | rfl | (simp; done)) ?_; (with_reducible refine (barrowref38_Right.calls k _ _ _  Hc6.out).mono ?_); rintro e_ w21 ⟨rfl, hb_⟩; refine ⟨_, rfl, ?_⟩; replace hb_ := Drawn0.below hb_; replace HS := Aside0.mk (HS.out.below hb_); replace HK := Aside0.mk (HK.out.trans (Keep.below hb_))) | ((with_reducible refine gate_dst (N := 27) rfl ?_); (try (refine gate_guard (by rfl) ?_; dsimp only)); refine goesL_ (some 27) rfl rfl Try.func16 (by kernel_rfl) rfl #[.string a0, .slice A1 l1.length c1] rfl (by (try simp only [List.map_toArray, List.map_cons, List.map_nil]); first | done | rfl | (simp; done)) ?_; (with_reducible refine (chat_Clean.calls k _ _ _ _ _ _ (RO.at_ HR1.out HK.out) HC1.out Hc8.out).mono ?_); rintro e_ w22 ⟨rfl, hb_⟩; refine ⟨_, rfl, ?_⟩; replace HS := Aside0.mk (HS.out.below hb_); replace HK := Aside0.mk (HK.out.trans (Keep.below hb_))) | ((with_reducible refine gate_dst (N := 30) rfl ?_); (try (refine gate_guard (by rfl) ?_; dsimp only)); refine goesL_ (some 30) rfl rfl Try.func17 (by kernel_rfl) rfl #[.string a0, .slice A1 l1.length c1] rfl (by (try simp only [List.map_toArray, List.map_cons, List.map_nil]); first | done | rfl | (simp; done)) ?_; (with_reducible refine (barrowref38_Clean.calls k _ _ _ _ _ _ (RO.at_ HR1.out HK.out) HC1.out Hc9.out).mono ?_); rintro e_ w23 ⟨rfl, hb_⟩; refine ⟨_, rfl, ?_⟩; replace hb_ := Drawn0.below hb_; replace HS := Aside0.mk (HS.out.below hb_); replace HK := Aside0.mk (HK.out.trans (Keep.below hb_))) | ((with_reducible refine gate_dst (N := 35) rfl ?_); (try (refine gate_guard (by rfl) ?_; dsimp only)); refine goesL_ (some 35) rfl rfl Try.func19 (by kernel_rfl) rfl #[.string a0] rfl (by (try simp only [List.map_toArray, List.map_cons, List.map_nil]); first | done | rfl | (simp; done)) ?_; have hs0_ := HS.out; (with_reducible refine (chat_Words.slcalls k _ _ _ _ _ (HF.out.keep HK.out) hs0_  Hc11.out).mono ?_); rintro e_ w24 ⟨Az3000052, cz3000052, rfl, hsr_, hkr_⟩; refine ⟨_, rfl, ?_⟩; replace HS := Aside0.mk (hsr_); replace HK := Aside0.mk (HK.out.trans hkr_)) | ((with_reducible refine gate_dst (N := 37) rfl ?_); (try (refine gate_guard (by rfl) ?_; dsimp only)); refine goesL_ (some 37) rfl rfl Try.func20 (by kernel_rfl) rfl #[.string a0] rfl (by (try simp only [List.map_toArray, List.map_cons, List.map_nil]); first | done | rfl | (simp; done)) ?_; (with_reducible refine (barrowref38_Words.calls k _ _ _  Hc12.out).mono ?_); rintro e_ w25 ⟨v3000053_, rfl, ho3000053_, hb_⟩; refine ⟨_, rfl, ?_⟩; have hs_ := (SL.new (HF.out.keep HK.out) HS.out hb_ (row_of_R ho3000053_)).1; obtain ⟨Az3000053, cz3000053, e2_, _, _⟩ := SL.row_reads hs_; subst e2_; replace HS := Aside0.mk (hs_); replace HK := Aside0.mk (HK.out.trans (Keep.below hb_))) | ((with_reducible refine gate_dst (N := 38) rfl ?_); (try (refine gate_guard (by rfl) ?_; dsimp only)); refine goesL_ (some 38) rfl rfl Try.func18 (by kernel_rfl) rfl #[.slice Az3000052 t602.length cz3000052, .slice Az3000053 t603.length cz3000053] rfl (by (try simp only [List.map_toArray, List.map_cons, List.map_nil]); first | done | rfl | (simp; done)) ?_; (with_reducible refine (barrowref37_SameTexts.calls k _ _ _ _ _ _ _ _ (SL.row_c (SL.get1 HS.out)).2.2 (SL.row_c (SL.get1 HS.out)).2.1 (SL.row_c HS.out).2.2 (SL.row_c HS.out).2.1 Hc13.out).mono ?_); rintro e_ w26 ⟨rfl, hb_⟩; refine ⟨_, rfl, ?_⟩; replace hb_ := Drawn0.below hb_; replace HS := Aside0.mk (HS.out.below hb_); replace HK := Aside0.mk (HK.out.trans (Keep.below hb_))) | ((with_reducible refine gate_dst (N := 43) rfl ?_); (try (refine gate_guard (by rfl) ?_; dsimp only)); refine goesL_ (some 43) rfl rfl Try.func21 (by kernel_rfl) rfl #[.string a0, .int .i64 a2] rfl (by (try simp only [List.map_toArray, List.map_cons, List.map_nil]); first | done | rfl | (simp; done)) ?_; (with_reducible refine (chat_Cut.calls k _ _ _ _  Hc15.out).mono ?_); rintro e_ w27 ⟨v3000054_, rfl, ho3000054_, hb_⟩; refine ⟨_, rfl, ?_⟩; have hs_ := (SL.new (HF.out.keep HK.out) HS.out hb_ (row_of_R ho3000054_)).1; obtain ⟨Az3000054, cz3000054, e2_, _, _⟩ := SL.row_reads hs_; subst e2_; replace HS := Aside0.mk (hs_); replace HK := Aside0.mk (HK.out.trans (Keep.below hb_))) | ((with_reducible refine gate_dst (N := 46) rfl ?_); (try (refine gate_guard (by rfl) ?_; dsimp only)); refine goesL_ (some 46) rfl rfl Try.func22 (by kernel_rfl) rfl #[.string a0, .int .i64 a2] rfl (by (try simp only [List.map_toArray, List.map_cons, List.map_nil]); first | done | rfl | (simp; done)) ?_; (with_reducible refine (barrowref38_Cut.calls k _ _ _ _  Hc16.out).mono ?_); rintro e_ w28 ⟨v3000055_, rfl, ho3000055_, hb_⟩; refine ⟨_, rfl, ?_⟩; have hs_ := (SL.new (HF.out.keep HK.out) HS.out hb_ (row_of_R ho3000055_)).1; obtain ⟨Az3000055, cz3000055, e2_, _, _⟩ := SL.row_reads hs_; subst e2_; replace HS := Aside0.mk (hs_); replace HK := Aside0.mk (HK.out.trans (Keep.below hb_))) | ((with_reducible refine gate_dst (N := 47) rfl ?_); (try (refine gate_guard (by rfl) ?_; dsimp only)); refine goesL_ (some 47) rfl rfl Try.func18 (by kernel_rfl) rfl #[.slice Az3000054 t605.length cz3000054, .slice Az3000055 t606.length cz3000055] rfl (by (try simp only [List.map_toArray, List.map_cons, List.map_nil]); first | done | rfl | (simp; done)) ?_; (with_reducible refine (barrowref37_SameTexts.calls k _ _ _ _ _ _ _ _ (SL.row_c (SL.get1 HS.out)).2.2 (SL.row_c (SL.get1 HS.out)).2.1 (SL.row_c HS.out).2.2 (SL.row_c HS.out).2.1 Hc17.out).mono ?_); rintro e_ w29 ⟨rfl, hb_⟩; refine ⟨_, rfl, ?_⟩; replace hb_ := Drawn0.below hb_; replace HS := Aside0.mk (HS.out.below hb_); replace HK := Aside0.mk (HK.out.trans (Keep.below hb_))))
            go_ret
            replace HS := Aside0.mk (SL.tail (SL.tail (SL.tail (SL.tail HS.out))))
            unfold barrowlaw38_ChatTexts.Post
            exact ⟨by first | rfl | (simp; done) | (simp [*]; done) | (simp at c10b0 ⊢; first | exact c10b0 | (simp [c10b0]; done)), HS.out, HK.out⟩
          · replace c14 := Bool.eq_false_iff.mpr c14
            subst c14
            rw [if_neg (show ¬ (false = true) by decide)] at H
            exact absurd H (by simp)
        · rw [if_neg c10] at H
          exact absurd H (by simp)
      · rw [if_neg c7] at H
        exact absurd H (by simp)
    · replace c4 := Bool.eq_false_iff.mpr c4
      subst c4
      rw [if_neg (show ¬ (false = true) by decide)] at H
      exact absurd H (by simp)
  · replace c3 := Bool.eq_false_iff.mpr c3
    subst c3
    rw [if_neg (show ¬ (false = true) by decide)] at H
    obtain rfl := Option.some.inj H
    go_enter Try.func4, Try.ntmps4
    go_wp2_with (first | ((with_reducible refine gate_dst (N := 9) rfl ?_); refine goesL_ (some 9) rfl rfl Try.func7 (by kernel_rfl) rfl #[] rfl (by (try simp only [List.map_toArray, List.map_cons, List.map_nil]); first | done | rfl | (simp; done)) ?_; (with_reducible refine (barrowlaw38_small.calls k _ _  Hc1.out).mono ?_); rintro e_ w30 ⟨rfl, hb_⟩; refine ⟨_, rfl, ?_⟩; replace HS := Aside0.mk (HS.out.below hb_); replace HK := Aside0.mk (HK.out.trans (Keep.below hb_))) | ((with_reducible refine gate_dst (N := 12) rfl ?_); refine goesL_ (some 12) rfl rfl Try.func13 (by kernel_rfl) rfl #[.slice A1 l1.length c1, .string a0] rfl (by (try simp only [List.map_toArray, List.map_cons, List.map_nil]); first | done | rfl | (simp; done)) ?_; (with_reducible refine (barrowlaw38_few.calls k _ _ _ _ _ _ (RO.at_ HR1.out HK.out) HC1.out Hc2.out).mono ?_); rintro e_ w31 ⟨rfl, hb_⟩; refine ⟨_, rfl, ?_⟩; replace hb_ := Drawn0.below hb_; replace HS := Aside0.mk (HS.out.below hb_); replace HK := Aside0.mk (HK.out.trans (Keep.below hb_))))
    go_ret
    unfold barrowlaw38_ChatTexts.Post
    exact ⟨by first | rfl | (simp; done) | (simp [*]; done), HS.out, HK.out⟩
theorem barrowlaw38_ChatTexts.calls (k : Nat) (a0 : ByteArray) (A1 : Option Addr) (c1 : Nat) (l1 : List ByteArray) (a2 : Int) (r : Bool) (w : World) (hr1 : Kd.C Kd.string w A1 l1.length l1) (hc1 : l1.length ≤ c1) (h : barrowlaw38_ChatTexts.f k a0 l1 a2 = some r) :
    Calls Try.prog 4 #[.string a0, .slice A1 l1.length c1, .int .i64 a2] w fun e w' => e = .returned (.bool r) ∧ Below w.heap.size w w' :=
  (barrowlaw38_ChatTexts.slcalls k a0 A1 c1 l1 a2 r (news w) [] w (fresh_news w) trivial (RO.top hr1) hc1 h).mono fun _ _ h => ⟨h.1, h.2.2.to_below⟩

/-- THE ONE PURE STATEMENT of barrowlaw38_ChatTexts. -/
noncomputable def barrowlaw38_ChatTexts.Pure : Prop := ∀ (a0 : ByteArray) (l1 : List ByteArray) (a2 : Int), (a0.size ≤ 140737488351232) → (l1.length ≤ maxLen ∧ l1.length * 16 ≤ 140737488351232 ∧ ∀ x608_ ∈ l1, x608_.size ≤ 140737488351232) → ((Lit.int .i64 a2).wf = true) → ∃ k, barrowlaw38_ChatTexts.f k a0 l1 a2 = some true

end Go.Proofs.Ytdpeflbdoaccbaa.XCH
