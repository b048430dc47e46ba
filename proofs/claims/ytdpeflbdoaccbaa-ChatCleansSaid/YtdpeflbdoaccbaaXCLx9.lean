-- Written by xprint.py (a program of this session) for this claim
import Derived.Test.YtdpeflbdoaccbaaSL5
import Derived.Test.YtdpeflbdoaccbaaXCLx0
import Derived.Test.YtdpeflbdoaccbaaXCLx6
import Derived.Test.YtdpeflbdoaccbaaXCLx7
import Derived.Test.YtdpeflbdoaccbaaXCLx8
namespace Go.Proofs.Ytdpeflbdoaccbaa.XCL
open Go.Proofs.YtdpeflbdoaccbaaV Go.Proofs.YtdpeflbdoaccbaaS
open Go.RowKit Go.Proofs.YtdpeflbdoaccbaaW.PrintWords Go.Proofs.YtdpeflbdoaccbaaW.PrintLast Go.Proofs.YtdpeflbdoaccbaaW.PrintMore
attribute [local go_sem] max2_int min2_int max_two min_two max_three min_three max_four min_four   -- for this text's walks alone
set_option linter.unusedVariables false
set_option linter.unusedSimpArgs false

/-! ### barrowlaw38_small: function 7 -/
noncomputable def barrowlaw38_small.f (k : Nat)  : Option (Bool) := (some (([(⟨3, (⟨1, 0⟩ : S42)⟩ : S44), (⟨1, (⟨0, 0⟩ : S42)⟩ : S44), (⟨2, (⟨9, 0⟩ : S42)⟩ : S44)] : List (S44)) : List (S44))).bind fun y268 => ((some (([(⟨#[98, 97, 100]⟩ : ByteArray), (⟨#[98, 97, 100, 103, 101]⟩ : ByteArray)] : List ByteArray) : List ByteArray)).bind fun y269 => ((chat_Clean.f k (⟨#[66, 97, 100, 32, 98, 97, 100, 103, 101, 114]⟩ : ByteArray) y269).bind fun t270 => (if t270.toList = ([42, 42, 42, 32, 42, 42, 42, 42, 42, 114] : List UInt8) then ((chat_Cut.f k (⟨#[97, 98, 32, 99, 100, 32, 101, 102]⟩ : ByteArray) 5).bind fun t271 => ((some (([(⟨#[97, 98, 32]⟩ : ByteArray), (⟨#[99, 100, 32, 101, 102]⟩ : ByteArray)] : List ByteArray) : List ByteArray)).bind fun y272 => ((barrowref37_SameTexts.f k t271 y272).bind fun t273 => (if t273 = true then ((chat_Words.f k (⟨#[65, 98, 45, 99, 44, 32, 68]⟩ : ByteArray)).bind fun t274 => ((some (([(⟨#[97, 98]⟩ : ByteArray), (⟨#[99]⟩ : ByteArray), (⟨#[100]⟩ : ByteArray)] : List ByteArray) : List ByteArray)).bind fun y275 => ((barrowref37_SameTexts.f k t274 y275).bind fun t276 => (if t276 = true then ((some (([(⟨3, 2⟩ : S46)] : List (S46)) : List (S46))).bind fun y277 => ((chat_Hear.f k y268 ([] : List (S71)) y277 1 1 0 4).bind fun t278 => ((some (([1, 3] : List Int) : List Int)).bind fun y279 => ((barrowref02_Same.f k t278 y279).bind fun t280 => (if t280 = true then ((some (([(⟨3, 1⟩ : S46)] : List (S46)) : List (S46))).bind fun y281 => ((chat_Hear.f k y268 ([] : List (S71)) y281 4 1 3 0).bind fun t282 => ((some (([1] : List Int) : List Int)).bind fun y283 => ((barrowref02_Same.f k t282 y283).bind fun t284 => (if t284 = true then ((chat_Right.f k (⟨#[97, 126]⟩ : ByteArray)).bind fun t285 => (if t285 = true then ((chat_Right.f k (⟨#[10]⟩ : ByteArray)).bind fun t286 => (if t286 = true then (none) else (some true))) else (none))) else (none)))))) else (none)))))) else (none))))) else (none))))) else (none))))
theorem barrowlaw38_small.mono : ∀ k, LeO (barrowlaw38_small.f k ) (barrowlaw38_small.f (k + 1) ) := by
  intro  k
  unfold barrowlaw38_small.f
  repeat' first
      | (with_reducible exact barrowref02_Same.mono _ _ _)
      | (with_reducible exact barrowref37_SameTexts.mono _ _ _)
      | (with_reducible exact chat_Clean.mono _ _ _)
      | (with_reducible exact chat_Cut.mono _ _ _)
      | (with_reducible exact chat_Hear.mono _ _ _ _ _ _ _ _)
      | (with_reducible exact chat_Right.mono _ _)
      | (with_reducible exact chat_Words.mono _ _)
      | (with_reducible exact LeO.refl _)
      | (with_reducible exact LeO.none _)
      | (with_reducible refine LeO.ite ?_ ?_)
      | (with_reducible refine everyOf_le (fun _ => ?_))
      | (with_reducible refine LeO.bind ?_ (fun _ => ?_))
      | exact barrowref02_Same.mono _ _ _
      | exact barrowref37_SameTexts.mono _ _ _
      | exact chat_Clean.mono _ _ _
      | exact chat_Cut.mono _ _ _
      | exact chat_Hear.mono _ _ _ _ _ _ _ _
      | exact chat_Right.mono _ _
      | exact chat_Words.mono _ _
      | exact LeO.none _
      | refine LeO.ite ?_ ?_
      | refine LeO.bind ?_ (fun _ => ?_)
def barrowlaw38_small.Post (r : Bool) (S : Nat → Prop) (L : List Asr) (w : World) (e : Ending) (w' : World) : Prop := e = .returned (.bool r) ∧ SL (L) w' S ∧ Keep S w w'
set_option maxHeartbeats 8000000 in
set_option maxRecDepth 100000 in
theorem barrowlaw38_small.slcalls (k : Nat)  (r : Bool) (S : Nat → Prop) (L : List Asr) (w : World) (hf : Fresh S w) (hs : SL (L) w S) (h : barrowlaw38_small.f k  = some r) :
    Calls Try.prog 7 #[] w (barrowlaw38_small.Post r S L w) := by
  have HF := Aside0.mk hf
  have HS := Aside0.mk hs
  have HK := Aside0.mk (Keep.refl S w)
  clear hf hs
  have hu42 := Try.underlying42
  have hu44 := Try.underlying44
  have hu46 := Try.underlying46
  have H : ((some (([(⟨3, (⟨1, 0⟩ : S42)⟩ : S44), (⟨1, (⟨0, 0⟩ : S42)⟩ : S44), (⟨2, (⟨9, 0⟩ : S42)⟩ : S44)] : List (S44)) : List (S44))).bind fun y268 => ((some (([(⟨#[98, 97, 100]⟩ : ByteArray), (⟨#[98, 97, 100, 103, 101]⟩ : ByteArray)] : List ByteArray) : List ByteArray)).bind fun y269 => ((chat_Clean.f k (⟨#[66, 97, 100, 32, 98, 97, 100, 103, 101, 114]⟩ : ByteArray) y269).bind fun t270 => (if t270.toList = ([42, 42, 42, 32, 42, 42, 42, 42, 42, 114] : List UInt8) then ((chat_Cut.f k (⟨#[97, 98, 32, 99, 100, 32, 101, 102]⟩ : ByteArray) 5).bind fun t271 => ((some (([(⟨#[97, 98, 32]⟩ : ByteArray), (⟨#[99, 100, 32, 101, 102]⟩ : ByteArray)] : List ByteArray) : List ByteArray)).bind fun y272 => ((barrowref37_SameTexts.f k t271 y272).bind fun t273 => (if t273 = true then ((chat_Words.f k (⟨#[65, 98, 45, 99, 44, 32, 68]⟩ : ByteArray)).bind fun t274 => ((some (([(⟨#[97, 98]⟩ : ByteArray), (⟨#[99]⟩ : ByteArray), (⟨#[100]⟩ : ByteArray)] : List ByteArray) : List ByteArray)).bind fun y275 => ((barrowref37_SameTexts.f k t274 y275).bind fun t276 => (if t276 = true then ((some (([(⟨3, 2⟩ : S46)] : List (S46)) : List (S46))).bind fun y277 => ((chat_Hear.f k y268 ([] : List (S71)) y277 1 1 0 4).bind fun t278 => ((some (([1, 3] : List Int) : List Int)).bind fun y279 => ((barrowref02_Same.f k t278 y279).bind fun t280 => (if t280 = true then ((some (([(⟨3, 1⟩ : S46)] : List (S46)) : List (S46))).bind fun y281 => ((chat_Hear.f k y268 ([] : List (S71)) y281 4 1 3 0).bind fun t282 => ((some (([1] : List Int) : List Int)).bind fun y283 => ((barrowref02_Same.f k t282 y283).bind fun t284 => (if t284 = true then ((chat_Right.f k (⟨#[97, 126]⟩ : ByteArray)).bind fun t285 => (if t285 = true then ((chat_Right.f k (⟨#[10]⟩ : ByteArray)).bind fun t286 => (if t286 = true then (none) else (some true))) else (none))) else (none)))))) else (none)))))) else (none))))) else (none))))) else (none))))) = some r := h
  clear h
  replace H := Option.bind_eq_some_iff.1 H
  obtain ⟨y268, hy2680, H⟩ := H
  try dsimp only at H
  have hy268 := Option.some.inj hy2680
  clear hy2680
  have Ny268 := Aside0.mk hy268
  clear hy268
  replace H := Option.bind_eq_some_iff.1 H
  obtain ⟨y269, hy2690, H⟩ := H
  try dsimp only at H
  have hy269 := Option.some.inj hy2690
  clear hy2690
  have Ny269 := Aside0.mk hy269
  clear hy269
  replace H := Option.bind_eq_some_iff.1 H
  obtain ⟨t270, Hc10, H⟩ := H
  try dsimp only at H
  have Hc1 := Aside0.mk Hc10
  clear Hc10
  by_cases c2 : t270.toList = ([42, 42, 42, 32, 42, 42, 42, 42, 42, 114] : List UInt8)
  · rw [if_pos c2] at H
    have c2b0 : (t270.toList == ([42, 42, 42, 32, 42, 42, 42, 42, 42, 114] : List UInt8)) = true := beq_iff_eq.mpr c2
    have c2b1 : (t270.toList != ([42, 42, 42, 32, 42, 42, 42, 42, 42, 114] : List UInt8)) = false := bne_eq_false_iff_eq.mpr c2
    clear c2
    replace H := Option.bind_eq_some_iff.1 H
    obtain ⟨t271, Hc30, H⟩ := H
    try dsimp only at H
    have Hc3 := Aside0.mk Hc30
    clear Hc30
    replace H := Option.bind_eq_some_iff.1 H
    obtain ⟨y272, hy2720, H⟩ := H
    try dsimp only at H
    have hy272 := Option.some.inj hy2720
    clear hy2720
    have Ny272 := Aside0.mk hy272
    clear hy272
    replace H := Option.bind_eq_some_iff.1 H
    obtain ⟨t273, Hc40, H⟩ := H
    try dsimp only at H
    have Hc4 := Aside0.mk Hc40
    clear Hc40
    by_cases c5 : t273 = true
    · subst c5
      rw [if_pos rfl] at H
      replace H := Option.bind_eq_some_iff.1 H
      obtain ⟨t274, Hc60, H⟩ := H
      try dsimp only at H
      have Hc6 := Aside0.mk Hc60
      clear Hc60
      replace H := Option.bind_eq_some_iff.1 H
      obtain ⟨y275, hy2750, H⟩ := H
      try dsimp only at H
      have hy275 := Option.some.inj hy2750
      clear hy2750
      have Ny275 := Aside0.mk hy275
      clear hy275
      replace H := Option.bind_eq_some_iff.1 H
      obtain ⟨t276, Hc70, H⟩ := H
      try dsimp only at H
      have Hc7 := Aside0.mk Hc70
      clear Hc70
      by_cases c8 : t276 = true
      · subst c8
        rw [if_pos rfl] at H
        replace H := Option.bind_eq_some_iff.1 H
        obtain ⟨y277, hy2770, H⟩ := H
        try dsimp only at H
        have hy277 := Option.some.inj hy2770
        clear hy2770
        have Ny277 := Aside0.mk hy277
        clear hy277
        replace H := Option.bind_eq_some_iff.1 H
        obtain ⟨t278, Hc90, H⟩ := H
        try dsimp only at H
        have Hc9 := Aside0.mk Hc90
        clear Hc90
        replace H := Option.bind_eq_some_iff.1 H
        obtain ⟨y279, hy2790, H⟩ := H
        try dsimp only at H
        have hy279 := Option.some.inj hy2790
        clear hy2790
        have Ny279 := Aside0.mk hy279
        clear hy279
        replace H := Option.bind_eq_some_iff.1 H
        obtain ⟨t280, Hc100, H⟩ := H
        try dsimp only at H
        have Hc10 := Aside0.mk Hc100
        clear Hc100
        by_cases c11 : t280 = true
        · subst c11
          rw [if_pos rfl] at H
          replace H := Option.bind_eq_some_iff.1 H
          obtain ⟨y281, hy2810, H⟩ := H
          try dsimp only at H
          have hy281 := Option.some.inj hy2810
          clear hy2810
          have Ny281 := Aside0.mk hy281
          clear hy281
          replace H := Option.bind_eq_some_iff.1 H
          obtain ⟨t282, Hc120, H⟩ := H
          try dsimp only at H
          have Hc12 := Aside0.mk Hc120
          clear Hc120
          replace H := Option.bind_eq_some_iff.1 H
          obtain ⟨y283, hy2830, H⟩ := H
          try dsimp only at H
          have hy283 := Option.some.inj hy2830
          clear hy2830
          have Ny283 := Aside0.mk hy283
          clear hy283
          replace H := Option.bind_eq_some_iff.1 H
          obtain ⟨t284, Hc130, H⟩ := H
          try dsimp only at H
          have Hc13 := Aside0.mk Hc130
          clear Hc130
          by_cases c14 : t284 = true
          · subst c14
            rw [if_pos rfl] at H
            replace H := Option.bind_eq_some_iff.1 H
            obtain ⟨t285, Hc150, H⟩ := H
            try dsimp only at H
            have Hc15 := Aside0.mk Hc150
            clear Hc150
            by_cases c16 : t285 = true
            · subst c16
              rw [if_pos rfl] at H
              replace H := Option.bind_eq_some_iff.1 H
              obtain ⟨t286, Hc170, H⟩ := H
              try dsimp only at H
              have Hc17 := Aside0.mk Hc170
              clear Hc170
              by_cases c18 : t286 = true
              · subst c18
                rw [if_pos rfl] at H
                exact absurd H (by simp)
              · replace c18 := Bool.eq_false_iff.mpr c18
                subst c18
                rw [if_neg (show ¬ (false = true) by decide)] at H
                obtain rfl := Option.some.inj H
                go_enter Try.func7, Try.ntmps7
                go_wp2_with (first | ((with_reducible refine gate_dst (N := 7) rfl ?_); refine wpList_plain rfl (fun K_ hK_ => ?_); refine op_rowF (S := S) (d := k44) ⟨fun h_ => h_⟩ 44 y268 #[.int .i64 3, .int .i64 1, .int .i64 0, .int .i64 1, .int .i64 0, .int .i64 0, .int .i64 2, .int .i64 9, .int .i64 0] 3 (by rw [← Ny268.out]; exact reps_cons (k44_mkM _ 0 _ (⟨3, (⟨1, 0⟩ : S42)⟩ : S44)) rfl (reps_cons (k44_mkM _ 0 _ (⟨1, (⟨0, 0⟩ : S42)⟩ : S44)) rfl (reps_cons (k44_mkM _ 0 _ (⟨2, (⟨9, 0⟩ : S42)⟩ : S44)) rfl (Reps.none _ _)))) (by rw [← Ny268.out]; rfl) (by decide) (HF.out.keep HK.out) HS.out (by first | (go_simp; done) | (go_simp; rfl)) ?_; intro Az3000027 cz3000027 w19 hs_ hk_; refine hK_ _ _ ?_; clear hK_ K_; replace HS := Aside0.mk ((show SL (row k44 44 (.slice Az3000027 3 cz3000027) y268 :: _) _ _ from hs_)); replace HK := Aside0.mk (HK.out.trans hk_)) | ((with_reducible refine gate_dst (N := 8) rfl ?_); refine wpList_plain rfl (fun K_ hK_ => ?_); refine op_row (S := S) (enc := Value.string) (h1 := fun _ => rfl) 9 y269 #[.string (⟨#[98, 97, 100]⟩ : ByteArray), .string (⟨#[98, 97, 100, 103, 101]⟩ : ByteArray)] 2 (by rw [← Ny269.out]; rfl) (by rw [← Ny269.out]; rfl) (by decide) (HF.out.keep HK.out) HS.out (by first | (go_simp; done) | (go_simp; rfl)) ?_; intro Az3000028 cz3000028 w20 hs_ hk_; refine hK_ _ _ ?_; clear hK_ K_; replace HS := Aside0.mk ((show SL (row Kd.string 9 (.slice Az3000028 2 cz3000028) y269 :: _) _ _ from hs_)); replace HK := Aside0.mk (HK.out.trans hk_)) | ((with_reducible refine gate_dst (N := 9) rfl ?_); refine goesL_ (some 9) rfl rfl Try.func16 (by kernel_rfl) rfl #[.string (⟨#[66, 97, 100, 32, 98, 97, 100, 103, 101, 114]⟩ : ByteArray), .slice Az3000028 2 cz3000028] rfl (by (try simp only [List.map_toArray, List.map_cons, List.map_nil]); first | done | rfl | (simp; done)) ?_; have el3000028_ := Aside0.mk (SL.row_c HS.out).1; refine calls_of_args (args' := #[.string (⟨#[66, 97, 100, 32, 98, 97, 100, 103, 101, 114]⟩ : ByteArray), .slice Az3000028 y269.length cz3000028]) (by rw [← el3000028_.out]) ?_; (with_reducible refine (chat_Clean.calls k _ _ _ _ _ _ (by have e_ := (SL.row_c HS.out).1; have h_ := (SL.row_c HS.out).2.2; rw [e_] at h_; exact h_) (by have e_ := (SL.row_c HS.out).1; have h_ := (SL.row_c HS.out).2.1; (try dsimp only at e_ h_); (try dsimp only); omega) Hc1.out).mono ?_); rintro e_ w21 ⟨rfl, hb_⟩; refine ⟨_, rfl, ?_⟩; replace HS := Aside0.mk (HS.out.below hb_); replace HK := Aside0.mk (HK.out.trans (Keep.below hb_))) | ((with_reducible refine gate_dst (N := 12) rfl ?_); (try (refine gate_guard (by rfl) ?_; dsimp only)); refine goesL_ (some 12) rfl rfl Try.func21 (by kernel_rfl) rfl #[.string (⟨#[97, 98, 32, 99, 100, 32, 101, 102]⟩ : ByteArray), .int .i64 5] rfl (by (try simp only [List.map_toArray, List.map_cons, List.map_nil]); first | done | rfl | (simp; done)) ?_; (with_reducible refine (chat_Cut.calls k _ _ _ _  Hc3.out).mono ?_); rintro e_ w22 ⟨v3000029_, rfl, ho3000029_, hb_⟩; refine ⟨_, rfl, ?_⟩; have hs_ := (SL.new (HF.out.keep HK.out) HS.out hb_ (row_of_R ho3000029_)).1; obtain ⟨Az3000029, cz3000029, e2_, _, _⟩ := SL.row_reads hs_; subst e2_; replace HS := Aside0.mk (hs_); replace HK := Aside0.mk (HK.out.trans (Keep.below hb_))) | ((with_reducible refine gate_dst (N := 13) rfl ?_); (try (refine gate_guard (by rfl) ?_; dsimp only)); refine wpList_plain rfl (fun K_ hK_ => ?_); refine op_row (S := S) (enc := Value.string) (h1 := fun _ => rfl) 9 y272 #[.string (⟨#[97, 98, 32]⟩ : ByteArray), .string (⟨#[99, 100, 32, 101, 102]⟩ : ByteArray)] 2 (by rw [← Ny272.out]; rfl) (by rw [← Ny272.out]; rfl) (by decide) (HF.out.keep HK.out) HS.out (by first | (go_simp; done) | (go_simp; rfl)) ?_; intro Az3000030 cz3000030 w23 hs_ hk_; refine hK_ _ _ ?_; clear hK_ K_; replace HS := Aside0.mk ((show SL (row Kd.string 9 (.slice Az3000030 2 cz3000030) y272 :: _) _ _ from hs_)); replace HK := Aside0.mk (HK.out.trans hk_)) | ((with_reducible refine gate_dst (N := 14) rfl ?_); (try (refine gate_guard (by rfl) ?_; dsimp only)); refine goesL_ (some 14) rfl rfl Try.func18 (by kernel_rfl) rfl #[.slice Az3000029 t271.length cz3000029, .slice Az3000030 2 cz3000030] rfl (by (try simp only [List.map_toArray, List.map_cons, List.map_nil]); first | done | rfl | (simp; done)) ?_; have el3000030_ := Aside0.mk (SL.row_c HS.out).1; refine calls_of_args (args' := #[.slice Az3000029 t271.length cz3000029, .slice Az3000030 y272.length cz3000030]) (by rw [← el3000030_.out]) ?_; (with_reducible refine (barrowref37_SameTexts.calls k _ _ _ _ _ _ _ _ (SL.row_c (SL.get1 HS.out)).2.2 (SL.row_c (SL.get1 HS.out)).2.1 (by have e_ := (SL.row_c HS.out).1; have h_ := (SL.row_c HS.out).2.2; rw [e_] at h_; exact h_) (by have e_ := (SL.row_c HS.out).1; have h_ := (SL.row_c HS.out).2.1; (try dsimp only at e_ h_); (try dsimp only); omega) Hc4.out).mono ?_); rintro e_ w24 ⟨rfl, hb_⟩; refine ⟨_, rfl, ?_⟩; replace hb_ := Drawn0.below hb_; replace HS := Aside0.mk (HS.out.below hb_); replace HK := Aside0.mk (HK.out.trans (Keep.below hb_))) | ((with_reducible refine gate_dst (N := 17) rfl ?_); (try (refine gate_guard (by rfl) ?_; dsimp only)); refine goesL_ (some 17) rfl rfl Try.func19 (by kernel_rfl) rfl #[.string (⟨#[65, 98, 45, 99, 44, 32, 68]⟩ : ByteArray)] rfl (by (try simp only [List.map_toArray, List.map_cons, List.map_nil]); first | done | rfl | (simp; done)) ?_; have hs0_ := HS.out; (with_reducible refine (chat_Words.slcalls k _ _ _ _ _ (HF.out.keep HK.out) hs0_  Hc6.out).mono ?_); rintro e_ w25 ⟨Az3000031, cz3000031, rfl, hsr_, hkr_⟩; refine ⟨_, rfl, ?_⟩; replace HS := Aside0.mk (hsr_); replace HK := Aside0.mk (HK.out.trans hkr_)) | ((with_reducible refine gate_dst (N := 18) rfl ?_); (try (refine gate_guard (by rfl) ?_; dsimp only)); refine wpList_plain rfl (fun K_ hK_ => ?_); refine op_row (S := S) (enc := Value.string) (h1 := fun _ => rfl) 9 y275 #[.string (⟨#[97, 98]⟩ : ByteArray), .string (⟨#[99]⟩ : ByteArray), .string (⟨#[100]⟩ : ByteArray)] 3 (by rw [← Ny275.out]; rfl) (by rw [← Ny275.out]; rfl) (by decide) (HF.out.keep HK.out) HS.out (by first | (go_simp; done) | (go_simp; rfl)) ?_; intro Az3000032 cz3000032 w26 hs_ hk_; refine hK_ _ _ ?_; clear hK_ K_; replace HS := Aside0.mk ((show SL (row Kd.string 9 (.slice Az3000032 3 cz3000032) y275 :: _) _ _ from hs_)); replace HK := Aside0.mk (HK.out.trans hk_)) | ((with_reducible refine gate_dst (N := 19) rfl ?_); (try (refine gate_guard (by rfl) ?_; dsimp only)); refine goesL_ (some 19) rfl rfl Try.func18 (by kernel_rfl) rfl #[.slice Az3000031 t274.length cz3000031, .slice Az3000032 3 cz3000032] rfl (by (try simp only [List.map_toArray, List.map_cons, List.map_nil]); first | done | rfl | (simp; done)) ?_; have el3000032_ := Aside0.mk (SL.row_c HS.out).1; refine calls_of_args (args' := #[.slice Az3000031 t274.length cz3000031, .slice Az3000032 y275.length cz3000032]) (by rw [← el3000032_.out]) ?_; (with_reducible refine (barrowref37_SameTexts.calls k _ _ _ _ _ _ _ _ (SL.row_c (SL.get1 HS.out)).2.2 (SL.row_c (SL.get1 HS.out)).2.1 (by have e_ := (SL.row_c HS.out).1; have h_ := (SL.row_c HS.out).2.2; rw [e_] at h_; exact h_) (by have e_ := (SL.row_c HS.out).1; have h_ := (SL.row_c HS.out).2.1; (try dsimp only at e_ h_); (try dsimp only); omega) Hc7.out).mono ?_); rintro e_ w27 ⟨rfl, hb_⟩; refine ⟨_, rfl, ?_⟩; replace hb_ := Drawn0.below hb_; replace HS := Aside0.mk (HS.out.below hb_); replace HK := Aside0.mk (HK.out.trans (Keep.below hb_))) | ((with_reducible refine gate_dst (N := 24) rfl ?_); (try (refine gate_guard (by rfl) ?_; dsimp only)); refine wpList_plain rfl (fun K_ hK_ => ?_); refine op_rowF (S := S) (d := k46) ⟨fun h_ => h_⟩ 46 y277 #[.int .i64 3, .int .i64 2] 1 (by rw [← Ny277.out]; exact reps_cons (k46_mkM _ 0 _ (⟨3, 2⟩ : S46)) rfl (Reps.none _ _)) (by rw [← Ny277.out]; rfl) (by decide) (HF.out.keep HK.out) HS.out (by first | (go_simp; done) | (go_simp; rfl)) ?_; intro Az3000033 cz3000033 w28 hs_ hk_; refine hK_ _ _ ?_; clear hK_ K_; replace HS := Aside0.mk ((show SL (row k46 46 (.slice Az3000033 1 cz3000033) y277 :: _) _ _ from hs_)); replace HK := Aside0.mk (HK.out.trans hk_)) | ((with_reducible refine gate_dst (N := 25) rfl ?_); (try (refine gate_guard (by rfl) ?_; dsimp only)); refine goesL_ (some 25) rfl rfl Try.func8 (by kernel_rfl) rfl #[.slice Az3000027 3 cz3000027, .slice none 0 0, .slice Az3000033 1 cz3000033, .int .i64 1, .int .i64 1, .int .i64 0, .int .i64 4] rfl (by (try simp only [List.map_toArray, List.map_cons, List.map_nil]); first | done | rfl | (simp; done)) ?_; have el3000027_ := Aside0.mk (SL.row_c (SL.get6 HS.out)).1; have el3000033_ := Aside0.mk (SL.row_c HS.out).1; refine calls_of_args (args' := #[.slice Az3000027 y268.length cz3000027, .slice none 0 0, .slice Az3000033 y277.length cz3000033, .int .i64 1, .int .i64 1, .int .i64 0, .int .i64 4]) (by rw [← el3000027_.out, ← el3000033_.out]) ?_; have hs0_ := (SL.get6 HS.out); obtain ⟨U1_, hfU1_, hsub1_, hs1_, hro1_, hback1_⟩ := SL.lend (HF.out.keep HK.out) hs0_ (p := fun w_ => Kd.C k44 w_ Az3000027 3 y268) (fun w_ T_ h_ => (Qs_c h_).2.2); obtain ⟨U2_, hfU2_, hsub2_, hs2_, hro2_, hback2_⟩ := SL.lend hfU1_ hs1_ (p := fun w_ => Kd.C k46 w_ Az3000033 1 y277) (fun w_ T_ h_ => (Qs_c h_).2.2); (refine (chat_Hear.slcalls k _ _ _ _ _ _ _ _ _ _ _ _ _ _ _ _ _ hfU2_ hs2_ (by rw [← el3000027_.out]; exact (RO.sub hro1_ (fun k_ h_ => hsub2_ k_ (h_)))) (by rw [← el3000027_.out]; exact (SL.row_c (SL.get6 HS.out)).2.1) (fun w_ _ => Kd.C_nil _ _) (Nat.le_refl _) (by rw [← el3000033_.out]; exact hro2_) (by rw [← el3000033_.out]; exact (SL.row_c HS.out).2.1) Hc9.out).mono ?_); rintro e_ w29 ⟨Az3000034, cz3000034, rfl, hsr_, hkr_⟩; refine ⟨_, rfl, ?_⟩; replace HS := Aside0.mk ((hback1_ _ _ (Keep.sub hkr_ (fun k_ h_ => hsub2_ k_ (h_))) (hback2_ _ _ hkr_ hsr_))); replace HK := Aside0.mk (HK.out.trans (Keep.sub hkr_ (fun k_ h_ => hsub1_ k_ (hsub2_ k_ h_))))) | ((with_reducible refine gate_dst (N := 26) rfl ?_); (try (refine gate_guard (by rfl) ?_; dsimp only)); refine wpList_plain rfl (fun K_ hK_ => ?_); refine op_row (S := S) (enc := Value.int .i64) (h1 := fun _ => rfl) 3 y279 #[.int .i64 1, .int .i64 3] 2 (by rw [← Ny279.out]; rfl) (by rw [← Ny279.out]; rfl) (by decide) (HF.out.keep HK.out) HS.out (by first | (go_simp; done) | (go_simp; rfl)) ?_; intro Az3000035 cz3000035 w30 hs_ hk_; refine hK_ _ _ ?_; clear hK_ K_; replace HS := Aside0.mk ((show SL (row (Kd.int .i64) 3 (.slice Az3000035 2 cz3000035) y279 :: _) _ _ from hs_)); replace HK := Aside0.mk (HK.out.trans hk_)) | ((with_reducible refine gate_dst (N := 27) rfl ?_); (try (refine gate_guard (by rfl) ?_; dsimp only)); refine goesL_ (some 27) rfl rfl Try.func9 (by kernel_rfl) rfl #[.slice Az3000034 t278.length cz3000034, .slice Az3000035 2 cz3000035] rfl (by (try simp only [List.map_toArray, List.map_cons, List.map_nil]); first | done | rfl | (simp; done)) ?_; have el3000035_ := Aside0.mk (SL.row_c HS.out).1; refine calls_of_args (args' := #[.slice Az3000034 t278.length cz3000034, .slice Az3000035 y279.length cz3000035]) (by rw [← el3000035_.out]) ?_; (with_reducible refine (barrowref02_Same.calls k _ _ _ _ _ _ _ _ (SL.row_c (SL.get3 HS.out)).2.2 (SL.row_c (SL.get3 HS.out)).2.1 (by have e_ := (SL.row_c HS.out).1; have h_ := (SL.row_c HS.out).2.2; rw [e_] at h_; exact h_) (by have e_ := (SL.row_c HS.out).1; have h_ := (SL.row_c HS.out).2.1; (try dsimp only at e_ h_); (try dsimp only); omega) Hc10.out).mono ?_); rintro e_ w31 ⟨rfl, hb_⟩; refine ⟨_, rfl, ?_⟩; replace hb_ := Drawn0.below hb_; replace HS := Aside0.mk (HS.out.below hb_); replace HK := Aside0.mk (HK.out.trans (Keep.below hb_))) | ((with_reducible refine gate_dst (N := 32) rfl ?_); (try (refine gate_guard (by rfl) ?_; dsimp only)); refine wpList_plain rfl (fun K_ hK_ => ?_); refine op_rowF (S := S) (d := k46) ⟨fun h_ => h_⟩ 46 y281 #[.int .i64 3, .int .i64 1] 1 (by rw [← Ny281.out]; exact reps_cons (k46_mkM _ 0 _ (⟨3, 1⟩ : S46)) rfl (Reps.none _ _)) (by rw [← Ny281.out]; rfl) (by decide) (HF.out.keep HK.out) HS.out (by first | (go_simp; done) | (go_simp; rfl)) ?_; intro Az3000036 cz3000036 w32 hs_ hk_; refine hK_ _ _ ?_; clear hK_ K_; replace HS := Aside0.mk ((show SL (row k46 46 (.slice Az3000036 1 cz3000036) y281 :: _) _ _ from hs_)); replace HK := Aside0.mk (HK.out.trans hk_)) | ((with_reducible refine gate_dst (N := 33) rfl ?_); (try (refine gate_guard (by rfl) ?_; dsimp only)); refine goesL_ (some 33) rfl rfl Try.func8 (by kernel_rfl) rfl #[.slice Az3000027 3 cz3000027, .slice none 0 0, .slice Az3000036 1 cz3000036, .int .i64 4, .int .i64 1, .int .i64 3, .int .i64 0] rfl (by (try simp only [List.map_toArray, List.map_cons, List.map_nil]); first | done | rfl | (simp; done)) ?_; have el3000027_ := Aside0.mk (SL.row_c (SL.get2 HS.out)).1; have el3000036_ := Aside0.mk (SL.row_c HS.out).1; refine calls_of_args (args' := #[.slice Az3000027 y268.length cz3000027, .slice none 0 0, .slice Az3000036 y281.length cz3000036, .int .i64 4, .int .i64 1, .int .i64 3, .int .i64 0]) (by rw [← el3000027_.out, ← el3000036_.out]) ?_; have hs0_ := (SL.get2 HS.out); obtain ⟨U1_, hfU1_, hsub1_, hs1_, hro1_, hback1_⟩ := SL.lend (HF.out.keep HK.out) hs0_ (p := fun w_ => Kd.C k44 w_ Az3000027 3 y268) (fun w_ T_ h_ => (Qs_c h_).2.2); obtain ⟨U2_, hfU2_, hsub2_, hs2_, hro2_, hback2_⟩ := SL.lend hfU1_ hs1_ (p := fun w_ => Kd.C k46 w_ Az3000036 1 y281) (fun w_ T_ h_ => (Qs_c h_).2.2); (refine (chat_Hear.slcalls k _ _ _ _ _ _ _ _ _ _ _ _ _ _ _ _ _ hfU2_ hs2_ (by rw [← el3000027_.out]; exact (RO.sub hro1_ (fun k_ h_ => hsub2_ k_ (h_)))) (by rw [← el3000027_.out]; exact (SL.row_c (SL.get2 HS.out)).2.1) (fun w_ _ => Kd.C_nil _ _) (Nat.le_refl _) (by rw [← el3000036_.out]; exact hro2_) (by rw [← el3000036_.out]; exact (SL.row_c HS.out).2.1) Hc12.out).mono ?_); rintro e_ w33 ⟨Az3000037, cz3000037, rfl, hsr_, hkr_⟩; refine ⟨_, rfl, ?_⟩; replace HS := Aside0.mk ((hback1_ _ _ (Keep.sub hkr_ (fun k_ h_ => hsub2_ k_ (h_))) (hback2_ _ _ hkr_ hsr_))); replace HK := Aside0.mk (HK.out.trans (Keep.sub hkr_ (fun k_ h_ => hsub1_ k_ (hsub2_ k_ h_))))) | ((with_reducible refine gate_dst (N := 34) rfl ?_); (try (refine gate_guard (by rfl) ?_; dsimp only)); refine wpList_plain rfl (fun K_ hK_ => ?_); refine op_row (S := S) (enc := Value.int .i64) (h1 := fun _ => rfl) 3 y283 #[.int .i64 1] 1 (by rw [← Ny283.out]; rfl) (by rw [← Ny283.out]; rfl) (by decide) (HF.out.keep HK.out) HS.out (by first | (go_simp; done) | (go_simp; rfl)) ?_; intro Az3000038 cz3000038 w34 hs_ hk_; refine hK_ _ _ ?_; clear hK_ K_; replace HS := Aside0.mk ((show SL (row (Kd.int .i64) 3 (.slice Az3000038 1 cz3000038) y283 :: _) _ _ from hs_)); replace HK := Aside0.mk (HK.out.trans hk_)) | ((with_reducible refine gate_dst (N := 35) rfl ?_); (try (refine gate_guard (by rfl) ?_; dsimp only)); refine goesL_ (some 35) rfl rfl Try.func9 (by kernel_rfl) rfl #[.slice Az3000037 t282.length cz3000037, .slice Az3000038 1 cz3000038] rfl (by (try simp only [List.map_toArray, List.map_cons, List.map_nil]); first | done | rfl | (simp; done)) ?_; have el3000038_ := Aside0.mk (SL.row_c HS.out).1; refine calls_of_args (args' := #[.slice Az3000037 t282.length cz3000037, .slice Az3000038 y283.length cz3000038]) (by rw [← el3000038_.out]) ?_; (with_reducible refine (barrowref02_Same.calls k _ _ _ _ _ _ _ _ (SL.row_c (SL.get3 HS.out)).2.2 (SL.row_c (SL.get3 HS.out)).2.1 (by have e_ := (SL.row_c HS.out).1; have h_ := (SL.row_c HS.out).2.2; rw [e_] at h_; exact h_) (by have e_ := (SL.row_c HS.out).1; have h_ := (SL.row_c HS.out).2.1; (try dsimp only at e_ h_); (try dsimp only); omega) Hc13.out).mono ?_); rintro e_ w35 ⟨rfl, hb_⟩; refine ⟨_, rfl, ?_⟩; replace hb_ := Drawn0.below hb_; replace HS := Aside0.mk (HS.out.below hb_); replace HK := Aside0.mk (HK.out.trans (Keep.below hb_))) | ((with_reducible refine gate_dst (N := 38) rfl ?_); (try (refine gate_guard (by rfl) ?_; dsimp only)); refine goesL_ (some 38) rfl rfl Try.func14 (by kernel_rfl) rfl #[.string (⟨#[97, 126]⟩ : ByteArray)] rfl (by (try simp only [List.map_toArray, List.map_cons, List.map_nil]); first | done | rfl | (simp; done)) ?_; (with_reducible refine (chat_Right.calls k _ _ _  Hc15.out).mono ?_); rintro e_ w36 ⟨rfl, hb_⟩; refine ⟨_, rfl, ?_⟩; replace hb_ := Drawn0.below hb_; replace HS := Aside0.mk (HS.out.below hb_); replace HK := Aside0.mk (HK.out.trans (Keep.below hb_))) | ((with_reducible refine gate_dst (N := 41) rfl ?_); (try (refine gate_guard (by rfl) ?_; dsimp only)); refine goesL_ (some 41) rfl rfl Try.func14 (by kernel_rfl) rfl #[.string (⟨#[10]⟩ : ByteArray)] rfl (by (try simp only [List.map_toArray, List.map_cons, List.map_nil]); first | done | rfl | (simp; done)) ?_; (with_reducible refine (chat_Right.calls k _ _ _  Hc17.out).mono ?_); rintro e_ w37 ⟨rfl, hb_⟩; refine ⟨_, rfl, ?_⟩; replace hb_ := Drawn0.below hb_; replace HS := Aside0.mk (HS.out.below hb_); replace HK := Aside0.mk (HK.out.trans (Keep.below hb_))))
                go_ret
                replace HS := Aside0.mk (SL.tail (SL.tail (SL.tail (SL.tail (SL.tail (SL.tail (SL.tail (SL.tail (SL.tail (SL.tail (SL.tail (SL.tail HS.out))))))))))))
                unfold barrowlaw38_small.Post
                exact ⟨by first | rfl | (simp; done) | (simp [*]; done) | (simp at c2b0 ⊢; first | exact c2b0 | (simp [c2b0]; done)), HS.out, HK.out⟩
            · replace c16 := Bool.eq_false_iff.mpr c16
              subst c16
              rw [if_neg (show ¬ (false = true) by decide)] at H
              exact absurd H (by simp)
          · replace c14 := Bool.eq_false_iff.mpr c14
            subst c14
            rw [if_neg (show ¬ (false = true) by decide)] at H
            exact absurd H (by simp)
        · replace c11 := Bool.eq_false_iff.mpr c11
          subst c11
          rw [if_neg (show ¬ (false = true) by decide)] at H
          exact absurd H (by simp)
      · replace c8 := Bool.eq_false_iff.mpr c8
        subst c8
        rw [if_neg (show ¬ (false = true) by decide)] at H
        exact absurd H (by simp)
    · replace c5 := Bool.eq_false_iff.mpr c5
      subst c5
      rw [if_neg (show ¬ (false = true) by decide)] at H
      exact absurd H (by simp)
  · rw [if_neg c2] at H
    exact absurd H (by simp)
theorem barrowlaw38_small.calls (k : Nat)  (r : Bool) (w : World) (h : barrowlaw38_small.f k  = some r) :
    Calls Try.prog 7 #[] w fun e w' => e = .returned (.bool r) ∧ Below w.heap.size w w' :=
  (barrowlaw38_small.slcalls k  r (news w) [] w (fresh_news w) trivial h).mono fun _ _ h => ⟨h.1, h.2.2.to_below⟩

end Go.Proofs.Ytdpeflbdoaccbaa.XCL
