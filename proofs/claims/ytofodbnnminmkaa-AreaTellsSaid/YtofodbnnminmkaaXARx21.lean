-- Written by xprint.py (a program of this session) for this claim
import Derived.Test.YtofodbnnminmkaaSL5
import Derived.Test.YtofodbnnminmkaaXARx0
import Derived.Test.YtofodbnnminmkaaXARx2
import Derived.Test.YtofodbnnminmkaaXARx5
import Derived.Test.YtofodbnnminmkaaXARx7
import Derived.Test.YtofodbnnminmkaaXARx8
import Derived.Test.YtofodbnnminmkaaXARx11
import Derived.Test.YtofodbnnminmkaaXARx20
namespace Go.Proofs.Ytofodbnnminmkaa.XAR
open Go.Proofs.YtofodbnnminmkaaV Go.Proofs.YtofodbnnminmkaaS
open Go.RowKit Go.Proofs.YtofodbnnminmkaaW.PrintWords Go.Proofs.YtofodbnnminmkaaW.PrintLast Go.Proofs.YtofodbnnminmkaaW.PrintMore
attribute [local go_sem] max2_int min2_int max_two min_two max_three min_three max_four min_four   -- for this text's walks alone
set_option linter.unusedVariables false
set_option linter.unusedSimpArgs false

/-! ### barrowlaw32_small: function 7 -/
noncomputable def barrowlaw32_small.f (k : Nat)  : Option (Bool) := (barrowlaw32_tile.f 2 0).bind fun bt386 => ((barrowlaw32_tile.f 1 0).bind fun bt388 => ((barrowlaw32_tile.f 4 0).bind fun bt390 => ((barrowlaw32_tile.f 3 0).bind fun bt392 => ((barrowlaw32_tile.f 0 0).bind fun bt394 => ((some (([(⟨3, (⟨bt390.1, bt390.2⟩ : S26)⟩ : S47), (⟨1, (⟨bt392.1, bt392.2⟩ : S26)⟩ : S47), (⟨2, (⟨bt394.1, bt394.2⟩ : S26)⟩ : S47)] : List (S47)) : List (S47))).bind fun y396 => ((barrowlaw32_tile.f 4 0).bind fun bt397 => ((area_In.f k 2 bt386.1 bt386.2 0 0 1 2 bt397.1 bt397.2).bind fun t399 => (if t399 = true then ((barrowlaw32_tile.f 3 0).bind fun bt400 => ((area_In.f k 2 bt386.1 bt386.2 0 0 1 2 bt400.1 bt400.2).bind fun t402 => (if t402 = true then (none) else ((barrowlaw32_tile.f 3 2).bind fun bt403 => ((area_In.f k 4 0 0 bt388.1 bt388.2 5 0 bt403.1 bt403.2).bind fun t405 => (if t405 = true then ((barrowlaw32_tile.f 3 3).bind fun bt406 => ((area_In.f k 4 0 0 bt388.1 bt388.2 5 0 bt406.1 bt406.2).bind fun t408 => (if t408 = true then ((barrowlaw32_tile.f 2 3).bind fun bt409 => ((area_In.f k 4 0 0 bt388.1 bt388.2 5 0 bt409.1 bt409.2).bind fun t411 => (if t411 = true then (none) else ((area_Units.f k y396 2 bt386.1 bt386.2 0 0 1 2).bind fun t412 => ((some (([2, 3] : List Int) : List Int)).bind fun y413 => ((barrowref02_Same.f k t412 y413).bind fun t414 => (if t414 = true then ((barrowlaw32_tile.f 5 0).bind fun bt415 => ((area_Nearest.f k y396 2 bt386.1 bt386.2 0 0 1 2 bt415.1 bt415.2 1).bind fun t417 => ((some (([3] : List Int) : List Int)).bind fun y418 => ((barrowref02_Same.f k t417 y418).bind fun t419 => (if t419 = true then (if 5 ≤ 281474976710656 then ((some (List.replicate 5 false : List Bool)).bind fun y420 => ((area_Tiles.f k 5 1 y420 2 bt386.1 bt386.2 0 0 1 2).bind fun t421 => (if (t421.length : Int) = 2 then ((area_Right.f 2 bt386.1 bt386.2 0 0 1 2).bind fun t422 => (some t422)) else (none)))) else (none)) else (none)))))) else (none)))))))) else (none)))) else (none))))))) else (none)))))))))
theorem barrowlaw32_small.mono : ∀ k, LeO (barrowlaw32_small.f k ) (barrowlaw32_small.f (k + 1) ) := by
  intro  k
  unfold barrowlaw32_small.f
  repeat' first
      | (with_reducible exact area_In.mono _ _ _ _ _ _ _ _ _ _)
      | (with_reducible exact area_Nearest.mono _ _ _ _ _ _ _ _ _ _ _ _)
      | (with_reducible exact area_Tiles.mono _ _ _ _ _ _ _ _ _ _ _)
      | (with_reducible exact area_Units.mono _ _ _ _ _ _ _ _ _)
      | (with_reducible exact barrowref02_Same.mono _ _ _)
      | (with_reducible exact LeO.refl _)
      | (with_reducible exact LeO.none _)
      | (with_reducible refine LeO.ite ?_ ?_)
      | (with_reducible refine everyOf_le (fun _ => ?_))
      | (with_reducible refine LeO.bind ?_ (fun _ => ?_))
      | exact area_In.mono _ _ _ _ _ _ _ _ _ _
      | exact area_Nearest.mono _ _ _ _ _ _ _ _ _ _ _ _
      | exact area_Tiles.mono _ _ _ _ _ _ _ _ _ _ _
      | exact area_Units.mono _ _ _ _ _ _ _ _ _
      | exact barrowref02_Same.mono _ _ _
      | exact LeO.none _
      | refine LeO.ite ?_ ?_
      | refine LeO.bind ?_ (fun _ => ?_)
def barrowlaw32_small.T4 : Bool × List (List Nat × List Nat) := (true, [([], []), ([], []), ([0, 1, 1], [0, 1]), ([2, 2], [2]), ([3], [3]), ([3, 3], [3]), ([4, 5, 5, 3], [3, 4, 5]), ([6, 3], [3, 6]), ([3, 7], [3, 7]), ([8, 6], [8]), ([9], [9]), ([9, 9], [9]), ([10, 11, 11, 9], [9, 10, 11]), ([9, 12], [9, 12]), ([13, 12], [13]), ([14], [14]), ([14, 14], [14]), ([15, 16, 16, 14], [14, 15, 16]), ([14, 17], [14, 17]), ([18, 17], [18]), ([19], [19]), ([19, 19], [19]), ([20, 21, 21, 19], [19, 20, 21]), ([22, 19], [19, 22]), ([19, 23], [19, 23]), ([24, 22], [24]), ([25], [25]), ([25], [25]), ([26, 27, 25, 25], [25, 26, 27]), ([25], [25]), ([28, 29, 28, 25], [25, 28, 29]), ([25, 30], [25, 30]), ([31, 30], [31]), ([32], [32]), ([32], [32]), ([32, 32], [32]), ([33, 34, 35, 35, 32], [32, 33, 34, 35]), ([32], [32]), ([36, 37, 36, 32], [32, 36, 37]), ([32, 38], [32, 38]), ([39, 38], [39]), ([40], [40]), ([41, 40], [40, 41]), ([40], [40]), ([42, 43, 40, 40], [40, 42, 43]), ([44, 40], [40, 44]), ([45, 40], [40, 45]), ([40, 46], [40, 46]), ([47, 44], [47]), ([48], [48]), ([49, 48, 48], [48, 49]), ([48, 50], [48, 50]), ([51, 50, 0, 1, 2, 3, 4, 5, 6, 7, 8, 9, 10, 11, 12, 13, 14, 15, 16, 17, 18, 19, 20, 21, 22, 23, 24, 25, 26, 27, 28, 29, 30, 31, 32, 33, 34, 35, 36, 37, 38, 39, 40, 41, 42, 43, 44, 45, 46, 47, 48, 49, 50, 51], [51])])
def barrowlaw32_small.B4 : List Nat := [0, 0, 3, 7, 15, 15, 63, 127, 255, 511, 1023, 1023, 4095, 8191, 16383, 32767, 32767, 131071, 262143, 524287, 1048575, 1048575, 4194303, 8388607, 16777215, 33554431, 67108863, 67108863, 268435455, 67108863, 1073741823, 2147483647, 4294967295, 8589934591, 8589934591, 8589934591, 68719476735, 8589934591, 274877906943, 549755813887, 1099511627775, 2199023255551, 4398046511103, 2199023255551, 17592186044415, 35184372088831, 70368744177663, 140737488355327, 281474976710655, 562949953421311, 1125899906842623, 2251799813685247, 4503599627370495]
theorem barrowlaw32_small.tab4 : rtab .any (opsOf Try.f7 4) = barrowlaw32_small.T4 := by kernel_rfl
theorem barrowlaw32_small.bits4 : waitsOk barrowlaw32_small.T4.2 barrowlaw32_small.B4 = true := by kernel_rfl
def barrowlaw32_small.Post (r : Bool) (S : Nat → Prop) (L : List Asr) (w : World) (e : Ending) (w' : World) : Prop := e = .returned (.bool r) ∧ SL (L) w' S ∧ Keep S w w'
set_option maxHeartbeats 8000000 in
set_option maxRecDepth 100000 in
theorem barrowlaw32_small.slcalls (k : Nat)  (r : Bool) (S : Nat → Prop) (L : List Asr) (w : World) (hf : Fresh S w) (hs : SL (L) w S) (h : barrowlaw32_small.f k  = some r) :
    Calls Try.prog 7 #[] w (barrowlaw32_small.Post r S L w) := by
  have HF := Aside0.mk hf
  have HS := Aside0.mk hs
  have HK := Aside0.mk (Keep.refl S w)
  clear hf hs
  have hu24 := Try.underlying24
  have hu28 := Try.underlying28
  have hu47 := Try.underlying47
  have H : ((barrowlaw32_tile.f 2 0).bind fun bt386 => ((barrowlaw32_tile.f 1 0).bind fun bt388 => ((barrowlaw32_tile.f 4 0).bind fun bt390 => ((barrowlaw32_tile.f 3 0).bind fun bt392 => ((barrowlaw32_tile.f 0 0).bind fun bt394 => ((some (([(⟨3, (⟨bt390.1, bt390.2⟩ : S26)⟩ : S47), (⟨1, (⟨bt392.1, bt392.2⟩ : S26)⟩ : S47), (⟨2, (⟨bt394.1, bt394.2⟩ : S26)⟩ : S47)] : List (S47)) : List (S47))).bind fun y396 => ((barrowlaw32_tile.f 4 0).bind fun bt397 => ((area_In.f k 2 bt386.1 bt386.2 0 0 1 2 bt397.1 bt397.2).bind fun t399 => (if t399 = true then ((barrowlaw32_tile.f 3 0).bind fun bt400 => ((area_In.f k 2 bt386.1 bt386.2 0 0 1 2 bt400.1 bt400.2).bind fun t402 => (if t402 = true then (none) else ((barrowlaw32_tile.f 3 2).bind fun bt403 => ((area_In.f k 4 0 0 bt388.1 bt388.2 5 0 bt403.1 bt403.2).bind fun t405 => (if t405 = true then ((barrowlaw32_tile.f 3 3).bind fun bt406 => ((area_In.f k 4 0 0 bt388.1 bt388.2 5 0 bt406.1 bt406.2).bind fun t408 => (if t408 = true then ((barrowlaw32_tile.f 2 3).bind fun bt409 => ((area_In.f k 4 0 0 bt388.1 bt388.2 5 0 bt409.1 bt409.2).bind fun t411 => (if t411 = true then (none) else ((area_Units.f k y396 2 bt386.1 bt386.2 0 0 1 2).bind fun t412 => ((some (([2, 3] : List Int) : List Int)).bind fun y413 => ((barrowref02_Same.f k t412 y413).bind fun t414 => (if t414 = true then ((barrowlaw32_tile.f 5 0).bind fun bt415 => ((area_Nearest.f k y396 2 bt386.1 bt386.2 0 0 1 2 bt415.1 bt415.2 1).bind fun t417 => ((some (([3] : List Int) : List Int)).bind fun y418 => ((barrowref02_Same.f k t417 y418).bind fun t419 => (if t419 = true then (if 5 ≤ 281474976710656 then ((some (List.replicate 5 false : List Bool)).bind fun y420 => ((area_Tiles.f k 5 1 y420 2 bt386.1 bt386.2 0 0 1 2).bind fun t421 => (if (t421.length : Int) = 2 then ((area_Right.f 2 bt386.1 bt386.2 0 0 1 2).bind fun t422 => (some t422)) else (none)))) else (none)) else (none)))))) else (none)))))))) else (none)))) else (none))))))) else (none)))))))))) = some r := h
  clear h
  replace H := Option.bind_eq_some_iff.1 H
  obtain ⟨⟨t386, t387⟩, Hc10, H⟩ := H
  try dsimp only at H
  have Hc1 := Aside0.mk Hc10
  clear Hc10
  replace H := Option.bind_eq_some_iff.1 H
  obtain ⟨⟨t388, t389⟩, Hc20, H⟩ := H
  try dsimp only at H
  have Hc2 := Aside0.mk Hc20
  clear Hc20
  replace H := Option.bind_eq_some_iff.1 H
  obtain ⟨⟨t390, t391⟩, Hc30, H⟩ := H
  try dsimp only at H
  have Hc3 := Aside0.mk Hc30
  clear Hc30
  replace H := Option.bind_eq_some_iff.1 H
  obtain ⟨⟨t392, t393⟩, Hc40, H⟩ := H
  try dsimp only at H
  have Hc4 := Aside0.mk Hc40
  clear Hc40
  replace H := Option.bind_eq_some_iff.1 H
  obtain ⟨⟨t394, t395⟩, Hc50, H⟩ := H
  try dsimp only at H
  have Hc5 := Aside0.mk Hc50
  clear Hc50
  replace H := Option.bind_eq_some_iff.1 H
  obtain ⟨y396, hy3960, H⟩ := H
  try dsimp only at H
  have hy396 := Option.some.inj hy3960
  clear hy3960
  have Ny396 := Aside0.mk hy396
  clear hy396
  replace H := Option.bind_eq_some_iff.1 H
  obtain ⟨⟨t397, t398⟩, Hc60, H⟩ := H
  try dsimp only at H
  have Hc6 := Aside0.mk Hc60
  clear Hc60
  replace H := Option.bind_eq_some_iff.1 H
  obtain ⟨t399, Hc70, H⟩ := H
  try dsimp only at H
  have Hc7 := Aside0.mk Hc70
  clear Hc70
  by_cases c8 : t399 = true
  · subst c8
    rw [if_pos rfl] at H
    replace H := Option.bind_eq_some_iff.1 H
    obtain ⟨⟨t400, t401⟩, Hc90, H⟩ := H
    try dsimp only at H
    have Hc9 := Aside0.mk Hc90
    clear Hc90
    replace H := Option.bind_eq_some_iff.1 H
    obtain ⟨t402, Hc100, H⟩ := H
    try dsimp only at H
    have Hc10 := Aside0.mk Hc100
    clear Hc100
    by_cases c11 : t402 = true
    · subst c11
      rw [if_pos rfl] at H
      exact absurd H (by simp)
    · replace c11 := Bool.eq_false_iff.mpr c11
      subst c11
      rw [if_neg (show ¬ (false = true) by decide)] at H
      replace H := Option.bind_eq_some_iff.1 H
      obtain ⟨⟨t403, t404⟩, Hc120, H⟩ := H
      try dsimp only at H
      have Hc12 := Aside0.mk Hc120
      clear Hc120
      replace H := Option.bind_eq_some_iff.1 H
      obtain ⟨t405, Hc130, H⟩ := H
      try dsimp only at H
      have Hc13 := Aside0.mk Hc130
      clear Hc130
      by_cases c14 : t405 = true
      · subst c14
        rw [if_pos rfl] at H
        replace H := Option.bind_eq_some_iff.1 H
        obtain ⟨⟨t406, t407⟩, Hc150, H⟩ := H
        try dsimp only at H
        have Hc15 := Aside0.mk Hc150
        clear Hc150
        replace H := Option.bind_eq_some_iff.1 H
        obtain ⟨t408, Hc160, H⟩ := H
        try dsimp only at H
        have Hc16 := Aside0.mk Hc160
        clear Hc160
        by_cases c17 : t408 = true
        · subst c17
          rw [if_pos rfl] at H
          replace H := Option.bind_eq_some_iff.1 H
          obtain ⟨⟨t409, t410⟩, Hc180, H⟩ := H
          try dsimp only at H
          have Hc18 := Aside0.mk Hc180
          clear Hc180
          replace H := Option.bind_eq_some_iff.1 H
          obtain ⟨t411, Hc190, H⟩ := H
          try dsimp only at H
          have Hc19 := Aside0.mk Hc190
          clear Hc190
          by_cases c20 : t411 = true
          · subst c20
            rw [if_pos rfl] at H
            exact absurd H (by simp)
          · replace c20 := Bool.eq_false_iff.mpr c20
            subst c20
            rw [if_neg (show ¬ (false = true) by decide)] at H
            replace H := Option.bind_eq_some_iff.1 H
            obtain ⟨t412, Hc210, H⟩ := H
            try dsimp only at H
            have Hc21 := Aside0.mk Hc210
            clear Hc210
            replace H := Option.bind_eq_some_iff.1 H
            obtain ⟨y413, hy4130, H⟩ := H
            try dsimp only at H
            have hy413 := Option.some.inj hy4130
            clear hy4130
            have Ny413 := Aside0.mk hy413
            clear hy413
            replace H := Option.bind_eq_some_iff.1 H
            obtain ⟨t414, Hc220, H⟩ := H
            try dsimp only at H
            have Hc22 := Aside0.mk Hc220
            clear Hc220
            by_cases c23 : t414 = true
            · subst c23
              rw [if_pos rfl] at H
              replace H := Option.bind_eq_some_iff.1 H
              obtain ⟨⟨t415, t416⟩, Hc240, H⟩ := H
              try dsimp only at H
              have Hc24 := Aside0.mk Hc240
              clear Hc240
              replace H := Option.bind_eq_some_iff.1 H
              obtain ⟨t417, Hc250, H⟩ := H
              try dsimp only at H
              have Hc25 := Aside0.mk Hc250
              clear Hc250
              replace H := Option.bind_eq_some_iff.1 H
              obtain ⟨y418, hy4180, H⟩ := H
              try dsimp only at H
              have hy418 := Option.some.inj hy4180
              clear hy4180
              have Ny418 := Aside0.mk hy418
              clear hy418
              replace H := Option.bind_eq_some_iff.1 H
              obtain ⟨t419, Hc260, H⟩ := H
              try dsimp only at H
              have Hc26 := Aside0.mk Hc260
              clear Hc260
              by_cases c27 : t419 = true
              · subst c27
                rw [if_pos rfl] at H
                by_cases c28 : 5 ≤ 281474976710656
                · rw [if_pos c28] at H
                  have LMc28 := Aside0.mk c28
                  clear c28
                  replace H := Option.bind_eq_some_iff.1 H
                  obtain ⟨y420, hy4200, H⟩ := H
                  try dsimp only at H
                  have hy420 := Option.some.inj hy4200
                  clear hy4200
                  have Ny420 := Aside0.mk hy420
                  clear hy420
                  replace H := Option.bind_eq_some_iff.1 H
                  obtain ⟨t421, Hc290, H⟩ := H
                  try dsimp only at H
                  have Hc29 := Aside0.mk Hc290
                  clear Hc290
                  by_cases c30 : (t421.length : Int) = 2
                  · rw [if_pos c30] at H
                    have c30b0 : ((t421.length : Int) == 2) = true := beq_iff_eq.mpr c30
                    have c30b1 : ((t421.length : Int) != 2) = false := bne_eq_false_iff_eq.mpr c30
                    clear c30
                    replace H := Option.bind_eq_some_iff.1 H
                    obtain ⟨t422, Hc310, H⟩ := H
                    try dsimp only at H
                    have Hc31 := Aside0.mk Hc310
                    clear Hc310
                    obtain rfl := Option.some.inj H
                    go_enter Try.func7, Try.ntmps7
                    try go_wp2_with (first | ((with_reducible refine gate_dst (N := 4) rfl ?_); refine goesL_ (some 4) rfl rfl Try.func21 (by kernel_rfl) rfl #[.int .i64 2, .int .i64 0] rfl (by (try simp only [List.map_toArray, List.map_cons, List.map_nil]); first | done | rfl | (simp; done)) ?_; (with_reducible refine (barrowlaw32_tile.calls _ _ _ _ _  Hc1.out).mono ?_); rintro e_ w32 ⟨rfl, hb_⟩; refine ⟨_, rfl, ?_⟩; replace HS := Aside0.mk (HS.out.below hb_); replace HK := Aside0.mk (HK.out.trans (Keep.below hb_))) | ((with_reducible refine gate_dst (N := 1) rfl ?_); refine wpList_plain rfl (fun K_ hK_ => ?_); refine op_box (S := S) (cs := #[.int .i64 0, .int .i64 0, .int .i64 0, .int .i64 0, .int .i64 0, .int .i64 0, .int .i64 0]) (t := 28) (HF.out.keep HK.out) HS.out (by first | (go_simp; done) | (go_simp; rfl)) ?_; intro g3000036 w33 hs_ hk_; refine hK_ _ _ ?_; clear hK_ K_; replace HS := Aside0.mk (hs_); replace HK := Aside0.mk (HK.out.trans hk_)) | ((with_reducible refine gate_store (t := 28) (p := 1) (v := (.tmp 5)) rfl ?_); refine wpList_plain rfl (fun K_ hK_ => ?_); refine op_store (S := S) 28 (.tmp 1) (.tmp 5) rfl g3000036 0 (.agg #[.int .i64 2, .int .i64 t386, .int .i64 t387, .int .i64 0, .int .i64 0, .int .i64 1, .int .i64 2]) [.int .i64 2, .int .i64 t386, .int .i64 t387, .int .i64 0, .int .i64 0, .int .i64 1, .int .i64 2] rfl rfl rfl (by kernel_rfl) (by simp [Value.oneCell']) HS.out (by simp) ?_; intro w34 hs_ hk_; refine hK_ _ _ ?_; clear hK_ K_; replace HS := Aside0.mk ((show SL (cells g3000036 28 [.int .i64 2, .int .i64 t386, .int .i64 t387, .int .i64 0, .int .i64 0, .int .i64 1, .int .i64 2].toArray :: _) _ _ from hs_)); replace HK := Aside0.mk (HK.out.trans hk_)) | ((with_reducible refine gate_dst (N := 6) rfl ?_); refine goesL_ (some 6) rfl rfl Try.func21 (by kernel_rfl) rfl #[.int .i64 1, .int .i64 0] rfl (by (try simp only [List.map_toArray, List.map_cons, List.map_nil]); first | done | rfl | (simp; done)) ?_; (with_reducible refine (barrowlaw32_tile.calls _ _ _ _ _  Hc2.out).mono ?_); rintro e_ w35 ⟨rfl, hb_⟩; refine ⟨_, rfl, ?_⟩; replace HS := Aside0.mk (HS.out.below hb_); replace HK := Aside0.mk (HK.out.trans (Keep.below hb_))) | ((with_reducible refine gate_dst (N := 2) rfl ?_); refine wpList_plain rfl (fun K_ hK_ => ?_); refine op_box (S := S) (cs := #[.int .i64 0, .int .i64 0, .int .i64 0, .int .i64 0, .int .i64 0, .int .i64 0, .int .i64 0]) (t := 28) (HF.out.keep HK.out) HS.out (by first | (go_simp; done) | (go_simp; rfl)) ?_; intro g3000037 w36 hs_ hk_; refine hK_ _ _ ?_; clear hK_ K_; replace HS := Aside0.mk (hs_); replace HK := Aside0.mk (HK.out.trans hk_)) | ((with_reducible refine gate_store (t := 28) (p := 2) (v := (.tmp 7)) rfl ?_); refine wpList_plain rfl (fun K_ hK_ => ?_); refine op_store (S := S) 28 (.tmp 2) (.tmp 7) rfl g3000037 0 (.agg #[.int .i64 4, .int .i64 0, .int .i64 0, .int .i64 t388, .int .i64 t389, .int .i64 5, .int .i64 0]) [.int .i64 4, .int .i64 0, .int .i64 0, .int .i64 t388, .int .i64 t389, .int .i64 5, .int .i64 0] rfl rfl rfl (by kernel_rfl) (by simp [Value.oneCell']) HS.out (by simp) ?_; intro w37 hs_ hk_; refine hK_ _ _ ?_; clear hK_ K_; replace HS := Aside0.mk ((show SL (cells g3000037 28 [.int .i64 4, .int .i64 0, .int .i64 0, .int .i64 t388, .int .i64 t389, .int .i64 5, .int .i64 0].toArray :: _) _ _ from hs_)); replace HK := Aside0.mk (HK.out.trans hk_)) | ((with_reducible refine gate_dst (N := 8) rfl ?_); refine goesL_ (some 8) rfl rfl Try.func21 (by kernel_rfl) rfl #[.int .i64 4, .int .i64 0] rfl (by (try simp only [List.map_toArray, List.map_cons, List.map_nil]); first | done | rfl | (simp; done)) ?_; (with_reducible refine (barrowlaw32_tile.calls _ _ _ _ _  Hc3.out).mono ?_); rintro e_ w38 ⟨rfl, hb_⟩; refine ⟨_, rfl, ?_⟩; replace HS := Aside0.mk (HS.out.below hb_); replace HK := Aside0.mk (HK.out.trans (Keep.below hb_))) | ((with_reducible refine gate_dst (N := 10) rfl ?_); refine goesL_ (some 10) rfl rfl Try.func21 (by kernel_rfl) rfl #[.int .i64 3, .int .i64 0] rfl (by (try simp only [List.map_toArray, List.map_cons, List.map_nil]); first | done | rfl | (simp; done)) ?_; (with_reducible refine (barrowlaw32_tile.calls _ _ _ _ _  Hc4.out).mono ?_); rintro e_ w39 ⟨rfl, hb_⟩; refine ⟨_, rfl, ?_⟩; replace HS := Aside0.mk (HS.out.below hb_); replace HK := Aside0.mk (HK.out.trans (Keep.below hb_))) | ((with_reducible refine gate_dst (N := 12) rfl ?_); refine goesL_ (some 12) rfl rfl Try.func21 (by kernel_rfl) rfl #[.int .i64 0, .int .i64 0] rfl (by (try simp only [List.map_toArray, List.map_cons, List.map_nil]); first | done | rfl | (simp; done)) ?_; (with_reducible refine (barrowlaw32_tile.calls _ _ _ _ _  Hc5.out).mono ?_); rintro e_ w40 ⟨rfl, hb_⟩; refine ⟨_, rfl, ?_⟩; replace HS := Aside0.mk (HS.out.below hb_); replace HK := Aside0.mk (HK.out.trans (Keep.below hb_))) | ((with_reducible refine gate_dst (N := 14) rfl ?_); refine wpList_plain rfl (fun K_ hK_ => ?_); refine op_rowF (S := S) (d := k47) ⟨fun h_ => h_⟩ 47 y396 #[.int .i64 3, .int .i64 t390, .int .i64 t391, .int .i64 1, .int .i64 t392, .int .i64 t393, .int .i64 2, .int .i64 t394, .int .i64 t395] 3 (by rw [← Ny396.out]; exact reps_cons (k47_mkM _ 0 _ (⟨3, (⟨t390, t391⟩ : S26)⟩ : S47)) rfl (reps_cons (k47_mkM _ 0 _ (⟨1, (⟨t392, t393⟩ : S26)⟩ : S47)) rfl (reps_cons (k47_mkM _ 0 _ (⟨2, (⟨t394, t395⟩ : S26)⟩ : S47)) rfl (Reps.none _ _)))) (by rw [← Ny396.out]; rfl) (by decide) (HF.out.keep HK.out) HS.out (by first | (go_simp; done) | (go_simp; rfl)) ?_; intro Az3000038 cz3000038 w41 hs_ hk_; refine hK_ _ _ ?_; clear hK_ K_; replace HS := Aside0.mk ((show SL (row k47 47 (.slice Az3000038 3 cz3000038) y396 :: _) _ _ from hs_)); replace HK := Aside0.mk (HK.out.trans hk_)))
                    refine start_ (n := 53) (S := fun w' => w'.cell? ⟨g3000036, 0, none⟩ = some (.int .i64 2) ∧ w'.cell? ⟨g3000036, 1, none⟩ = some (.int .i64 t386) ∧ w'.cell? ⟨g3000036, 2, none⟩ = some (.int .i64 t387) ∧ w'.cell? ⟨g3000036, 3, none⟩ = some (.int .i64 0) ∧ w'.cell? ⟨g3000036, 4, none⟩ = some (.int .i64 0) ∧ w'.cell? ⟨g3000036, 5, none⟩ = some (.int .i64 1) ∧ w'.cell? ⟨g3000036, 6, none⟩ = some (.int .i64 2) ∧ w'.cell? ⟨g3000037, 0, none⟩ = some (.int .i64 4) ∧ w'.cell? ⟨g3000037, 1, none⟩ = some (.int .i64 0) ∧ w'.cell? ⟨g3000037, 2, none⟩ = some (.int .i64 0) ∧ w'.cell? ⟨g3000037, 3, none⟩ = some (.int .i64 t388) ∧ w'.cell? ⟨g3000037, 4, none⟩ = some (.int .i64 t389) ∧ w'.cell? ⟨g3000037, 5, none⟩ = some (.int .i64 5) ∧ w'.cell? ⟨g3000037, 6, none⟩ = some (.int .i64 0)) (ds := []) #[false, false, false, false, false, false, false, false, false, false, false, false, false, false, false, false, false, false, false, false, false, false, false, false, false, false, false, false, false, false, false, false, false, false, false, false, false, false, false, false, false, false, false, false, false, false, false, false, false, false, false, false, false] (by kernel_rfl) rfl rfl ⟨(((blk_cell (SL.at_ (SL.get2 HS.out)) 0).trans rfl)), (((blk_cell (SL.at_ (SL.get2 HS.out)) 1).trans rfl)), (((blk_cell (SL.at_ (SL.get2 HS.out)) 2).trans rfl)), (((blk_cell (SL.at_ (SL.get2 HS.out)) 3).trans rfl)), (((blk_cell (SL.at_ (SL.get2 HS.out)) 4).trans rfl)), (((blk_cell (SL.at_ (SL.get2 HS.out)) 5).trans rfl)), (((blk_cell (SL.at_ (SL.get2 HS.out)) 6).trans rfl)), (((blk_cell (SL.at_ (SL.get1 HS.out)) 0).trans rfl)), (((blk_cell (SL.at_ (SL.get1 HS.out)) 1).trans rfl)), (((blk_cell (SL.at_ (SL.get1 HS.out)) 2).trans rfl)), (((blk_cell (SL.at_ (SL.get1 HS.out)) 3).trans rfl)), (((blk_cell (SL.at_ (SL.get1 HS.out)) 4).trans rfl)), (((blk_cell (SL.at_ (SL.get1 HS.out)) 5).trans rfl)), (((blk_cell (SL.at_ (SL.get1 HS.out)) 6).trans rfl))⟩ (fun hHeld => ?_); refine with_tabW barrowlaw32_small.tab4 barrowlaw32_small.bits4 (fun HT_ HW_ => ?_)
                    replace HK := Aside0.mk (Keep.drew HK.out)
                    replace HS := Aside0.mk (SL.drew HS.out)
                    refine take_ (i := 0) (N := some 15) (v := ?_) (a' := ?_) #[true, false, false, false, false, false, false, false, false, false, false, false, false, false, false, false, false, false, false, false, false, false, false, false, false, false, false, false, false, false, false, false, false, false, false, false, false, false, false, false, false, false, false, false, false, false, false, false, false, false, false, false, false] rfl rfl (take_ofW HT_.out HW_.out (by kernel_rfl)) (fun _ _ _ h => h) (Or.inl ⟨by rfl, ?_⟩) hHeld ?_ ?_; rotate_left
                    · rintro w' ⟨s0, s1, s2, s3, s4, s5, s6, s7, s8, s9, s10, s11, s12, s13⟩
                      go_simp
                      with_reducible rfl
                    rotate_left; · (simp only [Act.put, sT, sZ, sS, i64_w, i32_w]; rfl)
                    refine one_ (i := 1) (N := some 16) #[true, true, false, false, false, false, false, false, false, false, false, false, false, false, false, false, false, false, false, false, false, false, false, false, false, false, false, false, false, false, false, false, false, false, false, false, false, false, false, false, false, false, false, false, false, false, false, false, false, false, false, false, false] rfl rfl (one_of HT_.out (by kernel_rfl)) (by decide) (fun K hK => ?_)
                    refine goes_ Try.func21 (by kernel_rfl) rfl #[.int .i64 4, .int .i64 0] (by rfl) rfl rfl (by (try simp only [List.map_toArray, List.map_cons, List.map_nil]); first | done | rfl | (simp; done)) ?_
                    (with_reducible refine (barrowlaw32_tile.calls _ _ _ _ _  Hc6.out).mono ?_)
                    rintro e_ w42 ⟨rfl, hb_⟩
                    refine ⟨_, rfl, ?_⟩
                    replace HS := Aside0.mk (HS.out.below hb_)
                    replace HK := Aside0.mk (HK.out.trans (Keep.below hb_))
                    refine hK.out _ _ ⟨(((blk_cell (SL.at_ (SL.get2 HS.out)) 0).trans rfl)), (((blk_cell (SL.at_ (SL.get2 HS.out)) 1).trans rfl)), (((blk_cell (SL.at_ (SL.get2 HS.out)) 2).trans rfl)), (((blk_cell (SL.at_ (SL.get2 HS.out)) 3).trans rfl)), (((blk_cell (SL.at_ (SL.get2 HS.out)) 4).trans rfl)), (((blk_cell (SL.at_ (SL.get2 HS.out)) 5).trans rfl)), (((blk_cell (SL.at_ (SL.get2 HS.out)) 6).trans rfl)), (((blk_cell (SL.at_ (SL.get1 HS.out)) 0).trans rfl)), (((blk_cell (SL.at_ (SL.get1 HS.out)) 1).trans rfl)), (((blk_cell (SL.at_ (SL.get1 HS.out)) 2).trans rfl)), (((blk_cell (SL.at_ (SL.get1 HS.out)) 3).trans rfl)), (((blk_cell (SL.at_ (SL.get1 HS.out)) 4).trans rfl)), (((blk_cell (SL.at_ (SL.get1 HS.out)) 5).trans rfl)), (((blk_cell (SL.at_ (SL.get1 HS.out)) 6).trans rfl))⟩ (fun hHeld => ?_)
                    clear hK K
                    refine norm_ (a' := ?_) ?_ ?_; rotate_left
                    · show Act.put _ (some 16) _ = _
                      simp only [Act.put, sT, sZ, sS, i64_w, i32_w]
                      rfl
                    refine one_ (i := 2) (N := some 17) #[true, true, true, false, false, false, false, false, false, false, false, false, false, false, false, false, false, false, false, false, false, false, false, false, false, false, false, false, false, false, false, false, false, false, false, false, false, false, false, false, false, false, false, false, false, false, false, false, false, false, false, false, false] rfl rfl (one_of HT_.out (by kernel_rfl)) (by decide) (fun K hK => ?_)
                    refine goes_ Try.func11 (by kernel_rfl) rfl #[.agg #[.int .i64 2, .int .i64 t386, .int .i64 t387, .int .i64 0, .int .i64 0, .int .i64 1, .int .i64 2], .agg #[.int .i64 t397, .int .i64 t398]] (by rfl) rfl rfl (by (try simp only [List.map_toArray, List.map_cons, List.map_nil]); first | done | rfl | (simp; done)) ?_
                    (with_reducible refine (area_In.calls k _ _ _ _ _ _ _ _ _ _ _  Hc7.out).mono ?_)
                    rintro e_ w43 ⟨rfl, hb_⟩
                    refine ⟨_, rfl, ?_⟩
                    replace HS := Aside0.mk (HS.out.below hb_)
                    replace HK := Aside0.mk (HK.out.trans (Keep.below hb_))
                    refine hK.out _ _ ⟨(((blk_cell (SL.at_ (SL.get2 HS.out)) 0).trans rfl)), (((blk_cell (SL.at_ (SL.get2 HS.out)) 1).trans rfl)), (((blk_cell (SL.at_ (SL.get2 HS.out)) 2).trans rfl)), (((blk_cell (SL.at_ (SL.get2 HS.out)) 3).trans rfl)), (((blk_cell (SL.at_ (SL.get2 HS.out)) 4).trans rfl)), (((blk_cell (SL.at_ (SL.get2 HS.out)) 5).trans rfl)), (((blk_cell (SL.at_ (SL.get2 HS.out)) 6).trans rfl)), (((blk_cell (SL.at_ (SL.get1 HS.out)) 0).trans rfl)), (((blk_cell (SL.at_ (SL.get1 HS.out)) 1).trans rfl)), (((blk_cell (SL.at_ (SL.get1 HS.out)) 2).trans rfl)), (((blk_cell (SL.at_ (SL.get1 HS.out)) 3).trans rfl)), (((blk_cell (SL.at_ (SL.get1 HS.out)) 4).trans rfl)), (((blk_cell (SL.at_ (SL.get1 HS.out)) 5).trans rfl)), (((blk_cell (SL.at_ (SL.get1 HS.out)) 6).trans rfl))⟩ (fun hHeld => ?_)
                    clear hK K
                    refine norm_ (a' := ?_) ?_ ?_; rotate_left
                    · show Act.put _ (some 17) _ = _
                      simp only [Act.put, sT, sZ, sS, i64_w, i32_w]
                      rfl
                    refine pure_ (i := 3) (N := some 18) (v := ?_) (a' := ?_) #[true, true, true, true, false, false, false, false, false, false, false, false, false, false, false, false, false, false, false, false, false, false, false, false, false, false, false, false, false, false, false, false, false, false, false, false, false, false, false, false, false, false, false, false, false, false, false, false, false, false, false, false, false] rfl rfl (any_of HT_.out (by kernel_rfl)) (fun _ _ _ h => h) (Or.inl ⟨by rfl, ?_⟩) ?_ ?_; rotate_left; · (intro w'; go_simp; with_reducible rfl)
                    rotate_left; · (simp only [Act.put, sT, sZ, sS, i64_w, i32_w]; rfl)
                    refine take_ (i := 4) (N := some 19) (v := ?_) (a' := ?_) #[true, true, true, true, true, false, false, false, false, false, false, false, false, false, false, false, false, false, false, false, false, false, false, false, false, false, false, false, false, false, false, false, false, false, false, false, false, false, false, false, false, false, false, false, false, false, false, false, false, false, false, false, false] rfl rfl (take_ofW HT_.out HW_.out (by kernel_rfl)) (fun _ _ _ h => h) (Or.inl ⟨by rfl, ?_⟩) hHeld ?_ ?_; rotate_left
                    · rintro w' ⟨s0, s1, s2, s3, s4, s5, s6, s7, s8, s9, s10, s11, s12, s13⟩
                      go_simp
                      with_reducible rfl
                    rotate_left; · (simp only [Act.put, sT, sZ, sS, i64_w, i32_w]; rfl)
                    refine one_ (i := 5) (N := some 20) #[true, true, true, true, true, true, false, false, false, false, false, false, false, false, false, false, false, false, false, false, false, false, false, false, false, false, false, false, false, false, false, false, false, false, false, false, false, false, false, false, false, false, false, false, false, false, false, false, false, false, false, false, false] rfl rfl (one_of HT_.out (by kernel_rfl)) (by decide) (fun K hK => ?_)
                    refine goes_ Try.func21 (by kernel_rfl) rfl #[.int .i64 3, .int .i64 0] (by rfl) rfl rfl (by (try simp only [List.map_toArray, List.map_cons, List.map_nil]); first | done | rfl | (simp; done)) ?_
                    (with_reducible refine (barrowlaw32_tile.calls _ _ _ _ _  Hc9.out).mono ?_)
                    rintro e_ w44 ⟨rfl, hb_⟩
                    refine ⟨_, rfl, ?_⟩
                    replace HS := Aside0.mk (HS.out.below hb_)
                    replace HK := Aside0.mk (HK.out.trans (Keep.below hb_))
                    refine hK.out _ _ ⟨(((blk_cell (SL.at_ (SL.get2 HS.out)) 0).trans rfl)), (((blk_cell (SL.at_ (SL.get2 HS.out)) 1).trans rfl)), (((blk_cell (SL.at_ (SL.get2 HS.out)) 2).trans rfl)), (((blk_cell (SL.at_ (SL.get2 HS.out)) 3).trans rfl)), (((blk_cell (SL.at_ (SL.get2 HS.out)) 4).trans rfl)), (((blk_cell (SL.at_ (SL.get2 HS.out)) 5).trans rfl)), (((blk_cell (SL.at_ (SL.get2 HS.out)) 6).trans rfl)), (((blk_cell (SL.at_ (SL.get1 HS.out)) 0).trans rfl)), (((blk_cell (SL.at_ (SL.get1 HS.out)) 1).trans rfl)), (((blk_cell (SL.at_ (SL.get1 HS.out)) 2).trans rfl)), (((blk_cell (SL.at_ (SL.get1 HS.out)) 3).trans rfl)), (((blk_cell (SL.at_ (SL.get1 HS.out)) 4).trans rfl)), (((blk_cell (SL.at_ (SL.get1 HS.out)) 5).trans rfl)), (((blk_cell (SL.at_ (SL.get1 HS.out)) 6).trans rfl))⟩ (fun hHeld => ?_)
                    clear hK K
                    refine norm_ (a' := ?_) ?_ ?_; rotate_left
                    · show Act.put _ (some 20) _ = _
                      simp only [Act.put, sT, sZ, sS, i64_w, i32_w]
                      rfl
                    refine one_ (i := 6) (N := some 21) #[true, true, true, true, true, true, true, false, false, false, false, false, false, false, false, false, false, false, false, false, false, false, false, false, false, false, false, false, false, false, false, false, false, false, false, false, false, false, false, false, false, false, false, false, false, false, false, false, false, false, false, false, false] rfl rfl (one_of HT_.out (by kernel_rfl)) (by decide) (fun K hK => ?_)
                    refine goes_ Try.func11 (by kernel_rfl) rfl #[.agg #[.int .i64 2, .int .i64 t386, .int .i64 t387, .int .i64 0, .int .i64 0, .int .i64 1, .int .i64 2], .agg #[.int .i64 t400, .int .i64 t401]] (by rfl) rfl rfl (by (try simp only [List.map_toArray, List.map_cons, List.map_nil]); first | done | rfl | (simp; done)) ?_
                    (with_reducible refine (area_In.calls k _ _ _ _ _ _ _ _ _ _ _  Hc10.out).mono ?_)
                    rintro e_ w45 ⟨rfl, hb_⟩
                    refine ⟨_, rfl, ?_⟩
                    replace HS := Aside0.mk (HS.out.below hb_)
                    replace HK := Aside0.mk (HK.out.trans (Keep.below hb_))
                    refine hK.out _ _ ⟨(((blk_cell (SL.at_ (SL.get2 HS.out)) 0).trans rfl)), (((blk_cell (SL.at_ (SL.get2 HS.out)) 1).trans rfl)), (((blk_cell (SL.at_ (SL.get2 HS.out)) 2).trans rfl)), (((blk_cell (SL.at_ (SL.get2 HS.out)) 3).trans rfl)), (((blk_cell (SL.at_ (SL.get2 HS.out)) 4).trans rfl)), (((blk_cell (SL.at_ (SL.get2 HS.out)) 5).trans rfl)), (((blk_cell (SL.at_ (SL.get2 HS.out)) 6).trans rfl)), (((blk_cell (SL.at_ (SL.get1 HS.out)) 0).trans rfl)), (((blk_cell (SL.at_ (SL.get1 HS.out)) 1).trans rfl)), (((blk_cell (SL.at_ (SL.get1 HS.out)) 2).trans rfl)), (((blk_cell (SL.at_ (SL.get1 HS.out)) 3).trans rfl)), (((blk_cell (SL.at_ (SL.get1 HS.out)) 4).trans rfl)), (((blk_cell (SL.at_ (SL.get1 HS.out)) 5).trans rfl)), (((blk_cell (SL.at_ (SL.get1 HS.out)) 6).trans rfl))⟩ (fun hHeld => ?_)
                    clear hK K
                    refine norm_ (a' := ?_) ?_ ?_; rotate_left
                    · show Act.put _ (some 21) _ = _
                      simp only [Act.put, sT, sZ, sS, i64_w, i32_w]
                      rfl
                    refine pure_ (i := 7) (N := some 22) (v := ?_) (a' := ?_) #[true, true, true, true, true, true, true, true, false, false, false, false, false, false, false, false, false, false, false, false, false, false, false, false, false, false, false, false, false, false, false, false, false, false, false, false, false, false, false, false, false, false, false, false, false, false, false, false, false, false, false, false, false] rfl rfl (any_of HT_.out (by kernel_rfl)) (fun _ _ _ h => h) (Or.inl ⟨by rfl, ?_⟩) ?_ ?_; rotate_left; · (intro w'; go_simp; with_reducible rfl)
                    rotate_left; · (simp only [Act.put, sT, sZ, sS, i64_w, i32_w]; rfl)
                    refine pure_ (i := 8) (N := some 23) (v := ?_) (a' := ?_) #[true, true, true, true, true, true, true, true, true, false, false, false, false, false, false, false, false, false, false, false, false, false, false, false, false, false, false, false, false, false, false, false, false, false, false, false, false, false, false, false, false, false, false, false, false, false, false, false, false, false, false, false, false] rfl rfl (any_of HT_.out (by kernel_rfl)) (fun _ _ _ h => h) (Or.inl ⟨by rfl, ?_⟩) ?_ ?_; rotate_left; · (intro w'; go_simp; with_reducible rfl)
                    rotate_left; · (simp only [Act.put, sT, sZ, sS, i64_w, i32_w]; rfl)
                    refine pure_ (i := 9) (N := some 24) (v := ?_) (a' := ?_) #[true, true, true, true, true, true, true, true, true, true, false, false, false, false, false, false, false, false, false, false, false, false, false, false, false, false, false, false, false, false, false, false, false, false, false, false, false, false, false, false, false, false, false, false, false, false, false, false, false, false, false, false, false] rfl rfl (any_of HT_.out (by kernel_rfl)) (fun _ _ _ h => h) (Or.inl ⟨by rfl, ?_⟩) ?_ ?_; rotate_left; · (intro w'; go_simp; with_reducible rfl)
                    rotate_left; · (simp only [Act.put, sT, sZ, sS, i64_w, i32_w]; rfl)
                    refine take_ (i := 10) (N := some 25) (v := ?_) (a' := ?_) #[true, true, true, true, true, true, true, true, true, true, true, false, false, false, false, false, false, false, false, false, false, false, false, false, false, false, false, false, false, false, false, false, false, false, false, false, false, false, false, false, false, false, false, false, false, false, false, false, false, false, false, false, false] rfl rfl (take_ofW HT_.out HW_.out (by kernel_rfl)) (fun _ _ _ h => h) (Or.inl ⟨by rfl, ?_⟩) hHeld ?_ ?_; rotate_left
                    · rintro w' ⟨s0, s1, s2, s3, s4, s5, s6, s7, s8, s9, s10, s11, s12, s13⟩
                      go_simp
                      with_reducible rfl
                    rotate_left; · (simp only [Act.put, sT, sZ, sS, i64_w, i32_w]; rfl)
                    refine one_ (i := 11) (N := some 26) #[true, true, true, true, true, true, true, true, true, true, true, true, false, false, false, false, false, false, false, false, false, false, false, false, false, false, false, false, false, false, false, false, false, false, false, false, false, false, false, false, false, false, false, false, false, false, false, false, false, false, false, false, false] rfl rfl (one_of HT_.out (by kernel_rfl)) (by decide) (fun K hK => ?_)
                    refine goes_ Try.func21 (by kernel_rfl) rfl #[.int .i64 3, .int .i64 2] (by rfl) rfl rfl (by (try simp only [List.map_toArray, List.map_cons, List.map_nil]); first | done | rfl | (simp; done)) ?_
                    (with_reducible refine (barrowlaw32_tile.calls _ _ _ _ _  Hc12.out).mono ?_)
                    rintro e_ w46 ⟨rfl, hb_⟩
                    refine ⟨_, rfl, ?_⟩
                    replace HS := Aside0.mk (HS.out.below hb_)
                    replace HK := Aside0.mk (HK.out.trans (Keep.below hb_))
                    refine hK.out _ _ ⟨(((blk_cell (SL.at_ (SL.get2 HS.out)) 0).trans rfl)), (((blk_cell (SL.at_ (SL.get2 HS.out)) 1).trans rfl)), (((blk_cell (SL.at_ (SL.get2 HS.out)) 2).trans rfl)), (((blk_cell (SL.at_ (SL.get2 HS.out)) 3).trans rfl)), (((blk_cell (SL.at_ (SL.get2 HS.out)) 4).trans rfl)), (((blk_cell (SL.at_ (SL.get2 HS.out)) 5).trans rfl)), (((blk_cell (SL.at_ (SL.get2 HS.out)) 6).trans rfl)), (((blk_cell (SL.at_ (SL.get1 HS.out)) 0).trans rfl)), (((blk_cell (SL.at_ (SL.get1 HS.out)) 1).trans rfl)), (((blk_cell (SL.at_ (SL.get1 HS.out)) 2).trans rfl)), (((blk_cell (SL.at_ (SL.get1 HS.out)) 3).trans rfl)), (((blk_cell (SL.at_ (SL.get1 HS.out)) 4).trans rfl)), (((blk_cell (SL.at_ (SL.get1 HS.out)) 5).trans rfl)), (((blk_cell (SL.at_ (SL.get1 HS.out)) 6).trans rfl))⟩ (fun hHeld => ?_)
                    clear hK K
                    refine norm_ (a' := ?_) ?_ ?_; rotate_left
                    · show Act.put _ (some 26) _ = _
                      simp only [Act.put, sT, sZ, sS, i64_w, i32_w]
                      rfl
                    refine one_ (i := 12) (N := some 27) #[true, true, true, true, true, true, true, true, true, true, true, true, true, false, false, false, false, false, false, false, false, false, false, false, false, false, false, false, false, false, false, false, false, false, false, false, false, false, false, false, false, false, false, false, false, false, false, false, false, false, false, false, false] rfl rfl (one_of HT_.out (by kernel_rfl)) (by decide) (fun K hK => ?_)
                    refine goes_ Try.func11 (by kernel_rfl) rfl #[.agg #[.int .i64 4, .int .i64 0, .int .i64 0, .int .i64 t388, .int .i64 t389, .int .i64 5, .int .i64 0], .agg #[.int .i64 t403, .int .i64 t404]] (by rfl) rfl rfl (by (try simp only [List.map_toArray, List.map_cons, List.map_nil]); first | done | rfl | (simp; done)) ?_
                    (with_reducible refine (area_In.calls k _ _ _ _ _ _ _ _ _ _ _  Hc13.out).mono ?_)
                    rintro e_ w47 ⟨rfl, hb_⟩
                    refine ⟨_, rfl, ?_⟩
                    replace HS := Aside0.mk (HS.out.below hb_)
                    replace HK := Aside0.mk (HK.out.trans (Keep.below hb_))
                    refine hK.out _ _ ⟨(((blk_cell (SL.at_ (SL.get2 HS.out)) 0).trans rfl)), (((blk_cell (SL.at_ (SL.get2 HS.out)) 1).trans rfl)), (((blk_cell (SL.at_ (SL.get2 HS.out)) 2).trans rfl)), (((blk_cell (SL.at_ (SL.get2 HS.out)) 3).trans rfl)), (((blk_cell (SL.at_ (SL.get2 HS.out)) 4).trans rfl)), (((blk_cell (SL.at_ (SL.get2 HS.out)) 5).trans rfl)), (((blk_cell (SL.at_ (SL.get2 HS.out)) 6).trans rfl)), (((blk_cell (SL.at_ (SL.get1 HS.out)) 0).trans rfl)), (((blk_cell (SL.at_ (SL.get1 HS.out)) 1).trans rfl)), (((blk_cell (SL.at_ (SL.get1 HS.out)) 2).trans rfl)), (((blk_cell (SL.at_ (SL.get1 HS.out)) 3).trans rfl)), (((blk_cell (SL.at_ (SL.get1 HS.out)) 4).trans rfl)), (((blk_cell (SL.at_ (SL.get1 HS.out)) 5).trans rfl)), (((blk_cell (SL.at_ (SL.get1 HS.out)) 6).trans rfl))⟩ (fun hHeld => ?_)
                    clear hK K
                    refine norm_ (a' := ?_) ?_ ?_; rotate_left
                    · show Act.put _ (some 27) _ = _
                      simp only [Act.put, sT, sZ, sS, i64_w, i32_w]
                      rfl
                    refine pure_ (i := 13) (N := some 28) (v := ?_) (a' := ?_) #[true, true, true, true, true, true, true, true, true, true, true, true, true, true, false, false, false, false, false, false, false, false, false, false, false, false, false, false, false, false, false, false, false, false, false, false, false, false, false, false, false, false, false, false, false, false, false, false, false, false, false, false, false] rfl rfl (any_of HT_.out (by kernel_rfl)) (fun _ _ _ h => h) (Or.inl ⟨by rfl, ?_⟩) ?_ ?_; rotate_left; · (intro w'; go_simp; with_reducible rfl)
                    rotate_left; · (simp only [Act.put, sT, sZ, sS, i64_w, i32_w]; rfl)
                    refine pure_ (i := 14) (N := some 29) (v := ?_) (a' := ?_) #[true, true, true, true, true, true, true, true, true, true, true, true, true, true, true, false, false, false, false, false, false, false, false, false, false, false, false, false, false, false, false, false, false, false, false, false, false, false, false, false, false, false, false, false, false, false, false, false, false, false, false, false, false] rfl rfl (any_of HT_.out (by kernel_rfl)) (fun _ _ _ h => h) (Or.inl ⟨by rfl, ?_⟩) ?_ ?_; rotate_left; · (intro w'; go_simp; with_reducible rfl)
                    rotate_left; · (simp only [Act.put, sT, sZ, sS, i64_w, i32_w]; rfl)
                    refine take_ (i := 15) (N := some 30) (v := ?_) (a' := ?_) #[true, true, true, true, true, true, true, true, true, true, true, true, true, true, true, true, false, false, false, false, false, false, false, false, false, false, false, false, false, false, false, false, false, false, false, false, false, false, false, false, false, false, false, false, false, false, false, false, false, false, false, false, false] rfl rfl (take_ofW HT_.out HW_.out (by kernel_rfl)) (fun _ _ _ h => h) (Or.inl ⟨by rfl, ?_⟩) hHeld ?_ ?_; rotate_left
                    · rintro w' ⟨s0, s1, s2, s3, s4, s5, s6, s7, s8, s9, s10, s11, s12, s13⟩
                      go_simp
                      with_reducible rfl
                    rotate_left; · (simp only [Act.put, sT, sZ, sS, i64_w, i32_w]; rfl)
                    refine one_ (i := 16) (N := some 31) #[true, true, true, true, true, true, true, true, true, true, true, true, true, true, true, true, true, false, false, false, false, false, false, false, false, false, false, false, false, false, false, false, false, false, false, false, false, false, false, false, false, false, false, false, false, false, false, false, false, false, false, false, false] rfl rfl (one_of HT_.out (by kernel_rfl)) (by decide) (fun K hK => ?_)
                    refine goes_ Try.func21 (by kernel_rfl) rfl #[.int .i64 3, .int .i64 3] (by rfl) rfl rfl (by (try simp only [List.map_toArray, List.map_cons, List.map_nil]); first | done | rfl | (simp; done)) ?_
                    (with_reducible refine (barrowlaw32_tile.calls _ _ _ _ _  Hc15.out).mono ?_)
                    rintro e_ w48 ⟨rfl, hb_⟩
                    refine ⟨_, rfl, ?_⟩
                    replace HS := Aside0.mk (HS.out.below hb_)
                    replace HK := Aside0.mk (HK.out.trans (Keep.below hb_))
                    refine hK.out _ _ ⟨(((blk_cell (SL.at_ (SL.get2 HS.out)) 0).trans rfl)), (((blk_cell (SL.at_ (SL.get2 HS.out)) 1).trans rfl)), (((blk_cell (SL.at_ (SL.get2 HS.out)) 2).trans rfl)), (((blk_cell (SL.at_ (SL.get2 HS.out)) 3).trans rfl)), (((blk_cell (SL.at_ (SL.get2 HS.out)) 4).trans rfl)), (((blk_cell (SL.at_ (SL.get2 HS.out)) 5).trans rfl)), (((blk_cell (SL.at_ (SL.get2 HS.out)) 6).trans rfl)), (((blk_cell (SL.at_ (SL.get1 HS.out)) 0).trans rfl)), (((blk_cell (SL.at_ (SL.get1 HS.out)) 1).trans rfl)), (((blk_cell (SL.at_ (SL.get1 HS.out)) 2).trans rfl)), (((blk_cell (SL.at_ (SL.get1 HS.out)) 3).trans rfl)), (((blk_cell (SL.at_ (SL.get1 HS.out)) 4).trans rfl)), (((blk_cell (SL.at_ (SL.get1 HS.out)) 5).trans rfl)), (((blk_cell (SL.at_ (SL.get1 HS.out)) 6).trans rfl))⟩ (fun hHeld => ?_)
                    clear hK K
                    refine norm_ (a' := ?_) ?_ ?_; rotate_left
                    · show Act.put _ (some 31) _ = _
                      simp only [Act.put, sT, sZ, sS, i64_w, i32_w]
                      rfl
                    refine one_ (i := 17) (N := some 32) #[true, true, true, true, true, true, true, true, true, true, true, true, true, true, true, true, true, true, false, false, false, false, false, false, false, false, false, false, false, false, false, false, false, false, false, false, false, false, false, false, false, false, false, false, false, false, false, false, false, false, false, false, false] rfl rfl (one_of HT_.out (by kernel_rfl)) (by decide) (fun K hK => ?_)
                    refine goes_ Try.func11 (by kernel_rfl) rfl #[.agg #[.int .i64 4, .int .i64 0, .int .i64 0, .int .i64 t388, .int .i64 t389, .int .i64 5, .int .i64 0], .agg #[.int .i64 t406, .int .i64 t407]] (by rfl) rfl rfl (by (try simp only [List.map_toArray, List.map_cons, List.map_nil]); first | done | rfl | (simp; done)) ?_
                    (with_reducible refine (area_In.calls k _ _ _ _ _ _ _ _ _ _ _  Hc16.out).mono ?_)
                    rintro e_ w49 ⟨rfl, hb_⟩
                    refine ⟨_, rfl, ?_⟩
                    replace HS := Aside0.mk (HS.out.below hb_)
                    replace HK := Aside0.mk (HK.out.trans (Keep.below hb_))
                    refine hK.out _ _ ⟨(((blk_cell (SL.at_ (SL.get2 HS.out)) 0).trans rfl)), (((blk_cell (SL.at_ (SL.get2 HS.out)) 1).trans rfl)), (((blk_cell (SL.at_ (SL.get2 HS.out)) 2).trans rfl)), (((blk_cell (SL.at_ (SL.get2 HS.out)) 3).trans rfl)), (((blk_cell (SL.at_ (SL.get2 HS.out)) 4).trans rfl)), (((blk_cell (SL.at_ (SL.get2 HS.out)) 5).trans rfl)), (((blk_cell (SL.at_ (SL.get2 HS.out)) 6).trans rfl)), (((blk_cell (SL.at_ (SL.get1 HS.out)) 0).trans rfl)), (((blk_cell (SL.at_ (SL.get1 HS.out)) 1).trans rfl)), (((blk_cell (SL.at_ (SL.get1 HS.out)) 2).trans rfl)), (((blk_cell (SL.at_ (SL.get1 HS.out)) 3).trans rfl)), (((blk_cell (SL.at_ (SL.get1 HS.out)) 4).trans rfl)), (((blk_cell (SL.at_ (SL.get1 HS.out)) 5).trans rfl)), (((blk_cell (SL.at_ (SL.get1 HS.out)) 6).trans rfl))⟩ (fun hHeld => ?_)
                    clear hK K
                    refine norm_ (a' := ?_) ?_ ?_; rotate_left
                    · show Act.put _ (some 32) _ = _
                      simp only [Act.put, sT, sZ, sS, i64_w, i32_w]
                      rfl
                    refine pure_ (i := 18) (N := some 33) (v := ?_) (a' := ?_) #[true, true, true, true, true, true, true, true, true, true, true, true, true, true, true, true, true, true, true, false, false, false, false, false, false, false, false, false, false, false, false, false, false, false, false, false, false, false, false, false, false, false, false, false, false, false, false, false, false, false, false, false, false] rfl rfl (any_of HT_.out (by kernel_rfl)) (fun _ _ _ h => h) (Or.inl ⟨by rfl, ?_⟩) ?_ ?_; rotate_left; · (intro w'; go_simp; with_reducible rfl)
                    rotate_left; · (simp only [Act.put, sT, sZ, sS, i64_w, i32_w]; rfl)
                    refine pure_ (i := 19) (N := some 34) (v := ?_) (a' := ?_) #[true, true, true, true, true, true, true, true, true, true, true, true, true, true, true, true, true, true, true, true, false, false, false, false, false, false, false, false, false, false, false, false, false, false, false, false, false, false, false, false, false, false, false, false, false, false, false, false, false, false, false, false, false] rfl rfl (any_of HT_.out (by kernel_rfl)) (fun _ _ _ h => h) (Or.inl ⟨by rfl, ?_⟩) ?_ ?_; rotate_left; · (intro w'; go_simp; with_reducible rfl)
                    rotate_left; · (simp only [Act.put, sT, sZ, sS, i64_w, i32_w]; rfl)
                    refine take_ (i := 20) (N := some 35) (v := ?_) (a' := ?_) #[true, true, true, true, true, true, true, true, true, true, true, true, true, true, true, true, true, true, true, true, true, false, false, false, false, false, false, false, false, false, false, false, false, false, false, false, false, false, false, false, false, false, false, false, false, false, false, false, false, false, false, false, false] rfl rfl (take_ofW HT_.out HW_.out (by kernel_rfl)) (fun _ _ _ h => h) (Or.inl ⟨by rfl, ?_⟩) hHeld ?_ ?_; rotate_left
                    · rintro w' ⟨s0, s1, s2, s3, s4, s5, s6, s7, s8, s9, s10, s11, s12, s13⟩
                      go_simp
                      with_reducible rfl
                    rotate_left; · (simp only [Act.put, sT, sZ, sS, i64_w, i32_w]; rfl)
                    refine one_ (i := 21) (N := some 36) #[true, true, true, true, true, true, true, true, true, true, true, true, true, true, true, true, true, true, true, true, true, true, false, false, false, false, false, false, false, false, false, false, false, false, false, false, false, false, false, false, false, false, false, false, false, false, false, false, false, false, false, false, false] rfl rfl (one_of HT_.out (by kernel_rfl)) (by decide) (fun K hK => ?_)
                    refine goes_ Try.func21 (by kernel_rfl) rfl #[.int .i64 2, .int .i64 3] (by rfl) rfl rfl (by (try simp only [List.map_toArray, List.map_cons, List.map_nil]); first | done | rfl | (simp; done)) ?_
                    (with_reducible refine (barrowlaw32_tile.calls _ _ _ _ _  Hc18.out).mono ?_)
                    rintro e_ w50 ⟨rfl, hb_⟩
                    refine ⟨_, rfl, ?_⟩
                    replace HS := Aside0.mk (HS.out.below hb_)
                    replace HK := Aside0.mk (HK.out.trans (Keep.below hb_))
                    refine hK.out _ _ ⟨(((blk_cell (SL.at_ (SL.get2 HS.out)) 0).trans rfl)), (((blk_cell (SL.at_ (SL.get2 HS.out)) 1).trans rfl)), (((blk_cell (SL.at_ (SL.get2 HS.out)) 2).trans rfl)), (((blk_cell (SL.at_ (SL.get2 HS.out)) 3).trans rfl)), (((blk_cell (SL.at_ (SL.get2 HS.out)) 4).trans rfl)), (((blk_cell (SL.at_ (SL.get2 HS.out)) 5).trans rfl)), (((blk_cell (SL.at_ (SL.get2 HS.out)) 6).trans rfl)), (((blk_cell (SL.at_ (SL.get1 HS.out)) 0).trans rfl)), (((blk_cell (SL.at_ (SL.get1 HS.out)) 1).trans rfl)), (((blk_cell (SL.at_ (SL.get1 HS.out)) 2).trans rfl)), (((blk_cell (SL.at_ (SL.get1 HS.out)) 3).trans rfl)), (((blk_cell (SL.at_ (SL.get1 HS.out)) 4).trans rfl)), (((blk_cell (SL.at_ (SL.get1 HS.out)) 5).trans rfl)), (((blk_cell (SL.at_ (SL.get1 HS.out)) 6).trans rfl))⟩ (fun hHeld => ?_)
                    clear hK K
                    refine norm_ (a' := ?_) ?_ ?_; rotate_left
                    · show Act.put _ (some 36) _ = _
                      simp only [Act.put, sT, sZ, sS, i64_w, i32_w]
                      rfl
                    refine one_ (i := 22) (N := some 37) #[true, true, true, true, true, true, true, true, true, true, true, true, true, true, true, true, true, true, true, true, true, true, true, false, false, false, false, false, false, false, false, false, false, false, false, false, false, false, false, false, false, false, false, false, false, false, false, false, false, false, false, false, false] rfl rfl (one_of HT_.out (by kernel_rfl)) (by decide) (fun K hK => ?_)
                    refine goes_ Try.func11 (by kernel_rfl) rfl #[.agg #[.int .i64 4, .int .i64 0, .int .i64 0, .int .i64 t388, .int .i64 t389, .int .i64 5, .int .i64 0], .agg #[.int .i64 t409, .int .i64 t410]] (by rfl) rfl rfl (by (try simp only [List.map_toArray, List.map_cons, List.map_nil]); first | done | rfl | (simp; done)) ?_
                    (with_reducible refine (area_In.calls k _ _ _ _ _ _ _ _ _ _ _  Hc19.out).mono ?_)
                    rintro e_ w51 ⟨rfl, hb_⟩
                    refine ⟨_, rfl, ?_⟩
                    replace HS := Aside0.mk (HS.out.below hb_)
                    replace HK := Aside0.mk (HK.out.trans (Keep.below hb_))
                    refine hK.out _ _ ⟨(((blk_cell (SL.at_ (SL.get2 HS.out)) 0).trans rfl)), (((blk_cell (SL.at_ (SL.get2 HS.out)) 1).trans rfl)), (((blk_cell (SL.at_ (SL.get2 HS.out)) 2).trans rfl)), (((blk_cell (SL.at_ (SL.get2 HS.out)) 3).trans rfl)), (((blk_cell (SL.at_ (SL.get2 HS.out)) 4).trans rfl)), (((blk_cell (SL.at_ (SL.get2 HS.out)) 5).trans rfl)), (((blk_cell (SL.at_ (SL.get2 HS.out)) 6).trans rfl)), (((blk_cell (SL.at_ (SL.get1 HS.out)) 0).trans rfl)), (((blk_cell (SL.at_ (SL.get1 HS.out)) 1).trans rfl)), (((blk_cell (SL.at_ (SL.get1 HS.out)) 2).trans rfl)), (((blk_cell (SL.at_ (SL.get1 HS.out)) 3).trans rfl)), (((blk_cell (SL.at_ (SL.get1 HS.out)) 4).trans rfl)), (((blk_cell (SL.at_ (SL.get1 HS.out)) 5).trans rfl)), (((blk_cell (SL.at_ (SL.get1 HS.out)) 6).trans rfl))⟩ (fun hHeld => ?_)
                    clear hK K
                    refine norm_ (a' := ?_) ?_ ?_; rotate_left
                    · show Act.put _ (some 37) _ = _
                      simp only [Act.put, sT, sZ, sS, i64_w, i32_w]
                      rfl
                    refine pure_ (i := 23) (N := some 38) (v := ?_) (a' := ?_) #[true, true, true, true, true, true, true, true, true, true, true, true, true, true, true, true, true, true, true, true, true, true, true, true, false, false, false, false, false, false, false, false, false, false, false, false, false, false, false, false, false, false, false, false, false, false, false, false, false, false, false, false, false] rfl rfl (any_of HT_.out (by kernel_rfl)) (fun _ _ _ h => h) (Or.inl ⟨by rfl, ?_⟩) ?_ ?_; rotate_left; · (intro w'; go_simp; with_reducible rfl)
                    rotate_left; · (simp only [Act.put, sT, sZ, sS, i64_w, i32_w]; rfl)
                    refine pure_ (i := 24) (N := some 39) (v := ?_) (a' := ?_) #[true, true, true, true, true, true, true, true, true, true, true, true, true, true, true, true, true, true, true, true, true, true, true, true, true, false, false, false, false, false, false, false, false, false, false, false, false, false, false, false, false, false, false, false, false, false, false, false, false, false, false, false, false] rfl rfl (any_of HT_.out (by kernel_rfl)) (fun _ _ _ h => h) (Or.inl ⟨by rfl, ?_⟩) ?_ ?_; rotate_left; · (intro w'; go_simp; with_reducible rfl)
                    rotate_left; · (simp only [Act.put, sT, sZ, sS, i64_w, i32_w]; rfl)
                    refine pure_ (i := 25) (N := some 40) (v := ?_) (a' := ?_) #[true, true, true, true, true, true, true, true, true, true, true, true, true, true, true, true, true, true, true, true, true, true, true, true, true, true, false, false, false, false, false, false, false, false, false, false, false, false, false, false, false, false, false, false, false, false, false, false, false, false, false, false, false] rfl rfl (any_of HT_.out (by kernel_rfl)) (fun _ _ _ h => h) (Or.inl ⟨by rfl, ?_⟩) ?_ ?_; rotate_left; · (intro w'; go_simp; with_reducible rfl)
                    rotate_left; · (simp only [Act.put, sT, sZ, sS, i64_w, i32_w]; rfl)
                    refine pure_ (i := 26) (N := some 41) (v := ?_) (a' := ?_) #[true, true, true, true, true, true, true, true, true, true, true, true, true, true, true, true, true, true, true, true, true, true, true, true, true, true, true, false, false, false, false, false, false, false, false, false, false, false, false, false, false, false, false, false, false, false, false, false, false, false, false, false, false] rfl rfl (any_of HT_.out (by kernel_rfl)) (fun _ _ _ h => h) (Or.inl ⟨by rfl, ?_⟩) ?_ ?_; rotate_left; · (intro w'; go_simp; with_reducible rfl)
                    rotate_left; · (simp only [Act.put, sT, sZ, sS, i64_w, i32_w]; rfl)
                    refine take_ (i := 27) (N := some 42) (v := ?_) (a' := ?_) #[true, true, true, true, true, true, true, true, true, true, true, true, true, true, true, true, true, true, true, true, true, true, true, true, true, true, true, true, false, false, false, false, false, false, false, false, false, false, false, false, false, false, false, false, false, false, false, false, false, false, false, false, false] rfl rfl (take_ofW HT_.out HW_.out (by kernel_rfl)) (fun _ _ _ h => h) (Or.inl ⟨by rfl, ?_⟩) hHeld ?_ ?_; rotate_left
                    · rintro w' ⟨s0, s1, s2, s3, s4, s5, s6, s7, s8, s9, s10, s11, s12, s13⟩
                      go_simp
                      with_reducible rfl
                    rotate_left; · (simp only [Act.put, sT, sZ, sS, i64_w, i32_w]; rfl)
                    refine join_ (σ := Option Addr × Nat × Option Addr × Nat) 23 #[true, true, true, true, true, true, true, true, true, true, true, true, true, true, true, true, true, true, true, true, true, true, true, true, true, true, true, true, true, true, false, false, false, false, false, false, false, false, false, false, false, false, false, false, false, false, false, false, false, false, false, false, false] (fun s_ => [(43, .slice s_.1 t412.length s_.2.1), (44, .slice s_.2.2.1 2 s_.2.2.2)]) (fun s_ w_ => Keep S w w_ ∧ SL (row (Kd.int .i64) 3 (.slice s_.1 t412.length s_.2.1) t412 :: row (Kd.int .i64) 3 (.slice s_.2.2.1 2 s_.2.2.2) y413 :: row k47 47 (.slice Az3000038 3 cz3000038) y396 :: cells g3000037 28 [.int .i64 4, .int .i64 0, .int .i64 0, .int .i64 t388, .int .i64 t389, .int .i64 5, .int .i64 0].toArray :: cells g3000036 28 [.int .i64 2, .int .i64 t386, .int .i64 t387, .int .i64 0, .int .i64 0, .int .i64 1, .int .i64 2].toArray :: L) w_ S) ?_ ?_; rotate_left
                    · intro hCont
                      refine two_ (i := 28) (j := 29) (Ni := some 43) (Nj := some 44) #[true, true, true, true, true, true, true, true, true, true, true, true, true, true, true, true, true, true, true, true, true, true, true, true, true, true, true, true, true, false, false, false, false, false, false, false, false, false, false, false, false, false, false, false, false, false, false, false, false, false, false, false, false] #[true, true, true, true, true, true, true, true, true, true, true, true, true, true, true, true, true, true, true, true, true, true, true, true, true, true, true, true, false, true, false, false, false, false, false, false, false, false, false, false, false, false, false, false, false, false, false, false, false, false, false, false, false] rfl rfl rfl rfl (two_of HT_.out (by kernel_rfl)) (by decide) (by decide) (fun K hK => ?_) (fun K hK => ?_)
                      · skip
                        refine goes_ Try.func17 (by kernel_rfl) rfl #[.slice Az3000038 3 cz3000038, .agg #[.int .i64 2, .int .i64 t386, .int .i64 t387, .int .i64 0, .int .i64 0, .int .i64 1, .int .i64 2]] (by rfl) rfl rfl (by (try simp only [List.map_toArray, List.map_cons, List.map_nil]); first | done | rfl | (simp; done)) ?_
                        have el3000038_ := Aside0.mk (SL.row_c HS.out).1
                        refine calls_of_args (args' := #[.slice Az3000038 y396.length cz3000038, .agg #[.int .i64 2, .int .i64 t386, .int .i64 t387, .int .i64 0, .int .i64 0, .int .i64 1, .int .i64 2]]) (by rw [← el3000038_.out]) ?_
                        have hs0_ := HS.out
                        obtain ⟨U1_, hfU1_, hsub1_, hs1_, hro1_, hback1_⟩ := SL.lend (HF.out.keep HK.out) hs0_ (p := fun w_ => Kd.C k47 w_ Az3000038 3 y396) (fun w_ T_ h_ => (Qs_c h_).2.2)
                        (with_reducible refine (area_Units.slcalls k _ _ _ _ _ _ _ _ _ _ _ _ _ _ hfU1_ hs1_ (by rw [← el3000038_.out]; exact hro1_) (by rw [← el3000038_.out]; exact (SL.row_c HS.out).2.1) Hc21.out).mono ?_)
                        rintro e_ w63 ⟨Az3000039, cz3000039, rfl, hsr_, hkr_⟩
                        refine ⟨_, rfl, ?_⟩
                        replace HS := Aside0.mk ((hback1_ _ _ hkr_ hsr_))
                        replace HK := Aside0.mk (HK.out.trans (Keep.sub hkr_ (fun k_ h_ => hsub1_ k_ h_)))
                        refine hK.out _ _ ⟨(((blk_cell (SL.at_ (SL.get3 HS.out)) 0).trans rfl)), (((blk_cell (SL.at_ (SL.get3 HS.out)) 1).trans rfl)), (((blk_cell (SL.at_ (SL.get3 HS.out)) 2).trans rfl)), (((blk_cell (SL.at_ (SL.get3 HS.out)) 3).trans rfl)), (((blk_cell (SL.at_ (SL.get3 HS.out)) 4).trans rfl)), (((blk_cell (SL.at_ (SL.get3 HS.out)) 5).trans rfl)), (((blk_cell (SL.at_ (SL.get3 HS.out)) 6).trans rfl)), (((blk_cell (SL.at_ (SL.get2 HS.out)) 0).trans rfl)), (((blk_cell (SL.at_ (SL.get2 HS.out)) 1).trans rfl)), (((blk_cell (SL.at_ (SL.get2 HS.out)) 2).trans rfl)), (((blk_cell (SL.at_ (SL.get2 HS.out)) 3).trans rfl)), (((blk_cell (SL.at_ (SL.get2 HS.out)) 4).trans rfl)), (((blk_cell (SL.at_ (SL.get2 HS.out)) 5).trans rfl)), (((blk_cell (SL.at_ (SL.get2 HS.out)) 6).trans rfl))⟩ (fun hHeld => ?_)
                        clear hK K
                        refine norm_ (a' := ?_) ?_ ?_; rotate_left
                        · show Act.put _ (some 43) _ = _
                          simp only [Act.put, sT, sZ, sS, i64_w, i32_w]
                          rfl
                        refine one_ (i := 29) (N := some 44) #[true, true, true, true, true, true, true, true, true, true, true, true, true, true, true, true, true, true, true, true, true, true, true, true, true, true, true, true, true, true, false, false, false, false, false, false, false, false, false, false, false, false, false, false, false, false, false, false, false, false, false, false, false] rfl rfl (one_of HT_.out (by kernel_rfl)) (by decide) (fun K hK => ?_)
                        replace HS := Aside0.mk (SL.get3 (SL.get3 (SL.get3 (SL.get1 HS.out))))
                        refine st_of (by rfl) ?_
                        refine op_row (S := S) (enc := Value.int .i64) (h1 := fun _ => rfl) 3 y413 #[.int .i64 2, .int .i64 3] 2 (by rw [← Ny413.out]; rfl) (by rw [← Ny413.out]; rfl) (by decide) (HF.out.keep HK.out) HS.out (by first | (go_simp; done) | (go_simp; rfl)) ?_
                        intro Az3000040 cz3000040 w64 hs_ hk_
                        replace HS := Aside0.mk ((show SL (row (Kd.int .i64) 3 (.slice Az3000040 2 cz3000040) y413 :: _) _ _ from hs_))
                        replace HK := Aside0.mk (HK.out.trans hk_)
                        refine hK.out _ _ ⟨(((blk_cell (SL.at_ (SL.get3 HS.out)) 0).trans rfl)), (((blk_cell (SL.at_ (SL.get3 HS.out)) 1).trans rfl)), (((blk_cell (SL.at_ (SL.get3 HS.out)) 2).trans rfl)), (((blk_cell (SL.at_ (SL.get3 HS.out)) 3).trans rfl)), (((blk_cell (SL.at_ (SL.get3 HS.out)) 4).trans rfl)), (((blk_cell (SL.at_ (SL.get3 HS.out)) 5).trans rfl)), (((blk_cell (SL.at_ (SL.get3 HS.out)) 6).trans rfl)), (((blk_cell (SL.at_ (SL.get2 HS.out)) 0).trans rfl)), (((blk_cell (SL.at_ (SL.get2 HS.out)) 1).trans rfl)), (((blk_cell (SL.at_ (SL.get2 HS.out)) 2).trans rfl)), (((blk_cell (SL.at_ (SL.get2 HS.out)) 3).trans rfl)), (((blk_cell (SL.at_ (SL.get2 HS.out)) 4).trans rfl)), (((blk_cell (SL.at_ (SL.get2 HS.out)) 5).trans rfl)), (((blk_cell (SL.at_ (SL.get2 HS.out)) 6).trans rfl))⟩ (fun hHeld => ?_)
                        clear hK K
                        refine norm_ (a' := ?_) ?_ ?_; rotate_left
                        · show Act.put _ (some 44) _ = _
                          simp only [Act.put, sT, sZ, sS, i64_w, i32_w]
                          rfl
                        exact norm_ (by simp only [putAll, Act.put, sT, sZ, sS]) (hCont (Az3000039, cz3000039, Az3000040, cz3000040) _ ⟨HK.out, (SL.get4 (SL.get3 (SL.get3 (SL.get3 (SL.get3 HS.out)))))⟩)
                      · skip
                        refine st_of (by rfl) ?_
                        refine op_row (S := S) (enc := Value.int .i64) (h1 := fun _ => rfl) 3 y413 #[.int .i64 2, .int .i64 3] 2 (by rw [← Ny413.out]; rfl) (by rw [← Ny413.out]; rfl) (by decide) (HF.out.keep HK.out) HS.out (by first | (go_simp; done) | (go_simp; rfl)) ?_
                        intro Az3000040 cz3000040 w65 hs_ hk_
                        replace HS := Aside0.mk ((show SL (row (Kd.int .i64) 3 (.slice Az3000040 2 cz3000040) y413 :: _) _ _ from hs_))
                        replace HK := Aside0.mk (HK.out.trans hk_)
                        refine hK.out _ _ ⟨(((blk_cell (SL.at_ (SL.get3 HS.out)) 0).trans rfl)), (((blk_cell (SL.at_ (SL.get3 HS.out)) 1).trans rfl)), (((blk_cell (SL.at_ (SL.get3 HS.out)) 2).trans rfl)), (((blk_cell (SL.at_ (SL.get3 HS.out)) 3).trans rfl)), (((blk_cell (SL.at_ (SL.get3 HS.out)) 4).trans rfl)), (((blk_cell (SL.at_ (SL.get3 HS.out)) 5).trans rfl)), (((blk_cell (SL.at_ (SL.get3 HS.out)) 6).trans rfl)), (((blk_cell (SL.at_ (SL.get2 HS.out)) 0).trans rfl)), (((blk_cell (SL.at_ (SL.get2 HS.out)) 1).trans rfl)), (((blk_cell (SL.at_ (SL.get2 HS.out)) 2).trans rfl)), (((blk_cell (SL.at_ (SL.get2 HS.out)) 3).trans rfl)), (((blk_cell (SL.at_ (SL.get2 HS.out)) 4).trans rfl)), (((blk_cell (SL.at_ (SL.get2 HS.out)) 5).trans rfl)), (((blk_cell (SL.at_ (SL.get2 HS.out)) 6).trans rfl))⟩ (fun hHeld => ?_)
                        clear hK K
                        refine norm_ (a' := ?_) ?_ ?_; rotate_left
                        · show Act.put _ (some 44) _ = _
                          simp only [Act.put, sT, sZ, sS, i64_w, i32_w]
                          rfl
                        refine one_ (i := 28) (N := some 43) #[true, true, true, true, true, true, true, true, true, true, true, true, true, true, true, true, true, true, true, true, true, true, true, true, true, true, true, true, true, true, false, false, false, false, false, false, false, false, false, false, false, false, false, false, false, false, false, false, false, false, false, false, false] rfl rfl (one_of HT_.out (by kernel_rfl)) (by decide) (fun K hK => ?_)
                        replace HS := Aside0.mk (SL.get3 (SL.get3 (SL.get3 HS.out)))
                        refine goes_ Try.func17 (by kernel_rfl) rfl #[.slice Az3000038 3 cz3000038, .agg #[.int .i64 2, .int .i64 t386, .int .i64 t387, .int .i64 0, .int .i64 0, .int .i64 1, .int .i64 2]] (by rfl) rfl rfl (by (try simp only [List.map_toArray, List.map_cons, List.map_nil]); first | done | rfl | (simp; done)) ?_
                        have el3000038_ := Aside0.mk (SL.row_c HS.out).1
                        refine calls_of_args (args' := #[.slice Az3000038 y396.length cz3000038, .agg #[.int .i64 2, .int .i64 t386, .int .i64 t387, .int .i64 0, .int .i64 0, .int .i64 1, .int .i64 2]]) (by rw [← el3000038_.out]) ?_
                        have hs0_ := HS.out
                        obtain ⟨U1_, hfU1_, hsub1_, hs1_, hro1_, hback1_⟩ := SL.lend (HF.out.keep HK.out) hs0_ (p := fun w_ => Kd.C k47 w_ Az3000038 3 y396) (fun w_ T_ h_ => (Qs_c h_).2.2)
                        (with_reducible refine (area_Units.slcalls k _ _ _ _ _ _ _ _ _ _ _ _ _ _ hfU1_ hs1_ (by rw [← el3000038_.out]; exact hro1_) (by rw [← el3000038_.out]; exact (SL.row_c HS.out).2.1) Hc21.out).mono ?_)
                        rintro e_ w66 ⟨Az3000039, cz3000039, rfl, hsr_, hkr_⟩
                        refine ⟨_, rfl, ?_⟩
                        replace HS := Aside0.mk ((hback1_ _ _ hkr_ hsr_))
                        replace HK := Aside0.mk (HK.out.trans (Keep.sub hkr_ (fun k_ h_ => hsub1_ k_ h_)))
                        refine hK.out _ _ ⟨(((blk_cell (SL.at_ (SL.get3 HS.out)) 0).trans rfl)), (((blk_cell (SL.at_ (SL.get3 HS.out)) 1).trans rfl)), (((blk_cell (SL.at_ (SL.get3 HS.out)) 2).trans rfl)), (((blk_cell (SL.at_ (SL.get3 HS.out)) 3).trans rfl)), (((blk_cell (SL.at_ (SL.get3 HS.out)) 4).trans rfl)), (((blk_cell (SL.at_ (SL.get3 HS.out)) 5).trans rfl)), (((blk_cell (SL.at_ (SL.get3 HS.out)) 6).trans rfl)), (((blk_cell (SL.at_ (SL.get2 HS.out)) 0).trans rfl)), (((blk_cell (SL.at_ (SL.get2 HS.out)) 1).trans rfl)), (((blk_cell (SL.at_ (SL.get2 HS.out)) 2).trans rfl)), (((blk_cell (SL.at_ (SL.get2 HS.out)) 3).trans rfl)), (((blk_cell (SL.at_ (SL.get2 HS.out)) 4).trans rfl)), (((blk_cell (SL.at_ (SL.get2 HS.out)) 5).trans rfl)), (((blk_cell (SL.at_ (SL.get2 HS.out)) 6).trans rfl))⟩ (fun hHeld => ?_)
                        clear hK K
                        refine norm_ (a' := ?_) ?_ ?_; rotate_left
                        · show Act.put _ (some 43) _ = _
                          simp only [Act.put, sT, sZ, sS, i64_w, i32_w]
                          rfl
                        exact norm_ (by simp only [putAll, Act.put, sT, sZ, sS]) (hCont (Az3000039, cz3000039, Az3000040, cz3000040) _ ⟨HK.out, (SL.get4 (SL.get4 (SL.get2 (SL.get3 (SL.get3 HS.out)))))⟩)
                    rintro ⟨Az3000039, cz3000039, Az3000040, cz3000040⟩ w62 ⟨hk_, hs_⟩
                    clear HK HS
                    have HK := Aside0.mk hk_
                    have HS := Aside0.mk hs_
                    clear hk_ hs_
                    have hHeld := (⟨(((blk_cell (SL.at_ (SL.get4 HS.out)) 0).trans rfl)), (((blk_cell (SL.at_ (SL.get4 HS.out)) 1).trans rfl)), (((blk_cell (SL.at_ (SL.get4 HS.out)) 2).trans rfl)), (((blk_cell (SL.at_ (SL.get4 HS.out)) 3).trans rfl)), (((blk_cell (SL.at_ (SL.get4 HS.out)) 4).trans rfl)), (((blk_cell (SL.at_ (SL.get4 HS.out)) 5).trans rfl)), (((blk_cell (SL.at_ (SL.get4 HS.out)) 6).trans rfl)), (((blk_cell (SL.at_ (SL.get3 HS.out)) 0).trans rfl)), (((blk_cell (SL.at_ (SL.get3 HS.out)) 1).trans rfl)), (((blk_cell (SL.at_ (SL.get3 HS.out)) 2).trans rfl)), (((blk_cell (SL.at_ (SL.get3 HS.out)) 3).trans rfl)), (((blk_cell (SL.at_ (SL.get3 HS.out)) 4).trans rfl)), (((blk_cell (SL.at_ (SL.get3 HS.out)) 5).trans rfl)), (((blk_cell (SL.at_ (SL.get3 HS.out)) 6).trans rfl))⟩ : w62.cell? ⟨g3000036, 0, none⟩ = some (.int .i64 2) ∧ w62.cell? ⟨g3000036, 1, none⟩ = some (.int .i64 t386) ∧ w62.cell? ⟨g3000036, 2, none⟩ = some (.int .i64 t387) ∧ w62.cell? ⟨g3000036, 3, none⟩ = some (.int .i64 0) ∧ w62.cell? ⟨g3000036, 4, none⟩ = some (.int .i64 0) ∧ w62.cell? ⟨g3000036, 5, none⟩ = some (.int .i64 1) ∧ w62.cell? ⟨g3000036, 6, none⟩ = some (.int .i64 2) ∧ w62.cell? ⟨g3000037, 0, none⟩ = some (.int .i64 4) ∧ w62.cell? ⟨g3000037, 1, none⟩ = some (.int .i64 0) ∧ w62.cell? ⟨g3000037, 2, none⟩ = some (.int .i64 0) ∧ w62.cell? ⟨g3000037, 3, none⟩ = some (.int .i64 t388) ∧ w62.cell? ⟨g3000037, 4, none⟩ = some (.int .i64 t389) ∧ w62.cell? ⟨g3000037, 5, none⟩ = some (.int .i64 5) ∧ w62.cell? ⟨g3000037, 6, none⟩ = some (.int .i64 0))
                    replace HS := Aside0.mk (SL.get4 (SL.get4 (SL.get2 (SL.get4 (SL.get4 HS.out)))))
                    refine norm_ (a' := ?_) ?_ ?_; rotate_left; · (simp only [putAll, Act.put, sT, sZ, sS]; rfl)
                    refine one_ (i := 30) (N := some 45) #[true, true, true, true, true, true, true, true, true, true, true, true, true, true, true, true, true, true, true, true, true, true, true, true, true, true, true, true, true, true, true, false, false, false, false, false, false, false, false, false, false, false, false, false, false, false, false, false, false, false, false, false, false] rfl rfl (one_of HT_.out (by kernel_rfl)) (by decide) (fun K hK => ?_)
                    refine goes_ Try.func16 (by kernel_rfl) rfl #[.slice Az3000039 t412.length cz3000039, .slice Az3000040 2 cz3000040] (by rfl) rfl rfl (by (try simp only [List.map_toArray, List.map_cons, List.map_nil]); first | done | rfl | (simp; done)) ?_
                    have el3000040_ := Aside0.mk (SL.row_c HS.out).1
                    refine calls_of_args (args' := #[.slice Az3000039 t412.length cz3000039, .slice Az3000040 y413.length cz3000040]) (by rw [← el3000040_.out]) ?_
                    (with_reducible refine (barrowref02_Same.calls k _ _ _ _ _ _ _ _ (SL.row_c (SL.get2 HS.out)).2.2 (SL.row_c (SL.get2 HS.out)).2.1 (by have e_ := (SL.row_c HS.out).1; have h_ := (SL.row_c HS.out).2.2; rw [e_] at h_; exact h_) (by have e_ := (SL.row_c HS.out).1; have h_ := (SL.row_c HS.out).2.1; (try dsimp only at e_ h_); (try dsimp only); omega) Hc22.out).mono ?_)
                    rintro e_ w54 ⟨rfl, hb_⟩
                    refine ⟨_, rfl, ?_⟩
                    replace hb_ := Drawn0.below hb_
                    replace HS := Aside0.mk (HS.out.below hb_)
                    replace HK := Aside0.mk (HK.out.trans (Keep.below hb_))
                    refine hK.out _ _ ⟨(((blk_cell (SL.at_ (SL.get4 HS.out)) 0).trans rfl)), (((blk_cell (SL.at_ (SL.get4 HS.out)) 1).trans rfl)), (((blk_cell (SL.at_ (SL.get4 HS.out)) 2).trans rfl)), (((blk_cell (SL.at_ (SL.get4 HS.out)) 3).trans rfl)), (((blk_cell (SL.at_ (SL.get4 HS.out)) 4).trans rfl)), (((blk_cell (SL.at_ (SL.get4 HS.out)) 5).trans rfl)), (((blk_cell (SL.at_ (SL.get4 HS.out)) 6).trans rfl)), (((blk_cell (SL.at_ (SL.get3 HS.out)) 0).trans rfl)), (((blk_cell (SL.at_ (SL.get3 HS.out)) 1).trans rfl)), (((blk_cell (SL.at_ (SL.get3 HS.out)) 2).trans rfl)), (((blk_cell (SL.at_ (SL.get3 HS.out)) 3).trans rfl)), (((blk_cell (SL.at_ (SL.get3 HS.out)) 4).trans rfl)), (((blk_cell (SL.at_ (SL.get3 HS.out)) 5).trans rfl)), (((blk_cell (SL.at_ (SL.get3 HS.out)) 6).trans rfl))⟩ (fun hHeld => ?_)
                    clear hK K
                    refine norm_ (a' := ?_) ?_ ?_; rotate_left
                    · show Act.put _ (some 45) _ = _
                      simp only [Act.put, sT, sZ, sS, i64_w, i32_w]
                      rfl
                    refine pure_ (i := 31) (N := some 46) (v := ?_) (a' := ?_) #[true, true, true, true, true, true, true, true, true, true, true, true, true, true, true, true, true, true, true, true, true, true, true, true, true, true, true, true, true, true, true, true, false, false, false, false, false, false, false, false, false, false, false, false, false, false, false, false, false, false, false, false, false] rfl rfl (any_of HT_.out (by kernel_rfl)) (fun _ _ _ h => h) (Or.inl ⟨by rfl, ?_⟩) ?_ ?_; rotate_left; · (intro w'; go_simp; with_reducible rfl)
                    rotate_left; · (simp only [Act.put, sT, sZ, sS, i64_w, i32_w]; rfl)
                    refine pure_ (i := 32) (N := some 47) (v := ?_) (a' := ?_) #[true, true, true, true, true, true, true, true, true, true, true, true, true, true, true, true, true, true, true, true, true, true, true, true, true, true, true, true, true, true, true, true, true, false, false, false, false, false, false, false, false, false, false, false, false, false, false, false, false, false, false, false, false] rfl rfl (any_of HT_.out (by kernel_rfl)) (fun _ _ _ h => h) (Or.inl ⟨by rfl, ?_⟩) ?_ ?_; rotate_left; · (intro w'; go_simp; with_reducible rfl)
                    rotate_left; · (simp only [Act.put, sT, sZ, sS, i64_w, i32_w]; rfl)
                    refine pure_ (i := 33) (N := some 48) (v := ?_) (a' := ?_) #[true, true, true, true, true, true, true, true, true, true, true, true, true, true, true, true, true, true, true, true, true, true, true, true, true, true, true, true, true, true, true, true, true, true, false, false, false, false, false, false, false, false, false, false, false, false, false, false, false, false, false, false, false] rfl rfl (any_of HT_.out (by kernel_rfl)) (fun _ _ _ h => h) (Or.inl ⟨by rfl, ?_⟩) ?_ ?_; rotate_left; · (intro w'; go_simp; with_reducible rfl)
                    rotate_left; · (simp only [Act.put, sT, sZ, sS, i64_w, i32_w]; rfl)
                    refine take_ (i := 34) (N := some 49) (v := ?_) (a' := ?_) #[true, true, true, true, true, true, true, true, true, true, true, true, true, true, true, true, true, true, true, true, true, true, true, true, true, true, true, true, true, true, true, true, true, true, true, false, false, false, false, false, false, false, false, false, false, false, false, false, false, false, false, false, false] rfl rfl (take_ofW HT_.out HW_.out (by kernel_rfl)) (fun _ _ _ h => h) (Or.inl ⟨by rfl, ?_⟩) hHeld ?_ ?_; rotate_left
                    · rintro w' ⟨s0, s1, s2, s3, s4, s5, s6, s7, s8, s9, s10, s11, s12, s13⟩
                      go_simp
                      with_reducible rfl
                    rotate_left; · (simp only [Act.put, sT, sZ, sS, i64_w, i32_w]; rfl)
                    refine join_ (σ := Option Addr × Nat × Option Addr × Nat) 15 #[true, true, true, true, true, true, true, true, true, true, true, true, true, true, true, true, true, true, true, true, true, true, true, true, true, true, true, true, true, true, true, true, true, true, true, true, true, true, false, false, false, false, false, false, false, false, false, false, false, false, false, false, false] (fun s_ => [(50, .agg #[.int .i64 t415, .int .i64 t416]), (51, .slice s_.1 t417.length s_.2.1), (52, .slice s_.2.2.1 1 s_.2.2.2)]) (fun s_ w_ => Keep S w w_ ∧ SL (row (Kd.int .i64) 3 (.slice s_.1 t417.length s_.2.1) t417 :: row (Kd.int .i64) 3 (.slice s_.2.2.1 1 s_.2.2.2) y418 :: row (Kd.int .i64) 3 (.slice Az3000040 2 cz3000040) y413 :: row k47 47 (.slice Az3000038 3 cz3000038) y396 :: row (Kd.int .i64) 3 (.slice Az3000039 t412.length cz3000039) t412 :: cells g3000037 28 [.int .i64 4, .int .i64 0, .int .i64 0, .int .i64 t388, .int .i64 t389, .int .i64 5, .int .i64 0].toArray :: cells g3000036 28 [.int .i64 2, .int .i64 t386, .int .i64 t387, .int .i64 0, .int .i64 0, .int .i64 1, .int .i64 2].toArray :: L) w_ S) ?_ ?_; rotate_left
                    · intro hCont
                      refine two_ (i := 35) (j := 37) (Ni := some 50) (Nj := some 52) #[true, true, true, true, true, true, true, true, true, true, true, true, true, true, true, true, true, true, true, true, true, true, true, true, true, true, true, true, true, true, true, true, true, true, true, true, false, false, false, false, false, false, false, false, false, false, false, false, false, false, false, false, false] #[true, true, true, true, true, true, true, true, true, true, true, true, true, true, true, true, true, true, true, true, true, true, true, true, true, true, true, true, true, true, true, true, true, true, true, false, false, true, false, false, false, false, false, false, false, false, false, false, false, false, false, false, false] rfl rfl rfl rfl (two_of HT_.out (by kernel_rfl)) (by decide) (by decide) (fun K hK => ?_) (fun K hK => ?_)
                      · skip
                        refine goes_ Try.func21 (by kernel_rfl) rfl #[.int .i64 5, .int .i64 0] (by rfl) rfl rfl (by (try simp only [List.map_toArray, List.map_cons, List.map_nil]); first | done | rfl | (simp; done)) ?_
                        (with_reducible refine (barrowlaw32_tile.calls _ _ _ _ _  Hc24.out).mono ?_)
                        rintro e_ w68 ⟨rfl, hb_⟩
                        refine ⟨_, rfl, ?_⟩
                        replace HS := Aside0.mk (HS.out.below hb_)
                        replace HK := Aside0.mk (HK.out.trans (Keep.below hb_))
                        refine hK.out _ _ ⟨(((blk_cell (SL.at_ (SL.get4 HS.out)) 0).trans rfl)), (((blk_cell (SL.at_ (SL.get4 HS.out)) 1).trans rfl)), (((blk_cell (SL.at_ (SL.get4 HS.out)) 2).trans rfl)), (((blk_cell (SL.at_ (SL.get4 HS.out)) 3).trans rfl)), (((blk_cell (SL.at_ (SL.get4 HS.out)) 4).trans rfl)), (((blk_cell (SL.at_ (SL.get4 HS.out)) 5).trans rfl)), (((blk_cell (SL.at_ (SL.get4 HS.out)) 6).trans rfl)), (((blk_cell (SL.at_ (SL.get3 HS.out)) 0).trans rfl)), (((blk_cell (SL.at_ (SL.get3 HS.out)) 1).trans rfl)), (((blk_cell (SL.at_ (SL.get3 HS.out)) 2).trans rfl)), (((blk_cell (SL.at_ (SL.get3 HS.out)) 3).trans rfl)), (((blk_cell (SL.at_ (SL.get3 HS.out)) 4).trans rfl)), (((blk_cell (SL.at_ (SL.get3 HS.out)) 5).trans rfl)), (((blk_cell (SL.at_ (SL.get3 HS.out)) 6).trans rfl))⟩ (fun hHeld => ?_)
                        clear hK K
                        refine norm_ (a' := ?_) ?_ ?_; rotate_left
                        · show Act.put _ (some 50) _ = _
                          simp only [Act.put, sT, sZ, sS, i64_w, i32_w]
                          rfl
                        refine two_ (i := 36) (j := 37) (Ni := some 51) (Nj := some 52) #[true, true, true, true, true, true, true, true, true, true, true, true, true, true, true, true, true, true, true, true, true, true, true, true, true, true, true, true, true, true, true, true, true, true, true, true, true, false, false, false, false, false, false, false, false, false, false, false, false, false, false, false, false] #[true, true, true, true, true, true, true, true, true, true, true, true, true, true, true, true, true, true, true, true, true, true, true, true, true, true, true, true, true, true, true, true, true, true, true, true, false, true, false, false, false, false, false, false, false, false, false, false, false, false, false, false, false] rfl rfl rfl rfl (two_of HT_.out (by kernel_rfl)) (by decide) (by decide) (fun K hK => ?_) (fun K hK => ?_)
                        · skip
                          refine goes_ Try.func19 (by kernel_rfl) rfl #[.slice Az3000038 3 cz3000038, .agg #[.int .i64 2, .int .i64 t386, .int .i64 t387, .int .i64 0, .int .i64 0, .int .i64 1, .int .i64 2], .agg #[.int .i64 t415, .int .i64 t416], .int .i64 1] (by rfl) rfl rfl (by (try simp only [List.map_toArray, List.map_cons, List.map_nil]); first | done | rfl | (simp; done)) ?_
                          have el3000038_ := Aside0.mk (SL.row_c (SL.get1 HS.out)).1
                          refine calls_of_args (args' := #[.slice Az3000038 y396.length cz3000038, .agg #[.int .i64 2, .int .i64 t386, .int .i64 t387, .int .i64 0, .int .i64 0, .int .i64 1, .int .i64 2], .agg #[.int .i64 t415, .int .i64 t416], .int .i64 1]) (by rw [← el3000038_.out]) ?_
                          have hs0_ := (SL.get1 HS.out)
                          obtain ⟨U1_, hfU1_, hsub1_, hs1_, hro1_, hback1_⟩ := SL.lend (HF.out.keep HK.out) hs0_ (p := fun w_ => Kd.C k47 w_ Az3000038 3 y396) (fun w_ T_ h_ => (Qs_c h_).2.2)
                          (with_reducible refine (area_Nearest.slcalls k _ _ _ _ _ _ _ _ _ _ _ _ _ _ _ _ _ hfU1_ hs1_ (by rw [← el3000038_.out]; exact hro1_) (by rw [← el3000038_.out]; exact (SL.row_c (SL.get1 HS.out)).2.1) Hc25.out).mono ?_)
                          rintro e_ w69 ⟨Az3000041, cz3000041, rfl, hsr_, hkr_⟩
                          refine ⟨_, rfl, ?_⟩
                          replace HS := Aside0.mk ((hback1_ _ _ hkr_ hsr_))
                          replace HK := Aside0.mk (HK.out.trans (Keep.sub hkr_ (fun k_ h_ => hsub1_ k_ h_)))
                          refine hK.out _ _ ⟨(((blk_cell (SL.at_ (SL.get5 HS.out)) 0).trans rfl)), (((blk_cell (SL.at_ (SL.get5 HS.out)) 1).trans rfl)), (((blk_cell (SL.at_ (SL.get5 HS.out)) 2).trans rfl)), (((blk_cell (SL.at_ (SL.get5 HS.out)) 3).trans rfl)), (((blk_cell (SL.at_ (SL.get5 HS.out)) 4).trans rfl)), (((blk_cell (SL.at_ (SL.get5 HS.out)) 5).trans rfl)), (((blk_cell (SL.at_ (SL.get5 HS.out)) 6).trans rfl)), (((blk_cell (SL.at_ (SL.get4 HS.out)) 0).trans rfl)), (((blk_cell (SL.at_ (SL.get4 HS.out)) 1).trans rfl)), (((blk_cell (SL.at_ (SL.get4 HS.out)) 2).trans rfl)), (((blk_cell (SL.at_ (SL.get4 HS.out)) 3).trans rfl)), (((blk_cell (SL.at_ (SL.get4 HS.out)) 4).trans rfl)), (((blk_cell (SL.at_ (SL.get4 HS.out)) 5).trans rfl)), (((blk_cell (SL.at_ (SL.get4 HS.out)) 6).trans rfl))⟩ (fun hHeld => ?_)
                          clear hK K
                          refine norm_ (a' := ?_) ?_ ?_; rotate_left
                          · show Act.put _ (some 51) _ = _
                            simp only [Act.put, sT, sZ, sS, i64_w, i32_w]
                            rfl
                          refine one_ (i := 37) (N := some 52) #[true, true, true, true, true, true, true, true, true, true, true, true, true, true, true, true, true, true, true, true, true, true, true, true, true, true, true, true, true, true, true, true, true, true, true, true, true, true, false, false, false, false, false, false, false, false, false, false, false, false, false, false, false] rfl rfl (one_of HT_.out (by kernel_rfl)) (by decide) (fun K hK => ?_)
                          replace HS := Aside0.mk (SL.get5 (SL.get4 (SL.get5 (SL.get5 (SL.get5 (SL.get1 HS.out))))))
                          refine st_of (by rfl) ?_
                          refine op_row (S := S) (enc := Value.int .i64) (h1 := fun _ => rfl) 3 y418 #[.int .i64 3] 1 (by rw [← Ny418.out]; rfl) (by rw [← Ny418.out]; rfl) (by decide) (HF.out.keep HK.out) HS.out (by first | (go_simp; done) | (go_simp; rfl)) ?_
                          intro Az3000042 cz3000042 w70 hs_ hk_
                          replace HS := Aside0.mk ((show SL (row (Kd.int .i64) 3 (.slice Az3000042 1 cz3000042) y418 :: _) _ _ from hs_))
                          replace HK := Aside0.mk (HK.out.trans hk_)
                          refine hK.out _ _ ⟨(((blk_cell (SL.at_ (SL.get5 HS.out)) 0).trans rfl)), (((blk_cell (SL.at_ (SL.get5 HS.out)) 1).trans rfl)), (((blk_cell (SL.at_ (SL.get5 HS.out)) 2).trans rfl)), (((blk_cell (SL.at_ (SL.get5 HS.out)) 3).trans rfl)), (((blk_cell (SL.at_ (SL.get5 HS.out)) 4).trans rfl)), (((blk_cell (SL.at_ (SL.get5 HS.out)) 5).trans rfl)), (((blk_cell (SL.at_ (SL.get5 HS.out)) 6).trans rfl)), (((blk_cell (SL.at_ (SL.get4 HS.out)) 0).trans rfl)), (((blk_cell (SL.at_ (SL.get4 HS.out)) 1).trans rfl)), (((blk_cell (SL.at_ (SL.get4 HS.out)) 2).trans rfl)), (((blk_cell (SL.at_ (SL.get4 HS.out)) 3).trans rfl)), (((blk_cell (SL.at_ (SL.get4 HS.out)) 4).trans rfl)), (((blk_cell (SL.at_ (SL.get4 HS.out)) 5).trans rfl)), (((blk_cell (SL.at_ (SL.get4 HS.out)) 6).trans rfl))⟩ (fun hHeld => ?_)
                          clear hK K
                          refine norm_ (a' := ?_) ?_ ?_; rotate_left
                          · show Act.put _ (some 52) _ = _
                            simp only [Act.put, sT, sZ, sS, i64_w, i32_w]
                            rfl
                          exact norm_ (by simp only [putAll, Act.put, sT, sZ, sS]) (hCont (Az3000041, cz3000041, Az3000042, cz3000042) _ ⟨HK.out, (SL.get6 (SL.get5 (SL.get5 (SL.get5 (SL.get5 (SL.get5 (SL.get5 HS.out)))))))⟩)
                        · skip
                          refine st_of (by rfl) ?_
                          refine op_row (S := S) (enc := Value.int .i64) (h1 := fun _ => rfl) 3 y418 #[.int .i64 3] 1 (by rw [← Ny418.out]; rfl) (by rw [← Ny418.out]; rfl) (by decide) (HF.out.keep HK.out) HS.out (by first | (go_simp; done) | (go_simp; rfl)) ?_
                          intro Az3000042 cz3000042 w71 hs_ hk_
                          replace HS := Aside0.mk ((show SL (row (Kd.int .i64) 3 (.slice Az3000042 1 cz3000042) y418 :: _) _ _ from hs_))
                          replace HK := Aside0.mk (HK.out.trans hk_)
                          refine hK.out _ _ ⟨(((blk_cell (SL.at_ (SL.get5 HS.out)) 0).trans rfl)), (((blk_cell (SL.at_ (SL.get5 HS.out)) 1).trans rfl)), (((blk_cell (SL.at_ (SL.get5 HS.out)) 2).trans rfl)), (((blk_cell (SL.at_ (SL.get5 HS.out)) 3).trans rfl)), (((blk_cell (SL.at_ (SL.get5 HS.out)) 4).trans rfl)), (((blk_cell (SL.at_ (SL.get5 HS.out)) 5).trans rfl)), (((blk_cell (SL.at_ (SL.get5 HS.out)) 6).trans rfl)), (((blk_cell (SL.at_ (SL.get4 HS.out)) 0).trans rfl)), (((blk_cell (SL.at_ (SL.get4 HS.out)) 1).trans rfl)), (((blk_cell (SL.at_ (SL.get4 HS.out)) 2).trans rfl)), (((blk_cell (SL.at_ (SL.get4 HS.out)) 3).trans rfl)), (((blk_cell (SL.at_ (SL.get4 HS.out)) 4).trans rfl)), (((blk_cell (SL.at_ (SL.get4 HS.out)) 5).trans rfl)), (((blk_cell (SL.at_ (SL.get4 HS.out)) 6).trans rfl))⟩ (fun hHeld => ?_)
                          clear hK K
                          refine norm_ (a' := ?_) ?_ ?_; rotate_left
                          · show Act.put _ (some 52) _ = _
                            simp only [Act.put, sT, sZ, sS, i64_w, i32_w]
                            rfl
                          refine one_ (i := 36) (N := some 51) #[true, true, true, true, true, true, true, true, true, true, true, true, true, true, true, true, true, true, true, true, true, true, true, true, true, true, true, true, true, true, true, true, true, true, true, true, true, true, false, false, false, false, false, false, false, false, false, false, false, false, false, false, false] rfl rfl (one_of HT_.out (by kernel_rfl)) (by decide) (fun K hK => ?_)
                          replace HS := Aside0.mk (SL.get5 (SL.get5 (SL.get5 (SL.get5 (SL.get5 HS.out)))))
                          refine goes_ Try.func19 (by kernel_rfl) rfl #[.slice Az3000038 3 cz3000038, .agg #[.int .i64 2, .int .i64 t386, .int .i64 t387, .int .i64 0, .int .i64 0, .int .i64 1, .int .i64 2], .agg #[.int .i64 t415, .int .i64 t416], .int .i64 1] (by rfl) rfl rfl (by (try simp only [List.map_toArray, List.map_cons, List.map_nil]); first | done | rfl | (simp; done)) ?_
                          have el3000038_ := Aside0.mk (SL.row_c (SL.get1 HS.out)).1
                          refine calls_of_args (args' := #[.slice Az3000038 y396.length cz3000038, .agg #[.int .i64 2, .int .i64 t386, .int .i64 t387, .int .i64 0, .int .i64 0, .int .i64 1, .int .i64 2], .agg #[.int .i64 t415, .int .i64 t416], .int .i64 1]) (by rw [← el3000038_.out]) ?_
                          have hs0_ := (SL.get1 HS.out)
                          obtain ⟨U1_, hfU1_, hsub1_, hs1_, hro1_, hback1_⟩ := SL.lend (HF.out.keep HK.out) hs0_ (p := fun w_ => Kd.C k47 w_ Az3000038 3 y396) (fun w_ T_ h_ => (Qs_c h_).2.2)
                          (with_reducible refine (area_Nearest.slcalls k _ _ _ _ _ _ _ _ _ _ _ _ _ _ _ _ _ hfU1_ hs1_ (by rw [← el3000038_.out]; exact hro1_) (by rw [← el3000038_.out]; exact (SL.row_c (SL.get1 HS.out)).2.1) Hc25.out).mono ?_)
                          rintro e_ w72 ⟨Az3000041, cz3000041, rfl, hsr_, hkr_⟩
                          refine ⟨_, rfl, ?_⟩
                          replace HS := Aside0.mk ((hback1_ _ _ hkr_ hsr_))
                          replace HK := Aside0.mk (HK.out.trans (Keep.sub hkr_ (fun k_ h_ => hsub1_ k_ h_)))
                          refine hK.out _ _ ⟨(((blk_cell (SL.at_ (SL.get5 HS.out)) 0).trans rfl)), (((blk_cell (SL.at_ (SL.get5 HS.out)) 1).trans rfl)), (((blk_cell (SL.at_ (SL.get5 HS.out)) 2).trans rfl)), (((blk_cell (SL.at_ (SL.get5 HS.out)) 3).trans rfl)), (((blk_cell (SL.at_ (SL.get5 HS.out)) 4).trans rfl)), (((blk_cell (SL.at_ (SL.get5 HS.out)) 5).trans rfl)), (((blk_cell (SL.at_ (SL.get5 HS.out)) 6).trans rfl)), (((blk_cell (SL.at_ (SL.get4 HS.out)) 0).trans rfl)), (((blk_cell (SL.at_ (SL.get4 HS.out)) 1).trans rfl)), (((blk_cell (SL.at_ (SL.get4 HS.out)) 2).trans rfl)), (((blk_cell (SL.at_ (SL.get4 HS.out)) 3).trans rfl)), (((blk_cell (SL.at_ (SL.get4 HS.out)) 4).trans rfl)), (((blk_cell (SL.at_ (SL.get4 HS.out)) 5).trans rfl)), (((blk_cell (SL.at_ (SL.get4 HS.out)) 6).trans rfl))⟩ (fun hHeld => ?_)
                          clear hK K
                          refine norm_ (a' := ?_) ?_ ?_; rotate_left
                          · show Act.put _ (some 51) _ = _
                            simp only [Act.put, sT, sZ, sS, i64_w, i32_w]
                            rfl
                          exact norm_ (by simp only [putAll, Act.put, sT, sZ, sS]) (hCont (Az3000041, cz3000041, Az3000042, cz3000042) _ ⟨HK.out, (SL.get6 (SL.get6 (SL.get5 (SL.get3 (SL.get5 (SL.get5 (SL.get5 HS.out)))))))⟩)
                      · skip
                        refine st_of (by rfl) ?_
                        refine op_row (S := S) (enc := Value.int .i64) (h1 := fun _ => rfl) 3 y418 #[.int .i64 3] 1 (by rw [← Ny418.out]; rfl) (by rw [← Ny418.out]; rfl) (by decide) (HF.out.keep HK.out) HS.out (by first | (go_simp; done) | (go_simp; rfl)) ?_
                        intro Az3000042 cz3000042 w73 hs_ hk_
                        replace HS := Aside0.mk ((show SL (row (Kd.int .i64) 3 (.slice Az3000042 1 cz3000042) y418 :: _) _ _ from hs_))
                        replace HK := Aside0.mk (HK.out.trans hk_)
                        refine hK.out _ _ ⟨(((blk_cell (SL.at_ (SL.get5 HS.out)) 0).trans rfl)), (((blk_cell (SL.at_ (SL.get5 HS.out)) 1).trans rfl)), (((blk_cell (SL.at_ (SL.get5 HS.out)) 2).trans rfl)), (((blk_cell (SL.at_ (SL.get5 HS.out)) 3).trans rfl)), (((blk_cell (SL.at_ (SL.get5 HS.out)) 4).trans rfl)), (((blk_cell (SL.at_ (SL.get5 HS.out)) 5).trans rfl)), (((blk_cell (SL.at_ (SL.get5 HS.out)) 6).trans rfl)), (((blk_cell (SL.at_ (SL.get4 HS.out)) 0).trans rfl)), (((blk_cell (SL.at_ (SL.get4 HS.out)) 1).trans rfl)), (((blk_cell (SL.at_ (SL.get4 HS.out)) 2).trans rfl)), (((blk_cell (SL.at_ (SL.get4 HS.out)) 3).trans rfl)), (((blk_cell (SL.at_ (SL.get4 HS.out)) 4).trans rfl)), (((blk_cell (SL.at_ (SL.get4 HS.out)) 5).trans rfl)), (((blk_cell (SL.at_ (SL.get4 HS.out)) 6).trans rfl))⟩ (fun hHeld => ?_)
                        clear hK K
                        refine norm_ (a' := ?_) ?_ ?_; rotate_left
                        · show Act.put _ (some 52) _ = _
                          simp only [Act.put, sT, sZ, sS, i64_w, i32_w]
                          rfl
                        refine one_ (i := 35) (N := some 50) #[true, true, true, true, true, true, true, true, true, true, true, true, true, true, true, true, true, true, true, true, true, true, true, true, true, true, true, true, true, true, true, true, true, true, true, true, false, true, false, false, false, false, false, false, false, false, false, false, false, false, false, false, false] rfl rfl (one_of HT_.out (by kernel_rfl)) (by decide) (fun K hK => ?_)
                        replace HS := Aside0.mk (SL.get5 (SL.get5 (SL.get5 (SL.get5 (SL.get5 HS.out)))))
                        refine goes_ Try.func21 (by kernel_rfl) rfl #[.int .i64 5, .int .i64 0] (by rfl) rfl rfl (by (try simp only [List.map_toArray, List.map_cons, List.map_nil]); first | done | rfl | (simp; done)) ?_
                        (with_reducible refine (barrowlaw32_tile.calls _ _ _ _ _  Hc24.out).mono ?_)
                        rintro e_ w74 ⟨rfl, hb_⟩
                        refine ⟨_, rfl, ?_⟩
                        replace HS := Aside0.mk (HS.out.below hb_)
                        replace HK := Aside0.mk (HK.out.trans (Keep.below hb_))
                        refine hK.out _ _ ⟨(((blk_cell (SL.at_ (SL.get4 HS.out)) 0).trans rfl)), (((blk_cell (SL.at_ (SL.get4 HS.out)) 1).trans rfl)), (((blk_cell (SL.at_ (SL.get4 HS.out)) 2).trans rfl)), (((blk_cell (SL.at_ (SL.get4 HS.out)) 3).trans rfl)), (((blk_cell (SL.at_ (SL.get4 HS.out)) 4).trans rfl)), (((blk_cell (SL.at_ (SL.get4 HS.out)) 5).trans rfl)), (((blk_cell (SL.at_ (SL.get4 HS.out)) 6).trans rfl)), (((blk_cell (SL.at_ (SL.get3 HS.out)) 0).trans rfl)), (((blk_cell (SL.at_ (SL.get3 HS.out)) 1).trans rfl)), (((blk_cell (SL.at_ (SL.get3 HS.out)) 2).trans rfl)), (((blk_cell (SL.at_ (SL.get3 HS.out)) 3).trans rfl)), (((blk_cell (SL.at_ (SL.get3 HS.out)) 4).trans rfl)), (((blk_cell (SL.at_ (SL.get3 HS.out)) 5).trans rfl)), (((blk_cell (SL.at_ (SL.get3 HS.out)) 6).trans rfl))⟩ (fun hHeld => ?_)
                        clear hK K
                        refine norm_ (a' := ?_) ?_ ?_; rotate_left
                        · show Act.put _ (some 50) _ = _
                          simp only [Act.put, sT, sZ, sS, i64_w, i32_w]
                          rfl
                        refine one_ (i := 36) (N := some 51) #[true, true, true, true, true, true, true, true, true, true, true, true, true, true, true, true, true, true, true, true, true, true, true, true, true, true, true, true, true, true, true, true, true, true, true, true, true, true, false, false, false, false, false, false, false, false, false, false, false, false, false, false, false] rfl rfl (one_of HT_.out (by kernel_rfl)) (by decide) (fun K hK => ?_)
                        refine goes_ Try.func19 (by kernel_rfl) rfl #[.slice Az3000038 3 cz3000038, .agg #[.int .i64 2, .int .i64 t386, .int .i64 t387, .int .i64 0, .int .i64 0, .int .i64 1, .int .i64 2], .agg #[.int .i64 t415, .int .i64 t416], .int .i64 1] (by rfl) rfl rfl (by (try simp only [List.map_toArray, List.map_cons, List.map_nil]); first | done | rfl | (simp; done)) ?_
                        have el3000038_ := Aside0.mk (SL.row_c (SL.get1 HS.out)).1
                        refine calls_of_args (args' := #[.slice Az3000038 y396.length cz3000038, .agg #[.int .i64 2, .int .i64 t386, .int .i64 t387, .int .i64 0, .int .i64 0, .int .i64 1, .int .i64 2], .agg #[.int .i64 t415, .int .i64 t416], .int .i64 1]) (by rw [← el3000038_.out]) ?_
                        have hs0_ := (SL.get1 HS.out)
                        obtain ⟨U1_, hfU1_, hsub1_, hs1_, hro1_, hback1_⟩ := SL.lend (HF.out.keep HK.out) hs0_ (p := fun w_ => Kd.C k47 w_ Az3000038 3 y396) (fun w_ T_ h_ => (Qs_c h_).2.2)
                        (with_reducible refine (area_Nearest.slcalls k _ _ _ _ _ _ _ _ _ _ _ _ _ _ _ _ _ hfU1_ hs1_ (by rw [← el3000038_.out]; exact hro1_) (by rw [← el3000038_.out]; exact (SL.row_c (SL.get1 HS.out)).2.1) Hc25.out).mono ?_)
                        rintro e_ w75 ⟨Az3000041, cz3000041, rfl, hsr_, hkr_⟩
                        refine ⟨_, rfl, ?_⟩
                        replace HS := Aside0.mk ((hback1_ _ _ hkr_ hsr_))
                        replace HK := Aside0.mk (HK.out.trans (Keep.sub hkr_ (fun k_ h_ => hsub1_ k_ h_)))
                        refine hK.out _ _ ⟨(((blk_cell (SL.at_ (SL.get5 HS.out)) 0).trans rfl)), (((blk_cell (SL.at_ (SL.get5 HS.out)) 1).trans rfl)), (((blk_cell (SL.at_ (SL.get5 HS.out)) 2).trans rfl)), (((blk_cell (SL.at_ (SL.get5 HS.out)) 3).trans rfl)), (((blk_cell (SL.at_ (SL.get5 HS.out)) 4).trans rfl)), (((blk_cell (SL.at_ (SL.get5 HS.out)) 5).trans rfl)), (((blk_cell (SL.at_ (SL.get5 HS.out)) 6).trans rfl)), (((blk_cell (SL.at_ (SL.get4 HS.out)) 0).trans rfl)), (((blk_cell (SL.at_ (SL.get4 HS.out)) 1).trans rfl)), (((blk_cell (SL.at_ (SL.get4 HS.out)) 2).trans rfl)), (((blk_cell (SL.at_ (SL.get4 HS.out)) 3).trans rfl)), (((blk_cell (SL.at_ (SL.get4 HS.out)) 4).trans rfl)), (((blk_cell (SL.at_ (SL.get4 HS.out)) 5).trans rfl)), (((blk_cell (SL.at_ (SL.get4 HS.out)) 6).trans rfl))⟩ (fun hHeld => ?_)
                        clear hK K
                        refine norm_ (a' := ?_) ?_ ?_; rotate_left
                        · show Act.put _ (some 51) _ = _
                          simp only [Act.put, sT, sZ, sS, i64_w, i32_w]
                          rfl
                        exact norm_ (by simp only [putAll, Act.put, sT, sZ, sS]) (hCont (Az3000041, cz3000041, Az3000042, cz3000042) _ ⟨HK.out, (SL.get6 (SL.get6 (SL.get5 (SL.get3 (SL.get5 (SL.get5 (SL.get5 HS.out)))))))⟩)
                    rintro ⟨Az3000041, cz3000041, Az3000042, cz3000042⟩ w67 ⟨hk_, hs_⟩
                    clear HK HS
                    have HK := Aside0.mk hk_
                    have HS := Aside0.mk hs_
                    clear hk_ hs_
                    have hHeld := (⟨(((blk_cell (SL.at_ (SL.get6 HS.out)) 0).trans rfl)), (((blk_cell (SL.at_ (SL.get6 HS.out)) 1).trans rfl)), (((blk_cell (SL.at_ (SL.get6 HS.out)) 2).trans rfl)), (((blk_cell (SL.at_ (SL.get6 HS.out)) 3).trans rfl)), (((blk_cell (SL.at_ (SL.get6 HS.out)) 4).trans rfl)), (((blk_cell (SL.at_ (SL.get6 HS.out)) 5).trans rfl)), (((blk_cell (SL.at_ (SL.get6 HS.out)) 6).trans rfl)), (((blk_cell (SL.at_ (SL.get5 HS.out)) 0).trans rfl)), (((blk_cell (SL.at_ (SL.get5 HS.out)) 1).trans rfl)), (((blk_cell (SL.at_ (SL.get5 HS.out)) 2).trans rfl)), (((blk_cell (SL.at_ (SL.get5 HS.out)) 3).trans rfl)), (((blk_cell (SL.at_ (SL.get5 HS.out)) 4).trans rfl)), (((blk_cell (SL.at_ (SL.get5 HS.out)) 5).trans rfl)), (((blk_cell (SL.at_ (SL.get5 HS.out)) 6).trans rfl))⟩ : w67.cell? ⟨g3000036, 0, none⟩ = some (.int .i64 2) ∧ w67.cell? ⟨g3000036, 1, none⟩ = some (.int .i64 t386) ∧ w67.cell? ⟨g3000036, 2, none⟩ = some (.int .i64 t387) ∧ w67.cell? ⟨g3000036, 3, none⟩ = some (.int .i64 0) ∧ w67.cell? ⟨g3000036, 4, none⟩ = some (.int .i64 0) ∧ w67.cell? ⟨g3000036, 5, none⟩ = some (.int .i64 1) ∧ w67.cell? ⟨g3000036, 6, none⟩ = some (.int .i64 2) ∧ w67.cell? ⟨g3000037, 0, none⟩ = some (.int .i64 4) ∧ w67.cell? ⟨g3000037, 1, none⟩ = some (.int .i64 0) ∧ w67.cell? ⟨g3000037, 2, none⟩ = some (.int .i64 0) ∧ w67.cell? ⟨g3000037, 3, none⟩ = some (.int .i64 t388) ∧ w67.cell? ⟨g3000037, 4, none⟩ = some (.int .i64 t389) ∧ w67.cell? ⟨g3000037, 5, none⟩ = some (.int .i64 5) ∧ w67.cell? ⟨g3000037, 6, none⟩ = some (.int .i64 0))
                    replace HS := Aside0.mk (SL.get6 (SL.get6 (SL.get4 (SL.get5 (SL.get6 (SL.get6 (SL.get6 HS.out)))))))
                    refine norm_ (a' := ?_) ?_ ?_; rotate_left; · (simp only [putAll, Act.put, sT, sZ, sS]; rfl)
                    refine one_ (i := 38) (N := some 53) #[true, true, true, true, true, true, true, true, true, true, true, true, true, true, true, true, true, true, true, true, true, true, true, true, true, true, true, true, true, true, true, true, true, true, true, true, true, true, true, false, false, false, false, false, false, false, false, false, false, false, false, false, false] rfl rfl (one_of HT_.out (by kernel_rfl)) (by decide) (fun K hK => ?_)
                    refine goes_ Try.func16 (by kernel_rfl) rfl #[.slice Az3000041 t417.length cz3000041, .slice Az3000042 1 cz3000042] (by rfl) rfl rfl (by (try simp only [List.map_toArray, List.map_cons, List.map_nil]); first | done | rfl | (simp; done)) ?_
                    have el3000042_ := Aside0.mk (SL.row_c HS.out).1
                    refine calls_of_args (args' := #[.slice Az3000041 t417.length cz3000041, .slice Az3000042 y418.length cz3000042]) (by rw [← el3000042_.out]) ?_
                    (with_reducible refine (barrowref02_Same.calls k _ _ _ _ _ _ _ _ (SL.row_c (SL.get2 HS.out)).2.2 (SL.row_c (SL.get2 HS.out)).2.1 (by have e_ := (SL.row_c HS.out).1; have h_ := (SL.row_c HS.out).2.2; rw [e_] at h_; exact h_) (by have e_ := (SL.row_c HS.out).1; have h_ := (SL.row_c HS.out).2.1; (try dsimp only at e_ h_); (try dsimp only); omega) Hc26.out).mono ?_)
                    rintro e_ w58 ⟨rfl, hb_⟩
                    refine ⟨_, rfl, ?_⟩
                    replace hb_ := Drawn0.below hb_
                    replace HS := Aside0.mk (HS.out.below hb_)
                    replace HK := Aside0.mk (HK.out.trans (Keep.below hb_))
                    refine hK.out _ _ ⟨(((blk_cell (SL.at_ (SL.get6 HS.out)) 0).trans rfl)), (((blk_cell (SL.at_ (SL.get6 HS.out)) 1).trans rfl)), (((blk_cell (SL.at_ (SL.get6 HS.out)) 2).trans rfl)), (((blk_cell (SL.at_ (SL.get6 HS.out)) 3).trans rfl)), (((blk_cell (SL.at_ (SL.get6 HS.out)) 4).trans rfl)), (((blk_cell (SL.at_ (SL.get6 HS.out)) 5).trans rfl)), (((blk_cell (SL.at_ (SL.get6 HS.out)) 6).trans rfl)), (((blk_cell (SL.at_ (SL.get5 HS.out)) 0).trans rfl)), (((blk_cell (SL.at_ (SL.get5 HS.out)) 1).trans rfl)), (((blk_cell (SL.at_ (SL.get5 HS.out)) 2).trans rfl)), (((blk_cell (SL.at_ (SL.get5 HS.out)) 3).trans rfl)), (((blk_cell (SL.at_ (SL.get5 HS.out)) 4).trans rfl)), (((blk_cell (SL.at_ (SL.get5 HS.out)) 5).trans rfl)), (((blk_cell (SL.at_ (SL.get5 HS.out)) 6).trans rfl))⟩ (fun hHeld => ?_)
                    clear hK K
                    refine norm_ (a' := ?_) ?_ ?_; rotate_left
                    · show Act.put _ (some 53) _ = _
                      simp only [Act.put, sT, sZ, sS, i64_w, i32_w]
                      rfl
                    refine pure_ (i := 39) (N := some 54) (v := ?_) (a' := ?_) #[true, true, true, true, true, true, true, true, true, true, true, true, true, true, true, true, true, true, true, true, true, true, true, true, true, true, true, true, true, true, true, true, true, true, true, true, true, true, true, true, false, false, false, false, false, false, false, false, false, false, false, false, false] rfl rfl (any_of HT_.out (by kernel_rfl)) (fun _ _ _ h => h) (Or.inl ⟨by rfl, ?_⟩) ?_ ?_; rotate_left; · (intro w'; go_simp; with_reducible rfl)
                    rotate_left; · (simp only [Act.put, sT, sZ, sS, i64_w, i32_w]; rfl)
                    refine pure_ (i := 40) (N := some 55) (v := ?_) (a' := ?_) #[true, true, true, true, true, true, true, true, true, true, true, true, true, true, true, true, true, true, true, true, true, true, true, true, true, true, true, true, true, true, true, true, true, true, true, true, true, true, true, true, true, false, false, false, false, false, false, false, false, false, false, false, false] rfl rfl (any_of HT_.out (by kernel_rfl)) (fun _ _ _ h => h) (Or.inl ⟨by rfl, ?_⟩) ?_ ?_; rotate_left; · (intro w'; go_simp; with_reducible rfl)
                    rotate_left; · (simp only [Act.put, sT, sZ, sS, i64_w, i32_w]; rfl)
                    refine take_ (i := 43) (N := some 58) (v := ?_) (a' := ?_) #[true, true, true, true, true, true, true, true, true, true, true, true, true, true, true, true, true, true, true, true, true, true, true, true, true, true, true, true, true, true, true, true, true, true, true, true, true, true, true, true, true, false, false, true, false, false, false, false, false, false, false, false, false] rfl rfl (take_ofW HT_.out HW_.out (by kernel_rfl)) (fun _ _ _ h => h) (Or.inl ⟨by rfl, ?_⟩) hHeld ?_ ?_; rotate_left
                    · rintro w' ⟨s0, s1, s2, s3, s4, s5, s6, s7, s8, s9, s10, s11, s12, s13⟩
                      go_simp
                      with_reducible rfl
                    rotate_left; · (simp only [Act.put, sT, sZ, sS, i64_w, i32_w]; rfl)
                    refine one_ (i := 41) (N := some 56) #[true, true, true, true, true, true, true, true, true, true, true, true, true, true, true, true, true, true, true, true, true, true, true, true, true, true, true, true, true, true, true, true, true, true, true, true, true, true, true, true, true, true, false, true, false, false, false, false, false, false, false, false, false] rfl rfl (one_of HT_.out (by kernel_rfl)) (by decide) (fun K hK => ?_)
                    refine st_of (by rfl) ?_
                    refine op_make (S := S) (enc := Value.bool) (h1 := fun _ => rfl) false 22 4 1 (.const (.int .i64 5)) (.const (.int .i64 5)) rfl Try.underlying22 (by kernel_rfl) rfl (by decide) (5) rfl rfl (by omega) (by decide) y420 Ny420.out (HF.out.keep HK.out) HS.out ?_
                    intro Az3000043 cz3000043 w59 hs_ hk_
                    replace HS := Aside0.mk ((show SL (row Kd.bool 4 (.slice Az3000043 y420.length cz3000043) y420 :: _) _ _ from hs_))
                    replace HK := Aside0.mk (HK.out.trans hk_)
                    refine hK.out _ _ ⟨(((blk_cell (SL.at_ (SL.get7 HS.out)) 0).trans rfl)), (((blk_cell (SL.at_ (SL.get7 HS.out)) 1).trans rfl)), (((blk_cell (SL.at_ (SL.get7 HS.out)) 2).trans rfl)), (((blk_cell (SL.at_ (SL.get7 HS.out)) 3).trans rfl)), (((blk_cell (SL.at_ (SL.get7 HS.out)) 4).trans rfl)), (((blk_cell (SL.at_ (SL.get7 HS.out)) 5).trans rfl)), (((blk_cell (SL.at_ (SL.get7 HS.out)) 6).trans rfl)), (((blk_cell (SL.at_ (SL.get6 HS.out)) 0).trans rfl)), (((blk_cell (SL.at_ (SL.get6 HS.out)) 1).trans rfl)), (((blk_cell (SL.at_ (SL.get6 HS.out)) 2).trans rfl)), (((blk_cell (SL.at_ (SL.get6 HS.out)) 3).trans rfl)), (((blk_cell (SL.at_ (SL.get6 HS.out)) 4).trans rfl)), (((blk_cell (SL.at_ (SL.get6 HS.out)) 5).trans rfl)), (((blk_cell (SL.at_ (SL.get6 HS.out)) 6).trans rfl))⟩ (fun hHeld => ?_)
                    clear hK K
                    refine norm_ (a' := ?_) ?_ ?_; rotate_left
                    · show Act.put _ (some 56) _ = _
                      simp only [Act.put, sT, sZ, sS, i64_w, i32_w]
                      rfl
                    refine pure_ (i := 42) (N := some 57) (v := ?_) (a' := ?_) #[true, true, true, true, true, true, true, true, true, true, true, true, true, true, true, true, true, true, true, true, true, true, true, true, true, true, true, true, true, true, true, true, true, true, true, true, true, true, true, true, true, true, true, true, false, false, false, false, false, false, false, false, false] rfl rfl (any_of HT_.out (by kernel_rfl)) (fun _ _ _ h => h) (Or.inl ⟨by rfl, ?_⟩) ?_ ?_; rotate_left; · (intro w'; go_simp; with_reducible rfl)
                    rotate_left; · (simp only [Act.put, sT, sZ, sS, i64_w, i32_w]; rfl)
                    refine one_ (i := 44) (N := some 59) #[true, true, true, true, true, true, true, true, true, true, true, true, true, true, true, true, true, true, true, true, true, true, true, true, true, true, true, true, true, true, true, true, true, true, true, true, true, true, true, true, true, true, true, true, true, false, false, false, false, false, false, false, false] rfl rfl (one_of HT_.out (by kernel_rfl)) (by decide) (fun K hK => ?_)
                    refine goes_ Try.func14 (by kernel_rfl) rfl #[.agg #[.int .i64 5, .int .i64 1, .slice Az3000043 y420.length cz3000043], .agg #[.int .i64 2, .int .i64 t386, .int .i64 t387, .int .i64 0, .int .i64 0, .int .i64 1, .int .i64 2]] (by rfl) rfl rfl (by (try simp only [List.map_toArray, List.map_cons, List.map_nil]); first | done | rfl | (simp; done)) ?_
                    (with_reducible refine (area_Tiles.calls k _ _ _ _ _ _ _ _ _ _ _ _ _ _ (SL.row_c HS.out).2.2 (SL.row_c HS.out).2.1 Hc29.out).mono ?_)
                    rintro e_ w60 ⟨v3000044_, rfl, ho3000044_, hb_⟩
                    refine ⟨_, rfl, ?_⟩
                    have hs_ := (SL.new (HF.out.keep HK.out) HS.out hb_ (row_of_R ho3000044_)).1
                    obtain ⟨Az3000044, cz3000044, e2_, _, _⟩ := SL.row_reads hs_
                    subst e2_
                    replace HS := Aside0.mk (hs_)
                    replace HK := Aside0.mk (HK.out.trans (Keep.below hb_))
                    refine hK.out _ _ ⟨(((blk_cell (SL.at_ (SL.get8 HS.out)) 0).trans rfl)), (((blk_cell (SL.at_ (SL.get8 HS.out)) 1).trans rfl)), (((blk_cell (SL.at_ (SL.get8 HS.out)) 2).trans rfl)), (((blk_cell (SL.at_ (SL.get8 HS.out)) 3).trans rfl)), (((blk_cell (SL.at_ (SL.get8 HS.out)) 4).trans rfl)), (((blk_cell (SL.at_ (SL.get8 HS.out)) 5).trans rfl)), (((blk_cell (SL.at_ (SL.get8 HS.out)) 6).trans rfl)), (((blk_cell (SL.at_ (SL.get7 HS.out)) 0).trans rfl)), (((blk_cell (SL.at_ (SL.get7 HS.out)) 1).trans rfl)), (((blk_cell (SL.at_ (SL.get7 HS.out)) 2).trans rfl)), (((blk_cell (SL.at_ (SL.get7 HS.out)) 3).trans rfl)), (((blk_cell (SL.at_ (SL.get7 HS.out)) 4).trans rfl)), (((blk_cell (SL.at_ (SL.get7 HS.out)) 5).trans rfl)), (((blk_cell (SL.at_ (SL.get7 HS.out)) 6).trans rfl))⟩ (fun hHeld => ?_)
                    clear hK K
                    refine norm_ (a' := ?_) ?_ ?_; rotate_left
                    · show Act.put _ (some 59) _ = _
                      simp only [Act.put, sT, sZ, sS, i64_w, i32_w]
                      rfl
                    refine pure_ (i := 45) (N := some 60) (v := ?_) (a' := ?_) #[true, true, true, true, true, true, true, true, true, true, true, true, true, true, true, true, true, true, true, true, true, true, true, true, true, true, true, true, true, true, true, true, true, true, true, true, true, true, true, true, true, true, true, true, true, true, false, false, false, false, false, false, false] rfl rfl (any_of HT_.out (by kernel_rfl)) (fun _ _ _ h => h) (Or.inl ⟨by rfl, ?_⟩) ?_ ?_; rotate_left; · (intro w'; go_simp; with_reducible rfl)
                    rotate_left; · (simp only [Act.put, sT, sZ, sS, i64_w, i32_w]; rfl)
                    refine pure_ (i := 46) (N := some 61) (v := ?_) (a' := ?_) #[true, true, true, true, true, true, true, true, true, true, true, true, true, true, true, true, true, true, true, true, true, true, true, true, true, true, true, true, true, true, true, true, true, true, true, true, true, true, true, true, true, true, true, true, true, true, true, false, false, false, false, false, false] rfl rfl (any_of HT_.out (by kernel_rfl)) (fun _ _ _ h => h) (Or.inl ⟨by rfl, ?_⟩) ?_ ?_; rotate_left; · (intro w'; go_simp; with_reducible rfl)
                    rotate_left; · (simp only [Act.put, sT, sZ, sS, i64_w, i32_w]; rfl)
                    refine pure_ (i := 47) (N := some 62) (v := ?_) (a' := ?_) #[true, true, true, true, true, true, true, true, true, true, true, true, true, true, true, true, true, true, true, true, true, true, true, true, true, true, true, true, true, true, true, true, true, true, true, true, true, true, true, true, true, true, true, true, true, true, true, true, false, false, false, false, false] rfl rfl (any_of HT_.out (by kernel_rfl)) (fun _ _ _ h => h) (Or.inl ⟨by rfl, ?_⟩) ?_ ?_; rotate_left; · (intro w'; go_simp; with_reducible rfl)
                    rotate_left; · (simp only [Act.put, sT, sZ, sS, i64_w, i32_w]; rfl)
                    refine pure_ (i := 48) (N := some 63) (v := ?_) (a' := ?_) #[true, true, true, true, true, true, true, true, true, true, true, true, true, true, true, true, true, true, true, true, true, true, true, true, true, true, true, true, true, true, true, true, true, true, true, true, true, true, true, true, true, true, true, true, true, true, true, true, true, false, false, false, false] rfl rfl (any_of HT_.out (by kernel_rfl)) (fun _ _ _ h => h) (Or.inl ⟨by rfl, ?_⟩) ?_ ?_; rotate_left; · (intro w'; go_simp; with_reducible rfl)
                    rotate_left; · (simp only [Act.put, sT, sZ, sS, i64_w, i32_w]; rfl)
                    refine take_ (i := 49) (N := some 64) (v := ?_) (a' := ?_) #[true, true, true, true, true, true, true, true, true, true, true, true, true, true, true, true, true, true, true, true, true, true, true, true, true, true, true, true, true, true, true, true, true, true, true, true, true, true, true, true, true, true, true, true, true, true, true, true, true, true, false, false, false] rfl rfl (take_ofW HT_.out HW_.out (by kernel_rfl)) (fun _ _ _ h => h) (Or.inl ⟨by rfl, ?_⟩) hHeld ?_ ?_; rotate_left
                    · rintro w' ⟨s0, s1, s2, s3, s4, s5, s6, s7, s8, s9, s10, s11, s12, s13⟩
                      go_simp
                      with_reducible rfl
                    rotate_left; · (simp only [Act.put, sT, sZ, sS, i64_w, i32_w]; rfl)
                    refine one_ (i := 50) (N := some 65) #[true, true, true, true, true, true, true, true, true, true, true, true, true, true, true, true, true, true, true, true, true, true, true, true, true, true, true, true, true, true, true, true, true, true, true, true, true, true, true, true, true, true, true, true, true, true, true, true, true, true, true, false, false] rfl rfl (one_of HT_.out (by kernel_rfl)) (by decide) (fun K hK => ?_)
                    refine goes_ Try.func9 (by kernel_rfl) rfl #[.agg #[.int .i64 2, .int .i64 t386, .int .i64 t387, .int .i64 0, .int .i64 0, .int .i64 1, .int .i64 2]] (by rfl) rfl rfl (by (try simp only [List.map_toArray, List.map_cons, List.map_nil]); first | done | rfl | (simp; done)) ?_
                    (with_reducible refine (area_Right.calls _ _ _ _ _ _ _ _ _  Hc31.out).mono ?_)
                    rintro e_ w61 ⟨rfl, hb_⟩
                    refine ⟨_, rfl, ?_⟩
                    replace HS := Aside0.mk (HS.out.below hb_)
                    replace HK := Aside0.mk (HK.out.trans (Keep.below hb_))
                    refine hK.out _ _ ⟨(((blk_cell (SL.at_ (SL.get8 HS.out)) 0).trans rfl)), (((blk_cell (SL.at_ (SL.get8 HS.out)) 1).trans rfl)), (((blk_cell (SL.at_ (SL.get8 HS.out)) 2).trans rfl)), (((blk_cell (SL.at_ (SL.get8 HS.out)) 3).trans rfl)), (((blk_cell (SL.at_ (SL.get8 HS.out)) 4).trans rfl)), (((blk_cell (SL.at_ (SL.get8 HS.out)) 5).trans rfl)), (((blk_cell (SL.at_ (SL.get8 HS.out)) 6).trans rfl)), (((blk_cell (SL.at_ (SL.get7 HS.out)) 0).trans rfl)), (((blk_cell (SL.at_ (SL.get7 HS.out)) 1).trans rfl)), (((blk_cell (SL.at_ (SL.get7 HS.out)) 2).trans rfl)), (((blk_cell (SL.at_ (SL.get7 HS.out)) 3).trans rfl)), (((blk_cell (SL.at_ (SL.get7 HS.out)) 4).trans rfl)), (((blk_cell (SL.at_ (SL.get7 HS.out)) 5).trans rfl)), (((blk_cell (SL.at_ (SL.get7 HS.out)) 6).trans rfl))⟩ (fun hHeld => ?_)
                    clear hK K
                    refine norm_ (a' := ?_) ?_ ?_; rotate_left
                    · show Act.put _ (some 65) _ = _
                      simp only [Act.put, sT, sZ, sS, i64_w, i32_w]
                      rfl
                    refine pure_ (i := 51) (N := some 66) (v := ?_) (a' := ?_) #[true, true, true, true, true, true, true, true, true, true, true, true, true, true, true, true, true, true, true, true, true, true, true, true, true, true, true, true, true, true, true, true, true, true, true, true, true, true, true, true, true, true, true, true, true, true, true, true, true, true, true, true, false] rfl rfl (any_of HT_.out (by kernel_rfl)) (fun _ _ _ h => h) (Or.inl ⟨by rfl, ?_⟩) ?_ ?_; rotate_left; · (intro w'; go_simp; with_reducible rfl)
                    rotate_left; · (simp only [Act.put, sT, sZ, sS, i64_w, i32_w]; rfl)
                    refine pure_ (i := 52) (N := some 0) (v := ?_) (a' := ?_) #[true, true, true, true, true, true, true, true, true, true, true, true, true, true, true, true, true, true, true, true, true, true, true, true, true, true, true, true, true, true, true, true, true, true, true, true, true, true, true, true, true, true, true, true, true, true, true, true, true, true, true, true, true] rfl rfl (any_of HT_.out (by kernel_rfl)) (fun _ _ _ h => h) (Or.inl ⟨by rfl, ?_⟩) ?_ ?_; rotate_left; · (intro w'; go_simp; with_reducible rfl)
                    rotate_left; · (simp only [Act.put, sT, sZ, sS, i64_w, i32_w]; rfl)
                    refine done_ (done_of HT_.out (by kernel_rfl)) ?_
                    try go_wp2
                    go_ret
                    replace HS := Aside0.mk (SL.tail (SL.tail (SL.tail (SL.tail (SL.tail (SL.tail (SL.tail (SL.tail (SL.tail HS.out)))))))))
                    unfold barrowlaw32_small.Post
                    exact ⟨by first | rfl | (simp; done) | (simp [*]; done) | (simp at c30b0 ⊢; first | exact c30b0 | (simp [c30b0]; done)), HS.out, HK.out⟩
                  · rw [if_neg c30] at H
                    have c30b0 : ((t421.length : Int) == 2) = false := beq_eq_false_iff_ne.mpr c30
                    have c30b1 : ((t421.length : Int) != 2) = true := bne_iff_ne.mpr c30
                    exact absurd H (by simp)
                · rw [if_neg c28] at H
                  exact absurd H (by simp)
              · replace c27 := Bool.eq_false_iff.mpr c27
                subst c27
                rw [if_neg (show ¬ (false = true) by decide)] at H
                exact absurd H (by simp)
            · replace c23 := Bool.eq_false_iff.mpr c23
              subst c23
              rw [if_neg (show ¬ (false = true) by decide)] at H
              exact absurd H (by simp)
        · replace c17 := Bool.eq_false_iff.mpr c17
          subst c17
          rw [if_neg (show ¬ (false = true) by decide)] at H
          exact absurd H (by simp)
      · replace c14 := Bool.eq_false_iff.mpr c14
        subst c14
        rw [if_neg (show ¬ (false = true) by decide)] at H
        exact absurd H (by simp)
  · replace c8 := Bool.eq_false_iff.mpr c8
    subst c8
    rw [if_neg (show ¬ (false = true) by decide)] at H
    exact absurd H (by simp)
theorem barrowlaw32_small.calls (k : Nat)  (r : Bool) (w : World) (h : barrowlaw32_small.f k  = some r) :
    Calls Try.prog 7 #[] w fun e w' => e = .returned (.bool r) ∧ Below w.heap.size w w' :=
  (barrowlaw32_small.slcalls k  r (news w) [] w (fresh_news w) trivial h).mono fun _ _ h => ⟨h.1, h.2.2.to_below⟩

end Go.Proofs.Ytofodbnnminmkaa.XAR
