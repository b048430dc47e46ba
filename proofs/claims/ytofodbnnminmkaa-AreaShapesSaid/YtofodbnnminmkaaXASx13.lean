-- Written by xprint.py (a program of this session) for this claim
import Derived.Test.YtofodbnnminmkaaSL5
import Derived.Test.YtofodbnnminmkaaXASx0
import Derived.Test.YtofodbnnminmkaaXASx2
import Derived.Test.YtofodbnnminmkaaXASx5
import Derived.Test.YtofodbnnminmkaaXASx7
import Derived.Test.YtofodbnnminmkaaXASx8
import Derived.Test.YtofodbnnminmkaaXASx11
import Derived.Test.YtofodbnnminmkaaXASx12
namespace Go.Proofs.Ytofodbnnminmkaa.XAS
open Go.Proofs.YtofodbnnminmkaaV Go.Proofs.YtofodbnnminmkaaS
open Go.RowKit Go.Proofs.YtofodbnnminmkaaW.PrintWords Go.Proofs.YtofodbnnminmkaaW.PrintLast Go.Proofs.YtofodbnnminmkaaW.PrintMore
attribute [local go_sem] max2_int min2_int max_two min_two max_three min_three max_four min_four   -- for this text's walks alone
set_option linter.unusedVariables false
set_option linter.unusedSimpArgs false

/-! ### barrowlaw32_small: function 7 -/
noncomputable def barrowlaw32_small.f (k : Nat)  : Option (Bool) := (barrowlaw32_tile.f 2 0).bind fun bt412 => ((barrowlaw32_tile.f 1 0).bind fun bt414 => ((barrowlaw32_tile.f 4 0).bind fun bt416 => ((barrowlaw32_tile.f 3 0).bind fun bt418 => ((barrowlaw32_tile.f 0 0).bind fun bt420 => ((some (([(⟨3, (⟨bt416.1, bt416.2⟩ : S26)⟩ : S47), (⟨1, (⟨bt418.1, bt418.2⟩ : S26)⟩ : S47), (⟨2, (⟨bt420.1, bt420.2⟩ : S26)⟩ : S47)] : List (S47)) : List (S47))).bind fun y422 => ((area_In.f k 2 bt412.1 bt412.2 0 0 1 2 bt416.1 bt416.2).bind fun t425 => (if t425 = true then ((area_In.f k 2 bt412.1 bt412.2 0 0 1 2 bt418.1 bt418.2).bind fun t428 => (if t428 = true then (none) else ((barrowlaw32_tile.f 3 2).bind fun bt429 => ((area_In.f k 4 0 0 bt414.1 bt414.2 5 0 bt429.1 bt429.2).bind fun t431 => (if t431 = true then ((barrowlaw32_tile.f 3 3).bind fun bt432 => ((area_In.f k 4 0 0 bt414.1 bt414.2 5 0 bt432.1 bt432.2).bind fun t434 => (if t434 = true then ((barrowlaw32_tile.f 2 3).bind fun bt435 => ((area_In.f k 4 0 0 bt414.1 bt414.2 5 0 bt435.1 bt435.2).bind fun t437 => (if t437 = true then (none) else ((area_Units.f k y422 2 bt412.1 bt412.2 0 0 1 2).bind fun t438 => ((some (([2, 3] : List Int) : List Int)).bind fun y439 => ((barrowref02_Same.f k t438 y439).bind fun t440 => (if t440 = true then ((barrowlaw32_tile.f 5 0).bind fun bt441 => ((area_Nearest.f k y422 2 bt412.1 bt412.2 0 0 1 2 bt441.1 bt441.2 1).bind fun t443 => ((some (([3] : List Int) : List Int)).bind fun y444 => ((barrowref02_Same.f k t443 y444).bind fun t445 => (if t445 = true then (if 5 ≤ 281474976710656 then ((some (List.replicate 5 false : List Bool)).bind fun y446 => ((area_Tiles.f k 5 1 y446 2 bt412.1 bt412.2 0 0 1 2).bind fun t447 => (if (t447.length : Int) = 2 then ((area_Right.f 2 bt412.1 bt412.2 0 0 1 2).bind fun t448 => (some t448)) else (none)))) else (none)) else (none)))))) else (none)))))))) else (none)))) else (none)))))) else (none))))))))
theorem barrowlaw32_small.mono : ∀ k, LeO (barrowlaw32_small.f k ) (barrowlaw32_small.f (k + 1) ) := by
  intro  k
  unfold barrowlaw32_small.f
  repeat' first
      | (with_reducible exact area_In.mono _ _ _ _ _ _ _ _ _ _)
      | (with_reducible exact area_Nearest.mono _ _ _ _ _ _ _ _ _ _ _ _)
      | (with_reducible exact area_Tiles.mono _ _ _ _ _ _ _ _ _ _ _)
      | (with_reducible exact area_Units.mono _ _ _ _ _ _ _ _ _)
      | (with_reducible exact barrowref02_Same.mono _ _ _)
      | (with_reducible exact LeO.refl _)
      | (with_reducible exact LeO.none _)
      | (with_reducible refine LeO.ite ?_ ?_)
      | (with_reducible refine everyOf_le (fun _ => ?_))
      | (with_reducible refine LeO.bind ?_ (fun _ => ?_))
      | exact area_In.mono _ _ _ _ _ _ _ _ _ _
      | exact area_Nearest.mono _ _ _ _ _ _ _ _ _ _ _ _
      | exact area_Tiles.mono _ _ _ _ _ _ _ _ _ _ _
      | exact area_Units.mono _ _ _ _ _ _ _ _ _
      | exact barrowref02_Same.mono _ _ _
      | exact LeO.none _
      | refine LeO.ite ?_ ?_
      | refine LeO.bind ?_ (fun _ => ?_)
def barrowlaw32_small.T4 : Bool × List (List Nat × List Nat) := (true, [([], []), ([], []), ([0, 1, 1], [0, 1]), ([2, 2], [2]), ([3], [3]), ([3, 3], [3]), ([4, 5, 5, 3], [3, 4, 5]), ([6, 3], [3, 6]), ([3, 7], [3, 7]), ([8, 6], [8]), ([9], [9]), ([9, 9], [9]), ([10, 11, 11, 9], [9, 10, 11]), ([9, 12], [9, 12]), ([13, 12], [13]), ([14], [14]), ([14, 14], [14]), ([15, 16, 16, 14], [14, 15, 16]), ([14, 17], [14, 17]), ([18, 17], [18]), ([19], [19]), ([19, 19], [19]), ([20, 21, 21, 19], [19, 20, 21]), ([22, 19], [19, 22]), ([19, 23], [19, 23]), ([24, 22], [24]), ([25], [25]), ([25], [25]), ([26, 27, 25, 25], [25, 26, 27]), ([25], [25]), ([28, 29, 28, 25], [25, 28, 29]), ([25, 30], [25, 30]), ([31, 30], [31]), ([32], [32]), ([32], [32]), ([32, 32], [32]), ([33, 34, 35, 35, 32], [32, 33, 34, 35]), ([32], [32]), ([36, 37, 36, 32], [32, 36, 37]), ([32, 38], [32, 38]), ([39, 38], [39]), ([40], [40]), ([41, 40], [40, 41]), ([40], [40]), ([42, 43, 40, 40], [40, 42, 43]), ([44, 40], [40, 44]), ([45, 40], [40, 45]), ([40, 46], [40, 46]), ([47, 44], [47]), ([48], [48]), ([49, 48, 48], [48, 49]), ([48, 50], [48, 50]), ([51, 50, 0, 1, 2, 3, 4, 5, 6, 7, 8, 9, 10, 11, 12, 13, 14, 15, 16, 17, 18, 19, 20, 21, 22, 23, 24, 25, 26, 27, 28, 29, 30, 31, 32, 33, 34, 35, 36, 37, 38, 39, 40, 41, 42, 43, 44, 45, 46, 47, 48, 49, 50, 51], [51])])
def barrowlaw32_small.B4 : List Nat := [0, 0, 3, 7, 15, 15, 63, 127, 255, 511, 1023, 1023, 4095, 8191, 16383, 32767, 32767, 131071, 262143, 524287, 1048575, 1048575, 4194303, 8388607, 16777215, 33554431, 67108863, 67108863, 268435455, 67108863, 1073741823, 2147483647, 4294967295, 8589934591, 8589934591, 8589934591, 68719476735, 8589934591, 274877906943, 549755813887, 1099511627775, 2199023255551, 4398046511103, 2199023255551, 17592186044415, 35184372088831, 70368744177663, 140737488355327, 281474976710655, 562949953421311, 1125899906842623, 2251799813685247, 4503599627370495]
theorem barrowlaw32_small.tab4 : rtab .any (opsOf Try.f7 4) = barrowlaw32_small.T4 := by kernel_rfl
theorem barrowlaw32_small.bits4 : waitsOk barrowlaw32_small.T4.2 barrowlaw32_small.B4 = true := by kernel_rfl
def barrowlaw32_small.Post (r : Bool) (S : Nat → Prop) (L : List Asr) (w : World) (e : Ending) (w' : World) : Prop := e = .returned (.bool r) ∧ SL (L) w' S ∧ Keep S w w'
set_option maxHeartbeats 8000000 in
set_option maxRecDepth 100000 in
theorem barrowlaw32_small.slcalls (k : Nat)  (r : Bool) (S : Nat → Prop) (L : List Asr) (w : World) (hf : Fresh S w) (hs : SL (L) w S) (h : barrowlaw32_small.f k  = some r) :
    Calls Try.prog 7 #[] w (barrowlaw32_small.Post r S L w) := by
  have HF := Aside0.mk hf
  have HS := Aside0.mk hs
  have HK := Aside0.mk (Keep.refl S w)
  clear hf hs
  have hu24 := Try.underlying24
  have hu28 := Try.underlying28
  have hu47 := Try.underlying47
  have H : ((barrowlaw32_tile.f 2 0).bind fun bt412 => ((barrowlaw32_tile.f 1 0).bind fun bt414 => ((barrowlaw32_tile.f 4 0).bind fun bt416 => ((barrowlaw32_tile.f 3 0).bind fun bt418 => ((barrowlaw32_tile.f 0 0).bind fun bt420 => ((some (([(⟨3, (⟨bt416.1, bt416.2⟩ : S26)⟩ : S47), (⟨1, (⟨bt418.1, bt418.2⟩ : S26)⟩ : S47), (⟨2, (⟨bt420.1, bt420.2⟩ : S26)⟩ : S47)] : List (S47)) : List (S47))).bind fun y422 => ((area_In.f k 2 bt412.1 bt412.2 0 0 1 2 bt416.1 bt416.2).bind fun t425 => (if t425 = true then ((area_In.f k 2 bt412.1 bt412.2 0 0 1 2 bt418.1 bt418.2).bind fun t428 => (if t428 = true then (none) else ((barrowlaw32_tile.f 3 2).bind fun bt429 => ((area_In.f k 4 0 0 bt414.1 bt414.2 5 0 bt429.1 bt429.2).bind fun t431 => (if t431 = true then ((barrowlaw32_tile.f 3 3).bind fun bt432 => ((area_In.f k 4 0 0 bt414.1 bt414.2 5 0 bt432.1 bt432.2).bind fun t434 => (if t434 = true then ((barrowlaw32_tile.f 2 3).bind fun bt435 => ((area_In.f k 4 0 0 bt414.1 bt414.2 5 0 bt435.1 bt435.2).bind fun t437 => (if t437 = true then (none) else ((area_Units.f k y422 2 bt412.1 bt412.2 0 0 1 2).bind fun t438 => ((some (([2, 3] : List Int) : List Int)).bind fun y439 => ((barrowref02_Same.f k t438 y439).bind fun t440 => (if t440 = true then ((barrowlaw32_tile.f 5 0).bind fun bt441 => ((area_Nearest.f k y422 2 bt412.1 bt412.2 0 0 1 2 bt441.1 bt441.2 1).bind fun t443 => ((some (([3] : List Int) : List Int)).bind fun y444 => ((barrowref02_Same.f k t443 y444).bind fun t445 => (if t445 = true then (if 5 ≤ 281474976710656 then ((some (List.replicate 5 false : List Bool)).bind fun y446 => ((area_Tiles.f k 5 1 y446 2 bt412.1 bt412.2 0 0 1 2).bind fun t447 => (if (t447.length : Int) = 2 then ((area_Right.f 2 bt412.1 bt412.2 0 0 1 2).bind fun t448 => (some t448)) else (none)))) else (none)) else (none)))))) else (none)))))))) else (none)))) else (none)))))) else (none))))))))) = some r := h
  clear h
  replace H := Option.bind_eq_some_iff.1 H
  obtain ⟨⟨t412, t413⟩, Hc10, H⟩ := H
  try dsimp only at H
  have Hc1 := Aside0.mk Hc10
  clear Hc10
  replace H := Option.bind_eq_some_iff.1 H
  obtain ⟨⟨t414, t415⟩, Hc20, H⟩ := H
  try dsimp only at H
  have Hc2 := Aside0.mk Hc20
  clear Hc20
  replace H := Option.bind_eq_some_iff.1 H
  obtain ⟨⟨t416, t417⟩, Hc30, H⟩ := H
  try dsimp only at H
  have Hc3 := Aside0.mk Hc30
  clear Hc30
  replace H := Option.bind_eq_some_iff.1 H
  obtain ⟨⟨t418, t419⟩, Hc40, H⟩ := H
  try dsimp only at H
  have Hc4 := Aside0.mk Hc40
  clear Hc40
  replace H := Option.bind_eq_some_iff.1 H
  obtain ⟨⟨t420, t421⟩, Hc50, H⟩ := H
  try dsimp only at H
  have Hc5 := Aside0.mk Hc50
  clear Hc50
  replace H := Option.bind_eq_some_iff.1 H
  obtain ⟨y422, hy4220, H⟩ := H
  try dsimp only at H
  have hy422 := Option.some.inj hy4220
  clear hy4220
  have Ny422 := Aside0.mk hy422
  clear hy422
  replace H := Option.bind_eq_some_iff.1 H
  obtain ⟨t425, Hc60, H⟩ := H
  try dsimp only at H
  have Hc6 := Aside0.mk Hc60
  clear Hc60
  by_cases c7 : t425 = true
  · subst c7
    rw [if_pos rfl] at H
    replace H := Option.bind_eq_some_iff.1 H
    obtain ⟨t428, Hc80, H⟩ := H
    try dsimp only at H
    have Hc8 := Aside0.mk Hc80
    clear Hc80
    by_cases c9 : t428 = true
    · subst c9
      rw [if_pos rfl] at H
      exact absurd H (by simp)
    · replace c9 := Bool.eq_false_iff.mpr c9
      subst c9
      rw [if_neg (show ¬ (false = true) by decide)] at H
      replace H := Option.bind_eq_some_iff.1 H
      obtain ⟨⟨t429, t430⟩, Hc100, H⟩ := H
      try dsimp only at H
      have Hc10 := Aside0.mk Hc100
      clear Hc100
      replace H := Option.bind_eq_some_iff.1 H
      obtain ⟨t431, Hc110, H⟩ := H
      try dsimp only at H
      have Hc11 := Aside0.mk Hc110
      clear Hc110
      by_cases c12 : t431 = true
      · subst c12
        rw [if_pos rfl] at H
        replace H := Option.bind_eq_some_iff.1 H
        obtain ⟨⟨t432, t433⟩, Hc130, H⟩ := H
        try dsimp only at H
        have Hc13 := Aside0.mk Hc130
        clear Hc130
        replace H := Option.bind_eq_some_iff.1 H
        obtain ⟨t434, Hc140, H⟩ := H
        try dsimp only at H
        have Hc14 := Aside0.mk Hc140
        clear Hc140
        by_cases c15 : t434 = true
        · subst c15
          rw [if_pos rfl] at H
          replace H := Option.bind_eq_some_iff.1 H
          obtain ⟨⟨t435, t436⟩, Hc160, H⟩ := H
          try dsimp only at H
          have Hc16 := Aside0.mk Hc160
          clear Hc160
          replace H := Option.bind_eq_some_iff.1 H
          obtain ⟨t437, Hc170, H⟩ := H
          try dsimp only at H
          have Hc17 := Aside0.mk Hc170
          clear Hc170
          by_cases c18 : t437 = true
          · subst c18
            rw [if_pos rfl] at H
            exact absurd H (by simp)
          · replace c18 := Bool.eq_false_iff.mpr c18
            subst c18
            rw [if_neg (show ¬ (false = true) by decide)] at H
            replace H := Option.bind_eq_some_iff.1 H
            obtain ⟨t438, Hc190, H⟩ := H
            try dsimp only at H
            have Hc19 := Aside0.mk Hc190
            clear Hc190
            replace H := Option.bind_eq_some_iff.1 H
            obtain ⟨y439, hy4390, H⟩ := H
            try dsimp only at H
            have hy439 := Option.some.inj hy4390
            clear hy4390
            have Ny439 := Aside0.mk hy439
            clear hy439
            replace H := Option.bind_eq_some_iff.1 H
            obtain ⟨t440, Hc200, H⟩ := H
            try dsimp only at H
            have Hc20 := Aside0.mk Hc200
            clear Hc200
            by_cases c21 : t440 = true
            · subst c21
              rw [if_pos rfl] at H
              replace H := Option.bind_eq_some_iff.1 H
              obtain ⟨⟨t441, t442⟩, Hc220, H⟩ := H
              try dsimp only at H
              have Hc22 := Aside0.mk Hc220
              clear Hc220
              replace H := Option.bind_eq_some_iff.1 H
              obtain ⟨t443, Hc230, H⟩ := H
              try dsimp only at H
              have Hc23 := Aside0.mk Hc230
              clear Hc230
              replace H := Option.bind_eq_some_iff.1 H
              obtain ⟨y444, hy4440, H⟩ := H
              try dsimp only at H
              have hy444 := Option.some.inj hy4440
              clear hy4440
              have Ny444 := Aside0.mk hy444
              clear hy444
              replace H := Option.bind_eq_some_iff.1 H
              obtain ⟨t445, Hc240, H⟩ := H
              try dsimp only at H
              have Hc24 := Aside0.mk Hc240
              clear Hc240
              by_cases c25 : t445 = true
              · subst c25
                rw [if_pos rfl] at H
                by_cases c26 : 5 ≤ 281474976710656
                · rw [if_pos c26] at H
                  have LMc26 := Aside0.mk c26
                  clear c26
                  replace H := Option.bind_eq_some_iff.1 H
                  obtain ⟨y446, hy4460, H⟩ := H
                  try dsimp only at H
                  have hy446 := Option.some.inj hy4460
                  clear hy4460
                  have Ny446 := Aside0.mk hy446
                  clear hy446
                  replace H := Option.bind_eq_some_iff.1 H
                  obtain ⟨t447, Hc270, H⟩ := H
                  try dsimp only at H
                  have Hc27 := Aside0.mk Hc270
                  clear Hc270
                  by_cases c28 : (t447.length : Int) = 2
                  · rw [if_pos c28] at H
                    have c28b0 : ((t447.length : Int) == 2) = true := beq_iff_eq.mpr c28
                    have c28b1 : ((t447.length : Int) != 2) = false := bne_eq_false_iff_eq.mpr c28
                    clear c28
                    replace H := Option.bind_eq_some_iff.1 H
                    obtain ⟨t448, Hc290, H⟩ := H
                    try dsimp only at H
                    have Hc29 := Aside0.mk Hc290
                    clear Hc290
                    obtain rfl := Option.some.inj H
                    go_enter Try.func7, Try.ntmps7
                    try go_wp2_with (first | ((with_reducible refine gate_dst (N := 4) rfl ?_); refine goesL_ (some 4) rfl rfl Try.func21 (by kernel_rfl) rfl #[.int .i64 2, .int .i64 0] rfl (by (try simp only [List.map_toArray, List.map_cons, List.map_nil]); first | done | rfl | (simp; done)) ?_; (with_reducible refine (barrowlaw32_tile.calls _ _ _ _ _  Hc1.out).mono ?_); rintro e_ w30 ⟨rfl, hb_⟩; refine ⟨_, rfl, ?_⟩; replace HS := Aside0.mk (HS.out.below hb_); replace HK := Aside0.mk (HK.out.trans (Keep.below hb_))) | ((with_reducible refine gate_dst (N := 1) rfl ?_); refine wpList_plain rfl (fun K_ hK_ => ?_); refine op_box (S := S) (cs := #[.int .i64 0, .int .i64 0, .int .i64 0, .int .i64 0, .int .i64 0, .int .i64 0, .int .i64 0]) (t := 28) (HF.out.keep HK.out) HS.out (by first | (go_simp; done) | (go_simp; rfl)) ?_; intro g3000036 w31 hs_ hk_; refine hK_ _ _ ?_; clear hK_ K_; replace HS := Aside0.mk (hs_); replace HK := Aside0.mk (HK.out.trans hk_)) | ((with_reducible refine gate_store (t := 28) (p := 1) (v := (.tmp 5)) rfl ?_); refine wpList_plain rfl (fun K_ hK_ => ?_); refine op_store (S := S) 28 (.tmp 1) (.tmp 5) rfl g3000036 0 (.agg #[.int .i64 2, .int .i64 t412, .int .i64 t413, .int .i64 0, .int .i64 0, .int .i64 1, .int .i64 2]) [.int .i64 2, .int .i64 t412, .int .i64 t413, .int .i64 0, .int .i64 0, .int .i64 1, .int .i64 2] rfl rfl rfl (by kernel_rfl) (by simp [Value.oneCell']) HS.out (by simp) ?_; intro w32 hs_ hk_; refine hK_ _ _ ?_; clear hK_ K_; replace HS := Aside0.mk ((show SL (cells g3000036 28 [.int .i64 2, .int .i64 t412, .int .i64 t413, .int .i64 0, .int .i64 0, .int .i64 1, .int .i64 2].toArray :: _) _ _ from hs_)); replace HK := Aside0.mk (HK.out.trans hk_)) | ((with_reducible refine gate_dst (N := 6) rfl ?_); refine goesL_ (some 6) rfl rfl Try.func21 (by kernel_rfl) rfl #[.int .i64 1, .int .i64 0] rfl (by (try simp only [List.map_toArray, List.map_cons, List.map_nil]); first | done | rfl | (simp; done)) ?_; (with_reducible refine (barrowlaw32_tile.calls _ _ _ _ _  Hc2.out).mono ?_); rintro e_ w33 ⟨rfl, hb_⟩; refine ⟨_, rfl, ?_⟩; replace HS := Aside0.mk (HS.out.below hb_); replace HK := Aside0.mk (HK.out.trans (Keep.below hb_))) | ((with_reducible refine gate_dst (N := 2) rfl ?_); refine wpList_plain rfl (fun K_ hK_ => ?_); refine op_box (S := S) (cs := #[.int .i64 0, .int .i64 0, .int .i64 0, .int .i64 0, .int .i64 0, .int .i64 0, .int .i64 0]) (t := 28) (HF.out.keep HK.out) HS.out (by first | (go_simp; done) | (go_simp; rfl)) ?_; intro g3000037 w34 hs_ hk_; refine hK_ _ _ ?_; clear hK_ K_; replace HS := Aside0.mk (hs_); replace HK := Aside0.mk (HK.out.trans hk_)) | ((with_reducible refine gate_store (t := 28) (p := 2) (v := (.tmp 7)) rfl ?_); refine wpList_plain rfl (fun K_ hK_ => ?_); refine op_store (S := S) 28 (.tmp 2) (.tmp 7) rfl g3000037 0 (.agg #[.int .i64 4, .int .i64 0, .int .i64 0, .int .i64 t414, .int .i64 t415, .int .i64 5, .int .i64 0]) [.int .i64 4, .int .i64 0, .int .i64 0, .int .i64 t414, .int .i64 t415, .int .i64 5, .int .i64 0] rfl rfl rfl (by kernel_rfl) (by simp [Value.oneCell']) HS.out (by simp) ?_; intro w35 hs_ hk_; refine hK_ _ _ ?_; clear hK_ K_; replace HS := Aside0.mk ((show SL (cells g3000037 28 [.int .i64 4, .int .i64 0, .int .i64 0, .int .i64 t414, .int .i64 t415, .int .i64 5, .int .i64 0].toArray :: _) _ _ from hs_)); replace HK := Aside0.mk (HK.out.trans hk_)) | ((with_reducible refine gate_dst (N := 8) rfl ?_); refine goesL_ (some 8) rfl rfl Try.func21 (by kernel_rfl) rfl #[.int .i64 4, .int .i64 0] rfl (by (try simp only [List.map_toArray, List.map_cons, List.map_nil]); first | done | rfl | (simp; done)) ?_; (with_reducible refine (barrowlaw32_tile.calls _ _ _ _ _  Hc3.out).mono ?_); rintro e_ w36 ⟨rfl, hb_⟩; refine ⟨_, rfl, ?_⟩; replace HS := Aside0.mk (HS.out.below hb_); replace HK := Aside0.mk (HK.out.trans (Keep.below hb_))) | ((with_reducible refine gate_dst (N := 10) rfl ?_); refine goesL_ (some 10) rfl rfl Try.func21 (by kernel_rfl) rfl #[.int .i64 3, .int .i64 0] rfl (by (try simp only [List.map_toArray, List.map_cons, List.map_nil]); first | done | rfl | (simp; done)) ?_; (with_reducible refine (barrowlaw32_tile.calls _ _ _ _ _  Hc4.out).mono ?_); rintro e_ w37 ⟨rfl, hb_⟩; refine ⟨_, rfl, ?_⟩; replace HS := Aside0.mk (HS.out.below hb_); replace HK := Aside0.mk (HK.out.trans (Keep.below hb_))) | ((with_reducible refine gate_dst (N := 12) rfl ?_); refine goesL_ (some 12) rfl rfl Try.func21 (by kernel_rfl) rfl #[.int .i64 0, .int .i64 0] rfl (by (try simp only [List.map_toArray, List.map_cons, List.map_nil]); first | done | rfl | (simp; done)) ?_; (with_reducible refine (barrowlaw32_tile.calls _ _ _ _ _  Hc5.out).mono ?_); rintro e_ w38 ⟨rfl, hb_⟩; refine ⟨_, rfl, ?_⟩; replace HS := Aside0.mk (HS.out.below hb_); replace HK := Aside0.mk (HK.out.trans (Keep.below hb_))) | ((with_reducible refine gate_dst (N := 14) rfl ?_); refine wpList_plain rfl (fun K_ hK_ => ?_); refine op_rowF (S := S) (d := k47) ⟨fun h_ => h_⟩ 47 y422 #[.int .i64 3, .int .i64 t416, .int .i64 t417, .int .i64 1, .int .i64 t418, .int .i64 t419, .int .i64 2, .int .i64 t420, .int .i64 t421] 3 (by rw [← Ny422.out]; exact reps_cons (k47_mkM _ 0 _ (⟨3, (⟨t416, t417⟩ : S26)⟩ : S47)) rfl (reps_cons (k47_mkM _ 0 _ (⟨1, (⟨t418, t419⟩ : S26)⟩ : S47)) rfl (reps_cons (k47_mkM _ 0 _ (⟨2, (⟨t420, t421⟩ : S26)⟩ : S47)) rfl (Reps.none _ _)))) (by rw [← Ny422.out]; rfl) (by decide) (HF.out.keep HK.out) HS.out (by first | (go_simp; done) | (go_simp; rfl)) ?_; intro Az3000038 cz3000038 w39 hs_ hk_; refine hK_ _ _ ?_; clear hK_ K_; replace HS := Aside0.mk ((show SL (row k47 47 (.slice Az3000038 3 cz3000038) y422 :: _) _ _ from hs_)); replace HK := Aside0.mk (HK.out.trans hk_)))
                    refine start_ (n := 53) (S := fun w' => w'.cell? ⟨g3000036, 0, none⟩ = some (.int .i64 2) ∧ w'.cell? ⟨g3000036, 1, none⟩ = some (.int .i64 t412) ∧ w'.cell? ⟨g3000036, 2, none⟩ = some (.int .i64 t413) ∧ w'.cell? ⟨g3000036, 3, none⟩ = some (.int .i64 0) ∧ w'.cell? ⟨g3000036, 4, none⟩ = some (.int .i64 0) ∧ w'.cell? ⟨g3000036, 5, none⟩ = some (.int .i64 1) ∧ w'.cell? ⟨g3000036, 6, none⟩ = some (.int .i64 2) ∧ w'.cell? ⟨g3000037, 0, none⟩ = some (.int .i64 4) ∧ w'.cell? ⟨g3000037, 1, none⟩ = some (.int .i64 0) ∧ w'.cell? ⟨g3000037, 2, none⟩ = some (.int .i64 0) ∧ w'.cell? ⟨g3000037, 3, none⟩ = some (.int .i64 t414) ∧ w'.cell? ⟨g3000037, 4, none⟩ = some (.int .i64 t415) ∧ w'.cell? ⟨g3000037, 5, none⟩ = some (.int .i64 5) ∧ w'.cell? ⟨g3000037, 6, none⟩ = some (.int .i64 0)) (ds := []) #[false, false, false, false, false, false, false, false, false, false, false, false, false, false, false, false, false, false, false, false, false, false, false, false, false, false, false, false, false, false, false, false, false, false, false, false, false, false, false, false, false, false, false, false, false, false, false, false, false, false, false, false, false] (by kernel_rfl) rfl rfl ⟨(((blk_cell (SL.at_ (SL.get2 HS.out)) 0).trans rfl)), (((blk_cell (SL.at_ (SL.get2 HS.out)) 1).trans rfl)), (((blk_cell (SL.at_ (SL.get2 HS.out)) 2).trans rfl)), (((blk_cell (SL.at_ (SL.get2 HS.out)) 3).trans rfl)), (((blk_cell (SL.at_ (SL.get2 HS.out)) 4).trans rfl)), (((blk_cell (SL.at_ (SL.get2 HS.out)) 5).trans rfl)), (((blk_cell (SL.at_ (SL.get2 HS.out)) 6).trans rfl)), (((blk_cell (SL.at_ (SL.get1 HS.out)) 0).trans rfl)), (((blk_cell (SL.at_ (SL.get1 HS.out)) 1).trans rfl)), (((blk_cell (SL.at_ (SL.get1 HS.out)) 2).trans rfl)), (((blk_cell (SL.at_ (SL.get1 HS.out)) 3).trans rfl)), (((blk_cell (SL.at_ (SL.get1 HS.out)) 4).trans rfl)), (((blk_cell (SL.at_ (SL.get1 HS.out)) 5).trans rfl)), (((blk_cell (SL.at_ (SL.get1 HS.out)) 6).trans rfl))⟩ (fun hHeld => ?_); refine with_tabW barrowlaw32_small.tab4 barrowlaw32_small.bits4 (fun HT_ HW_ => ?_)
                    replace HK := Aside0.mk (Keep.drew HK.out)
                    replace HS := Aside0.mk (SL.drew HS.out)
                    refine take_ (i := 0) (N := some 15) (v := ?_) (a' := ?_) #[true, false, false, false, false, false, false, false, false, false, false, false, false, false, false, false, false, false, false, false, false, false, false, false, false, false, false, false, false, false, false, false, false, false, false, false, false, false, false, false, false, false, false, false, false, false, false, false, false, false, false, false, false] rfl rfl (take_ofW HT_.out HW_.out (by kernel_rfl)) (fun _ _ _ h => h) (Or.inl ⟨by rfl, ?_⟩) hHeld ?_ ?_; rotate_left
                    · rintro w' ⟨s0, s1, s2, s3, s4, s5, s6, s7, s8, s9, s10, s11, s12, s13⟩
                      go_simp
                      with_reducible rfl
                    rotate_left; · (simp only [Act.put, sT, sZ, sS, i64_w, i32_w]; rfl)
                    refine one_ (i := 1) (N := some 16) #[true, true, false, false, false, false, false, false, false, false, false, false, false, false, false, false, false, false, false, false, false, false, false, false, false, false, false, false, false, false, false, false, false, false, false, false, false, false, false, false, false, false, false, false, false, false, false, false, false, false, false, false, false] rfl rfl (one_of HT_.out (by kernel_rfl)) (by decide) (fun K hK => ?_)
                    refine goes_ Try.func21 (by kernel_rfl) rfl #[.int .i64 4, .int .i64 0] (by rfl) rfl rfl (by (try simp only [List.map_toArray, List.map_cons, List.map_nil]); first | done | rfl | (simp; done)) ?_
                    (with_reducible refine (barrowlaw32_tile.calls _ _ _ _ _  Hc3.out).mono ?_)
                    rintro e_ w40 ⟨rfl, hb_⟩
                    refine ⟨_, rfl, ?_⟩
                    replace HS := Aside0.mk (HS.out.below hb_)
                    replace HK := Aside0.mk (HK.out.trans (Keep.below hb_))
                    refine hK.out _ _ ⟨(((blk_cell (SL.at_ (SL.get2 HS.out)) 0).trans rfl)), (((blk_cell (SL.at_ (SL.get2 HS.out)) 1).trans rfl)), (((blk_cell (SL.at_ (SL.get2 HS.out)) 2).trans rfl)), (((blk_cell (SL.at_ (SL.get2 HS.out)) 3).trans rfl)), (((blk_cell (SL.at_ (SL.get2 HS.out)) 4).trans rfl)), (((blk_cell (SL.at_ (SL.get2 HS.out)) 5).trans rfl)), (((blk_cell (SL.at_ (SL.get2 HS.out)) 6).trans rfl)), (((blk_cell (SL.at_ (SL.get1 HS.out)) 0).trans rfl)), (((blk_cell (SL.at_ (SL.get1 HS.out)) 1).trans rfl)), (((blk_cell (SL.at_ (SL.get1 HS.out)) 2).trans rfl)), (((blk_cell (SL.at_ (SL.get1 HS.out)) 3).trans rfl)), (((blk_cell (SL.at_ (SL.get1 HS.out)) 4).trans rfl)), (((blk_cell (SL.at_ (SL.get1 HS.out)) 5).trans rfl)), (((blk_cell (SL.at_ (SL.get1 HS.out)) 6).trans rfl))⟩ (fun hHeld => ?_)
                    clear hK K
                    refine norm_ (a' := ?_) ?_ ?_; rotate_left
                    · show Act.put _ (some 16) _ = _
                      simp only [Act.put, sT, sZ, sS, i64_w, i32_w]
                      rfl
                    refine one_ (i := 2) (N := some 17) #[true, true, true, false, false, false, false, false, false, false, false, false, false, false, false, false, false, false, false, false, false, false, false, false, false, false, false, false, false, false, false, false, false, false, false, false, false, false, false, false, false, false, false, false, false, false, false, false, false, false, false, false, false] rfl rfl (one_of HT_.out (by kernel_rfl)) (by decide) (fun K hK => ?_)
                    refine goes_ Try.func11 (by kernel_rfl) rfl #[.agg #[.int .i64 2, .int .i64 t412, .int .i64 t413, .int .i64 0, .int .i64 0, .int .i64 1, .int .i64 2], .agg #[.int .i64 t416, .int .i64 t417]] (by rfl) rfl rfl (by (try simp only [List.map_toArray, List.map_cons, List.map_nil]); first | done | rfl | (simp; done)) ?_
                    (with_reducible refine (area_In.calls k _ _ _ _ _ _ _ _ _ _ _  Hc6.out).mono ?_)
                    rintro e_ w41 ⟨rfl, hb_⟩
                    refine ⟨_, rfl, ?_⟩
                    replace HS := Aside0.mk (HS.out.below hb_)
                    replace HK := Aside0.mk (HK.out.trans (Keep.below hb_))
                    refine hK.out _ _ ⟨(((blk_cell (SL.at_ (SL.get2 HS.out)) 0).trans rfl)), (((blk_cell (SL.at_ (SL.get2 HS.out)) 1).trans rfl)), (((blk_cell (SL.at_ (SL.get2 HS.out)) 2).trans rfl)), (((blk_cell (SL.at_ (SL.get2 HS.out)) 3).trans rfl)), (((blk_cell (SL.at_ (SL.get2 HS.out)) 4).trans rfl)), (((blk_cell (SL.at_ (SL.get2 HS.out)) 5).trans rfl)), (((blk_cell (SL.at_ (SL.get2 HS.out)) 6).trans rfl)), (((blk_cell (SL.at_ (SL.get1 HS.out)) 0).trans rfl)), (((blk_cell (SL.at_ (SL.get1 HS.out)) 1).trans rfl)), (((blk_cell (SL.at_ (SL.get1 HS.out)) 2).trans rfl)), (((blk_cell (SL.at_ (SL.get1 HS.out)) 3).trans rfl)), (((blk_cell (SL.at_ (SL.get1 HS.out)) 4).trans rfl)), (((blk_cell (SL.at_ (SL.get1 HS.out)) 5).trans rfl)), (((blk_cell (SL.at_ (SL.get1 HS.out)) 6).trans rfl))⟩ (fun hHeld => ?_)
                    clear hK K
                    refine norm_ (a' := ?_) ?_ ?_; rotate_left
                    · show Act.put _ (some 17) _ = _
                      simp only [Act.put, sT, sZ, sS, i64_w, i32_w]
                      rfl
                    refine pure_ (i := 3) (N := some 18) (v := ?_) (a' := ?_) #[true, true, true, true, false, false, false, false, false, false, false, false, false, false, false, false, false, false, false, false, false, false, false, false, false, false, false, false, false, false, false, false, false, false, false, false, false, false, false, false, false, false, false, false, false, false, false, false, false, false, false, false, false] rfl rfl (any_of HT_.out (by kernel_rfl)) (fun _ _ _ h => h) (Or.inl ⟨by rfl, ?_⟩) ?_ ?_; rotate_left; · (intro w'; go_simp; with_reducible rfl)
                    rotate_left; · (simp only [Act.put, sT, sZ, sS, i64_w, i32_w]; rfl)
                    refine take_ (i := 4) (N := some 19) (v := ?_) (a' := ?_) #[true, true, true, true, true, false, false, false, false, false, false, false, false, false, false, false, false, false, false, false, false, false, false, false, false, false, false, false, false, false, false, false, false, false, false, false, false, false, false, false, false, false, false, false, false, false, false, false, false, false, false, false, false] rfl rfl (take_ofW HT_.out HW_.out (by kernel_rfl)) (fun _ _ _ h => h) (Or.inl ⟨by rfl, ?_⟩) hHeld ?_ ?_; rotate_left
                    · rintro w' ⟨s0, s1, s2, s3, s4, s5, s6, s7, s8, s9, s10, s11, s12, s13⟩
                      go_simp
                      with_reducible rfl
                    rotate_left; · (simp only [Act.put, sT, sZ, sS, i64_w, i32_w]; rfl)
                    refine one_ (i := 5) (N := some 20) #[true, true, true, true, true, true, false, false, false, false, false, false, false, false, false, false, false, false, false, false, false, false, false, false, false, false, false, false, false, false, false, false, false, false, false, false, false, false, false, false, false, false, false, false, false, false, false, false, false, false, false, false, false] rfl rfl (one_of HT_.out (by kernel_rfl)) (by decide) (fun K hK => ?_)
                    refine goes_ Try.func21 (by kernel_rfl) rfl #[.int .i64 3, .int .i64 0] (by rfl) rfl rfl (by (try simp only [List.map_toArray, List.map_cons, List.map_nil]); first | done | rfl | (simp; done)) ?_
                    (with_reducible refine (barrowlaw32_tile.calls _ _ _ _ _  Hc4.out).mono ?_)
                    rintro e_ w42 ⟨rfl, hb_⟩
                    refine ⟨_, rfl, ?_⟩
                    replace HS := Aside0.mk (HS.out.below hb_)
                    replace HK := Aside0.mk (HK.out.trans (Keep.below hb_))
                    refine hK.out _ _ ⟨(((blk_cell (SL.at_ (SL.get2 HS.out)) 0).trans rfl)), (((blk_cell (SL.at_ (SL.get2 HS.out)) 1).trans rfl)), (((blk_cell (SL.at_ (SL.get2 HS.out)) 2).trans rfl)), (((blk_cell (SL.at_ (SL.get2 HS.out)) 3).trans rfl)), (((blk_cell (SL.at_ (SL.get2 HS.out)) 4).trans rfl)), (((blk_cell (SL.at_ (SL.get2 HS.out)) 5).trans rfl)), (((blk_cell (SL.at_ (SL.get2 HS.out)) 6).trans rfl)), (((blk_cell (SL.at_ (SL.get1 HS.out)) 0).trans rfl)), (((blk_cell (SL.at_ (SL.get1 HS.out)) 1).trans rfl)), (((blk_cell (SL.at_ (SL.get1 HS.out)) 2).trans rfl)), (((blk_cell (SL.at_ (SL.get1 HS.out)) 3).trans rfl)), (((blk_cell (SL.at_ (SL.get1 HS.out)) 4).trans rfl)), (((blk_cell (SL.at_ (SL.get1 HS.out)) 5).trans rfl)), (((blk_cell (SL.at_ (SL.get1 HS.out)) 6).trans rfl))⟩ (fun hHeld => ?_)
                    clear hK K
                    refine norm_ (a' := ?_) ?_ ?_; rotate_left
                    · show Act.put _ (some 20) _ = _
                      simp only [Act.put, sT, sZ, sS, i64_w, i32_w]
                      rfl
                    refine one_ (i := 6) (N := some 21) #[true, true, true, true, true, true, true, false, false, false, false, false, false, false, false, false, false, false, false, false, false, false, false, false, false, false, false, false, false, false, false, false, false, false, false, false, false, false, false, false, false, false, false, false, false, false, false, false, false, false, false, false, false] rfl rfl (one_of HT_.out (by kernel_rfl)) (by decide) (fun K hK => ?_)
                    refine goes_ Try.func11 (by kernel_rfl) rfl #[.agg #[.int .i64 2, .int .i64 t412, .int .i64 t413, .int .i64 0, .int .i64 0, .int .i64 1, .int .i64 2], .agg #[.int .i64 t418, .int .i64 t419]] (by rfl) rfl rfl (by (try simp only [List.map_toArray, List.map_cons, List.map_nil]); first | done | rfl | (simp; done)) ?_
                    (with_reducible refine (area_In.calls k _ _ _ _ _ _ _ _ _ _ _  Hc8.out).mono ?_)
                    rintro e_ w43 ⟨rfl, hb_⟩
                    refine ⟨_, rfl, ?_⟩
                    replace HS := Aside0.mk (HS.out.below hb_)
                    replace HK := Aside0.mk (HK.out.trans (Keep.below hb_))
                    refine hK.out _ _ ⟨(((blk_cell (SL.at_ (SL.get2 HS.out)) 0).trans rfl)), (((blk_cell (SL.at_ (SL.get2 HS.out)) 1).trans rfl)), (((blk_cell (SL.at_ (SL.get2 HS.out)) 2).trans rfl)), (((blk_cell (SL.at_ (SL.get2 HS.out)) 3).trans rfl)), (((blk_cell (SL.at_ (SL.get2 HS.out)) 4).trans rfl)), (((blk_cell (SL.at_ (SL.get2 HS.out)) 5).trans rfl)), (((blk_cell (SL.at_ (SL.get2 HS.out)) 6).trans rfl)), (((blk_cell (SL.at_ (SL.get1 HS.out)) 0).trans rfl)), (((blk_cell (SL.at_ (SL.get1 HS.out)) 1).trans rfl)), (((blk_cell (SL.at_ (SL.get1 HS.out)) 2).trans rfl)), (((blk_cell (SL.at_ (SL.get1 HS.out)) 3).trans rfl)), (((blk_cell (SL.at_ (SL.get1 HS.out)) 4).trans rfl)), (((blk_cell (SL.at_ (SL.get1 HS.out)) 5).trans rfl)), (((blk_cell (SL.at_ (SL.get1 HS.out)) 6).trans rfl))⟩ (fun hHeld => ?_)
                    clear hK K
                    refine norm_ (a' := ?_) ?_ ?_; rotate_left
                    · show Act.put _ (some 21) _ = _
                      simp only [Act.put, sT, sZ, sS, i64_w, i32_w]
                      rfl
                    refine pure_ (i := 7) (N := some 22) (v := ?_) (a' := ?_) #[true, true, true, true, true, true, true, true, false, false, false, false, false, false, false, false, false, false, false, false, false, false, false, false, false, false, false, false, false, false, false, false, false, false, false, false, false, false, false, false, false, false, false, false, false, false, false, false, false, false, false, false, false] rfl rfl (any_of HT_.out (by kernel_rfl)) (fun _ _ _ h => h) (Or.inl ⟨by rfl, ?_⟩) ?_ ?_; rotate_left; · (intro w'; go_simp; with_reducible rfl)
                    rotate_left; · (simp only [Act.put, sT, sZ, sS, i64_w, i32_w]; rfl)
                    refine pure_ (i := 8) (N := some 23) (v := ?_) (a' := ?_) #[true, true, true, true, true, true, true, true, true, false, false, false, false, false, false, false, false, false, false, false, false, false, false, false, false, false, false, false, false, false, false, false, false, false, false, false, false, false, false, false, false, false, false, false, false, false, false, false, false, false, false, false, false] rfl rfl (any_of HT_.out (by kernel_rfl)) (fun _ _ _ h => h) (Or.inl ⟨by rfl, ?_⟩) ?_ ?_; rotate_left; · (intro w'; go_simp; with_reducible rfl)
                    rotate_left; · (simp only [Act.put, sT, sZ, sS, i64_w, i32_w]; rfl)
                    refine pure_ (i := 9) (N := some 24) (v := ?_) (a' := ?_) #[true, true, true, true, true, true, true, true, true, true, false, false, false, false, false, false, false, false, false, false, false, false, false, false, false, false, false, false, false, false, false, false, false, false, false, false, false, false, false, false, false, false, false, false, false, false, false, false, false, false, false, false, false] rfl rfl (any_of HT_.out (by kernel_rfl)) (fun _ _ _ h => h) (Or.inl ⟨by rfl, ?_⟩) ?_ ?_; rotate_left; · (intro w'; go_simp; with_reducible rfl)
                    rotate_left; · (simp only [Act.put, sT, sZ, sS, i64_w, i32_w]; rfl)
                    refine take_ (i := 10) (N := some 25) (v := ?_) (a' := ?_) #[true, true, true, true, true, true, true, true, true, true, true, false, false, false, false, false, false, false, false, false, false, false, false, false, false, false, false, false, false, false, false, false, false, false, false, false, false, false, false, false, false, false, false, false, false, false, false, false, false, false, false, false, false] rfl rfl (take_ofW HT_.out HW_.out (by kernel_rfl)) (fun _ _ _ h => h) (Or.inl ⟨by rfl, ?_⟩) hHeld ?_ ?_; rotate_left
                    · rintro w' ⟨s0, s1, s2, s3, s4, s5, s6, s7, s8, s9, s10, s11, s12, s13⟩
                      go_simp
                      with_reducible rfl
                    rotate_left; · (simp only [Act.put, sT, sZ, sS, i64_w, i32_w]; rfl)
                    refine one_ (i := 11) (N := some 26) #[true, true, true, true, true, true, true, true, true, true, true, true, false, false, false, false, false, false, false, false, false, false, false, false, false, false, false, false, false, false, false, false, false, false, false, false, false, false, false, false, false, false, false, false, false, false, false, false, false, false, false, false, false] rfl rfl (one_of HT_.out (by kernel_rfl)) (by decide) (fun K hK => ?_)
                    refine goes_ Try.func21 (by kernel_rfl) rfl #[.int .i64 3, .int .i64 2] (by rfl) rfl rfl (by (try simp only [List.map_toArray, List.map_cons, List.map_nil]); first | done | rfl | (simp; done)) ?_
                    (with_reducible refine (barrowlaw32_tile.calls _ _ _ _ _  Hc10.out).mono ?_)
                    rintro e_ w44 ⟨rfl, hb_⟩
                    refine ⟨_, rfl, ?_⟩
                    replace HS := Aside0.mk (HS.out.below hb_)
                    replace HK := Aside0.mk (HK.out.trans (Keep.below hb_))
                    refine hK.out _ _ ⟨(((blk_cell (SL.at_ (SL.get2 HS.out)) 0).trans rfl)), (((blk_cell (SL.at_ (SL.get2 HS.out)) 1).trans rfl)), (((blk_cell (SL.at_ (SL.get2 HS.out)) 2).trans rfl)), (((blk_cell (SL.at_ (SL.get2 HS.out)) 3).trans rfl)), (((blk_cell (SL.at_ (SL.get2 HS.out)) 4).trans rfl)), (((blk_cell (SL.at_ (SL.get2 HS.out)) 5).trans rfl)), (((blk_cell (SL.at_ (SL.get2 HS.out)) 6).trans rfl)), (((blk_cell (SL.at_ (SL.get1 HS.out)) 0).trans rfl)), (((blk_cell (SL.at_ (SL.get1 HS.out)) 1).trans rfl)), (((blk_cell (SL.at_ (SL.get1 HS.out)) 2).trans rfl)), (((blk_cell (SL.at_ (SL.get1 HS.out)) 3).trans rfl)), (((blk_cell (SL.at_ (SL.get1 HS.out)) 4).trans rfl)), (((blk_cell (SL.at_ (SL.get1 HS.out)) 5).trans rfl)), (((blk_cell (SL.at_ (SL.get1 HS.out)) 6).trans rfl))⟩ (fun hHeld => ?_)
                    clear hK K
                    refine norm_ (a' := ?_) ?_ ?_; rotate_left
                    · show Act.put _ (some 26) _ = _
                      simp only [Act.put, sT, sZ, sS, i64_w, i32_w]
                      rfl
                    refine one_ (i := 12) (N := some 27) #[true, true, true, true, true, true, true, true, true, true, true, true, true, false, false, false, false, false, false, false, false, false, false, false, false, false, false, false, false, false, false, false, false, false, false, false, false, false, false, false, false, false, false, false, false, false, false, false, false, false, false, false, false] rfl rfl (one_of HT_.out (by kernel_rfl)) (by decide) (fun K hK => ?_)
                    refine goes_ Try.func11 (by kernel_rfl) rfl #[.agg #[.int .i64 4, .int .i64 0, .int .i64 0, .int .i64 t414, .int .i64 t415, .int .i64 5, .int .i64 0], .agg #[.int .i64 t429, .int .i64 t430]] (by rfl) rfl rfl (by (try simp only [List.map_toArray, List.map_cons, List.map_nil]); first | done | rfl | (simp; done)) ?_
                    (with_reducible refine (area_In.calls k _ _ _ _ _ _ _ _ _ _ _  Hc11.out).mono ?_)
                    rintro e_ w45 ⟨rfl, hb_⟩
                    refine ⟨_, rfl, ?_⟩
                    replace HS := Aside0.mk (HS.out.below hb_)
                    replace HK := Aside0.mk (HK.out.trans (Keep.below hb_))
                    refine hK.out _ _ ⟨(((blk_cell (SL.at_ (SL.get2 HS.out)) 0).trans rfl)), (((blk_cell (SL.at_ (SL.get2 HS.out)) 1).trans rfl)), (((blk_cell (SL.at_ (SL.get2 HS.out)) 2).trans rfl)), (((blk_cell (SL.at_ (SL.get2 HS.out)) 3).trans rfl)), (((blk_cell (SL.at_ (SL.get2 HS.out)) 4).trans rfl)), (((blk_cell (SL.at_ (SL.get2 HS.out)) 5).trans rfl)), (((blk_cell (SL.at_ (SL.get2 HS.out)) 6).trans rfl)), (((blk_cell (SL.at_ (SL.get1 HS.out)) 0).trans rfl)), (((blk_cell (SL.at_ (SL.get1 HS.out)) 1).trans rfl)), (((blk_cell (SL.at_ (SL.get1 HS.out)) 2).trans rfl)), (((blk_cell (SL.at_ (SL.get1 HS.out)) 3).trans rfl)), (((blk_cell (SL.at_ (SL.get1 HS.out)) 4).trans rfl)), (((blk_cell (SL.at_ (SL.get1 HS.out)) 5).trans rfl)), (((blk_cell (SL.at_ (SL.get1 HS.out)) 6).trans rfl))⟩ (fun hHeld => ?_)
                    clear hK K
                    refine norm_ (a' := ?_) ?_ ?_; rotate_left
                    · show Act.put _ (some 27) _ = _
                      simp only [Act.put, sT, sZ, sS, i64_w, i32_w]
                      rfl
                    refine pure_ (i := 13) (N := some 28) (v := ?_) (a' := ?_) #[true, true, true, true, true, true, true, true, true, true, true, true, true, true, false, false, false, false, false, false, false, false, false, false, false, false, false, false, false, false, false, false, false, false, false, false, false, false, false, false, false, false, false, false, false, false, false, false, false, false, false, false, false] rfl rfl (any_of HT_.out (by kernel_rfl)) (fun _ _ _ h => h) (Or.inl ⟨by rfl, ?_⟩) ?_ ?_; rotate_left; · (intro w'; go_simp; with_reducible rfl)
                    rotate_left; · (simp only [Act.put, sT, sZ, sS, i64_w, i32_w]; rfl)
                    refine pure_ (i := 14) (N := some 29) (v := ?_) (a' := ?_) #[true, true, true, true, true, true, true, true, true, true, true, true, true, true, true, false, false, false, false, false, false, false, false, false, false, false, false, false, false, false, false, false, false, false, false, false, false, false, false, false, false, false, false, false, false, false, false, false, false, false, false, false, false] rfl rfl (any_of HT_.out (by kernel_rfl)) (fun _ _ _ h => h) (Or.inl ⟨by rfl, ?_⟩) ?_ ?_; rotate_left; · (intro w'; go_simp; with_reducible rfl)
                    rotate_left; · (simp only [Act.put, sT, sZ, sS, i64_w, i32_w]; rfl)
                    refine take_ (i := 15) (N := some 30) (v := ?_) (a' := ?_) #[true, true, true, true, true, true, true, true, true, true, true, true, true, true, true, true, false, false, false, false, false, false, false, false, false, false, false, false, false, false, false, false, false, false, false, false, false, false, false, false, false, false, false, false, false, false, false, false, false, false, false, false, false] rfl rfl (take_ofW HT_.out HW_.out (by kernel_rfl)) (fun _ _ _ h => h) (Or.inl ⟨by rfl, ?_⟩) hHeld ?_ ?_; rotate_left
                    · rintro w' ⟨s0, s1, s2, s3, s4, s5, s6, s7, s8, s9, s10, s11, s12, s13⟩
                      go_simp
                      with_reducible rfl
                    rotate_left; · (simp only [Act.put, sT, sZ, sS, i64_w, i32_w]; rfl)
                    refine one_ (i := 16) (N := some 31) #[true, true, true, true, true, true, true, true, true, true, true, true, true, true, true, true, true, false, false, false, false, false, false, false, false, false, false, false, false, false, false, false, false, false, false, false, false, false, false, false, false, false, false, false, false, false, false, false, false, false, false, false, false] rfl rfl (one_of HT_.out (by kernel_rfl)) (by decide) (fun K hK => ?_)
                    refine goes_ Try.func21 (by kernel_rfl) rfl #[.int .i64 3, .int .i64 3] (by rfl) rfl rfl (by (try simp only [List.map_toArray, List.map_cons, List.map_nil]); first | done | rfl | (simp; done)) ?_
                    (with_reducible refine (barrowlaw32_tile.calls _ _ _ _ _  Hc13.out).mono ?_)
                    rintro e_ w46 ⟨rfl, hb_⟩
                    refine ⟨_, rfl, ?_⟩
                    replace HS := Aside0.mk (HS.out.below hb_)
                    replace HK := Aside0.mk (HK.out.trans (Keep.below hb_))
                    refine hK.out _ _ ⟨(((blk_cell (SL.at_ (SL.get2 HS.out)) 0).trans rfl)), (((blk_cell (SL.at_ (SL.get2 HS.out)) 1).trans rfl)), (((blk_cell (SL.at_ (SL.get2 HS.out)) 2).trans rfl)), (((blk_cell (SL.at_ (SL.get2 HS.out)) 3).trans rfl)), (((blk_cell (SL.at_ (SL.get2 HS.out)) 4).trans rfl)), (((blk_cell (SL.at_ (SL.get2 HS.out)) 5).trans rfl)), (((blk_cell (SL.at_ (SL.get2 HS.out)) 6).trans rfl)), (((blk_cell (SL.at_ (SL.get1 HS.out)) 0).trans rfl)), (((blk_cell (SL.at_ (SL.get1 HS.out)) 1).trans rfl)), (((blk_cell (SL.at_ (SL.get1 HS.out)) 2).trans rfl)), (((blk_cell (SL.at_ (SL.get1 HS.out)) 3).trans rfl)), (((blk_cell (SL.at_ (SL.get1 HS.out)) 4).trans rfl)), (((blk_cell (SL.at_ (SL.get1 HS.out)) 5).trans rfl)), (((blk_cell (SL.at_ (SL.get1 HS.out)) 6).trans rfl))⟩ (fun hHeld => ?_)
                    clear hK K
                    refine norm_ (a' := ?_) ?_ ?_; rotate_left
                    · show Act.put _ (some 31) _ = _
                      simp only [Act.put, sT, sZ, sS, i64_w, i32_w]
                      rfl
                    refine one_ (i := 17) (N := some 32) #[true, true, true, true, true, true, true, true, true, true, true, true, true, true, true, true, true, true, false, false, false, false, false, false, false, false, false, false, false, false, false, false, false, false, false, false, false, false, false, false, false, false, false, false, false, false, false, false, false, false, false, false, false] rfl rfl (one_of HT_.out (by kernel_rfl)) (by decide) (fun K hK => ?_)
                    refine goes_ Try.func11 (by kernel_rfl) rfl #[.agg #[.int .i64 4, .int .i64 0, .int .i64 0, .int .i64 t414, .int .i64 t415, .int .i64 5, .int .i64 0], .agg #[.int .i64 t432, .int .i64 t433]] (by rfl) rfl rfl (by (try simp only [List.map_toArray, List.map_cons, List.map_nil]); first | done | rfl | (simp; done)) ?_
                    (with_reducible refine (area_In.calls k _ _ _ _ _ _ _ _ _ _ _  Hc14.out).mono ?_)
                    rintro e_ w47 ⟨rfl, hb_⟩
                    refine ⟨_, rfl, ?_⟩
                    replace HS := Aside0.mk (HS.out.below hb_)
                    replace HK := Aside0.mk (HK.out.trans (Keep.below hb_))
                    refine hK.out _ _ ⟨(((blk_cell (SL.at_ (SL.get2 HS.out)) 0).trans rfl)), (((blk_cell (SL.at_ (SL.get2 HS.out)) 1).trans rfl)), (((blk_cell (SL.at_ (SL.get2 HS.out)) 2).trans rfl)), (((blk_cell (SL.at_ (SL.get2 HS.out)) 3).trans rfl)), (((blk_cell (SL.at_ (SL.get2 HS.out)) 4).trans rfl)), (((blk_cell (SL.at_ (SL.get2 HS.out)) 5).trans rfl)), (((blk_cell (SL.at_ (SL.get2 HS.out)) 6).trans rfl)), (((blk_cell (SL.at_ (SL.get1 HS.out)) 0).trans rfl)), (((blk_cell (SL.at_ (SL.get1 HS.out)) 1).trans rfl)), (((blk_cell (SL.at_ (SL.get1 HS.out)) 2).trans rfl)), (((blk_cell (SL.at_ (SL.get1 HS.out)) 3).trans rfl)), (((blk_cell (SL.at_ (SL.get1 HS.out)) 4).trans rfl)), (((blk_cell (SL.at_ (SL.get1 HS.out)) 5).trans rfl)), (((blk_cell (SL.at_ (SL.get1 HS.out)) 6).trans rfl))⟩ (fun hHeld => ?_)
                    clear hK K
                    refine norm_ (a' := ?_) ?_ ?_; rotate_left
                    · show Act.put _ (some 32) _ = _
                      simp only [Act.put, sT, sZ, sS, i64_w, i32_w]
                      rfl
                    refine pure_ (i := 18) (N := some 33) (v := ?_) (a' := ?_) #[true, true, true, true, true, true, true, true, true, true, true, true, true, true, true, true, true, true, true, false, false, false, false, false, false, false, false, false, false, false, false, false, false, false, false, false, false, false, false, false, false, false, false, false, false, false, false, false, false, false, false, false, false] rfl rfl (any_of HT_.out (by kernel_rfl)) (fun _ _ _ h => h) (Or.inl ⟨by rfl, ?_⟩) ?_ ?_; rotate_left; · (intro w'; go_simp; with_reducible rfl)
                    rotate_left; · (simp only [Act.put, sT, sZ, sS, i64_w, i32_w]; rfl)
                    refine pure_ (i := 19) (N := some 34) (v := ?_) (a' := ?_) #[true, true, true, true, true, true, true, true, true, true, true, true, true, true, true, true, true, true, true, true, false, false, false, false, false, false, false, false, false, false, false, false, false, false, false, false, false, false, false, false, false, false, false, false, false, false, false, false, false, false, false, false, false] rfl rfl (any_of HT_.out (by kernel_rfl)) (fun _ _ _ h => h) (Or.inl ⟨by rfl, ?_⟩) ?_ ?_; rotate_left; · (intro w'; go_simp; with_reducible rfl)
                    rotate_left; · (simp only [Act.put, sT, sZ, sS, i64_w, i32_w]; rfl)
                    refine take_ (i := 20) (N := some 35) (v := ?_) (a' := ?_) #[true, true, true, true, true, true, true, true, true, true, true, true, true, true, true, true, true, true, true, true, true, false, false, false, false, false, false, false, false, false, false, false, false, false, false, false, false, false, false, false, false, false, false, false, false, false, false, false, false, false, false, false, false] rfl rfl (take_ofW HT_.out HW_.out (by kernel_rfl)) (fun _ _ _ h => h) (Or.inl ⟨by rfl, ?_⟩) hHeld ?_ ?_; rotate_left
                    · rintro w' ⟨s0, s1, s2, s3, s4, s5, s6, s7, s8, s9, s10, s11, s12, s13⟩
                      go_simp
                      with_reducible rfl
                    rotate_left; · (simp only [Act.put, sT, sZ, sS, i64_w, i32_w]; rfl)
                    refine one_ (i := 21) (N := some 36) #[true, true, true, true, true, true, true, true, true, true, true, true, true, true, true, true, true, true, true, true, true, true, false, false, false, false, false, false, false, false, false, false, false, false, false, false, false, false, false, false, false, false, false, false, false, false, false, false, false, false, false, false, false] rfl rfl (one_of HT_.out (by kernel_rfl)) (by decide) (fun K hK => ?_)
                    refine goes_ Try.func21 (by kernel_rfl) rfl #[.int .i64 2, .int .i64 3] (by rfl) rfl rfl (by (try simp only [List.map_toArray, List.map_cons, List.map_nil]); first | done | rfl | (simp; done)) ?_
                    (with_reducible refine (barrowlaw32_tile.calls _ _ _ _ _  Hc16.out).mono ?_)
                    rintro e_ w48 ⟨rfl, hb_⟩
                    refine ⟨_, rfl, ?_⟩
                    replace HS := Aside0.mk (HS.out.below hb_)
                    replace HK := Aside0.mk (HK.out.trans (Keep.below hb_))
                    refine hK.out _ _ ⟨(((blk_cell (SL.at_ (SL.get2 HS.out)) 0).trans rfl)), (((blk_cell (SL.at_ (SL.get2 HS.out)) 1).trans rfl)), (((blk_cell (SL.at_ (SL.get2 HS.out)) 2).trans rfl)), (((blk_cell (SL.at_ (SL.get2 HS.out)) 3).trans rfl)), (((blk_cell (SL.at_ (SL.get2 HS.out)) 4).trans rfl)), (((blk_cell (SL.at_ (SL.get2 HS.out)) 5).trans rfl)), (((blk_cell (SL.at_ (SL.get2 HS.out)) 6).trans rfl)), (((blk_cell (SL.at_ (SL.get1 HS.out)) 0).trans rfl)), (((blk_cell (SL.at_ (SL.get1 HS.out)) 1).trans rfl)), (((blk_cell (SL.at_ (SL.get1 HS.out)) 2).trans rfl)), (((blk_cell (SL.at_ (SL.get1 HS.out)) 3).trans rfl)), (((blk_cell (SL.at_ (SL.get1 HS.out)) 4).trans rfl)), (((blk_cell (SL.at_ (SL.get1 HS.out)) 5).trans rfl)), (((blk_cell (SL.at_ (SL.get1 HS.out)) 6).trans rfl))⟩ (fun hHeld => ?_)
                    clear hK K
                    refine norm_ (a' := ?_) ?_ ?_; rotate_left
                    · show Act.put _ (some 36) _ = _
                      simp only [Act.put, sT, sZ, sS, i64_w, i32_w]
                      rfl
                    refine one_ (i := 22) (N := some 37) #[true, true, true, true, true, true, true, true, true, true, true, true, true, true, true, true, true, true, true, true, true, true, true, false, false, false, false, false, false, false, false, false, false, false, false, false, false, false, false, false, false, false, false, false, false, false, false, false, false, false, false, false, false] rfl rfl (one_of HT_.out (by kernel_rfl)) (by decide) (fun K hK => ?_)
                    refine goes_ Try.func11 (by kernel_rfl) rfl #[.agg #[.int .i64 4, .int .i64 0, .int .i64 0, .int .i64 t414, .int .i64 t415, .int .i64 5, .int .i64 0], .agg #[.int .i64 t435, .int .i64 t436]] (by rfl) rfl rfl (by (try simp only [List.map_toArray, List.map_cons, List.map_nil]); first | done | rfl | (simp; done)) ?_
                    (with_reducible refine (area_In.calls k _ _ _ _ _ _ _ _ _ _ _  Hc17.out).mono ?_)
                    rintro e_ w49 ⟨rfl, hb_⟩
                    refine ⟨_, rfl, ?_⟩
                    replace HS := Aside0.mk (HS.out.below hb_)
                    replace HK := Aside0.mk (HK.out.trans (Keep.below hb_))
                    refine hK.out _ _ ⟨(((blk_cell (SL.at_ (SL.get2 HS.out)) 0).trans rfl)), (((blk_cell (SL.at_ (SL.get2 HS.out)) 1).trans rfl)), (((blk_cell (SL.at_ (SL.get2 HS.out)) 2).trans rfl)), (((blk_cell (SL.at_ (SL.get2 HS.out)) 3).trans rfl)), (((blk_cell (SL.at_ (SL.get2 HS.out)) 4).trans rfl)), (((blk_cell (SL.at_ (SL.get2 HS.out)) 5).trans rfl)), (((blk_cell (SL.at_ (SL.get2 HS.out)) 6).trans rfl)), (((blk_cell (SL.at_ (SL.get1 HS.out)) 0).trans rfl)), (((blk_cell (SL.at_ (SL.get1 HS.out)) 1).trans rfl)), (((blk_cell (SL.at_ (SL.get1 HS.out)) 2).trans rfl)), (((blk_cell (SL.at_ (SL.get1 HS.out)) 3).trans rfl)), (((blk_cell (SL.at_ (SL.get1 HS.out)) 4).trans rfl)), (((blk_cell (SL.at_ (SL.get1 HS.out)) 5).trans rfl)), (((blk_cell (SL.at_ (SL.get1 HS.out)) 6).trans rfl))⟩ (fun hHeld => ?_)
                    clear hK K
                    refine norm_ (a' := ?_) ?_ ?_; rotate_left
                    · show Act.put _ (some 37) _ = _
                      simp only [Act.put, sT, sZ, sS, i64_w, i32_w]
                      rfl
                    refine pure_ (i := 23) (N := some 38) (v := ?_) (a' := ?_) #[true, true, true, true, true, true, true, true, true, true, true, true, true, true, true, true, true, true, true, true, true, true, true, true, false, false, false, false, false, false, false, false, false, false, false, false, false, false, false, false, false, false, false, false, false, false, false, false, false, false, false, false, false] rfl rfl (any_of HT_.out (by kernel_rfl)) (fun _ _ _ h => h) (Or.inl ⟨by rfl, ?_⟩) ?_ ?_; rotate_left; · (intro w'; go_simp; with_reducible rfl)
                    rotate_left; · (simp only [Act.put, sT, sZ, sS, i64_w, i32_w]; rfl)
                    refine pure_ (i := 24) (N := some 39) (v := ?_) (a' := ?_) #[true, true, true, true, true, true, true, true, true, true, true, true, true, true, true, true, true, true, true, true, true, true, true, true, true, false, false, false, false, false, false, false, false, false, false, false, false, false, false, false, false, false, false, false, false, false, false, false, false, false, false, false, false] rfl rfl (any_of HT_.out (by kernel_rfl)) (fun _ _ _ h => h) (Or.inl ⟨by rfl, ?_⟩) ?_ ?_; rotate_left; · (intro w'; go_simp; with_reducible rfl)
                    rotate_left; · (simp only [Act.put, sT, sZ, sS, i64_w, i32_w]; rfl)
                    refine pure_ (i := 25) (N := some 40) (v := ?_) (a' := ?_) #[true, true, true, true, true, true, true, true, true, true, true, true, true, true, true, true, true, true, true, true, true, true, true, true, true, true, false, false, false, false, false, false, false, false, false, false, false, false, false, false, false, false, false, false, false, false, false, false, false, false, false, false, false] rfl rfl (any_of HT_.out (by kernel_rfl)) (fun _ _ _ h => h) (Or.inl ⟨by rfl, ?_⟩) ?_ ?_; rotate_left; · (intro w'; go_simp; with_reducible rfl)
                    rotate_left; · (simp only [Act.put, sT, sZ, sS, i64_w, i32_w]; rfl)
                    refine pure_ (i := 26) (N := some 41) (v := ?_) (a' := ?_) #[true, true, true, true, true, true, true, true, true, true, true, true, true, true, true, true, true, true, true, true, true, true, true, true, true, true, true, false, false, false, false, false, false, false, false, false, false, false, false, false, false, false, false, false, false, false, false, false, false, false, false, false, false] rfl rfl (any_of HT_.out (by kernel_rfl)) (fun _ _ _ h => h) (Or.inl ⟨by rfl, ?_⟩) ?_ ?_; rotate_left; · (intro w'; go_simp; with_reducible rfl)
                    rotate_left; · (simp only [Act.put, sT, sZ, sS, i64_w, i32_w]; rfl)
                    refine take_ (i := 27) (N := some 42) (v := ?_) (a' := ?_) #[true, true, true, true, true, true, true, true, true, true, true, true, true, true, true, true, true, true, true, true, true, true, true, true, true, true, true, true, false, false, false, false, false, false, false, false, false, false, false, false, false, false, false, false, false, false, false, false, false, false, false, false, false] rfl rfl (take_ofW HT_.out HW_.out (by kernel_rfl)) (fun _ _ _ h => h) (Or.inl ⟨by rfl, ?_⟩) hHeld ?_ ?_; rotate_left
                    · rintro w' ⟨s0, s1, s2, s3, s4, s5, s6, s7, s8, s9, s10, s11, s12, s13⟩
                      go_simp
                      with_reducible rfl
                    rotate_left; · (simp only [Act.put, sT, sZ, sS, i64_w, i32_w]; rfl)
                    refine join_ (σ := Option Addr × Nat × Option Addr × Nat) 23 #[true, true, true, true, true, true, true, true, true, true, true, true, true, true, true, true, true, true, true, true, true, true, true, true, true, true, true, true, true, true, false, false, false, false, false, false, false, false, false, false, false, false, false, false, false, false, false, false, false, false, false, false, false] (fun s_ => [(43, .slice s_.1 t438.length s_.2.1), (44, .slice s_.2.2.1 2 s_.2.2.2)]) (fun s_ w_ => Keep S w w_ ∧ SL (row (Kd.int .i64) 3 (.slice s_.1 t438.length s_.2.1) t438 :: row (Kd.int .i64) 3 (.slice s_.2.2.1 2 s_.2.2.2) y439 :: row k47 47 (.slice Az3000038 3 cz3000038) y422 :: cells g3000037 28 [.int .i64 4, .int .i64 0, .int .i64 0, .int .i64 t414, .int .i64 t415, .int .i64 5, .int .i64 0].toArray :: cells g3000036 28 [.int .i64 2, .int .i64 t412, .int .i64 t413, .int .i64 0, .int .i64 0, .int .i64 1, .int .i64 2].toArray :: L) w_ S) ?_ ?_; rotate_left
                    · intro hCont
                      refine two_ (i := 28) (j := 29) (Ni := some 43) (Nj := some 44) #[true, true, true, true, true, true, true, true, true, true, true, true, true, true, true, true, true, true, true, true, true, true, true, true, true, true, true, true, true, false, false, false, false, false, false, false, false, false, false, false, false, false, false, false, false, false, false, false, false, false, false, false, false] #[true, true, true, true, true, true, true, true, true, true, true, true, true, true, true, true, true, true, true, true, true, true, true, true, true, true, true, true, false, true, false, false, false, false, false, false, false, false, false, false, false, false, false, false, false, false, false, false, false, false, false, false, false] rfl rfl rfl rfl (two_of HT_.out (by kernel_rfl)) (by decide) (by decide) (fun K hK => ?_) (fun K hK => ?_)
                      · skip
                        refine goes_ Try.func17 (by kernel_rfl) rfl #[.slice Az3000038 3 cz3000038, .agg #[.int .i64 2, .int .i64 t412, .int .i64 t413, .int .i64 0, .int .i64 0, .int .i64 1, .int .i64 2]] (by rfl) rfl rfl (by (try simp only [List.map_toArray, List.map_cons, List.map_nil]); first | done | rfl | (simp; done)) ?_
                        have el3000038_ := Aside0.mk (SL.row_c HS.out).1
                        refine calls_of_args (args' := #[.slice Az3000038 y422.length cz3000038, .agg #[.int .i64 2, .int .i64 t412, .int .i64 t413, .int .i64 0, .int .i64 0, .int .i64 1, .int .i64 2]]) (by rw [← el3000038_.out]) ?_
                        have hs0_ := HS.out
                        obtain ⟨U1_, hfU1_, hsub1_, hs1_, hro1_, hback1_⟩ := SL.lend (HF.out.keep HK.out) hs0_ (p := fun w_ => Kd.C k47 w_ Az3000038 3 y422) (fun w_ T_ h_ => (Qs_c h_).2.2)
                        (with_reducible refine (area_Units.slcalls k _ _ _ _ _ _ _ _ _ _ _ _ _ _ hfU1_ hs1_ (by rw [← el3000038_.out]; exact hro1_) (by rw [← el3000038_.out]; exact (SL.row_c HS.out).2.1) Hc19.out).mono ?_)
                        rintro e_ w61 ⟨Az3000039, cz3000039, rfl, hsr_, hkr_⟩
                        refine ⟨_, rfl, ?_⟩
                        replace HS := Aside0.mk ((hback1_ _ _ hkr_ hsr_))
                        replace HK := Aside0.mk (HK.out.trans (Keep.sub hkr_ (fun k_ h_ => hsub1_ k_ h_)))
                        refine hK.out _ _ ⟨(((blk_cell (SL.at_ (SL.get3 HS.out)) 0).trans rfl)), (((blk_cell (SL.at_ (SL.get3 HS.out)) 1).trans rfl)), (((blk_cell (SL.at_ (SL.get3 HS.out)) 2).trans rfl)), (((blk_cell (SL.at_ (SL.get3 HS.out)) 3).trans rfl)), (((blk_cell (SL.at_ (SL.get3 HS.out)) 4).trans rfl)), (((blk_cell (SL.at_ (SL.get3 HS.out)) 5).trans rfl)), (((blk_cell (SL.at_ (SL.get3 HS.out)) 6).trans rfl)), (((blk_cell (SL.at_ (SL.get2 HS.out)) 0).trans rfl)), (((blk_cell (SL.at_ (SL.get2 HS.out)) 1).trans rfl)), (((blk_cell (SL.at_ (SL.get2 HS.out)) 2).trans rfl)), (((blk_cell (SL.at_ (SL.get2 HS.out)) 3).trans rfl)), (((blk_cell (SL.at_ (SL.get2 HS.out)) 4).trans rfl)), (((blk_cell (SL.at_ (SL.get2 HS.out)) 5).trans rfl)), (((blk_cell (SL.at_ (SL.get2 HS.out)) 6).trans rfl))⟩ (fun hHeld => ?_)
                        clear hK K
                        refine norm_ (a' := ?_) ?_ ?_; rotate_left
                        · show Act.put _ (some 43) _ = _
                          simp only [Act.put, sT, sZ, sS, i64_w, i32_w]
                          rfl
                        refine one_ (i := 29) (N := some 44) #[true, true, true, true, true, true, true, true, true, true, true, true, true, true, true, true, true, true, true, true, true, true, true, true, true, true, true, true, true, true, false, false, false, false, false, false, false, false, false, false, false, false, false, false, false, false, false, false, false, false, false, false, false] rfl rfl (one_of HT_.out (by kernel_rfl)) (by decide) (fun K hK => ?_)
                        replace HS := Aside0.mk (SL.get3 (SL.get3 (SL.get3 (SL.get1 HS.out))))
                        refine st_of (by rfl) ?_
                        refine op_row (S := S) (enc := Value.int .i64) (h1 := fun _ => rfl) 3 y439 #[.int .i64 2, .int .i64 3] 2 (by rw [← Ny439.out]; rfl) (by rw [← Ny439.out]; rfl) (by decide) (HF.out.keep HK.out) HS.out (by first | (go_simp; done) | (go_simp; rfl)) ?_
                        intro Az3000040 cz3000040 w62 hs_ hk_
                        replace HS := Aside0.mk ((show SL (row (Kd.int .i64) 3 (.slice Az3000040 2 cz3000040) y439 :: _) _ _ from hs_))
                        replace HK := Aside0.mk (HK.out.trans hk_)
                        refine hK.out _ _ ⟨(((blk_cell (SL.at_ (SL.get3 HS.out)) 0).trans rfl)), (((blk_cell (SL.at_ (SL.get3 HS.out)) 1).trans rfl)), (((blk_cell (SL.at_ (SL.get3 HS.out)) 2).trans rfl)), (((blk_cell (SL.at_ (SL.get3 HS.out)) 3).trans rfl)), (((blk_cell (SL.at_ (SL.get3 HS.out)) 4).trans rfl)), (((blk_cell (SL.at_ (SL.get3 HS.out)) 5).trans rfl)), (((blk_cell (SL.at_ (SL.get3 HS.out)) 6).trans rfl)), (((blk_cell (SL.at_ (SL.get2 HS.out)) 0).trans rfl)), (((blk_cell (SL.at_ (SL.get2 HS.out)) 1).trans rfl)), (((blk_cell (SL.at_ (SL.get2 HS.out)) 2).trans rfl)), (((blk_cell (SL.at_ (SL.get2 HS.out)) 3).trans rfl)), (((blk_cell (SL.at_ (SL.get2 HS.out)) 4).trans rfl)), (((blk_cell (SL.at_ (SL.get2 HS.out)) 5).trans rfl)), (((blk_cell (SL.at_ (SL.get2 HS.out)) 6).trans rfl))⟩ (fun hHeld => ?_)
                        clear hK K
                        refine norm_ (a' := ?_) ?_ ?_; rotate_left
                        · show Act.put _ (some 44) _ = _
                          simp only [Act.put, sT, sZ, sS, i64_w, i32_w]
                          rfl
                        exact norm_ (by simp only [putAll, Act.put, sT, sZ, sS]) (hCont (Az3000039, cz3000039, Az3000040, cz3000040) _ ⟨HK.out, (SL.get4 (SL.get3 (SL.get3 (SL.get3 (SL.get3 HS.out)))))⟩)
                      · skip
                        refine st_of (by rfl) ?_
                        refine op_row (S := S) (enc := Value.int .i64) (h1 := fun _ => rfl) 3 y439 #[.int .i64 2, .int .i64 3] 2 (by rw [← Ny439.out]; rfl) (by rw [← Ny439.out]; rfl) (by decide) (HF.out.keep HK.out) HS.out (by first | (go_simp; done) | (go_simp; rfl)) ?_
                        intro Az3000040 cz3000040 w63 hs_ hk_
                        replace HS := Aside0.mk ((show SL (row (Kd.int .i64) 3 (.slice Az3000040 2 cz3000040) y439 :: _) _ _ from hs_))
                        replace HK := Aside0.mk (HK.out.trans hk_)
                        refine hK.out _ _ ⟨(((blk_cell (SL.at_ (SL.get3 HS.out)) 0).trans rfl)), (((blk_cell (SL.at_ (SL.get3 HS.out)) 1).trans rfl)), (((blk_cell (SL.at_ (SL.get3 HS.out)) 2).trans rfl)), (((blk_cell (SL.at_ (SL.get3 HS.out)) 3).trans rfl)), (((blk_cell (SL.at_ (SL.get3 HS.out)) 4).trans rfl)), (((blk_cell (SL.at_ (SL.get3 HS.out)) 5).trans rfl)), (((blk_cell (SL.at_ (SL.get3 HS.out)) 6).trans rfl)), (((blk_cell (SL.at_ (SL.get2 HS.out)) 0).trans rfl)), (((blk_cell (SL.at_ (SL.get2 HS.out)) 1).trans rfl)), (((blk_cell (SL.at_ (SL.get2 HS.out)) 2).trans rfl)), (((blk_cell (SL.at_ (SL.get2 HS.out)) 3).trans rfl)), (((blk_cell (SL.at_ (SL.get2 HS.out)) 4).trans rfl)), (((blk_cell (SL.at_ (SL.get2 HS.out)) 5).trans rfl)), (((blk_cell (SL.at_ (SL.get2 HS.out)) 6).trans rfl))⟩ (fun hHeld => ?_)
                        clear hK K
                        refine norm_ (a' := ?_) ?_ ?_; rotate_left
                        · show Act.put _ (some 44) _ = _
                          simp only [Act.put, sT, sZ, sS, i64_w, i32_w]
                          rfl
                        refine one_ (i := 28) (N := some 43) #[true, true, true, true, true, true, true, true, true, true, true, true, true, true, true, true, true, true, true, true, true, true, true, true, true, true, true, true, true, true, false, false, false, false, false, false, false, false, false, false, false, false, false, false, false, false, false, false, false, false, false, false, false] rfl rfl (one_of HT_.out (by kernel_rfl)) (by decide) (fun K hK => ?_)
                        replace HS := Aside0.mk (SL.get3 (SL.get3 (SL.get3 HS.out)))
                        refine goes_ Try.func17 (by kernel_rfl) rfl #[.slice Az3000038 3 cz3000038, .agg #[.int .i64 2, .int .i64 t412, .int .i64 t413, .int .i64 0, .int .i64 0, .int .i64 1, .int .i64 2]] (by rfl) rfl rfl (by (try simp only [List.map_toArray, List.map_cons, List.map_nil]); first | done | rfl | (simp; done)) ?_
                        have el3000038_ := Aside0.mk (SL.row_c HS.out).1
                        refine calls_of_args (args' := #[.slice Az3000038 y422.length cz3000038, .agg #[.int .i64 2, .int .i64 t412, .int .i64 t413, .int .i64 0, .int .i64 0, .int .i64 1, .int .i64 2]]) (by rw [← el3000038_.out]) ?_
                        have hs0_ := HS.out
                        obtain ⟨U1_, hfU1_, hsub1_, hs1_, hro1_, hback1_⟩ := SL.lend (HF.out.keep HK.out) hs0_ (p := fun w_ => Kd.C k47 w_ Az3000038 3 y422) (fun w_ T_ h_ => (Qs_c h_).2.2)
                        (with_reducible refine (area_Units.slcalls k _ _ _ _ _ _ _ _ _ _ _ _ _ _ hfU1_ hs1_ (by rw [← el3000038_.out]; exact hro1_) (by rw [← el3000038_.out]; exact (SL.row_c HS.out).2.1) Hc19.out).mono ?_)
                        rintro e_ w64 ⟨Az3000039, cz3000039, rfl, hsr_, hkr_⟩
                        refine ⟨_, rfl, ?_⟩
                        replace HS := Aside0.mk ((hback1_ _ _ hkr_ hsr_))
                        replace HK := Aside0.mk (HK.out.trans (Keep.sub hkr_ (fun k_ h_ => hsub1_ k_ h_)))
                        refine hK.out _ _ ⟨(((blk_cell (SL.at_ (SL.get3 HS.out)) 0).trans rfl)), (((blk_cell (SL.at_ (SL.get3 HS.out)) 1).trans rfl)), (((blk_cell (SL.at_ (SL.get3 HS.out)) 2).trans rfl)), (((blk_cell (SL.at_ (SL.get3 HS.out)) 3).trans rfl)), (((blk_cell (SL.at_ (SL.get3 HS.out)) 4).trans rfl)), (((blk_cell (SL.at_ (SL.get3 HS.out)) 5).trans rfl)), (((blk_cell (SL.at_ (SL.get3 HS.out)) 6).trans rfl)), (((blk_cell (SL.at_ (SL.get2 HS.out)) 0).trans rfl)), (((blk_cell (SL.at_ (SL.get2 HS.out)) 1).trans rfl)), (((blk_cell (SL.at_ (SL.get2 HS.out)) 2).trans rfl)), (((blk_cell (SL.at_ (SL.get2 HS.out)) 3).trans rfl)), (((blk_cell (SL.at_ (SL.get2 HS.out)) 4).trans rfl)), (((blk_cell (SL.at_ (SL.get2 HS.out)) 5).trans rfl)), (((blk_cell (SL.at_ (SL.get2 HS.out)) 6).trans rfl))⟩ (fun hHeld => ?_)
                        clear hK K
                        refine norm_ (a' := ?_) ?_ ?_; rotate_left
                        · show Act.put _ (some 43) _ = _
                          simp only [Act.put, sT, sZ, sS, i64_w, i32_w]
                          rfl
                        exact norm_ (by simp only [putAll, Act.put, sT, sZ, sS]) (hCont (Az3000039, cz3000039, Az3000040, cz3000040) _ ⟨HK.out, (SL.get4 (SL.get4 (SL.get2 (SL.get3 (SL.get3 HS.out)))))⟩)
                    rintro ⟨Az3000039, cz3000039, Az3000040, cz3000040⟩ w60 ⟨hk_, hs_⟩
                    clear HK HS
                    have HK := Aside0.mk hk_
                    have HS := Aside0.mk hs_
                    clear hk_ hs_
                    have hHeld := (⟨(((blk_cell (SL.at_ (SL.get4 HS.out)) 0).trans rfl)), (((blk_cell (SL.at_ (SL.get4 HS.out)) 1).trans rfl)), (((blk_cell (SL.at_ (SL.get4 HS.out)) 2).trans rfl)), (((blk_cell (SL.at_ (SL.get4 HS.out)) 3).trans rfl)), (((blk_cell (SL.at_ (SL.get4 HS.out)) 4).trans rfl)), (((blk_cell (SL.at_ (SL.get4 HS.out)) 5).trans rfl)), (((blk_cell (SL.at_ (SL.get4 HS.out)) 6).trans rfl)), (((blk_cell (SL.at_ (SL.get3 HS.out)) 0).trans rfl)), (((blk_cell (SL.at_ (SL.get3 HS.out)) 1).trans rfl)), (((blk_cell (SL.at_ (SL.get3 HS.out)) 2).trans rfl)), (((blk_cell (SL.at_ (SL.get3 HS.out)) 3).trans rfl)), (((blk_cell (SL.at_ (SL.get3 HS.out)) 4).trans rfl)), (((blk_cell (SL.at_ (SL.get3 HS.out)) 5).trans rfl)), (((blk_cell (SL.at_ (SL.get3 HS.out)) 6).trans rfl))⟩ : w60.cell? ⟨g3000036, 0, none⟩ = some (.int .i64 2) ∧ w60.cell? ⟨g3000036, 1, none⟩ = some (.int .i64 t412) ∧ w60.cell? ⟨g3000036, 2, none⟩ = some (.int .i64 t413) ∧ w60.cell? ⟨g3000036, 3, none⟩ = some (.int .i64 0) ∧ w60.cell? ⟨g3000036, 4, none⟩ = some (.int .i64 0) ∧ w60.cell? ⟨g3000036, 5, none⟩ = some (.int .i64 1) ∧ w60.cell? ⟨g3000036, 6, none⟩ = some (.int .i64 2) ∧ w60.cell? ⟨g3000037, 0, none⟩ = some (.int .i64 4) ∧ w60.cell? ⟨g3000037, 1, none⟩ = some (.int .i64 0) ∧ w60.cell? ⟨g3000037, 2, none⟩ = some (.int .i64 0) ∧ w60.cell? ⟨g3000037, 3, none⟩ = some (.int .i64 t414) ∧ w60.cell? ⟨g3000037, 4, none⟩ = some (.int .i64 t415) ∧ w60.cell? ⟨g3000037, 5, none⟩ = some (.int .i64 5) ∧ w60.cell? ⟨g3000037, 6, none⟩ = some (.int .i64 0))
                    replace HS := Aside0.mk (SL.get4 (SL.get4 (SL.get2 (SL.get4 (SL.get4 HS.out)))))
                    refine norm_ (a' := ?_) ?_ ?_; rotate_left; · (simp only [putAll, Act.put, sT, sZ, sS]; rfl)
                    refine one_ (i := 30) (N := some 45) #[true, true, true, true, true, true, true, true, true, true, true, true, true, true, true, true, true, true, true, true, true, true, true, true, true, true, true, true, true, true, true, false, false, false, false, false, false, false, false, false, false, false, false, false, false, false, false, false, false, false, false, false, false] rfl rfl (one_of HT_.out (by kernel_rfl)) (by decide) (fun K hK => ?_)
                    refine goes_ Try.func16 (by kernel_rfl) rfl #[.slice Az3000039 t438.length cz3000039, .slice Az3000040 2 cz3000040] (by rfl) rfl rfl (by (try simp only [List.map_toArray, List.map_cons, List.map_nil]); first | done | rfl | (simp; done)) ?_
                    have el3000040_ := Aside0.mk (SL.row_c HS.out).1
                    refine calls_of_args (args' := #[.slice Az3000039 t438.length cz3000039, .slice Az3000040 y439.length cz3000040]) (by rw [← el3000040_.out]) ?_
                    (with_reducible refine (barrowref02_Same.calls k _ _ _ _ _ _ _ _ (SL.row_c (SL.get2 HS.out)).2.2 (SL.row_c (SL.get2 HS.out)).2.1 (by have e_ := (SL.row_c HS.out).1; have h_ := (SL.row_c HS.out).2.2; rw [e_] at h_; exact h_) (by have e_ := (SL.row_c HS.out).1; have h_ := (SL.row_c HS.out).2.1; (try dsimp only at e_ h_); (try dsimp only); omega) Hc20.out).mono ?_)
                    rintro e_ w52 ⟨rfl, hb_⟩
                    refine ⟨_, rfl, ?_⟩
                    replace hb_ := Drawn0.below hb_
                    replace HS := Aside0.mk (HS.out.below hb_)
                    replace HK := Aside0.mk (HK.out.trans (Keep.below hb_))
                    refine hK.out _ _ ⟨(((blk_cell (SL.at_ (SL.get4 HS.out)) 0).trans rfl)), (((blk_cell (SL.at_ (SL.get4 HS.out)) 1).trans rfl)), (((blk_cell (SL.at_ (SL.get4 HS.out)) 2).trans rfl)), (((blk_cell (SL.at_ (SL.get4 HS.out)) 3).trans rfl)), (((blk_cell (SL.at_ (SL.get4 HS.out)) 4).trans rfl)), (((blk_cell (SL.at_ (SL.get4 HS.out)) 5).trans rfl)), (((blk_cell (SL.at_ (SL.get4 HS.out)) 6).trans rfl)), (((blk_cell (SL.at_ (SL.get3 HS.out)) 0).trans rfl)), (((blk_cell (SL.at_ (SL.get3 HS.out)) 1).trans rfl)), (((blk_cell (SL.at_ (SL.get3 HS.out)) 2).trans rfl)), (((blk_cell (SL.at_ (SL.get3 HS.out)) 3).trans rfl)), (((blk_cell (SL.at_ (SL.get3 HS.out)) 4).trans rfl)), (((blk_cell (SL.at_ (SL.get3 HS.out)) 5).trans rfl)), (((blk_cell (SL.at_ (SL.get3 HS.out)) 6).trans rfl))⟩ (fun hHeld => ?_)
                    clear hK K
                    refine norm_ (a' := ?_) ?_ ?_; rotate_left
                    · show Act.put _ (some 45) _ = _
                      simp only [Act.put, sT, sZ, sS, i64_w, i32_w]
                      rfl
                    refine pure_ (i := 31) (N := some 46) (v := ?_) (a' := ?_) #[true, true, true, true, true, true, true, true, true, true, true, true, true, true, true, true, true, true, true, true, true, true, true, true, true, true, true, true, true, true, true, true, false, false, false, false, false, false, false, false, false, false, false, false, false, false, false, false, false, false, false, false, false] rfl rfl (any_of HT_.out (by kernel_rfl)) (fun _ _ _ h => h) (Or.inl ⟨by rfl, ?_⟩) ?_ ?_; rotate_left; · (intro w'; go_simp; with_reducible rfl)
                    rotate_left; · (simp only [Act.put, sT, sZ, sS, i64_w, i32_w]; rfl)
                    refine pure_ (i := 32) (N := some 47) (v := ?_) (a' := ?_) #[true, true, true, true, true, true, true, true, true, true, true, true, true, true, true, true, true, true, true, true, true, true, true, true, true, true, true, true, true, true, true, true, true, false, false, false, false, false, false, false, false, false, false, false, false, false, false, false, false, false, false, false, false] rfl rfl (any_of HT_.out (by kernel_rfl)) (fun _ _ _ h => h) (Or.inl ⟨by rfl, ?_⟩) ?_ ?_; rotate_left; · (intro w'; go_simp; with_reducible rfl)
                    rotate_left; · (simp only [Act.put, sT, sZ, sS, i64_w, i32_w]; rfl)
                    refine pure_ (i := 33) (N := some 48) (v := ?_) (a' := ?_) #[true, true, true, true, true, true, true, true, true, true, true, true, true, true, true, true, true, true, true, true, true, true, true, true, true, true, true, true, true, true, true, true, true, true, false, false, false, false, false, false, false, false, false, false, false, false, false, false, false, false, false, false, false] rfl rfl (any_of HT_.out (by kernel_rfl)) (fun _ _ _ h => h) (Or.inl ⟨by rfl, ?_⟩) ?_ ?_; rotate_left; · (intro w'; go_simp; with_reducible rfl)
                    rotate_left; · (simp only [Act.put, sT, sZ, sS, i64_w, i32_w]; rfl)
                    refine take_ (i := 34) (N := some 49) (v := ?_) (a' := ?_) #[true, true, true, true, true, true, true, true, true, true, true, true, true, true, true, true, true, true, true, true, true, true, true, true, true, true, true, true, true, true, true, true, true, true, true, false, false, false, false, false, false, false, false, false, false, false, false, false, false, false, false, false, false] rfl rfl (take_ofW HT_.out HW_.out (by kernel_rfl)) (fun _ _ _ h => h) (Or.inl ⟨by rfl, ?_⟩) hHeld ?_ ?_; rotate_left
                    · rintro w' ⟨s0, s1, s2, s3, s4, s5, s6, s7, s8, s9, s10, s11, s12, s13⟩
                      go_simp
                      with_reducible rfl
                    rotate_left; · (simp only [Act.put, sT, sZ, sS, i64_w, i32_w]; rfl)
                    refine join_ (σ := Option Addr × Nat × Option Addr × Nat) 15 #[true, true, true, true, true, true, true, true, true, true, true, true, true, true, true, true, true, true, true, true, true, true, true, true, true, true, true, true, true, true, true, true, true, true, true, true, true, true, false, false, false, false, false, false, false, false, false, false, false, false, false, false, false] (fun s_ => [(50, .agg #[.int .i64 t441, .int .i64 t442]), (51, .slice s_.1 t443.length s_.2.1), (52, .slice s_.2.2.1 1 s_.2.2.2)]) (fun s_ w_ => Keep S w w_ ∧ SL (row (Kd.int .i64) 3 (.slice s_.1 t443.length s_.2.1) t443 :: row (Kd.int .i64) 3 (.slice s_.2.2.1 1 s_.2.2.2) y444 :: row (Kd.int .i64) 3 (.slice Az3000040 2 cz3000040) y439 :: row k47 47 (.slice Az3000038 3 cz3000038) y422 :: row (Kd.int .i64) 3 (.slice Az3000039 t438.length cz3000039) t438 :: cells g3000037 28 [.int .i64 4, .int .i64 0, .int .i64 0, .int .i64 t414, .int .i64 t415, .int .i64 5, .int .i64 0].toArray :: cells g3000036 28 [.int .i64 2, .int .i64 t412, .int .i64 t413, .int .i64 0, .int .i64 0, .int .i64 1, .int .i64 2].toArray :: L) w_ S) ?_ ?_; rotate_left
                    · intro hCont
                      refine two_ (i := 35) (j := 37) (Ni := some 50) (Nj := some 52) #[true, true, true, true, true, true, true, true, true, true, true, true, true, true, true, true, true, true, true, true, true, true, true, true, true, true, true, true, true, true, true, true, true, true, true, true, false, false, false, false, false, false, false, false, false, false, false, false, false, false, false, false, false] #[true, true, true, true, true, true, true, true, true, true, true, true, true, true, true, true, true, true, true, true, true, true, true, true, true, true, true, true, true, true, true, true, true, true, true, false, false, true, false, false, false, false, false, false, false, false, false, false, false, false, false, false, false] rfl rfl rfl rfl (two_of HT_.out (by kernel_rfl)) (by decide) (by decide) (fun K hK => ?_) (fun K hK => ?_)
                      · skip
                        refine goes_ Try.func21 (by kernel_rfl) rfl #[.int .i64 5, .int .i64 0] (by rfl) rfl rfl (by (try simp only [List.map_toArray, List.map_cons, List.map_nil]); first | done | rfl | (simp; done)) ?_
                        (with_reducible refine (barrowlaw32_tile.calls _ _ _ _ _  Hc22.out).mono ?_)
                        rintro e_ w66 ⟨rfl, hb_⟩
                        refine ⟨_, rfl, ?_⟩
                        replace HS := Aside0.mk (HS.out.below hb_)
                        replace HK := Aside0.mk (HK.out.trans (Keep.below hb_))
                        refine hK.out _ _ ⟨(((blk_cell (SL.at_ (SL.get4 HS.out)) 0).trans rfl)), (((blk_cell (SL.at_ (SL.get4 HS.out)) 1).trans rfl)), (((blk_cell (SL.at_ (SL.get4 HS.out)) 2).trans rfl)), (((blk_cell (SL.at_ (SL.get4 HS.out)) 3).trans rfl)), (((blk_cell (SL.at_ (SL.get4 HS.out)) 4).trans rfl)), (((blk_cell (SL.at_ (SL.get4 HS.out)) 5).trans rfl)), (((blk_cell (SL.at_ (SL.get4 HS.out)) 6).trans rfl)), (((blk_cell (SL.at_ (SL.get3 HS.out)) 0).trans rfl)), (((blk_cell (SL.at_ (SL.get3 HS.out)) 1).trans rfl)), (((blk_cell (SL.at_ (SL.get3 HS.out)) 2).trans rfl)), (((blk_cell (SL.at_ (SL.get3 HS.out)) 3).trans rfl)), (((blk_cell (SL.at_ (SL.get3 HS.out)) 4).trans rfl)), (((blk_cell (SL.at_ (SL.get3 HS.out)) 5).trans rfl)), (((blk_cell (SL.at_ (SL.get3 HS.out)) 6).trans rfl))⟩ (fun hHeld => ?_)
                        clear hK K
                        refine norm_ (a' := ?_) ?_ ?_; rotate_left
                        · show Act.put _ (some 50) _ = _
                          simp only [Act.put, sT, sZ, sS, i64_w, i32_w]
                          rfl
                        refine two_ (i := 36) (j := 37) (Ni := some 51) (Nj := some 52) #[true, true, true, true, true, true, true, true, true, true, true, true, true, true, true, true, true, true, true, true, true, true, true, true, true, true, true, true, true, true, true, true, true, true, true, true, true, false, false, false, false, false, false, false, false, false, false, false, false, false, false, false, false] #[true, true, true, true, true, true, true, true, true, true, true, true, true, true, true, true, true, true, true, true, true, true, true, true, true, true, true, true, true, true, true, true, true, true, true, true, false, true, false, false, false, false, false, false, false, false, false, false, false, false, false, false, false] rfl rfl rfl rfl (two_of HT_.out (by kernel_rfl)) (by decide) (by decide) (fun K hK => ?_) (fun K hK => ?_)
                        · skip
                          refine goes_ Try.func19 (by kernel_rfl) rfl #[.slice Az3000038 3 cz3000038, .agg #[.int .i64 2, .int .i64 t412, .int .i64 t413, .int .i64 0, .int .i64 0, .int .i64 1, .int .i64 2], .agg #[.int .i64 t441, .int .i64 t442], .int .i64 1] (by rfl) rfl rfl (by (try simp only [List.map_toArray, List.map_cons, List.map_nil]); first | done | rfl | (simp; done)) ?_
                          have el3000038_ := Aside0.mk (SL.row_c (SL.get1 HS.out)).1
                          refine calls_of_args (args' := #[.slice Az3000038 y422.length cz3000038, .agg #[.int .i64 2, .int .i64 t412, .int .i64 t413, .int .i64 0, .int .i64 0, .int .i64 1, .int .i64 2], .agg #[.int .i64 t441, .int .i64 t442], .int .i64 1]) (by rw [← el3000038_.out]) ?_
                          have hs0_ := (SL.get1 HS.out)
                          obtain ⟨U1_, hfU1_, hsub1_, hs1_, hro1_, hback1_⟩ := SL.lend (HF.out.keep HK.out) hs0_ (p := fun w_ => Kd.C k47 w_ Az3000038 3 y422) (fun w_ T_ h_ => (Qs_c h_).2.2)
                          (with_reducible refine (area_Nearest.slcalls k _ _ _ _ _ _ _ _ _ _ _ _ _ _ _ _ _ hfU1_ hs1_ (by rw [← el3000038_.out]; exact hro1_) (by rw [← el3000038_.out]; exact (SL.row_c (SL.get1 HS.out)).2.1) Hc23.out).mono ?_)
                          rintro e_ w67 ⟨Az3000041, cz3000041, rfl, hsr_, hkr_⟩
                          refine ⟨_, rfl, ?_⟩
                          replace HS := Aside0.mk ((hback1_ _ _ hkr_ hsr_))
                          replace HK := Aside0.mk (HK.out.trans (Keep.sub hkr_ (fun k_ h_ => hsub1_ k_ h_)))
                          refine hK.out _ _ ⟨(((blk_cell (SL.at_ (SL.get5 HS.out)) 0).trans rfl)), (((blk_cell (SL.at_ (SL.get5 HS.out)) 1).trans rfl)), (((blk_cell (SL.at_ (SL.get5 HS.out)) 2).trans rfl)), (((blk_cell (SL.at_ (SL.get5 HS.out)) 3).trans rfl)), (((blk_cell (SL.at_ (SL.get5 HS.out)) 4).trans rfl)), (((blk_cell (SL.at_ (SL.get5 HS.out)) 5).trans rfl)), (((blk_cell (SL.at_ (SL.get5 HS.out)) 6).trans rfl)), (((blk_cell (SL.at_ (SL.get4 HS.out)) 0).trans rfl)), (((blk_cell (SL.at_ (SL.get4 HS.out)) 1).trans rfl)), (((blk_cell (SL.at_ (SL.get4 HS.out)) 2).trans rfl)), (((blk_cell (SL.at_ (SL.get4 HS.out)) 3).trans rfl)), (((blk_cell (SL.at_ (SL.get4 HS.out)) 4).trans rfl)), (((blk_cell (SL.at_ (SL.get4 HS.out)) 5).trans rfl)), (((blk_cell (SL.at_ (SL.get4 HS.out)) 6).trans rfl))⟩ (fun hHeld => ?_)
                          clear hK K
                          refine norm_ (a' := ?_) ?_ ?_; rotate_left
                          · show Act.put _ (some 51) _ = _
                            simp only [Act.put, sT, sZ, sS, i64_w, i32_w]
                            rfl
                          refine one_ (i := 37) (N := some 52) #[true, true, true, true, true, true, true, true, true, true, true, true, true, true, true, true, true, true, true, true, true, true, true, true, true, true, true, true, true, true, true, true, true, true, true, true, true, true, false, false, false, false, false, false, false, false, false, false, false, false, false, false, false] rfl rfl (one_of HT_.out (by kernel_rfl)) (by decide) (fun K hK => ?_)
                          replace HS := Aside0.mk (SL.get5 (SL.get4 (SL.get5 (SL.get5 (SL.get5 (SL.get1 HS.out))))))
                          refine st_of (by rfl) ?_
                          refine op_row (S := S) (enc := Value.int .i64) (h1 := fun _ => rfl) 3 y444 #[.int .i64 3] 1 (by rw [← Ny444.out]; rfl) (by rw [← Ny444.out]; rfl) (by decide) (HF.out.keep HK.out) HS.out (by first | (go_simp; done) | (go_simp; rfl)) ?_
                          intro Az3000042 cz3000042 w68 hs_ hk_
                          replace HS := Aside0.mk ((show SL (row (Kd.int .i64) 3 (.slice Az3000042 1 cz3000042) y444 :: _) _ _ from hs_))
                          replace HK := Aside0.mk (HK.out.trans hk_)
                          refine hK.out _ _ ⟨(((blk_cell (SL.at_ (SL.get5 HS.out)) 0).trans rfl)), (((blk_cell (SL.at_ (SL.get5 HS.out)) 1).trans rfl)), (((blk_cell (SL.at_ (SL.get5 HS.out)) 2).trans rfl)), (((blk_cell (SL.at_ (SL.get5 HS.out)) 3).trans rfl)), (((blk_cell (SL.at_ (SL.get5 HS.out)) 4).trans rfl)), (((blk_cell (SL.at_ (SL.get5 HS.out)) 5).trans rfl)), (((blk_cell (SL.at_ (SL.get5 HS.out)) 6).trans rfl)), (((blk_cell (SL.at_ (SL.get4 HS.out)) 0).trans rfl)), (((blk_cell (SL.at_ (SL.get4 HS.out)) 1).trans rfl)), (((blk_cell (SL.at_ (SL.get4 HS.out)) 2).trans rfl)), (((blk_cell (SL.at_ (SL.get4 HS.out)) 3).trans rfl)), (((blk_cell (SL.at_ (SL.get4 HS.out)) 4).trans rfl)), (((blk_cell (SL.at_ (SL.get4 HS.out)) 5).trans rfl)), (((blk_cell (SL.at_ (SL.get4 HS.out)) 6).trans rfl))⟩ (fun hHeld => ?_)
                          clear hK K
                          refine norm_ (a' := ?_) ?_ ?_; rotate_left
                          · show Act.put _ (some 52) _ = _
                            simp only [Act.put, sT, sZ, sS, i64_w, i32_w]
                            rfl
                          exact norm_ (by simp only [putAll, Act.put, sT, sZ, sS]) (hCont (Az3000041, cz3000041, Az3000042, cz3000042) _ ⟨HK.out, (SL.get6 (SL.get5 (SL.get5 (SL.get5 (SL.get5 (SL.get5 (SL.get5 HS.out)))))))⟩)
                        · skip
                          refine st_of (by rfl) ?_
                          refine op_row (S := S) (enc := Value.int .i64) (h1 := fun _ => rfl) 3 y444 #[.int .i64 3] 1 (by rw [← Ny444.out]; rfl) (by rw [← Ny444.out]; rfl) (by decide) (HF.out.keep HK.out) HS.out (by first | (go_simp; done) | (go_simp; rfl)) ?_
                          intro Az3000042 cz3000042 w69 hs_ hk_
                          replace HS := Aside0.mk ((show SL (row (Kd.int .i64) 3 (.slice Az3000042 1 cz3000042) y444 :: _) _ _ from hs_))
                          replace HK := Aside0.mk (HK.out.trans hk_)
                          refine hK.out _ _ ⟨(((blk_cell (SL.at_ (SL.get5 HS.out)) 0).trans rfl)), (((blk_cell (SL.at_ (SL.get5 HS.out)) 1).trans rfl)), (((blk_cell (SL.at_ (SL.get5 HS.out)) 2).trans rfl)), (((blk_cell (SL.at_ (SL.get5 HS.out)) 3).trans rfl)), (((blk_cell (SL.at_ (SL.get5 HS.out)) 4).trans rfl)), (((blk_cell (SL.at_ (SL.get5 HS.out)) 5).trans rfl)), (((blk_cell (SL.at_ (SL.get5 HS.out)) 6).trans rfl)), (((blk_cell (SL.at_ (SL.get4 HS.out)) 0).trans rfl)), (((blk_cell (SL.at_ (SL.get4 HS.out)) 1).trans rfl)), (((blk_cell (SL.at_ (SL.get4 HS.out)) 2).trans rfl)), (((blk_cell (SL.at_ (SL.get4 HS.out)) 3).trans rfl)), (((blk_cell (SL.at_ (SL.get4 HS.out)) 4).trans rfl)), (((blk_cell (SL.at_ (SL.get4 HS.out)) 5).trans rfl)), (((blk_cell (SL.at_ (SL.get4 HS.out)) 6).trans rfl))⟩ (fun hHeld => ?_)
                          clear hK K
                          refine norm_ (a' := ?_) ?_ ?_; rotate_left
                          · show Act.put _ (some 52) _ = _
                            simp only [Act.put, sT, sZ, sS, i64_w, i32_w]
                            rfl
                          refine one_ (i := 36) (N := some 51) #[true, true, true, true, true, true, true, true, true, true, true, true, true, true, true, true, true, true, true, true, true, true, true, true, true, true, true, true, true, true, true, true, true, true, true, true, true, true, false, false, false, false, false, false, false, false, false, false, false, false, false, false, false] rfl rfl (one_of HT_.out (by kernel_rfl)) (by decide) (fun K hK => ?_)
                          replace HS := Aside0.mk (SL.get5 (SL.get5 (SL.get5 (SL.get5 (SL.get5 HS.out)))))
                          refine goes_ Try.func19 (by kernel_rfl) rfl #[.slice Az3000038 3 cz3000038, .agg #[.int .i64 2, .int .i64 t412, .int .i64 t413, .int .i64 0, .int .i64 0, .int .i64 1, .int .i64 2], .agg #[.int .i64 t441, .int .i64 t442], .int .i64 1] (by rfl) rfl rfl (by (try simp only [List.map_toArray, List.map_cons, List.map_nil]); first | done | rfl | (simp; done)) ?_
                          have el3000038_ := Aside0.mk (SL.row_c (SL.get1 HS.out)).1
                          refine calls_of_args (args' := #[.slice Az3000038 y422.length cz3000038, .agg #[.int .i64 2, .int .i64 t412, .int .i64 t413, .int .i64 0, .int .i64 0, .int .i64 1, .int .i64 2], .agg #[.int .i64 t441, .int .i64 t442], .int .i64 1]) (by rw [← el3000038_.out]) ?_
                          have hs0_ := (SL.get1 HS.out)
                          obtain ⟨U1_, hfU1_, hsub1_, hs1_, hro1_, hback1_⟩ := SL.lend (HF.out.keep HK.out) hs0_ (p := fun w_ => Kd.C k47 w_ Az3000038 3 y422) (fun w_ T_ h_ => (Qs_c h_).2.2)
                          (with_reducible refine (area_Nearest.slcalls k _ _ _ _ _ _ _ _ _ _ _ _ _ _ _ _ _ hfU1_ hs1_ (by rw [← el3000038_.out]; exact hro1_) (by rw [← el3000038_.out]; exact (SL.row_c (SL.get1 HS.out)).2.1) Hc23.out).mono ?_)
                          rintro e_ w70 ⟨Az3000041, cz3000041, rfl, hsr_, hkr_⟩
                          refine ⟨_, rfl, ?_⟩
                          replace HS := Aside0.mk ((hback1_ _ _ hkr_ hsr_))
                          replace HK := Aside0.mk (HK.out.trans (Keep.sub hkr_ (fun k_ h_ => hsub1_ k_ h_)))
                          refine hK.out _ _ ⟨(((blk_cell (SL.at_ (SL.get5 HS.out)) 0).trans rfl)), (((blk_cell (SL.at_ (SL.get5 HS.out)) 1).trans rfl)), (((blk_cell (SL.at_ (SL.get5 HS.out)) 2).trans rfl)), (((blk_cell (SL.at_ (SL.get5 HS.out)) 3).trans rfl)), (((blk_cell (SL.at_ (SL.get5 HS.out)) 4).trans rfl)), (((blk_cell (SL.at_ (SL.get5 HS.out)) 5).trans rfl)), (((blk_cell (SL.at_ (SL.get5 HS.out)) 6).trans rfl)), (((blk_cell (SL.at_ (SL.get4 HS.out)) 0).trans rfl)), (((blk_cell (SL.at_ (SL.get4 HS.out)) 1).trans rfl)), (((blk_cell (SL.at_ (SL.get4 HS.out)) 2).trans rfl)), (((blk_cell (SL.at_ (SL.get4 HS.out)) 3).trans rfl)), (((blk_cell (SL.at_ (SL.get4 HS.out)) 4).trans rfl)), (((blk_cell (SL.at_ (SL.get4 HS.out)) 5).trans rfl)), (((blk_cell (SL.at_ (SL.get4 HS.out)) 6).trans rfl))⟩ (fun hHeld => ?_)
                          clear hK K
                          refine norm_ (a' := ?_) ?_ ?_; rotate_left
                          · show Act.put _ (some 51) _ = _
                            simp only [Act.put, sT, sZ, sS, i64_w, i32_w]
                            rfl
                          exact norm_ (by simp only [putAll, Act.put, sT, sZ, sS]) (hCont (Az3000041, cz3000041, Az3000042, cz3000042) _ ⟨HK.out, (SL.get6 (SL.get6 (SL.get5 (SL.get3 (SL.get5 (SL.get5 (SL.get5 HS.out)))))))⟩)
                      · skip
                        refine st_of (by rfl) ?_
                        refine op_row (S := S) (enc := Value.int .i64) (h1 := fun _ => rfl) 3 y444 #[.int .i64 3] 1 (by rw [← Ny444.out]; rfl) (by rw [← Ny444.out]; rfl) (by decide) (HF.out.keep HK.out) HS.out (by first | (go_simp; done) | (go_simp; rfl)) ?_
                        intro Az3000042 cz3000042 w71 hs_ hk_
                        replace HS := Aside0.mk ((show SL (row (Kd.int .i64) 3 (.slice Az3000042 1 cz3000042) y444 :: _) _ _ from hs_))
                        replace HK := Aside0.mk (HK.out.trans hk_)
                        refine hK.out _ _ ⟨(((blk_cell (SL.at_ (SL.get5 HS.out)) 0).trans rfl)), (((blk_cell (SL.at_ (SL.get5 HS.out)) 1).trans rfl)), (((blk_cell (SL.at_ (SL.get5 HS.out)) 2).trans rfl)), (((blk_cell (SL.at_ (SL.get5 HS.out)) 3).trans rfl)), (((blk_cell (SL.at_ (SL.get5 HS.out)) 4).trans rfl)), (((blk_cell (SL.at_ (SL.get5 HS.out)) 5).trans rfl)), (((blk_cell (SL.at_ (SL.get5 HS.out)) 6).trans rfl)), (((blk_cell (SL.at_ (SL.get4 HS.out)) 0).trans rfl)), (((blk_cell (SL.at_ (SL.get4 HS.out)) 1).trans rfl)), (((blk_cell (SL.at_ (SL.get4 HS.out)) 2).trans rfl)), (((blk_cell (SL.at_ (SL.get4 HS.out)) 3).trans rfl)), (((blk_cell (SL.at_ (SL.get4 HS.out)) 4).trans rfl)), (((blk_cell (SL.at_ (SL.get4 HS.out)) 5).trans rfl)), (((blk_cell (SL.at_ (SL.get4 HS.out)) 6).trans rfl))⟩ (fun hHeld => ?_)
                        clear hK K
                        refine norm_ (a' := ?_) ?_ ?_; rotate_left
                        · show Act.put _ (some 52) _ = _
                          simp only [Act.put, sT, sZ, sS, i64_w, i32_w]
                          rfl
                        refine one_ (i := 35) (N := some 50) #[true, true, true, true, true, true, true, true, true, true, true, true, true, true, true, true, true, true, true, true, true, true, true, true, true, true, true, true, true, true, true, true, true, true, true, true, false, true, false, false, false, false, false, false, false, false, false, false, false, false, false, false, false] rfl rfl (one_of HT_.out (by kernel_rfl)) (by decide) (fun K hK => ?_)
                        replace HS := Aside0.mk (SL.get5 (SL.get5 (SL.get5 (SL.get5 (SL.get5 HS.out)))))
                        refine goes_ Try.func21 (by kernel_rfl) rfl #[.int .i64 5, .int .i64 0] (by rfl) rfl rfl (by (try simp only [List.map_toArray, List.map_cons, List.map_nil]); first | done | rfl | (simp; done)) ?_
                        (with_reducible refine (barrowlaw32_tile.calls _ _ _ _ _  Hc22.out).mono ?_)
                        rintro e_ w72 ⟨rfl, hb_⟩
                        refine ⟨_, rfl, ?_⟩
                        replace HS := Aside0.mk (HS.out.below hb_)
                        replace HK := Aside0.mk (HK.out.trans (Keep.below hb_))
                        refine hK.out _ _ ⟨(((blk_cell (SL.at_ (SL.get4 HS.out)) 0).trans rfl)), (((blk_cell (SL.at_ (SL.get4 HS.out)) 1).trans rfl)), (((blk_cell (SL.at_ (SL.get4 HS.out)) 2).trans rfl)), (((blk_cell (SL.at_ (SL.get4 HS.out)) 3).trans rfl)), (((blk_cell (SL.at_ (SL.get4 HS.out)) 4).trans rfl)), (((blk_cell (SL.at_ (SL.get4 HS.out)) 5).trans rfl)), (((blk_cell (SL.at_ (SL.get4 HS.out)) 6).trans rfl)), (((blk_cell (SL.at_ (SL.get3 HS.out)) 0).trans rfl)), (((blk_cell (SL.at_ (SL.get3 HS.out)) 1).trans rfl)), (((blk_cell (SL.at_ (SL.get3 HS.out)) 2).trans rfl)), (((blk_cell (SL.at_ (SL.get3 HS.out)) 3).trans rfl)), (((blk_cell (SL.at_ (SL.get3 HS.out)) 4).trans rfl)), (((blk_cell (SL.at_ (SL.get3 HS.out)) 5).trans rfl)), (((blk_cell (SL.at_ (SL.get3 HS.out)) 6).trans rfl))⟩ (fun hHeld => ?_)
                        clear hK K
                        refine norm_ (a' := ?_) ?_ ?_; rotate_left
                        · show Act.put _ (some 50) _ = _
                          simp only [Act.put, sT, sZ, sS, i64_w, i32_w]
                          rfl
                        refine one_ (i := 36) (N := some 51) #[true, true, true, true, true, true, true, true, true, true, true, true, true, true, true, true, true, true, true, true, true, true, true, true, true, true, true, true, true, true, true, true, true, true, true, true, true, true, false, false, false, false, false, false, false, false, false, false, false, false, false, false, false] rfl rfl (one_of HT_.out (by kernel_rfl)) (by decide) (fun K hK => ?_)
                        refine goes_ Try.func19 (by kernel_rfl) rfl #[.slice Az3000038 3 cz3000038, .agg #[.int .i64 2, .int .i64 t412, .int .i64 t413, .int .i64 0, .int .i64 0, .int .i64 1, .int .i64 2], .agg #[.int .i64 t441, .int .i64 t442], .int .i64 1] (by rfl) rfl rfl (by (try simp only [List.map_toArray, List.map_cons, List.map_nil]); first | done | rfl | (simp; done)) ?_
                        have el3000038_ := Aside0.mk (SL.row_c (SL.get1 HS.out)).1
                        refine calls_of_args (args' := #[.slice Az3000038 y422.length cz3000038, .agg #[.int .i64 2, .int .i64 t412, .int .i64 t413, .int .i64 0, .int .i64 0, .int .i64 1, .int .i64 2], .agg #[.int .i64 t441, .int .i64 t442], .int .i64 1]) (by rw [← el3000038_.out]) ?_
                        have hs0_ := (SL.get1 HS.out)
                        obtain ⟨U1_, hfU1_, hsub1_, hs1_, hro1_, hback1_⟩ := SL.lend (HF.out.keep HK.out) hs0_ (p := fun w_ => Kd.C k47 w_ Az3000038 3 y422) (fun w_ T_ h_ => (Qs_c h_).2.2)
                        (with_reducible refine (area_Nearest.slcalls k _ _ _ _ _ _ _ _ _ _ _ _ _ _ _ _ _ hfU1_ hs1_ (by rw [← el3000038_.out]; exact hro1_) (by rw [← el3000038_.out]; exact (SL.row_c (SL.get1 HS.out)).2.1) Hc23.out).mono ?_)
                        rintro e_ w73 ⟨Az3000041, cz3000041, rfl, hsr_, hkr_⟩
                        refine ⟨_, rfl, ?_⟩
                        replace HS := Aside0.mk ((hback1_ _ _ hkr_ hsr_))
                        replace HK := Aside0.mk (HK.out.trans (Keep.sub hkr_ (fun k_ h_ => hsub1_ k_ h_)))
                        refine hK.out _ _ ⟨(((blk_cell (SL.at_ (SL.get5 HS.out)) 0).trans rfl)), (((blk_cell (SL.at_ (SL.get5 HS.out)) 1).trans rfl)), (((blk_cell (SL.at_ (SL.get5 HS.out)) 2).trans rfl)), (((blk_cell (SL.at_ (SL.get5 HS.out)) 3).trans rfl)), (((blk_cell (SL.at_ (SL.get5 HS.out)) 4).trans rfl)), (((blk_cell (SL.at_ (SL.get5 HS.out)) 5).trans rfl)), (((blk_cell (SL.at_ (SL.get5 HS.out)) 6).trans rfl)), (((blk_cell (SL.at_ (SL.get4 HS.out)) 0).trans rfl)), (((blk_cell (SL.at_ (SL.get4 HS.out)) 1).trans rfl)), (((blk_cell (SL.at_ (SL.get4 HS.out)) 2).trans rfl)), (((blk_cell (SL.at_ (SL.get4 HS.out)) 3).trans rfl)), (((blk_cell (SL.at_ (SL.get4 HS.out)) 4).trans rfl)), (((blk_cell (SL.at_ (SL.get4 HS.out)) 5).trans rfl)), (((blk_cell (SL.at_ (SL.get4 HS.out)) 6).trans rfl))⟩ (fun hHeld => ?_)
                        clear hK K
                        refine norm_ (a' := ?_) ?_ ?_; rotate_left
                        · show Act.put _ (some 51) _ = _
                          simp only [Act.put, sT, sZ, sS, i64_w, i32_w]
                          rfl
                        exact norm_ (by simp only [putAll, Act.put, sT, sZ, sS]) (hCont (Az3000041, cz3000041, Az3000042, cz3000042) _ ⟨HK.out, (SL.get6 (SL.get6 (SL.get5 (SL.get3 (SL.get5 (SL.get5 (SL.get5 HS.out)))))))⟩)
                    rintro ⟨Az3000041, cz3000041, Az3000042, cz3000042⟩ w65 ⟨hk_, hs_⟩
                    clear HK HS
                    have HK := Aside0.mk hk_
                    have HS := Aside0.mk hs_
                    clear hk_ hs_
                    have hHeld := (⟨(((blk_cell (SL.at_ (SL.get6 HS.out)) 0).trans rfl)), (((blk_cell (SL.at_ (SL.get6 HS.out)) 1).trans rfl)), (((blk_cell (SL.at_ (SL.get6 HS.out)) 2).trans rfl)), (((blk_cell (SL.at_ (SL.get6 HS.out)) 3).trans rfl)), (((blk_cell (SL.at_ (SL.get6 HS.out)) 4).trans rfl)), (((blk_cell (SL.at_ (SL.get6 HS.out)) 5).trans rfl)), (((blk_cell (SL.at_ (SL.get6 HS.out)) 6).trans rfl)), (((blk_cell (SL.at_ (SL.get5 HS.out)) 0).trans rfl)), (((blk_cell (SL.at_ (SL.get5 HS.out)) 1).trans rfl)), (((blk_cell (SL.at_ (SL.get5 HS.out)) 2).trans rfl)), (((blk_cell (SL.at_ (SL.get5 HS.out)) 3).trans rfl)), (((blk_cell (SL.at_ (SL.get5 HS.out)) 4).trans rfl)), (((blk_cell (SL.at_ (SL.get5 HS.out)) 5).trans rfl)), (((blk_cell (SL.at_ (SL.get5 HS.out)) 6).trans rfl))⟩ : w65.cell? ⟨g3000036, 0, none⟩ = some (.int .i64 2) ∧ w65.cell? ⟨g3000036, 1, none⟩ = some (.int .i64 t412) ∧ w65.cell? ⟨g3000036, 2, none⟩ = some (.int .i64 t413) ∧ w65.cell? ⟨g3000036, 3, none⟩ = some (.int .i64 0) ∧ w65.cell? ⟨g3000036, 4, none⟩ = some (.int .i64 0) ∧ w65.cell? ⟨g3000036, 5, none⟩ = some (.int .i64 1) ∧ w65.cell? ⟨g3000036, 6, none⟩ = some (.int .i64 2) ∧ w65.cell? ⟨g3000037, 0, none⟩ = some (.int .i64 4) ∧ w65.cell? ⟨g3000037, 1, none⟩ = some (.int .i64 0) ∧ w65.cell? ⟨g3000037, 2, none⟩ = some (.int .i64 0) ∧ w65.cell? ⟨g3000037, 3, none⟩ = some (.int .i64 t414) ∧ w65.cell? ⟨g3000037, 4, none⟩ = some (.int .i64 t415) ∧ w65.cell? ⟨g3000037, 5, none⟩ = some (.int .i64 5) ∧ w65.cell? ⟨g3000037, 6, none⟩ = some (.int .i64 0))
                    replace HS := Aside0.mk (SL.get6 (SL.get6 (SL.get4 (SL.get5 (SL.get6 (SL.get6 (SL.get6 HS.out)))))))
                    refine norm_ (a' := ?_) ?_ ?_; rotate_left; · (simp only [putAll, Act.put, sT, sZ, sS]; rfl)
                    refine one_ (i := 38) (N := some 53) #[true, true, true, true, true, true, true, true, true, true, true, true, true, true, true, true, true, true, true, true, true, true, true, true, true, true, true, true, true, true, true, true, true, true, true, true, true, true, true, false, false, false, false, false, false, false, false, false, false, false, false, false, false] rfl rfl (one_of HT_.out (by kernel_rfl)) (by decide) (fun K hK => ?_)
                    refine goes_ Try.func16 (by kernel_rfl) rfl #[.slice Az3000041 t443.length cz3000041, .slice Az3000042 1 cz3000042] (by rfl) rfl rfl (by (try simp only [List.map_toArray, List.map_cons, List.map_nil]); first | done | rfl | (simp; done)) ?_
                    have el3000042_ := Aside0.mk (SL.row_c HS.out).1
                    refine calls_of_args (args' := #[.slice Az3000041 t443.length cz3000041, .slice Az3000042 y444.length cz3000042]) (by rw [← el3000042_.out]) ?_
                    (with_reducible refine (barrowref02_Same.calls k _ _ _ _ _ _ _ _ (SL.row_c (SL.get2 HS.out)).2.2 (SL.row_c (SL.get2 HS.out)).2.1 (by have e_ := (SL.row_c HS.out).1; have h_ := (SL.row_c HS.out).2.2; rw [e_] at h_; exact h_) (by have e_ := (SL.row_c HS.out).1; have h_ := (SL.row_c HS.out).2.1; (try dsimp only at e_ h_); (try dsimp only); omega) Hc24.out).mono ?_)
                    rintro e_ w56 ⟨rfl, hb_⟩
                    refine ⟨_, rfl, ?_⟩
                    replace hb_ := Drawn0.below hb_
                    replace HS := Aside0.mk (HS.out.below hb_)
                    replace HK := Aside0.mk (HK.out.trans (Keep.below hb_))
                    refine hK.out _ _ ⟨(((blk_cell (SL.at_ (SL.get6 HS.out)) 0).trans rfl)), (((blk_cell (SL.at_ (SL.get6 HS.out)) 1).trans rfl)), (((blk_cell (SL.at_ (SL.get6 HS.out)) 2).trans rfl)), (((blk_cell (SL.at_ (SL.get6 HS.out)) 3).trans rfl)), (((blk_cell (SL.at_ (SL.get6 HS.out)) 4).trans rfl)), (((blk_cell (SL.at_ (SL.get6 HS.out)) 5).trans rfl)), (((blk_cell (SL.at_ (SL.get6 HS.out)) 6).trans rfl)), (((blk_cell (SL.at_ (SL.get5 HS.out)) 0).trans rfl)), (((blk_cell (SL.at_ (SL.get5 HS.out)) 1).trans rfl)), (((blk_cell (SL.at_ (SL.get5 HS.out)) 2).trans rfl)), (((blk_cell (SL.at_ (SL.get5 HS.out)) 3).trans rfl)), (((blk_cell (SL.at_ (SL.get5 HS.out)) 4).trans rfl)), (((blk_cell (SL.at_ (SL.get5 HS.out)) 5).trans rfl)), (((blk_cell (SL.at_ (SL.get5 HS.out)) 6).trans rfl))⟩ (fun hHeld => ?_)
                    clear hK K
                    refine norm_ (a' := ?_) ?_ ?_; rotate_left
                    · show Act.put _ (some 53) _ = _
                      simp only [Act.put, sT, sZ, sS, i64_w, i32_w]
                      rfl
                    refine pure_ (i := 39) (N := some 54) (v := ?_) (a' := ?_) #[true, true, true, true, true, true, true, true, true, true, true, true, true, true, true, true, true, true, true, true, true, true, true, true, true, true, true, true, true, true, true, true, true, true, true, true, true, true, true, true, false, false, false, false, false, false, false, false, false, false, false, false, false] rfl rfl (any_of HT_.out (by kernel_rfl)) (fun _ _ _ h => h) (Or.inl ⟨by rfl, ?_⟩) ?_ ?_; rotate_left; · (intro w'; go_simp; with_reducible rfl)
                    rotate_left; · (simp only [Act.put, sT, sZ, sS, i64_w, i32_w]; rfl)
                    refine pure_ (i := 40) (N := some 55) (v := ?_) (a' := ?_) #[true, true, true, true, true, true, true, true, true, true, true, true, true, true, true, true, true, true, true, true, true, true, true, true, true, true, true, true, true, true, true, true, true, true, true, true, true, true, true, true, true, false, false, false, false, false, false, false, false, false, false, false, false] rfl rfl (any_of HT_.out (by kernel_rfl)) (fun _ _ _ h => h) (Or.inl ⟨by rfl, ?_⟩) ?_ ?_; rotate_left; · (intro w'; go_simp; with_reducible rfl)
                    rotate_left; · (simp only [Act.put, sT, sZ, sS, i64_w, i32_w]; rfl)
                    refine take_ (i := 43) (N := some 58) (v := ?_) (a' := ?_) #[true, true, true, true, true, true, true, true, true, true, true, true, true, true, true, true, true, true, true, true, true, true, true, true, true, true, true, true, true, true, true, true, true, true, true, true, true, true, true, true, true, false, false, true, false, false, false, false, false, false, false, false, false] rfl rfl (take_ofW HT_.out HW_.out (by kernel_rfl)) (fun _ _ _ h => h) (Or.inl ⟨by rfl, ?_⟩) hHeld ?_ ?_; rotate_left
                    · rintro w' ⟨s0, s1, s2, s3, s4, s5, s6, s7, s8, s9, s10, s11, s12, s13⟩
                      go_simp
                      with_reducible rfl
                    rotate_left; · (simp only [Act.put, sT, sZ, sS, i64_w, i32_w]; rfl)
                    refine one_ (i := 41) (N := some 56) #[true, true, true, true, true, true, true, true, true, true, true, true, true, true, true, true, true, true, true, true, true, true, true, true, true, true, true, true, true, true, true, true, true, true, true, true, true, true, true, true, true, true, false, true, false, false, false, false, false, false, false, false, false] rfl rfl (one_of HT_.out (by kernel_rfl)) (by decide) (fun K hK => ?_)
                    refine st_of (by rfl) ?_
                    refine op_make (S := S) (enc := Value.bool) (h1 := fun _ => rfl) false 22 4 1 (.const (.int .i64 5)) (.const (.int .i64 5)) rfl Try.underlying22 (by kernel_rfl) rfl (by decide) (5) rfl rfl (by omega) (by decide) y446 Ny446.out (HF.out.keep HK.out) HS.out ?_
                    intro Az3000043 cz3000043 w57 hs_ hk_
                    replace HS := Aside0.mk ((show SL (row Kd.bool 4 (.slice Az3000043 y446.length cz3000043) y446 :: _) _ _ from hs_))
                    replace HK := Aside0.mk (HK.out.trans hk_)
                    refine hK.out _ _ ⟨(((blk_cell (SL.at_ (SL.get7 HS.out)) 0).trans rfl)), (((blk_cell (SL.at_ (SL.get7 HS.out)) 1).trans rfl)), (((blk_cell (SL.at_ (SL.get7 HS.out)) 2).trans rfl)), (((blk_cell (SL.at_ (SL.get7 HS.out)) 3).trans rfl)), (((blk_cell (SL.at_ (SL.get7 HS.out)) 4).trans rfl)), (((blk_cell (SL.at_ (SL.get7 HS.out)) 5).trans rfl)), (((blk_cell (SL.at_ (SL.get7 HS.out)) 6).trans rfl)), (((blk_cell (SL.at_ (SL.get6 HS.out)) 0).trans rfl)), (((blk_cell (SL.at_ (SL.get6 HS.out)) 1).trans rfl)), (((blk_cell (SL.at_ (SL.get6 HS.out)) 2).trans rfl)), (((blk_cell (SL.at_ (SL.get6 HS.out)) 3).trans rfl)), (((blk_cell (SL.at_ (SL.get6 HS.out)) 4).trans rfl)), (((blk_cell (SL.at_ (SL.get6 HS.out)) 5).trans rfl)), (((blk_cell (SL.at_ (SL.get6 HS.out)) 6).trans rfl))⟩ (fun hHeld => ?_)
                    clear hK K
                    refine norm_ (a' := ?_) ?_ ?_; rotate_left
                    · show Act.put _ (some 56) _ = _
                      simp only [Act.put, sT, sZ, sS, i64_w, i32_w]
                      rfl
                    refine pure_ (i := 42) (N := some 57) (v := ?_) (a' := ?_) #[true, true, true, true, true, true, true, true, true, true, true, true, true, true, true, true, true, true, true, true, true, true, true, true, true, true, true, true, true, true, true, true, true, true, true, true, true, true, true, true, true, true, true, true, false, false, false, false, false, false, false, false, false] rfl rfl (any_of HT_.out (by kernel_rfl)) (fun _ _ _ h => h) (Or.inl ⟨by rfl, ?_⟩) ?_ ?_; rotate_left; · (intro w'; go_simp; with_reducible rfl)
                    rotate_left; · (simp only [Act.put, sT, sZ, sS, i64_w, i32_w]; rfl)
                    refine one_ (i := 44) (N := some 59) #[true, true, true, true, true, true, true, true, true, true, true, true, true, true, true, true, true, true, true, true, true, true, true, true, true, true, true, true, true, true, true, true, true, true, true, true, true, true, true, true, true, true, true, true, true, false, false, false, false, false, false, false, false] rfl rfl (one_of HT_.out (by kernel_rfl)) (by decide) (fun K hK => ?_)
                    refine goes_ Try.func14 (by kernel_rfl) rfl #[.agg #[.int .i64 5, .int .i64 1, .slice Az3000043 y446.length cz3000043], .agg #[.int .i64 2, .int .i64 t412, .int .i64 t413, .int .i64 0, .int .i64 0, .int .i64 1, .int .i64 2]] (by rfl) rfl rfl (by (try simp only [List.map_toArray, List.map_cons, List.map_nil]); first | done | rfl | (simp; done)) ?_
                    (with_reducible refine (area_Tiles.calls k _ _ _ _ _ _ _ _ _ _ _ _ _ _ (SL.row_c HS.out).2.2 (SL.row_c HS.out).2.1 Hc27.out).mono ?_)
                    rintro e_ w58 ⟨v3000044_, rfl, ho3000044_, hb_⟩
                    refine ⟨_, rfl, ?_⟩
                    have hs_ := (SL.new (HF.out.keep HK.out) HS.out hb_ (row_of_R ho3000044_)).1
                    obtain ⟨Az3000044, cz3000044, e2_, _, _⟩ := SL.row_reads hs_
                    subst e2_
                    replace HS := Aside0.mk (hs_)
                    replace HK := Aside0.mk (HK.out.trans (Keep.below hb_))
                    refine hK.out _ _ ⟨(((blk_cell (SL.at_ (SL.get8 HS.out)) 0).trans rfl)), (((blk_cell (SL.at_ (SL.get8 HS.out)) 1).trans rfl)), (((blk_cell (SL.at_ (SL.get8 HS.out)) 2).trans rfl)), (((blk_cell (SL.at_ (SL.get8 HS.out)) 3).trans rfl)), (((blk_cell (SL.at_ (SL.get8 HS.out)) 4).trans rfl)), (((blk_cell (SL.at_ (SL.get8 HS.out)) 5).trans rfl)), (((blk_cell (SL.at_ (SL.get8 HS.out)) 6).trans rfl)), (((blk_cell (SL.at_ (SL.get7 HS.out)) 0).trans rfl)), (((blk_cell (SL.at_ (SL.get7 HS.out)) 1).trans rfl)), (((blk_cell (SL.at_ (SL.get7 HS.out)) 2).trans rfl)), (((blk_cell (SL.at_ (SL.get7 HS.out)) 3).trans rfl)), (((blk_cell (SL.at_ (SL.get7 HS.out)) 4).trans rfl)), (((blk_cell (SL.at_ (SL.get7 HS.out)) 5).trans rfl)), (((blk_cell (SL.at_ (SL.get7 HS.out)) 6).trans rfl))⟩ (fun hHeld => ?_)
                    clear hK K
                    refine norm_ (a' := ?_) ?_ ?_; rotate_left
                    · show Act.put _ (some 59) _ = _
                      simp only [Act.put, sT, sZ, sS, i64_w, i32_w]
                      rfl
                    refine pure_ (i := 45) (N := some 60) (v := ?_) (a' := ?_) #[true, true, true, true, true, true, true, true, true, true, true, true, true, true, true, true, true, true, true, true, true, true, true, true, true, true, true, true, true, true, true, true, true, true, true, true, true, true, true, true, true, true, true, true, true, true, false, false, false, false, false, false, false] rfl rfl (any_of HT_.out (by kernel_rfl)) (fun _ _ _ h => h) (Or.inl ⟨by rfl, ?_⟩) ?_ ?_; rotate_left; · (intro w'; go_simp; with_reducible rfl)
                    rotate_left; · (simp only [Act.put, sT, sZ, sS, i64_w, i32_w]; rfl)
                    refine pure_ (i := 46) (N := some 61) (v := ?_) (a' := ?_) #[true, true, true, true, true, true, true, true, true, true, true, true, true, true, true, true, true, true, true, true, true, true, true, true, true, true, true, true, true, true, true, true, true, true, true, true, true, true, true, true, true, true, true, true, true, true, true, false, false, false, false, false, false] rfl rfl (any_of HT_.out (by kernel_rfl)) (fun _ _ _ h => h) (Or.inl ⟨by rfl, ?_⟩) ?_ ?_; rotate_left; · (intro w'; go_simp; with_reducible rfl)
                    rotate_left; · (simp only [Act.put, sT, sZ, sS, i64_w, i32_w]; rfl)
                    refine pure_ (i := 47) (N := some 62) (v := ?_) (a' := ?_) #[true, true, true, true, true, true, true, true, true, true, true, true, true, true, true, true, true, true, true, true, true, true, true, true, true, true, true, true, true, true, true, true, true, true, true, true, true, true, true, true, true, true, true, true, true, true, true, true, false, false, false, false, false] rfl rfl (any_of HT_.out (by kernel_rfl)) (fun _ _ _ h => h) (Or.inl ⟨by rfl, ?_⟩) ?_ ?_; rotate_left; · (intro w'; go_simp; with_reducible rfl)
                    rotate_left; · (simp only [Act.put, sT, sZ, sS, i64_w, i32_w]; rfl)
                    refine pure_ (i := 48) (N := some 63) (v := ?_) (a' := ?_) #[true, true, true, true, true, true, true, true, true, true, true, true, true, true, true, true, true, true, true, true, true, true, true, true, true, true, true, true, true, true, true, true, true, true, true, true, true, true, true, true, true, true, true, true, true, true, true, true, true, false, false, false, false] rfl rfl (any_of HT_.out (by kernel_rfl)) (fun _ _ _ h => h) (Or.inl ⟨by rfl, ?_⟩) ?_ ?_; rotate_left; · (intro w'; go_simp; with_reducible rfl)
                    rotate_left; · (simp only [Act.put, sT, sZ, sS, i64_w, i32_w]; rfl)
                    refine take_ (i := 49) (N := some 64) (v := ?_) (a' := ?_) #[true, true, true, true, true, true, true, true, true, true, true, true, true, true, true, true, true, true, true, true, true, true, true, true, true, true, true, true, true, true, true, true, true, true, true, true, true, true, true, true, true, true, true, true, true, true, true, true, true, true, false, false, false] rfl rfl (take_ofW HT_.out HW_.out (by kernel_rfl)) (fun _ _ _ h => h) (Or.inl ⟨by rfl, ?_⟩) hHeld ?_ ?_; rotate_left
                    · rintro w' ⟨s0, s1, s2, s3, s4, s5, s6, s7, s8, s9, s10, s11, s12, s13⟩
                      go_simp
                      with_reducible rfl
                    rotate_left; · (simp only [Act.put, sT, sZ, sS, i64_w, i32_w]; rfl)
                    refine one_ (i := 50) (N := some 65) #[true, true, true, true, true, true, true, true, true, true, true, true, true, true, true, true, true, true, true, true, true, true, true, true, true, true, true, true, true, true, true, true, true, true, true, true, true, true, true, true, true, true, true, true, true, true, true, true, true, true, true, false, false] rfl rfl (one_of HT_.out (by kernel_rfl)) (by decide) (fun K hK => ?_)
                    refine goes_ Try.func9 (by kernel_rfl) rfl #[.agg #[.int .i64 2, .int .i64 t412, .int .i64 t413, .int .i64 0, .int .i64 0, .int .i64 1, .int .i64 2]] (by rfl) rfl rfl (by (try simp only [List.map_toArray, List.map_cons, List.map_nil]); first | done | rfl | (simp; done)) ?_
                    (with_reducible refine (area_Right.calls _ _ _ _ _ _ _ _ _  Hc29.out).mono ?_)
                    rintro e_ w59 ⟨rfl, hb_⟩
                    refine ⟨_, rfl, ?_⟩
                    replace HS := Aside0.mk (HS.out.below hb_)
                    replace HK := Aside0.mk (HK.out.trans (Keep.below hb_))
                    refine hK.out _ _ ⟨(((blk_cell (SL.at_ (SL.get8 HS.out)) 0).trans rfl)), (((blk_cell (SL.at_ (SL.get8 HS.out)) 1).trans rfl)), (((blk_cell (SL.at_ (SL.get8 HS.out)) 2).trans rfl)), (((blk_cell (SL.at_ (SL.get8 HS.out)) 3).trans rfl)), (((blk_cell (SL.at_ (SL.get8 HS.out)) 4).trans rfl)), (((blk_cell (SL.at_ (SL.get8 HS.out)) 5).trans rfl)), (((blk_cell (SL.at_ (SL.get8 HS.out)) 6).trans rfl)), (((blk_cell (SL.at_ (SL.get7 HS.out)) 0).trans rfl)), (((blk_cell (SL.at_ (SL.get7 HS.out)) 1).trans rfl)), (((blk_cell (SL.at_ (SL.get7 HS.out)) 2).trans rfl)), (((blk_cell (SL.at_ (SL.get7 HS.out)) 3).trans rfl)), (((blk_cell (SL.at_ (SL.get7 HS.out)) 4).trans rfl)), (((blk_cell (SL.at_ (SL.get7 HS.out)) 5).trans rfl)), (((blk_cell (SL.at_ (SL.get7 HS.out)) 6).trans rfl))⟩ (fun hHeld => ?_)
                    clear hK K
                    refine norm_ (a' := ?_) ?_ ?_; rotate_left
                    · show Act.put _ (some 65) _ = _
                      simp only [Act.put, sT, sZ, sS, i64_w, i32_w]
                      rfl
                    refine pure_ (i := 51) (N := some 66) (v := ?_) (a' := ?_) #[true, true, true, true, true, true, true, true, true, true, true, true, true, true, true, true, true, true, true, true, true, true, true, true, true, true, true, true, true, true, true, true, true, true, true, true, true, true, true, true, true, true, true, true, true, true, true, true, true, true, true, true, false] rfl rfl (any_of HT_.out (by kernel_rfl)) (fun _ _ _ h => h) (Or.inl ⟨by rfl, ?_⟩) ?_ ?_; rotate_left; · (intro w'; go_simp; with_reducible rfl)
                    rotate_left; · (simp only [Act.put, sT, sZ, sS, i64_w, i32_w]; rfl)
                    refine pure_ (i := 52) (N := some 0) (v := ?_) (a' := ?_) #[true, true, true, true, true, true, true, true, true, true, true, true, true, true, true, true, true, true, true, true, true, true, true, true, true, true, true, true, true, true, true, true, true, true, true, true, true, true, true, true, true, true, true, true, true, true, true, true, true, true, true, true, true] rfl rfl (any_of HT_.out (by kernel_rfl)) (fun _ _ _ h => h) (Or.inl ⟨by rfl, ?_⟩) ?_ ?_; rotate_left; · (intro w'; go_simp; with_reducible rfl)
                    rotate_left; · (simp only [Act.put, sT, sZ, sS, i64_w, i32_w]; rfl)
                    refine done_ (done_of HT_.out (by kernel_rfl)) ?_
                    try go_wp2
                    go_ret
                    replace HS := Aside0.mk (SL.tail (SL.tail (SL.tail (SL.tail (SL.tail (SL.tail (SL.tail (SL.tail (SL.tail HS.out)))))))))
                    unfold barrowlaw32_small.Post
                    exact ⟨by first | rfl | (simp; done) | (simp [*]; done) | (simp at c28b0 ⊢; first | exact c28b0 | (simp [c28b0]; done)), HS.out, HK.out⟩
                  · rw [if_neg c28] at H
                    have c28b0 : ((t447.length : Int) == 2) = false := beq_eq_false_iff_ne.mpr c28
                    have c28b1 : ((t447.length : Int) != 2) = true := bne_iff_ne.mpr c28
                    exact absurd H (by simp)
                · rw [if_neg c26] at H
                  exact absurd H (by simp)
              · replace c25 := Bool.eq_false_iff.mpr c25
                subst c25
                rw [if_neg (show ¬ (false = true) by decide)] at H
                exact absurd H (by simp)
            · replace c21 := Bool.eq_false_iff.mpr c21
              subst c21
              rw [if_neg (show ¬ (false = true) by decide)] at H
              exact absurd H (by simp)
        · replace c15 := Bool.eq_false_iff.mpr c15
          subst c15
          rw [if_neg (show ¬ (false = true) by decide)] at H
          exact absurd H (by simp)
      · replace c12 := Bool.eq_false_iff.mpr c12
        subst c12
        rw [if_neg (show ¬ (false = true) by decide)] at H
        exact absurd H (by simp)
  · replace c7 := Bool.eq_false_iff.mpr c7
    subst c7
    rw [if_neg (show ¬ (false = true) by decide)] at H
    exact absurd H (by simp)
theorem barrowlaw32_small.calls (k : Nat)  (r : Bool) (w : World) (h : barrowlaw32_small.f k  = some r) :
    Calls Try.prog 7 #[] w fun e w' => e = .returned (.bool r) ∧ Below w.heap.size w w' :=
  (barrowlaw32_small.slcalls k  r (news w) [] w (fresh_news w) trivial h).mono fun _ _ h => ⟨h.1, h.2.2.to_below⟩

end Go.Proofs.Ytofodbnnminmkaa.XAS
