-- Written by xprint.py (a program of this session) for this claim
import Derived.Test.YtljmecjciifceaaSL5
import Derived.Test.YtljmecjciifceaaXSWx0
import Derived.Test.YtljmecjciifceaaXSWx1
import Derived.Test.YtljmecjciifceaaXSWx6
import Derived.Test.YtljmecjciifceaaXSWx7
import Derived.Test.YtljmecjciifceaaXSWx8
import Derived.Test.YtljmecjciifceaaXSWx10
namespace Go.Proofs.Ytljmecjciifceaa.XSW
open Go.Proofs.YtljmecjciifceaaV Go.Proofs.YtljmecjciifceaaS
open Go.RowKit Go.Proofs.YtljmecjciifceaaW.PrintWords Go.Proofs.YtljmecjciifceaaW.PrintLast Go.Proofs.YtljmecjciifceaaW.PrintMore
attribute [local go_sem] max2_int min2_int max_two min_two max_three min_three max_four min_four   -- for this text's walks alone
set_option linter.unusedVariables false
set_option linter.unusedSimpArgs false

attribute [local go_sem high] eqA26
/-! ### barrowlaw07_small: function 7 -/
def barrowlaw07_small.f (k : Nat)  : Option (Bool) := if 12 ≤ 281474976710656 then ((some (List.replicate 12 false : List Bool)).bind fun y378 => ((barrowlaw07_tile.f 0 0).bind fun bt379 => ((barrowlaw07_tile.f 2 2).bind fun bt381 => ((sight_Line.f k 4 3 y378 bt379.1 bt379.2 bt381.1 bt381.2).bind fun t383 => ((barrowlaw07_tile.f 3 1).bind fun bt386 => ((sight_Line.f k 4 3 y378 bt379.1 bt379.2 bt386.1 bt386.2).bind fun t388 => ((sight_Sees.f k 4 3 y378 bt379.1 bt379.2 bt386.1 bt386.2).bind fun t393 => (if 1 < (y378.length : Int) then ((some (y378.set (1 : Int).toNat true : List Bool)).bind fun y395 => ((sight_First.f k 4 3 y395 bt379.1 bt379.2 bt386.1 bt386.2).bind fun bt400 => ((barrowlaw07_tile.f 1 0).bind fun bt405 => ((barrowlaw07_tile.f 0 1).bind fun bt407 => ((barrowlaw07_tile.f 1 1).bind fun bt409 => ((barrowlaw07_tile.f 2 1).bind fun bt411 => ((barrowlaw07_tile.f 1 2).bind fun bt413 => ((some (([(⟨bt379.1, bt379.2⟩ : S26), (⟨bt405.1, bt405.2⟩ : S26), (⟨bt407.1, bt407.2⟩ : S26), (⟨bt409.1, bt409.2⟩ : S26), (⟨bt411.1, bt411.2⟩ : S26), (⟨bt413.1, bt413.2⟩ : S26), (⟨bt381.1, bt381.2⟩ : S26)] : List (S26)) : List (S26))).bind fun y417 => ((barrowref06_Same.f k t383 y417).bind fun t418 => (if t418 = true then ((barrowlaw07_tile.f 2 0).bind fun bt423 => ((some (([(⟨bt379.1, bt379.2⟩ : S26), (⟨bt405.1, bt405.2⟩ : S26), (⟨bt423.1, bt423.2⟩ : S26), (⟨bt409.1, bt409.2⟩ : S26), (⟨bt411.1, bt411.2⟩ : S26), (⟨bt386.1, bt386.2⟩ : S26)] : List (S26)) : List (S26))).bind fun y431 => ((barrowref06_Same.f k t388 y431).bind fun t432 => (if t432 = true then (if t393 = true then ((sight_Sees.f k 4 3 y395 bt379.1 bt379.2 bt386.1 bt386.2).bind fun t437 => (if t437 = true then (none) else (if bt400.2.2 = true then (some (bt400.1 == bt405.1 && (bt400.2.1 == bt405.2))) else (none)))) else (none)) else (none))))) else (none))))))))))) else (none))))))))) else (none)
theorem barrowlaw07_small.mono : ∀ k, LeO (barrowlaw07_small.f k ) (barrowlaw07_small.f (k + 1) ) := by
  intro  k
  unfold barrowlaw07_small.f
  repeat' first
      | (with_reducible exact barrowref06_Same.mono _ _ _)
      | (with_reducible exact sight_First.mono _ _ _ _ _ _ _ _)
      | (with_reducible exact sight_Line.mono _ _ _ _ _ _ _ _)
      | (with_reducible exact sight_Sees.mono _ _ _ _ _ _ _ _)
      | (with_reducible exact LeO.refl _)
      | (with_reducible exact LeO.none _)
      | (with_reducible refine LeO.ite ?_ ?_)
      | (with_reducible refine everyOf_le (fun _ => ?_))
      | (with_reducible refine LeO.bind ?_ (fun _ => ?_))
      | exact barrowref06_Same.mono _ _ _
      | exact sight_First.mono _ _ _ _ _ _ _ _
      | exact sight_Line.mono _ _ _ _ _ _ _ _
      | exact sight_Sees.mono _ _ _ _ _ _ _ _
      | exact LeO.none _
      | refine LeO.ite ?_ ?_
      | refine LeO.bind ?_ (fun _ => ?_)
def barrowlaw07_small.T6 : Bool × List (List Nat × List Nat) := (true, [([], []), ([], []), ([1], []), ([0, 1, 2, 2], [0, 1, 2]), ([3], [3]), ([4], [4]), ([4], [4]), ([], []), ([7, 5, 3, 0, 1, 2, 3, 4, 5, 7], [5, 7]), ([6, 8, 0, 1, 2, 3, 4, 5, 6, 7, 8], [6])])
def barrowlaw07_small.B6 : List Nat := [0, 0, 2, 7, 15, 31, 31, 0, 191, 511]
theorem barrowlaw07_small.tab6 : rtab .any (opsOf Try.f7 6) = barrowlaw07_small.T6 := by kernel_rfl
theorem barrowlaw07_small.bits6 : waitsOk barrowlaw07_small.T6.2 barrowlaw07_small.B6 = true := by kernel_rfl
def barrowlaw07_small.T7 : Bool × List (List Nat × List Nat) := (true, [([], []), ([], []), ([1], []), ([2], []), ([3], []), ([4], []), ([5], []), ([6], []), ([1, 2, 3, 4, 5, 6, 7], [1, 2, 3, 4, 5, 6, 7]), ([0, 8, 7], [0, 8]), ([9, 9], [9]), ([10], [10]), ([10, 10], [10]), ([12, 10], [10]), ([13, 10], [10]), ([14, 10], [10]), ([15, 10], [10]), ([16, 10], [10]), ([12, 13, 14, 15, 16, 17, 10], [10, 12, 13, 14, 15, 16, 17]), ([11, 18, 17, 10], [10, 11, 18]), ([10, 19], [10, 19]), ([20, 19], [20]), ([21], [21]), ([21, 22], [21, 22]), ([23, 21], [23]), ([24], [24]), ([24, 24], [24]), ([26, 24], [24]), ([25, 26, 27, 27, 24], [24, 25, 26, 27]), ([28, 24], [24, 28]), ([24, 29], [24, 29]), ([30, 28], [30]), ([31], [31]), ([31, 32], [31, 32]), ([33, 31], [33]), ([34], [34]), ([34, 34], [34]), ([35, 36, 34], [34, 35, 36]), ([34, 37], [34, 37]), ([38, 36, 0, 1, 2, 3, 4, 5, 6, 7, 8, 9, 10, 11, 12, 13, 14, 15, 16, 17, 18, 19, 20, 21, 22, 23, 24, 25, 26, 27, 28, 29, 30, 31, 32, 33, 34, 35, 36, 37, 38], [38])])
def barrowlaw07_small.B7 : List Nat := [0, 0, 2, 6, 14, 30, 62, 126, 254, 511, 1023, 2047, 2047, 6143, 14335, 30719, 63487, 129023, 260095, 524287, 1048575, 2097151, 4194303, 8388607, 16777215, 33554431, 33554431, 100663295, 268435455, 536870911, 1073741823, 2147483647, 4294967295, 8589934591, 17179869183, 34359738367, 34359738367, 137438953471, 274877906943, 549755813887]
theorem barrowlaw07_small.tab7 : rtab .any (opsOf Try.f7 7) = barrowlaw07_small.T7 := by kernel_rfl
theorem barrowlaw07_small.bits7 : waitsOk barrowlaw07_small.T7.2 barrowlaw07_small.B7 = true := by kernel_rfl
def barrowlaw07_small.Post (r : Bool) (S : Nat → Prop) (L : List Asr) (w : World) (e : Ending) (w' : World) : Prop := e = .returned (.bool r) ∧ SL (L) w' S ∧ Keep S w w'
set_option maxHeartbeats 8000000 in
set_option maxRecDepth 100000 in
theorem barrowlaw07_small.slcalls (k : Nat)  (r : Bool) (S : Nat → Prop) (L : List Asr) (w : World) (hf : Fresh S w) (hs : SL (L) w S) (h : barrowlaw07_small.f k  = some r) :
    Calls Try.prog 7 #[] w (barrowlaw07_small.Post r S L w) := by
  have HF := Aside0.mk hf
  have HS := Aside0.mk hs
  have HK := Aside0.mk (Keep.refl S w)
  clear hf hs
  have hu24 := Try.underlying24
  have hu26 := Try.underlying26
  have H : (if 12 ≤ 281474976710656 then ((some (List.replicate 12 false : List Bool)).bind fun y378 => ((barrowlaw07_tile.f 0 0).bind fun bt379 => ((barrowlaw07_tile.f 2 2).bind fun bt381 => ((sight_Line.f k 4 3 y378 bt379.1 bt379.2 bt381.1 bt381.2).bind fun t383 => ((barrowlaw07_tile.f 3 1).bind fun bt386 => ((sight_Line.f k 4 3 y378 bt379.1 bt379.2 bt386.1 bt386.2).bind fun t388 => ((sight_Sees.f k 4 3 y378 bt379.1 bt379.2 bt386.1 bt386.2).bind fun t393 => (if 1 < (y378.length : Int) then ((some (y378.set (1 : Int).toNat true : List Bool)).bind fun y395 => ((sight_First.f k 4 3 y395 bt379.1 bt379.2 bt386.1 bt386.2).bind fun bt400 => ((barrowlaw07_tile.f 1 0).bind fun bt405 => ((barrowlaw07_tile.f 0 1).bind fun bt407 => ((barrowlaw07_tile.f 1 1).bind fun bt409 => ((barrowlaw07_tile.f 2 1).bind fun bt411 => ((barrowlaw07_tile.f 1 2).bind fun bt413 => ((some (([(⟨bt379.1, bt379.2⟩ : S26), (⟨bt405.1, bt405.2⟩ : S26), (⟨bt407.1, bt407.2⟩ : S26), (⟨bt409.1, bt409.2⟩ : S26), (⟨bt411.1, bt411.2⟩ : S26), (⟨bt413.1, bt413.2⟩ : S26), (⟨bt381.1, bt381.2⟩ : S26)] : List (S26)) : List (S26))).bind fun y417 => ((barrowref06_Same.f k t383 y417).bind fun t418 => (if t418 = true then ((barrowlaw07_tile.f 2 0).bind fun bt423 => ((some (([(⟨bt379.1, bt379.2⟩ : S26), (⟨bt405.1, bt405.2⟩ : S26), (⟨bt423.1, bt423.2⟩ : S26), (⟨bt409.1, bt409.2⟩ : S26), (⟨bt411.1, bt411.2⟩ : S26), (⟨bt386.1, bt386.2⟩ : S26)] : List (S26)) : List (S26))).bind fun y431 => ((barrowref06_Same.f k t388 y431).bind fun t432 => (if t432 = true then (if t393 = true then ((sight_Sees.f k 4 3 y395 bt379.1 bt379.2 bt386.1 bt386.2).bind fun t437 => (if t437 = true then (none) else (if bt400.2.2 = true then (some (bt400.1 == bt405.1 && (bt400.2.1 == bt405.2))) else (none)))) else (none)) else (none))))) else (none))))))))))) else (none))))))))) else (none)) = some r := h
  clear h
  by_cases c1 : 12 ≤ 281474976710656
  · rw [if_pos c1] at H
    have LMc1 := Aside0.mk c1
    clear c1
    replace H := Option.bind_eq_some_iff.1 H
    obtain ⟨y378, hy3780, H⟩ := H
    try dsimp only at H
    have hy378 := Option.some.inj hy3780
    clear hy3780
    have Ny378 := Aside0.mk hy378
    clear hy378
    replace H := Option.bind_eq_some_iff.1 H
    obtain ⟨⟨t379, t380⟩, Hc20, H⟩ := H
    try dsimp only at H
    have Hc2 := Aside0.mk Hc20
    clear Hc20
    replace H := Option.bind_eq_some_iff.1 H
    obtain ⟨⟨t381, t382⟩, Hc30, H⟩ := H
    try dsimp only at H
    have Hc3 := Aside0.mk Hc30
    clear Hc30
    replace H := Option.bind_eq_some_iff.1 H
    obtain ⟨t383, Hc40, H⟩ := H
    try dsimp only at H
    have Hc4 := Aside0.mk Hc40
    clear Hc40
    replace H := Option.bind_eq_some_iff.1 H
    obtain ⟨⟨t386, t387⟩, Hc50, H⟩ := H
    try dsimp only at H
    have Hc5 := Aside0.mk Hc50
    clear Hc50
    replace H := Option.bind_eq_some_iff.1 H
    obtain ⟨t388, Hc60, H⟩ := H
    try dsimp only at H
    have Hc6 := Aside0.mk Hc60
    clear Hc60
    replace H := Option.bind_eq_some_iff.1 H
    obtain ⟨t393, Hc70, H⟩ := H
    try dsimp only at H
    have Hc7 := Aside0.mk Hc70
    clear Hc70
    by_cases c8 : 1 < (y378.length : Int)
    · rw [if_pos c8] at H
      have c8b0 : decide (1 < (y378.length : Int)) = true := decide_eq_true c8
      have c8b1 : decide (1 < y378.length) = true := decide_eq_true (by omega)
      clear c8
      replace H := Option.bind_eq_some_iff.1 H
      obtain ⟨y395, hy3950, H⟩ := H
      try dsimp only at H
      have hy395 := Option.some.inj hy3950
      clear hy3950
      have Ny395 := Aside0.mk hy395
      clear hy395
      replace H := Option.bind_eq_some_iff.1 H
      obtain ⟨⟨t400, t401, t402⟩, Hc90, H⟩ := H
      try dsimp only at H
      have Hc9 := Aside0.mk Hc90
      clear Hc90
      replace H := Option.bind_eq_some_iff.1 H
      obtain ⟨⟨t405, t406⟩, Hc100, H⟩ := H
      try dsimp only at H
      have Hc10 := Aside0.mk Hc100
      clear Hc100
      replace H := Option.bind_eq_some_iff.1 H
      obtain ⟨⟨t407, t408⟩, Hc110, H⟩ := H
      try dsimp only at H
      have Hc11 := Aside0.mk Hc110
      clear Hc110
      replace H := Option.bind_eq_some_iff.1 H
      obtain ⟨⟨t409, t410⟩, Hc120, H⟩ := H
      try dsimp only at H
      have Hc12 := Aside0.mk Hc120
      clear Hc120
      replace H := Option.bind_eq_some_iff.1 H
      obtain ⟨⟨t411, t412⟩, Hc130, H⟩ := H
      try dsimp only at H
      have Hc13 := Aside0.mk Hc130
      clear Hc130
      replace H := Option.bind_eq_some_iff.1 H
      obtain ⟨⟨t413, t414⟩, Hc140, H⟩ := H
      try dsimp only at H
      have Hc14 := Aside0.mk Hc140
      clear Hc140
      replace H := Option.bind_eq_some_iff.1 H
      obtain ⟨y417, hy4170, H⟩ := H
      try dsimp only at H
      have hy417 := Option.some.inj hy4170
      clear hy4170
      have Ny417 := Aside0.mk hy417
      clear hy417
      replace H := Option.bind_eq_some_iff.1 H
      obtain ⟨t418, Hc150, H⟩ := H
      try dsimp only at H
      have Hc15 := Aside0.mk Hc150
      clear Hc150
      by_cases c16 : t418 = true
      · subst c16
        rw [if_pos rfl] at H
        replace H := Option.bind_eq_some_iff.1 H
        obtain ⟨⟨t423, t424⟩, Hc170, H⟩ := H
        try dsimp only at H
        have Hc17 := Aside0.mk Hc170
        clear Hc170
        replace H := Option.bind_eq_some_iff.1 H
        obtain ⟨y431, hy4310, H⟩ := H
        try dsimp only at H
        have hy431 := Option.some.inj hy4310
        clear hy4310
        have Ny431 := Aside0.mk hy431
        clear hy431
        replace H := Option.bind_eq_some_iff.1 H
        obtain ⟨t432, Hc180, H⟩ := H
        try dsimp only at H
        have Hc18 := Aside0.mk Hc180
        clear Hc180
        by_cases c19 : t432 = true
        · subst c19
          rw [if_pos rfl] at H
          by_cases c20 : t393 = true
          · subst c20
            rw [if_pos rfl] at H
            replace H := Option.bind_eq_some_iff.1 H
            obtain ⟨t437, Hc210, H⟩ := H
            try dsimp only at H
            have Hc21 := Aside0.mk Hc210
            clear Hc210
            by_cases c22 : t437 = true
            · subst c22
              rw [if_pos rfl] at H
              exact absurd H (by simp)
            · replace c22 := Bool.eq_false_iff.mpr c22
              subst c22
              rw [if_neg (show ¬ (false = true) by decide)] at H
              by_cases c23 : t402 = true
              · subst c23
                rw [if_pos rfl] at H
                obtain rfl := Option.some.inj H
                go_enter Try.func7, Try.ntmps7
                try go_wp2_with (first | ((with_reducible refine gate_dst (N := 7) rfl ?_); refine wpList_plain rfl (fun K_ hK_ => ?_); refine op_make (S := S) (enc := Value.bool) (h1 := fun _ => rfl) false 22 4 1 (.const (.int .i64 12)) (.const (.int .i64 12)) rfl Try.underlying22 (by kernel_rfl) rfl (by decide) (12) rfl rfl (by omega) (by decide) y378 Ny378.out (HF.out.keep HK.out) HS.out ?_; intro Az3000044 cz3000044 w24 hs_ hk_; refine hK_ _ _ ?_; clear hK_ K_; replace HS := Aside0.mk ((show SL (row Kd.bool 4 (.slice Az3000044 y378.length cz3000044) y378 :: _) _ _ from hs_)); replace HK := Aside0.mk (HK.out.trans hk_)) | ((with_reducible refine gate_dst (N := 1) rfl ?_); refine wpList_plain rfl (fun K_ hK_ => ?_); refine op_box (S := S) (cs := #[.int .i64 0, .int .i64 0, .slice none 0 0]) (t := 24) (HF.out.keep HK.out) HS.out (by first | (go_simp; done) | (go_simp; rfl)) ?_; intro g3000045 w25 hs_ hk_; refine hK_ _ _ ?_; clear hK_ K_; replace HS := Aside0.mk (hs_); replace HK := Aside0.mk (HK.out.trans hk_)) | ((with_reducible refine gate_store (t := 24) (p := 1) (v := (.tmp 8)) rfl ?_); refine wpList_plain rfl (fun K_ hK_ => ?_); refine op_store (S := S) 24 (.tmp 1) (.tmp 8) rfl g3000045 0 (.agg #[.int .i64 4, .int .i64 3, .slice Az3000044 y378.length cz3000044]) [.int .i64 4, .int .i64 3, .slice Az3000044 y378.length cz3000044] rfl rfl rfl (by kernel_rfl) (by simp [Value.oneCell']) HS.out (by simp) ?_; intro w26 hs_ hk_; refine hK_ _ _ ?_; clear hK_ K_; replace HS := Aside0.mk ((show SL (cells g3000045 24 [.int .i64 4, .int .i64 3, .slice Az3000044 y378.length cz3000044].toArray :: _) _ _ from hs_)); replace HK := Aside0.mk (HK.out.trans hk_)))
                refine start_ (n := 5) (S := fun w' => w'.cell? ⟨g3000045, 0, none⟩ = some (.int .i64 4) ∧ w'.cell? ⟨g3000045, 1, none⟩ = some (.int .i64 3) ∧ w'.cell? ⟨g3000045, 2, none⟩ = some (.slice Az3000044 y378.length cz3000044)) (ds := []) #[false, false, false, false, false] (by kernel_rfl) rfl rfl ⟨(((blk_cell (SL.at_ HS.out) 0).trans rfl)), (((blk_cell (SL.at_ HS.out) 1).trans rfl)), (((blk_cell (SL.at_ HS.out) 2).trans rfl))⟩ (fun hHeld => ?_)
                replace HK := Aside0.mk (Keep.drew HK.out)
                replace HS := Aside0.mk (SL.drew HS.out)
                refine take_ (i := 0) (N := some 9) (v := ?_) (a' := ?_) #[true, false, false, false, false] rfl rfl (by kernel_rfl) (fun _ _ _ h => h) (Or.inl ⟨by rfl, ?_⟩) hHeld ?_ ?_; rotate_left
                · rintro w' ⟨s0, s1, s2⟩
                  go_simp
                  with_reducible rfl
                rotate_left; · (simp only [Act.put, sT, sZ, sS, i64_w, i32_w]; rfl)
                refine one_ (i := 1) (N := some 10) #[true, true, false, false, false] rfl rfl (by kernel_rfl) (by decide) (fun K hK => ?_)
                refine goes_ Try.func22 (by kernel_rfl) rfl #[.int .i64 0, .int .i64 0] (by rfl) rfl rfl (by (try simp only [List.map_toArray, List.map_cons, List.map_nil]); first | done | rfl | (simp; done)) ?_
                (with_reducible refine (barrowlaw07_tile.calls _ _ _ _ _  Hc2.out).mono ?_)
                rintro e_ w27 ⟨rfl, hb_⟩
                refine ⟨_, rfl, ?_⟩
                replace HS := Aside0.mk (HS.out.below hb_)
                replace HK := Aside0.mk (HK.out.trans (Keep.below hb_))
                refine hK.out _ _ ⟨(((blk_cell (SL.at_ HS.out) 0).trans rfl)), (((blk_cell (SL.at_ HS.out) 1).trans rfl)), (((blk_cell (SL.at_ HS.out) 2).trans rfl))⟩ (fun hHeld => ?_)
                clear hK K
                refine norm_ (a' := ?_) ?_ ?_; rotate_left
                · show Act.put _ (some 10) _ = _
                  simp only [Act.put, sT, sZ, sS, i64_w, i32_w]
                  rfl
                refine one_ (i := 2) (N := some 11) #[true, true, true, false, false] rfl rfl (by kernel_rfl) (by decide) (fun K hK => ?_)
                refine goes_ Try.func22 (by kernel_rfl) rfl #[.int .i64 2, .int .i64 2] (by rfl) rfl rfl (by (try simp only [List.map_toArray, List.map_cons, List.map_nil]); first | done | rfl | (simp; done)) ?_
                (with_reducible refine (barrowlaw07_tile.calls _ _ _ _ _  Hc3.out).mono ?_)
                rintro e_ w28 ⟨rfl, hb_⟩
                refine ⟨_, rfl, ?_⟩
                replace HS := Aside0.mk (HS.out.below hb_)
                replace HK := Aside0.mk (HK.out.trans (Keep.below hb_))
                refine hK.out _ _ ⟨(((blk_cell (SL.at_ HS.out) 0).trans rfl)), (((blk_cell (SL.at_ HS.out) 1).trans rfl)), (((blk_cell (SL.at_ HS.out) 2).trans rfl))⟩ (fun hHeld => ?_)
                clear hK K
                refine norm_ (a' := ?_) ?_ ?_; rotate_left
                · show Act.put _ (some 11) _ = _
                  simp only [Act.put, sT, sZ, sS, i64_w, i32_w]
                  rfl
                refine one_ (i := 3) (N := some 12) #[true, true, true, true, false] rfl rfl (by kernel_rfl) (by decide) (fun K hK => ?_)
                refine goes_ Try.func12 (by kernel_rfl) rfl #[.agg #[.int .i64 4, .int .i64 3, .slice Az3000044 y378.length cz3000044], .agg #[.int .i64 t379, .int .i64 t380], .agg #[.int .i64 t381, .int .i64 t382]] (by rfl) rfl rfl (by (try simp only [List.map_toArray, List.map_cons, List.map_nil]); first | done | rfl | (simp; done)) ?_
                have hs0_ := (SL.get1 HS.out)
                obtain ⟨U1_, hfU1_, hsub1_, hs1_, hro1_, hback1_⟩ := SL.lend (HF.out.keep HK.out) hs0_ (p := fun w_ => Kd.C Kd.bool w_ Az3000044 y378.length y378) (fun w_ T_ h_ => (Qs_c h_).2.2)
                (with_reducible refine (sight_Line.slcalls k _ _ _ _ _ _ _ _ _ _ _ _ _ hfU1_ hs1_ hro1_ (SL.row_c (SL.get1 HS.out)).2.1 Hc4.out).mono ?_)
                rintro e_ w29 ⟨Az3000046, cz3000046, rfl, hsr_, hkr_⟩
                refine ⟨_, rfl, ?_⟩
                replace HS := Aside0.mk ((hback1_ _ _ hkr_ hsr_))
                replace HK := Aside0.mk (HK.out.trans (Keep.sub hkr_ (fun k_ h_ => hsub1_ k_ h_)))
                refine hK.out _ _ ⟨(((blk_cell (SL.at_ (SL.get2 HS.out)) 0).trans rfl)), (((blk_cell (SL.at_ (SL.get2 HS.out)) 1).trans rfl)), (((blk_cell (SL.at_ (SL.get2 HS.out)) 2).trans rfl))⟩ (fun hHeld => ?_)
                clear hK K
                refine norm_ (a' := ?_) ?_ ?_; rotate_left
                · show Act.put _ (some 12) _ = _
                  simp only [Act.put, sT, sZ, sS, i64_w, i32_w]
                  rfl
                refine pure_ (i := 4) (N := some 2) (v := ?_) (a' := ?_) #[true, true, true, true, true] rfl rfl (by kernel_rfl) (fun _ _ _ h => h) (Or.inl ⟨by rfl, ?_⟩) ?_ ?_; rotate_left; · (intro w'; go_simp; with_reducible rfl)
                rotate_left; · (simp only [Act.put, sT, sZ, sS, i64_w, i32_w]; rfl)
                refine done_ (by kernel_rfl) ?_
                try go_wp2
                refine start_ (n := 5) (S := fun w' => w'.cell? ⟨g3000045, 0, none⟩ = some (.int .i64 4) ∧ w'.cell? ⟨g3000045, 1, none⟩ = some (.int .i64 3) ∧ w'.cell? ⟨g3000045, 2, none⟩ = some (.slice Az3000044 y378.length cz3000044)) (ds := []) #[false, false, false, false, false] (by kernel_rfl) rfl rfl ⟨(((blk_cell (SL.at_ (SL.get2 HS.out)) 0).trans rfl)), (((blk_cell (SL.at_ (SL.get2 HS.out)) 1).trans rfl)), (((blk_cell (SL.at_ (SL.get2 HS.out)) 2).trans rfl))⟩ (fun hHeld => ?_)
                replace HK := Aside0.mk (Keep.drew HK.out)
                replace HS := Aside0.mk (SL.drew HS.out)
                refine take_ (i := 0) (N := some 13) (v := ?_) (a' := ?_) #[true, false, false, false, false] rfl rfl (by kernel_rfl) (fun _ _ _ h => h) (Or.inl ⟨by rfl, ?_⟩) hHeld ?_ ?_; rotate_left
                · rintro w' ⟨s0, s1, s2⟩
                  go_simp
                  with_reducible rfl
                rotate_left; · (simp only [Act.put, sT, sZ, sS, i64_w, i32_w]; rfl)
                refine one_ (i := 1) (N := some 14) #[true, true, false, false, false] rfl rfl (by kernel_rfl) (by decide) (fun K hK => ?_)
                refine goes_ Try.func22 (by kernel_rfl) rfl #[.int .i64 0, .int .i64 0] (by rfl) rfl rfl (by (try simp only [List.map_toArray, List.map_cons, List.map_nil]); first | done | rfl | (simp; done)) ?_
                (with_reducible refine (barrowlaw07_tile.calls _ _ _ _ _  Hc2.out).mono ?_)
                rintro e_ w30 ⟨rfl, hb_⟩
                refine ⟨_, rfl, ?_⟩
                replace HS := Aside0.mk (HS.out.below hb_)
                replace HK := Aside0.mk (HK.out.trans (Keep.below hb_))
                refine hK.out _ _ ⟨(((blk_cell (SL.at_ (SL.get2 HS.out)) 0).trans rfl)), (((blk_cell (SL.at_ (SL.get2 HS.out)) 1).trans rfl)), (((blk_cell (SL.at_ (SL.get2 HS.out)) 2).trans rfl))⟩ (fun hHeld => ?_)
                clear hK K
                refine norm_ (a' := ?_) ?_ ?_; rotate_left
                · show Act.put _ (some 14) _ = _
                  simp only [Act.put, sT, sZ, sS, i64_w, i32_w]
                  rfl
                refine one_ (i := 2) (N := some 15) #[true, true, true, false, false] rfl rfl (by kernel_rfl) (by decide) (fun K hK => ?_)
                refine goes_ Try.func22 (by kernel_rfl) rfl #[.int .i64 3, .int .i64 1] (by rfl) rfl rfl (by (try simp only [List.map_toArray, List.map_cons, List.map_nil]); first | done | rfl | (simp; done)) ?_
                (with_reducible refine (barrowlaw07_tile.calls _ _ _ _ _  Hc5.out).mono ?_)
                rintro e_ w31 ⟨rfl, hb_⟩
                refine ⟨_, rfl, ?_⟩
                replace HS := Aside0.mk (HS.out.below hb_)
                replace HK := Aside0.mk (HK.out.trans (Keep.below hb_))
                refine hK.out _ _ ⟨(((blk_cell (SL.at_ (SL.get2 HS.out)) 0).trans rfl)), (((blk_cell (SL.at_ (SL.get2 HS.out)) 1).trans rfl)), (((blk_cell (SL.at_ (SL.get2 HS.out)) 2).trans rfl))⟩ (fun hHeld => ?_)
                clear hK K
                refine norm_ (a' := ?_) ?_ ?_; rotate_left
                · show Act.put _ (some 15) _ = _
                  simp only [Act.put, sT, sZ, sS, i64_w, i32_w]
                  rfl
                refine one_ (i := 3) (N := some 16) #[true, true, true, true, false] rfl rfl (by kernel_rfl) (by decide) (fun K hK => ?_)
                refine goes_ Try.func12 (by kernel_rfl) rfl #[.agg #[.int .i64 4, .int .i64 3, .slice Az3000044 y378.length cz3000044], .agg #[.int .i64 t379, .int .i64 t380], .agg #[.int .i64 t386, .int .i64 t387]] (by rfl) rfl rfl (by (try simp only [List.map_toArray, List.map_cons, List.map_nil]); first | done | rfl | (simp; done)) ?_
                have hs0_ := HS.out
                obtain ⟨U1_, hfU1_, hsub1_, hs1_, hro1_, hback1_⟩ := SL.lend (HF.out.keep HK.out) hs0_ (p := fun w_ => Kd.C Kd.bool w_ Az3000044 y378.length y378) (fun w_ T_ h_ => (Qs_c h_).2.2)
                (with_reducible refine (sight_Line.slcalls k _ _ _ _ _ _ _ _ _ _ _ _ _ hfU1_ hs1_ hro1_ (SL.row_c HS.out).2.1 Hc6.out).mono ?_)
                rintro e_ w32 ⟨Az3000047, cz3000047, rfl, hsr_, hkr_⟩
                refine ⟨_, rfl, ?_⟩
                replace HS := Aside0.mk ((hback1_ _ _ hkr_ hsr_))
                replace HK := Aside0.mk (HK.out.trans (Keep.sub hkr_ (fun k_ h_ => hsub1_ k_ h_)))
                refine hK.out _ _ ⟨(((blk_cell (SL.at_ (SL.get3 HS.out)) 0).trans rfl)), (((blk_cell (SL.at_ (SL.get3 HS.out)) 1).trans rfl)), (((blk_cell (SL.at_ (SL.get3 HS.out)) 2).trans rfl))⟩ (fun hHeld => ?_)
                clear hK K
                refine norm_ (a' := ?_) ?_ ?_; rotate_left
                · show Act.put _ (some 16) _ = _
                  simp only [Act.put, sT, sZ, sS, i64_w, i32_w]
                  rfl
                refine pure_ (i := 4) (N := some 3) (v := ?_) (a' := ?_) #[true, true, true, true, true] rfl rfl (by kernel_rfl) (fun _ _ _ h => h) (Or.inl ⟨by rfl, ?_⟩) ?_ ?_; rotate_left; · (intro w'; go_simp; with_reducible rfl)
                rotate_left; · (simp only [Act.put, sT, sZ, sS, i64_w, i32_w]; rfl)
                refine done_ (by kernel_rfl) ?_
                try go_wp2
                refine start_ (n := 5) (S := fun w' => w'.cell? ⟨g3000045, 0, none⟩ = some (.int .i64 4) ∧ w'.cell? ⟨g3000045, 1, none⟩ = some (.int .i64 3) ∧ w'.cell? ⟨g3000045, 2, none⟩ = some (.slice Az3000044 y378.length cz3000044)) (ds := []) #[false, false, false, false, false] (by kernel_rfl) rfl rfl ⟨(((blk_cell (SL.at_ (SL.get3 HS.out)) 0).trans rfl)), (((blk_cell (SL.at_ (SL.get3 HS.out)) 1).trans rfl)), (((blk_cell (SL.at_ (SL.get3 HS.out)) 2).trans rfl))⟩ (fun hHeld => ?_)
                replace HK := Aside0.mk (Keep.drew HK.out)
                replace HS := Aside0.mk (SL.drew HS.out)
                refine take_ (i := 0) (N := some 17) (v := ?_) (a' := ?_) #[true, false, false, false, false] rfl rfl (by kernel_rfl) (fun _ _ _ h => h) (Or.inl ⟨by rfl, ?_⟩) hHeld ?_ ?_; rotate_left
                · rintro w' ⟨s0, s1, s2⟩
                  go_simp
                  with_reducible rfl
                rotate_left; · (simp only [Act.put, sT, sZ, sS, i64_w, i32_w]; rfl)
                refine one_ (i := 1) (N := some 18) #[true, true, false, false, false] rfl rfl (by kernel_rfl) (by decide) (fun K hK => ?_)
                refine goes_ Try.func22 (by kernel_rfl) rfl #[.int .i64 0, .int .i64 0] (by rfl) rfl rfl (by (try simp only [List.map_toArray, List.map_cons, List.map_nil]); first | done | rfl | (simp; done)) ?_
                (with_reducible refine (barrowlaw07_tile.calls _ _ _ _ _  Hc2.out).mono ?_)
                rintro e_ w33 ⟨rfl, hb_⟩
                refine ⟨_, rfl, ?_⟩
                replace HS := Aside0.mk (HS.out.below hb_)
                replace HK := Aside0.mk (HK.out.trans (Keep.below hb_))
                refine hK.out _ _ ⟨(((blk_cell (SL.at_ (SL.get3 HS.out)) 0).trans rfl)), (((blk_cell (SL.at_ (SL.get3 HS.out)) 1).trans rfl)), (((blk_cell (SL.at_ (SL.get3 HS.out)) 2).trans rfl))⟩ (fun hHeld => ?_)
                clear hK K
                refine norm_ (a' := ?_) ?_ ?_; rotate_left
                · show Act.put _ (some 18) _ = _
                  simp only [Act.put, sT, sZ, sS, i64_w, i32_w]
                  rfl
                refine one_ (i := 2) (N := some 19) #[true, true, true, false, false] rfl rfl (by kernel_rfl) (by decide) (fun K hK => ?_)
                refine goes_ Try.func22 (by kernel_rfl) rfl #[.int .i64 3, .int .i64 1] (by rfl) rfl rfl (by (try simp only [List.map_toArray, List.map_cons, List.map_nil]); first | done | rfl | (simp; done)) ?_
                (with_reducible refine (barrowlaw07_tile.calls _ _ _ _ _  Hc5.out).mono ?_)
                rintro e_ w34 ⟨rfl, hb_⟩
                refine ⟨_, rfl, ?_⟩
                replace HS := Aside0.mk (HS.out.below hb_)
                replace HK := Aside0.mk (HK.out.trans (Keep.below hb_))
                refine hK.out _ _ ⟨(((blk_cell (SL.at_ (SL.get3 HS.out)) 0).trans rfl)), (((blk_cell (SL.at_ (SL.get3 HS.out)) 1).trans rfl)), (((blk_cell (SL.at_ (SL.get3 HS.out)) 2).trans rfl))⟩ (fun hHeld => ?_)
                clear hK K
                refine norm_ (a' := ?_) ?_ ?_; rotate_left
                · show Act.put _ (some 19) _ = _
                  simp only [Act.put, sT, sZ, sS, i64_w, i32_w]
                  rfl
                refine one_ (i := 3) (N := some 20) #[true, true, true, true, false] rfl rfl (by kernel_rfl) (by decide) (fun K hK => ?_)
                refine goes_ Try.func14 (by kernel_rfl) rfl #[.agg #[.int .i64 4, .int .i64 3, .slice Az3000044 y378.length cz3000044], .agg #[.int .i64 t379, .int .i64 t380], .agg #[.int .i64 t386, .int .i64 t387]] (by rfl) rfl rfl (by (try simp only [List.map_toArray, List.map_cons, List.map_nil]); first | done | rfl | (simp; done)) ?_
                (with_reducible refine (sight_Sees.calls k _ _ _ _ _ _ _ _ _ _ _ (SL.row_c HS.out).2.2 (SL.row_c HS.out).2.1 Hc7.out).mono ?_)
                rintro e_ w35 ⟨rfl, hb_⟩
                refine ⟨_, rfl, ?_⟩
                replace HS := Aside0.mk (HS.out.below hb_)
                replace HK := Aside0.mk (HK.out.trans (Keep.below hb_))
                refine hK.out _ _ ⟨(((blk_cell (SL.at_ (SL.get3 HS.out)) 0).trans rfl)), (((blk_cell (SL.at_ (SL.get3 HS.out)) 1).trans rfl)), (((blk_cell (SL.at_ (SL.get3 HS.out)) 2).trans rfl))⟩ (fun hHeld => ?_)
                clear hK K
                refine norm_ (a' := ?_) ?_ ?_; rotate_left
                · show Act.put _ (some 20) _ = _
                  simp only [Act.put, sT, sZ, sS, i64_w, i32_w]
                  rfl
                refine pure_ (i := 4) (N := some 4) (v := ?_) (a' := ?_) #[true, true, true, true, true] rfl rfl (by kernel_rfl) (fun _ _ _ h => h) (Or.inl ⟨by rfl, ?_⟩) ?_ ?_; rotate_left; · (intro w'; go_simp; with_reducible rfl)
                rotate_left; · (simp only [Act.put, sT, sZ, sS, i64_w, i32_w]; rfl)
                refine done_ (by kernel_rfl) ?_
                have hb_ := SL.at_ (SL.get3 HS.out)
                have hz3000045_0_15 := ((blk_cell hb_ 0).trans rfl : _ = some (.int .i64 4))
                have hz3000045_1_15 := ((blk_cell hb_ 1).trans rfl : _ = some (.int .i64 3))
                have hz3000045_2_15 := ((blk_cell hb_ 2).trans rfl : _ = some (.slice Az3000044 y378.length cz3000044))
                clear hb_
                have pq394 : 0 ≤ (1 : Int) := (by omega)
                have qq394 : 1 < ((y378.length : Int) : Int) := of_decide_eq_true (by first | (with_reducible assumption) | assumption)
                obtain ⟨adq394, eq394, hxq394_0⟩ := Kd.at_bool (SL.row_c HS.out).2.2 1 pq394 qq394
                cases eq394
                (try rw [show ((1 : Int)).toNat = 1 from rfl] at hxq394_0)
                (try simp only [show (1 : Int).toNat = 1 from rfl, Nat.reduceMul, Nat.reduceEqDiff, Go.Addr.add, ↓reduceIte] at hxq394_0)
                have qiq394 : (1 < y378.length) = True := eq_true (by omega)
                replace pq394 := eq_true pq394
                replace qq394 := eq_true qq394
                try go_wp2_with (first | ((with_reducible refine gate_store (t := 4) (p := 23) (v := (.const (.bool true))) rfl ?_); refine wpList_plain rfl (fun K_ hK_ => ?_); refine op_set (S := S) (enc := Value.bool) (h1 := fun _ => rfl) 4 (.tmp 23) (.const (.bool true)) rfl adq394 (1) true HS.out (by rfl) rfl (by kernel_rfl) (by omega) (of_decide_eq_true (by first | (with_reducible assumption) | assumption)) y395 Ny395.out ?_; intro w36 hs_ hk_; refine hK_ _ _ ?_; clear hK_ K_; replace HS := Aside0.mk ((show SL (row Kd.bool 4 (.slice (some adq394) y378.length cz3000044) y395 :: _) _ _ from hs_)); replace HK := Aside0.mk (HK.out.trans hk_); (try clear hz3000045_0_15 hz3000045_1_15 hz3000045_2_15)))
                refine start_ (n := 10) (S := fun w' => w'.cell? ⟨g3000045, 0, none⟩ = some (.int .i64 4) ∧ w'.cell? ⟨g3000045, 1, none⟩ = some (.int .i64 3) ∧ w'.cell? ⟨g3000045, 2, none⟩ = some (.slice (some adq394) y378.length cz3000044)) (ds := []) #[false, false, false, false, false, false, false, false, false, false] (by kernel_rfl) rfl rfl ⟨(((blk_cell (SL.at_ (SL.get3 HS.out)) 0).trans rfl)), (((blk_cell (SL.at_ (SL.get3 HS.out)) 1).trans rfl)), (((blk_cell (SL.at_ (SL.get3 HS.out)) 2).trans rfl))⟩ (fun hHeld => ?_); refine with_tabW barrowlaw07_small.tab6 barrowlaw07_small.bits6 (fun HT_ HW_ => ?_)
                replace HK := Aside0.mk (Keep.drew HK.out)
                replace HS := Aside0.mk (SL.drew HS.out)
                refine take_ (i := 0) (N := some 25) (v := ?_) (a' := ?_) #[true, false, false, false, false, false, false, false, false, false] rfl rfl (take_ofW HT_.out HW_.out (by kernel_rfl)) (fun _ _ _ h => h) (Or.inl ⟨by rfl, ?_⟩) hHeld ?_ ?_; rotate_left
                · rintro w' ⟨s0, s1, s2⟩
                  go_simp
                  with_reducible rfl
                rotate_left; · (simp only [Act.put, sT, sZ, sS, i64_w, i32_w]; rfl)
                refine join_ (σ := Nat) 2 #[true, true, true, true, true, true, true, true, false, false] (fun s_ => [(26, .agg #[.int .i64 t379, .int .i64 t380]), (27, .agg #[.int .i64 t386, .int .i64 t387]), (28, .tuple #[.agg #[.int .i64 t400, .int .i64 t401], .bool true]), (24, .tuple #[.agg #[.int .i64 t400, .int .i64 t401], .bool true]), (29, .agg #[.int .i64 t400, .int .i64 t401]), (30, .bool true), (5, .pointer (some ⟨s_, 0, none⟩))]) (fun s_ w_ => Keep S w w_ ∧ SL (cells s_ 26 [.int .i64 0, .int .i64 0].toArray :: row Kd.bool 4 (.slice (some adq394) y378.length cz3000044) y395 :: row k26 26 (.slice Az3000047 t388.length cz3000047) t388 :: row k26 26 (.slice Az3000046 t383.length cz3000046) t383 :: cells g3000045 24 [.int .i64 4, .int .i64 3, .slice (some adq394) y378.length cz3000044].toArray :: L) w_ S) ?_ ?_; rotate_left
                · intro hCont
                  refine two_ (i := 1) (j := 7) (Ni := some 26) (Nj := some 5) #[true, true, false, false, false, false, false, false, false, false] #[true, false, false, false, false, false, false, true, false, false] rfl rfl rfl rfl (two_of HT_.out (by kernel_rfl)) (by decide) (by decide) (fun K hK => ?_) (fun K hK => ?_)
                  · skip
                    refine goes_ Try.func22 (by kernel_rfl) rfl #[.int .i64 0, .int .i64 0] (by rfl) rfl rfl (by (try simp only [List.map_toArray, List.map_cons, List.map_nil]); first | done | rfl | (simp; done)) ?_
                    (with_reducible refine (barrowlaw07_tile.calls _ _ _ _ _  Hc2.out).mono ?_)
                    rintro e_ w64 ⟨rfl, hb_⟩
                    refine ⟨_, rfl, ?_⟩
                    replace HS := Aside0.mk (HS.out.below hb_)
                    replace HK := Aside0.mk (HK.out.trans (Keep.below hb_))
                    refine hK.out _ _ ⟨(((blk_cell (SL.at_ (SL.get3 HS.out)) 0).trans rfl)), (((blk_cell (SL.at_ (SL.get3 HS.out)) 1).trans rfl)), (((blk_cell (SL.at_ (SL.get3 HS.out)) 2).trans rfl))⟩ (fun hHeld => ?_)
                    clear hK K
                    refine norm_ (a' := ?_) ?_ ?_; rotate_left
                    · show Act.put _ (some 26) _ = _
                      simp only [Act.put, sT, sZ, sS, i64_w, i32_w]
                      rfl
                    refine two_ (i := 2) (j := 7) (Ni := some 27) (Nj := some 5) #[true, true, true, false, false, false, false, false, false, false] #[true, true, false, false, false, false, false, true, false, false] rfl rfl rfl rfl (two_of HT_.out (by kernel_rfl)) (by decide) (by decide) (fun K hK => ?_) (fun K hK => ?_)
                    · skip
                      refine goes_ Try.func22 (by kernel_rfl) rfl #[.int .i64 3, .int .i64 1] (by rfl) rfl rfl (by (try simp only [List.map_toArray, List.map_cons, List.map_nil]); first | done | rfl | (simp; done)) ?_
                      (with_reducible refine (barrowlaw07_tile.calls _ _ _ _ _  Hc5.out).mono ?_)
                      rintro e_ w65 ⟨rfl, hb_⟩
                      refine ⟨_, rfl, ?_⟩
                      replace HS := Aside0.mk (HS.out.below hb_)
                      replace HK := Aside0.mk (HK.out.trans (Keep.below hb_))
                      refine hK.out _ _ ⟨(((blk_cell (SL.at_ (SL.get3 HS.out)) 0).trans rfl)), (((blk_cell (SL.at_ (SL.get3 HS.out)) 1).trans rfl)), (((blk_cell (SL.at_ (SL.get3 HS.out)) 2).trans rfl))⟩ (fun hHeld => ?_)
                      clear hK K
                      refine norm_ (a' := ?_) ?_ ?_; rotate_left
                      · show Act.put _ (some 27) _ = _
                        simp only [Act.put, sT, sZ, sS, i64_w, i32_w]
                        rfl
                      refine two_ (i := 3) (j := 7) (Ni := some 28) (Nj := some 5) #[true, true, true, true, false, false, false, false, false, false] #[true, true, true, false, false, false, false, true, false, false] rfl rfl rfl rfl (two_of HT_.out (by kernel_rfl)) (by decide) (by decide) (fun K hK => ?_) (fun K hK => ?_)
                      · skip
                        refine goes_ Try.func9 (by kernel_rfl) rfl #[.agg #[.int .i64 4, .int .i64 3, .slice (some adq394) y378.length cz3000044], .agg #[.int .i64 t379, .int .i64 t380], .agg #[.int .i64 t386, .int .i64 t387]] (by rfl) rfl rfl (by (try simp only [List.map_toArray, List.map_cons, List.map_nil]); first | done | rfl | (simp; done)) ?_
                        have el3000044_ := Aside0.mk (SL.row_c HS.out).1
                        refine calls_of_args (args' := #[.agg #[.int .i64 4, .int .i64 3, .slice (some adq394) y395.length cz3000044], .agg #[.int .i64 t379, .int .i64 t380], .agg #[.int .i64 t386, .int .i64 t387]]) (by rw [← el3000044_.out]) ?_
                        (with_reducible refine (sight_First.calls k _ _ _ _ _ _ _ _ _ _ _ _ _ (by have e_ := (SL.row_c HS.out).1; have h_ := (SL.row_c HS.out).2.2; rw [e_] at h_; exact h_) (by have e_ := (SL.row_c HS.out).1; have h_ := (SL.row_c HS.out).2.1; (try dsimp only at e_ h_); (try dsimp only); omega) Hc9.out).mono ?_)
                        rintro e_ w66 ⟨rfl, hb_⟩
                        refine ⟨_, rfl, ?_⟩
                        replace HS := Aside0.mk (HS.out.below hb_)
                        replace HK := Aside0.mk (HK.out.trans (Keep.below hb_))
                        refine hK.out _ _ ⟨(((blk_cell (SL.at_ (SL.get3 HS.out)) 0).trans rfl)), (((blk_cell (SL.at_ (SL.get3 HS.out)) 1).trans rfl)), (((blk_cell (SL.at_ (SL.get3 HS.out)) 2).trans rfl))⟩ (fun hHeld => ?_)
                        clear hK K
                        refine norm_ (a' := ?_) ?_ ?_; rotate_left
                        · show Act.put _ (some 28) _ = _
                          simp only [Act.put, sT, sZ, sS, i64_w, i32_w]
                          rfl
                        refine pure_ (i := 4) (N := some 24) (v := ?_) (a' := ?_) #[true, true, true, true, true, false, false, false, false, false] rfl rfl (any_of HT_.out (by kernel_rfl)) (fun _ _ _ h => h) (Or.inl ⟨by rfl, ?_⟩) ?_ ?_; rotate_left; · (intro w'; go_simp; with_reducible rfl)
                        rotate_left; · (simp only [Act.put, sT, sZ, sS, i64_w, i32_w]; rfl)
                        refine pure_ (i := 5) (N := some 29) (v := ?_) (a' := ?_) #[true, true, true, true, true, true, false, false, false, false] rfl rfl (any_of HT_.out (by kernel_rfl)) (fun _ _ _ h => h) (Or.inl ⟨by rfl, ?_⟩) ?_ ?_; rotate_left; · (intro w'; go_simp; with_reducible rfl)
                        rotate_left; · (simp only [Act.put, sT, sZ, sS, i64_w, i32_w]; rfl)
                        refine pure_ (i := 6) (N := some 30) (v := ?_) (a' := ?_) #[true, true, true, true, true, true, true, false, false, false] rfl rfl (any_of HT_.out (by kernel_rfl)) (fun _ _ _ h => h) (Or.inl ⟨by rfl, ?_⟩) ?_ ?_; rotate_left; · (intro w'; go_simp; with_reducible rfl)
                        rotate_left; · (simp only [Act.put, sT, sZ, sS, i64_w, i32_w]; rfl)
                        refine one_ (i := 7) (N := some 5) #[true, true, true, true, true, true, true, true, false, false] rfl rfl (one_of HT_.out (by kernel_rfl)) (by decide) (fun K hK => ?_)
                        refine st_of (by rfl) ?_
                        refine op_box (S := S) (cs := #[.int .i64 0, .int .i64 0]) (t := 26) (HF.out.keep HK.out) HS.out (by first | (go_simp; done) | (go_simp; rfl)) ?_
                        intro g3000048 w67 hs_ hk_
                        replace HS := Aside0.mk (hs_)
                        replace HK := Aside0.mk (HK.out.trans hk_)
                        refine hK.out _ _ ⟨(((blk_cell (SL.at_ (SL.get4 HS.out)) 0).trans rfl)), (((blk_cell (SL.at_ (SL.get4 HS.out)) 1).trans rfl)), (((blk_cell (SL.at_ (SL.get4 HS.out)) 2).trans rfl))⟩ (fun hHeld => ?_)
                        clear hK K
                        refine norm_ (a' := ?_) ?_ ?_; rotate_left
                        · show Act.put _ (some 5) _ = _
                          simp only [Act.put, sT, sZ, sS, i64_w, i32_w]
                          rfl
                        exact norm_ (by simp only [putAll, Act.put, sT, sZ, sS]) (hCont g3000048 _ ⟨HK.out, HS.out⟩)
                      · skip
                        refine st_of (by rfl) ?_
                        refine op_box (S := S) (cs := #[.int .i64 0, .int .i64 0]) (t := 26) (HF.out.keep HK.out) HS.out (by first | (go_simp; done) | (go_simp; rfl)) ?_
                        intro g3000048 w68 hs_ hk_
                        replace HS := Aside0.mk (hs_)
                        replace HK := Aside0.mk (HK.out.trans hk_)
                        refine hK.out _ _ ⟨(((blk_cell (SL.at_ (SL.get4 HS.out)) 0).trans rfl)), (((blk_cell (SL.at_ (SL.get4 HS.out)) 1).trans rfl)), (((blk_cell (SL.at_ (SL.get4 HS.out)) 2).trans rfl))⟩ (fun hHeld => ?_)
                        clear hK K
                        refine norm_ (a' := ?_) ?_ ?_; rotate_left
                        · show Act.put _ (some 5) _ = _
                          simp only [Act.put, sT, sZ, sS, i64_w, i32_w]
                          rfl
                        refine one_ (i := 3) (N := some 28) #[true, true, true, true, false, false, false, true, false, false] rfl rfl (one_of HT_.out (by kernel_rfl)) (by decide) (fun K hK => ?_)
                        replace HS := Aside0.mk (SL.get4 (SL.get4 (SL.get4 (SL.get4 HS.out))))
                        refine goes_ Try.func9 (by kernel_rfl) rfl #[.agg #[.int .i64 4, .int .i64 3, .slice (some adq394) y378.length cz3000044], .agg #[.int .i64 t379, .int .i64 t380], .agg #[.int .i64 t386, .int .i64 t387]] (by rfl) rfl rfl (by (try simp only [List.map_toArray, List.map_cons, List.map_nil]); first | done | rfl | (simp; done)) ?_
                        have el3000044_ := Aside0.mk (SL.row_c HS.out).1
                        refine calls_of_args (args' := #[.agg #[.int .i64 4, .int .i64 3, .slice (some adq394) y395.length cz3000044], .agg #[.int .i64 t379, .int .i64 t380], .agg #[.int .i64 t386, .int .i64 t387]]) (by rw [← el3000044_.out]) ?_
                        (with_reducible refine (sight_First.calls k _ _ _ _ _ _ _ _ _ _ _ _ _ (by have e_ := (SL.row_c HS.out).1; have h_ := (SL.row_c HS.out).2.2; rw [e_] at h_; exact h_) (by have e_ := (SL.row_c HS.out).1; have h_ := (SL.row_c HS.out).2.1; (try dsimp only at e_ h_); (try dsimp only); omega) Hc9.out).mono ?_)
                        rintro e_ w69 ⟨rfl, hb_⟩
                        refine ⟨_, rfl, ?_⟩
                        replace HS := Aside0.mk (HS.out.below hb_)
                        replace HK := Aside0.mk (HK.out.trans (Keep.below hb_))
                        refine hK.out _ _ ⟨(((blk_cell (SL.at_ (SL.get3 HS.out)) 0).trans rfl)), (((blk_cell (SL.at_ (SL.get3 HS.out)) 1).trans rfl)), (((blk_cell (SL.at_ (SL.get3 HS.out)) 2).trans rfl))⟩ (fun hHeld => ?_)
                        clear hK K
                        refine norm_ (a' := ?_) ?_ ?_; rotate_left
                        · show Act.put _ (some 28) _ = _
                          simp only [Act.put, sT, sZ, sS, i64_w, i32_w]
                          rfl
                        refine pure_ (i := 4) (N := some 24) (v := ?_) (a' := ?_) #[true, true, true, true, true, false, false, true, false, false] rfl rfl (any_of HT_.out (by kernel_rfl)) (fun _ _ _ h => h) (Or.inl ⟨by rfl, ?_⟩) ?_ ?_; rotate_left; · (intro w'; go_simp; with_reducible rfl)
                        rotate_left; · (simp only [Act.put, sT, sZ, sS, i64_w, i32_w]; rfl)
                        refine pure_ (i := 5) (N := some 29) (v := ?_) (a' := ?_) #[true, true, true, true, true, true, false, true, false, false] rfl rfl (any_of HT_.out (by kernel_rfl)) (fun _ _ _ h => h) (Or.inl ⟨by rfl, ?_⟩) ?_ ?_; rotate_left; · (intro w'; go_simp; with_reducible rfl)
                        rotate_left; · (simp only [Act.put, sT, sZ, sS, i64_w, i32_w]; rfl)
                        refine pure_ (i := 6) (N := some 30) (v := ?_) (a' := ?_) #[true, true, true, true, true, true, true, true, false, false] rfl rfl (any_of HT_.out (by kernel_rfl)) (fun _ _ _ h => h) (Or.inl ⟨by rfl, ?_⟩) ?_ ?_; rotate_left; · (intro w'; go_simp; with_reducible rfl)
                        rotate_left; · (simp only [Act.put, sT, sZ, sS, i64_w, i32_w]; rfl)
                        exact norm_ (by simp only [putAll, Act.put, sT, sZ, sS]) (hCont g3000048 _ ⟨HK.out, (SL.get4 (SL.get3 (SL.get3 (SL.get3 (SL.get3 HS.out)))))⟩)
                    · skip
                      refine st_of (by rfl) ?_
                      refine op_box (S := S) (cs := #[.int .i64 0, .int .i64 0]) (t := 26) (HF.out.keep HK.out) HS.out (by first | (go_simp; done) | (go_simp; rfl)) ?_
                      intro g3000048 w70 hs_ hk_
                      replace HS := Aside0.mk (hs_)
                      replace HK := Aside0.mk (HK.out.trans hk_)
                      refine hK.out _ _ ⟨(((blk_cell (SL.at_ (SL.get4 HS.out)) 0).trans rfl)), (((blk_cell (SL.at_ (SL.get4 HS.out)) 1).trans rfl)), (((blk_cell (SL.at_ (SL.get4 HS.out)) 2).trans rfl))⟩ (fun hHeld => ?_)
                      clear hK K
                      refine norm_ (a' := ?_) ?_ ?_; rotate_left
                      · show Act.put _ (some 5) _ = _
                        simp only [Act.put, sT, sZ, sS, i64_w, i32_w]
                        rfl
                      refine one_ (i := 2) (N := some 27) #[true, true, true, false, false, false, false, true, false, false] rfl rfl (one_of HT_.out (by kernel_rfl)) (by decide) (fun K hK => ?_)
                      replace HS := Aside0.mk (SL.get4 (SL.get4 (SL.get4 (SL.get4 HS.out))))
                      refine goes_ Try.func22 (by kernel_rfl) rfl #[.int .i64 3, .int .i64 1] (by rfl) rfl rfl (by (try simp only [List.map_toArray, List.map_cons, List.map_nil]); first | done | rfl | (simp; done)) ?_
                      (with_reducible refine (barrowlaw07_tile.calls _ _ _ _ _  Hc5.out).mono ?_)
                      rintro e_ w71 ⟨rfl, hb_⟩
                      refine ⟨_, rfl, ?_⟩
                      replace HS := Aside0.mk (HS.out.below hb_)
                      replace HK := Aside0.mk (HK.out.trans (Keep.below hb_))
                      refine hK.out _ _ ⟨(((blk_cell (SL.at_ (SL.get3 HS.out)) 0).trans rfl)), (((blk_cell (SL.at_ (SL.get3 HS.out)) 1).trans rfl)), (((blk_cell (SL.at_ (SL.get3 HS.out)) 2).trans rfl))⟩ (fun hHeld => ?_)
                      clear hK K
                      refine norm_ (a' := ?_) ?_ ?_; rotate_left
                      · show Act.put _ (some 27) _ = _
                        simp only [Act.put, sT, sZ, sS, i64_w, i32_w]
                        rfl
                      refine one_ (i := 3) (N := some 28) #[true, true, true, true, false, false, false, true, false, false] rfl rfl (one_of HT_.out (by kernel_rfl)) (by decide) (fun K hK => ?_)
                      refine goes_ Try.func9 (by kernel_rfl) rfl #[.agg #[.int .i64 4, .int .i64 3, .slice (some adq394) y378.length cz3000044], .agg #[.int .i64 t379, .int .i64 t380], .agg #[.int .i64 t386, .int .i64 t387]] (by rfl) rfl rfl (by (try simp only [List.map_toArray, List.map_cons, List.map_nil]); first | done | rfl | (simp; done)) ?_
                      have el3000044_ := Aside0.mk (SL.row_c HS.out).1
                      refine calls_of_args (args' := #[.agg #[.int .i64 4, .int .i64 3, .slice (some adq394) y395.length cz3000044], .agg #[.int .i64 t379, .int .i64 t380], .agg #[.int .i64 t386, .int .i64 t387]]) (by rw [← el3000044_.out]) ?_
                      (with_reducible refine (sight_First.calls k _ _ _ _ _ _ _ _ _ _ _ _ _ (by have e_ := (SL.row_c HS.out).1; have h_ := (SL.row_c HS.out).2.2; rw [e_] at h_; exact h_) (by have e_ := (SL.row_c HS.out).1; have h_ := (SL.row_c HS.out).2.1; (try dsimp only at e_ h_); (try dsimp only); omega) Hc9.out).mono ?_)
                      rintro e_ w72 ⟨rfl, hb_⟩
                      refine ⟨_, rfl, ?_⟩
                      replace HS := Aside0.mk (HS.out.below hb_)
                      replace HK := Aside0.mk (HK.out.trans (Keep.below hb_))
                      refine hK.out _ _ ⟨(((blk_cell (SL.at_ (SL.get3 HS.out)) 0).trans rfl)), (((blk_cell (SL.at_ (SL.get3 HS.out)) 1).trans rfl)), (((blk_cell (SL.at_ (SL.get3 HS.out)) 2).trans rfl))⟩ (fun hHeld => ?_)
                      clear hK K
                      refine norm_ (a' := ?_) ?_ ?_; rotate_left
                      · show Act.put _ (some 28) _ = _
                        simp only [Act.put, sT, sZ, sS, i64_w, i32_w]
                        rfl
                      refine pure_ (i := 4) (N := some 24) (v := ?_) (a' := ?_) #[true, true, true, true, true, false, false, true, false, false] rfl rfl (any_of HT_.out (by kernel_rfl)) (fun _ _ _ h => h) (Or.inl ⟨by rfl, ?_⟩) ?_ ?_; rotate_left; · (intro w'; go_simp; with_reducible rfl)
                      rotate_left; · (simp only [Act.put, sT, sZ, sS, i64_w, i32_w]; rfl)
                      refine pure_ (i := 5) (N := some 29) (v := ?_) (a' := ?_) #[true, true, true, true, true, true, false, true, false, false] rfl rfl (any_of HT_.out (by kernel_rfl)) (fun _ _ _ h => h) (Or.inl ⟨by rfl, ?_⟩) ?_ ?_; rotate_left; · (intro w'; go_simp; with_reducible rfl)
                      rotate_left; · (simp only [Act.put, sT, sZ, sS, i64_w, i32_w]; rfl)
                      refine pure_ (i := 6) (N := some 30) (v := ?_) (a' := ?_) #[true, true, true, true, true, true, true, true, false, false] rfl rfl (any_of HT_.out (by kernel_rfl)) (fun _ _ _ h => h) (Or.inl ⟨by rfl, ?_⟩) ?_ ?_; rotate_left; · (intro w'; go_simp; with_reducible rfl)
                      rotate_left; · (simp only [Act.put, sT, sZ, sS, i64_w, i32_w]; rfl)
                      exact norm_ (by simp only [putAll, Act.put, sT, sZ, sS]) (hCont g3000048 _ ⟨HK.out, (SL.get4 (SL.get3 (SL.get3 (SL.get3 (SL.get3 HS.out)))))⟩)
                  · skip
                    refine st_of (by rfl) ?_
                    refine op_box (S := S) (cs := #[.int .i64 0, .int .i64 0]) (t := 26) (HF.out.keep HK.out) HS.out (by first | (go_simp; done) | (go_simp; rfl)) ?_
                    intro g3000048 w73 hs_ hk_
                    replace HS := Aside0.mk (hs_)
                    replace HK := Aside0.mk (HK.out.trans hk_)
                    refine hK.out _ _ ⟨(((blk_cell (SL.at_ (SL.get4 HS.out)) 0).trans rfl)), (((blk_cell (SL.at_ (SL.get4 HS.out)) 1).trans rfl)), (((blk_cell (SL.at_ (SL.get4 HS.out)) 2).trans rfl))⟩ (fun hHeld => ?_)
                    clear hK K
                    refine norm_ (a' := ?_) ?_ ?_; rotate_left
                    · show Act.put _ (some 5) _ = _
                      simp only [Act.put, sT, sZ, sS, i64_w, i32_w]
                      rfl
                    refine one_ (i := 1) (N := some 26) #[true, true, false, false, false, false, false, true, false, false] rfl rfl (one_of HT_.out (by kernel_rfl)) (by decide) (fun K hK => ?_)
                    replace HS := Aside0.mk (SL.get4 (SL.get4 (SL.get4 (SL.get4 HS.out))))
                    refine goes_ Try.func22 (by kernel_rfl) rfl #[.int .i64 0, .int .i64 0] (by rfl) rfl rfl (by (try simp only [List.map_toArray, List.map_cons, List.map_nil]); first | done | rfl | (simp; done)) ?_
                    (with_reducible refine (barrowlaw07_tile.calls _ _ _ _ _  Hc2.out).mono ?_)
                    rintro e_ w74 ⟨rfl, hb_⟩
                    refine ⟨_, rfl, ?_⟩
                    replace HS := Aside0.mk (HS.out.below hb_)
                    replace HK := Aside0.mk (HK.out.trans (Keep.below hb_))
                    refine hK.out _ _ ⟨(((blk_cell (SL.at_ (SL.get3 HS.out)) 0).trans rfl)), (((blk_cell (SL.at_ (SL.get3 HS.out)) 1).trans rfl)), (((blk_cell (SL.at_ (SL.get3 HS.out)) 2).trans rfl))⟩ (fun hHeld => ?_)
                    clear hK K
                    refine norm_ (a' := ?_) ?_ ?_; rotate_left
                    · show Act.put _ (some 26) _ = _
                      simp only [Act.put, sT, sZ, sS, i64_w, i32_w]
                      rfl
                    refine one_ (i := 2) (N := some 27) #[true, true, true, false, false, false, false, true, false, false] rfl rfl (one_of HT_.out (by kernel_rfl)) (by decide) (fun K hK => ?_)
                    refine goes_ Try.func22 (by kernel_rfl) rfl #[.int .i64 3, .int .i64 1] (by rfl) rfl rfl (by (try simp only [List.map_toArray, List.map_cons, List.map_nil]); first | done | rfl | (simp; done)) ?_
                    (with_reducible refine (barrowlaw07_tile.calls _ _ _ _ _  Hc5.out).mono ?_)
                    rintro e_ w75 ⟨rfl, hb_⟩
                    refine ⟨_, rfl, ?_⟩
                    replace HS := Aside0.mk (HS.out.below hb_)
                    replace HK := Aside0.mk (HK.out.trans (Keep.below hb_))
                    refine hK.out _ _ ⟨(((blk_cell (SL.at_ (SL.get3 HS.out)) 0).trans rfl)), (((blk_cell (SL.at_ (SL.get3 HS.out)) 1).trans rfl)), (((blk_cell (SL.at_ (SL.get3 HS.out)) 2).trans rfl))⟩ (fun hHeld => ?_)
                    clear hK K
                    refine norm_ (a' := ?_) ?_ ?_; rotate_left
                    · show Act.put _ (some 27) _ = _
                      simp only [Act.put, sT, sZ, sS, i64_w, i32_w]
                      rfl
                    refine one_ (i := 3) (N := some 28) #[true, true, true, true, false, false, false, true, false, false] rfl rfl (one_of HT_.out (by kernel_rfl)) (by decide) (fun K hK => ?_)
                    refine goes_ Try.func9 (by kernel_rfl) rfl #[.agg #[.int .i64 4, .int .i64 3, .slice (some adq394) y378.length cz3000044], .agg #[.int .i64 t379, .int .i64 t380], .agg #[.int .i64 t386, .int .i64 t387]] (by rfl) rfl rfl (by (try simp only [List.map_toArray, List.map_cons, List.map_nil]); first | done | rfl | (simp; done)) ?_
                    have el3000044_ := Aside0.mk (SL.row_c HS.out).1
                    refine calls_of_args (args' := #[.agg #[.int .i64 4, .int .i64 3, .slice (some adq394) y395.length cz3000044], .agg #[.int .i64 t379, .int .i64 t380], .agg #[.int .i64 t386, .int .i64 t387]]) (by rw [← el3000044_.out]) ?_
                    (with_reducible refine (sight_First.calls k _ _ _ _ _ _ _ _ _ _ _ _ _ (by have e_ := (SL.row_c HS.out).1; have h_ := (SL.row_c HS.out).2.2; rw [e_] at h_; exact h_) (by have e_ := (SL.row_c HS.out).1; have h_ := (SL.row_c HS.out).2.1; (try dsimp only at e_ h_); (try dsimp only); omega) Hc9.out).mono ?_)
                    rintro e_ w76 ⟨rfl, hb_⟩
                    refine ⟨_, rfl, ?_⟩
                    replace HS := Aside0.mk (HS.out.below hb_)
                    replace HK := Aside0.mk (HK.out.trans (Keep.below hb_))
                    refine hK.out _ _ ⟨(((blk_cell (SL.at_ (SL.get3 HS.out)) 0).trans rfl)), (((blk_cell (SL.at_ (SL.get3 HS.out)) 1).trans rfl)), (((blk_cell (SL.at_ (SL.get3 HS.out)) 2).trans rfl))⟩ (fun hHeld => ?_)
                    clear hK K
                    refine norm_ (a' := ?_) ?_ ?_; rotate_left
                    · show Act.put _ (some 28) _ = _
                      simp only [Act.put, sT, sZ, sS, i64_w, i32_w]
                      rfl
                    refine pure_ (i := 4) (N := some 24) (v := ?_) (a' := ?_) #[true, true, true, true, true, false, false, true, false, false] rfl rfl (any_of HT_.out (by kernel_rfl)) (fun _ _ _ h => h) (Or.inl ⟨by rfl, ?_⟩) ?_ ?_; rotate_left; · (intro w'; go_simp; with_reducible rfl)
                    rotate_left; · (simp only [Act.put, sT, sZ, sS, i64_w, i32_w]; rfl)
                    refine pure_ (i := 5) (N := some 29) (v := ?_) (a' := ?_) #[true, true, true, true, true, true, false, true, false, false] rfl rfl (any_of HT_.out (by kernel_rfl)) (fun _ _ _ h => h) (Or.inl ⟨by rfl, ?_⟩) ?_ ?_; rotate_left; · (intro w'; go_simp; with_reducible rfl)
                    rotate_left; · (simp only [Act.put, sT, sZ, sS, i64_w, i32_w]; rfl)
                    refine pure_ (i := 6) (N := some 30) (v := ?_) (a' := ?_) #[true, true, true, true, true, true, true, true, false, false] rfl rfl (any_of HT_.out (by kernel_rfl)) (fun _ _ _ h => h) (Or.inl ⟨by rfl, ?_⟩) ?_ ?_; rotate_left; · (intro w'; go_simp; with_reducible rfl)
                    rotate_left; · (simp only [Act.put, sT, sZ, sS, i64_w, i32_w]; rfl)
                    exact norm_ (by simp only [putAll, Act.put, sT, sZ, sS]) (hCont g3000048 _ ⟨HK.out, (SL.get4 (SL.get3 (SL.get3 (SL.get3 (SL.get3 HS.out)))))⟩)
                rintro g3000048 w63 ⟨hk_, hs_⟩
                clear HK HS
                have HK := Aside0.mk hk_
                have HS := Aside0.mk hs_
                clear hk_ hs_
                have hHeld := (⟨(((blk_cell (SL.at_ (SL.get4 HS.out)) 0).trans rfl)), (((blk_cell (SL.at_ (SL.get4 HS.out)) 1).trans rfl)), (((blk_cell (SL.at_ (SL.get4 HS.out)) 2).trans rfl))⟩ : w63.cell? ⟨g3000045, 0, none⟩ = some (.int .i64 4) ∧ w63.cell? ⟨g3000045, 1, none⟩ = some (.int .i64 3) ∧ w63.cell? ⟨g3000045, 2, none⟩ = some (.slice (some adq394) y378.length cz3000044))
                refine norm_ (a' := ?_) ?_ ?_; rotate_left; · (simp only [putAll, Act.put, sT, sZ, sS]; rfl)
                refine one_ (i := 8) (N := none) #[true, true, true, true, true, true, true, true, true, false] rfl rfl (one_of HT_.out (by kernel_rfl)) (by decide) (fun K hK => ?_)
                refine st_of (by rfl) ?_
                refine op_store (S := S) 26 (.tmp 5) (.tmp 29) rfl g3000048 0 (.agg #[.int .i64 t400, .int .i64 t401]) [.int .i64 t400, .int .i64 t401] rfl rfl rfl (by kernel_rfl) (by simp [Value.oneCell']) HS.out (by simp) ?_
                intro w41 hs_ hk_
                replace HS := Aside0.mk ((show SL (cells g3000048 26 [.int .i64 t400, .int .i64 t401].toArray :: _) _ _ from hs_))
                replace HK := Aside0.mk (HK.out.trans hk_)
                refine hK.out _ _ ⟨(((blk_cell (SL.at_ (SL.get4 HS.out)) 0).trans rfl)), (((blk_cell (SL.at_ (SL.get4 HS.out)) 1).trans rfl)), (((blk_cell (SL.at_ (SL.get4 HS.out)) 2).trans rfl))⟩ (fun hHeld => ?_)
                clear hK K
                refine pure_ (i := 9) (N := some 6) (v := ?_) (a' := ?_) #[true, true, true, true, true, true, true, true, true, true] rfl rfl (any_of HT_.out (by kernel_rfl)) (fun _ _ _ h => h) (Or.inl ⟨by rfl, ?_⟩) ?_ ?_; rotate_left; · (intro w'; go_simp; with_reducible rfl)
                rotate_left; · (simp only [Act.put, sT, sZ, sS, i64_w, i32_w]; rfl)
                refine done_ (done_of HT_.out (by kernel_rfl)) ?_
                try go_wp2
                refine start_ (n := 40) (S := fun w' => w'.cell? ⟨g3000045, 0, none⟩ = some (.int .i64 4) ∧ w'.cell? ⟨g3000045, 1, none⟩ = some (.int .i64 3) ∧ w'.cell? ⟨g3000045, 2, none⟩ = some (.slice (some adq394) y378.length cz3000044) ∧ w'.cell? ⟨g3000048, 0, none⟩ = some (.int .i64 t400) ∧ w'.cell? ⟨g3000048, 1, none⟩ = some (.int .i64 t401)) (ds := []) #[false, false, false, false, false, false, false, false, false, false, false, false, false, false, false, false, false, false, false, false, false, false, false, false, false, false, false, false, false, false, false, false, false, false, false, false, false, false, false, false] (by kernel_rfl) rfl rfl ⟨(((blk_cell (SL.at_ (SL.get4 HS.out)) 0).trans rfl)), (((blk_cell (SL.at_ (SL.get4 HS.out)) 1).trans rfl)), (((blk_cell (SL.at_ (SL.get4 HS.out)) 2).trans rfl)), (((blk_cell (SL.at_ HS.out) 0).trans rfl)), (((blk_cell (SL.at_ HS.out) 1).trans rfl))⟩ (fun hHeld => ?_); refine with_tabW barrowlaw07_small.tab7 barrowlaw07_small.bits7 (fun HT_ HW_ => ?_)
                replace HK := Aside0.mk (Keep.drew HK.out)
                replace HS := Aside0.mk (SL.drew HS.out)
                refine pure_ (i := 0) (N := some 31) (v := ?_) (a' := ?_) #[true, false, false, false, false, false, false, false, false, false, false, false, false, false, false, false, false, false, false, false, false, false, false, false, false, false, false, false, false, false, false, false, false, false, false, false, false, false, false, false] rfl rfl (any_of HT_.out (by kernel_rfl)) (fun _ _ _ h => h) (Or.inl ⟨by rfl, ?_⟩) ?_ ?_; rotate_left; · (intro w'; go_simp; with_reducible rfl)
                rotate_left; · (simp only [Act.put, sT, sZ, sS, i64_w, i32_w]; rfl)
                refine one_ (i := 1) (N := some 32) #[true, true, false, false, false, false, false, false, false, false, false, false, false, false, false, false, false, false, false, false, false, false, false, false, false, false, false, false, false, false, false, false, false, false, false, false, false, false, false, false] rfl rfl (one_of HT_.out (by kernel_rfl)) (by decide) (fun K hK => ?_)
                refine goes_ Try.func22 (by kernel_rfl) rfl #[.int .i64 0, .int .i64 0] (by rfl) rfl rfl (by (try simp only [List.map_toArray, List.map_cons, List.map_nil]); first | done | rfl | (simp; done)) ?_
                (with_reducible refine (barrowlaw07_tile.calls _ _ _ _ _  Hc2.out).mono ?_)
                rintro e_ w42 ⟨rfl, hb_⟩
                refine ⟨_, rfl, ?_⟩
                replace HS := Aside0.mk (HS.out.below hb_)
                replace HK := Aside0.mk (HK.out.trans (Keep.below hb_))
                refine hK.out _ _ ⟨(((blk_cell (SL.at_ (SL.get4 HS.out)) 0).trans rfl)), (((blk_cell (SL.at_ (SL.get4 HS.out)) 1).trans rfl)), (((blk_cell (SL.at_ (SL.get4 HS.out)) 2).trans rfl)), (((blk_cell (SL.at_ HS.out) 0).trans rfl)), (((blk_cell (SL.at_ HS.out) 1).trans rfl))⟩ (fun hHeld => ?_)
                clear hK K
                refine norm_ (a' := ?_) ?_ ?_; rotate_left
                · show Act.put _ (some 32) _ = _
                  simp only [Act.put, sT, sZ, sS, i64_w, i32_w]
                  rfl
                refine one_ (i := 2) (N := some 33) #[true, true, true, false, false, false, false, false, false, false, false, false, false, false, false, false, false, false, false, false, false, false, false, false, false, false, false, false, false, false, false, false, false, false, false, false, false, false, false, false] rfl rfl (one_of HT_.out (by kernel_rfl)) (by decide) (fun K hK => ?_)
                refine goes_ Try.func22 (by kernel_rfl) rfl #[.int .i64 1, .int .i64 0] (by rfl) rfl rfl (by (try simp only [List.map_toArray, List.map_cons, List.map_nil]); first | done | rfl | (simp; done)) ?_
                (with_reducible refine (barrowlaw07_tile.calls _ _ _ _ _  Hc10.out).mono ?_)
                rintro e_ w43 ⟨rfl, hb_⟩
                refine ⟨_, rfl, ?_⟩
                replace HS := Aside0.mk (HS.out.below hb_)
                replace HK := Aside0.mk (HK.out.trans (Keep.below hb_))
                refine hK.out _ _ ⟨(((blk_cell (SL.at_ (SL.get4 HS.out)) 0).trans rfl)), (((blk_cell (SL.at_ (SL.get4 HS.out)) 1).trans rfl)), (((blk_cell (SL.at_ (SL.get4 HS.out)) 2).trans rfl)), (((blk_cell (SL.at_ HS.out) 0).trans rfl)), (((blk_cell (SL.at_ HS.out) 1).trans rfl))⟩ (fun hHeld => ?_)
                clear hK K
                refine norm_ (a' := ?_) ?_ ?_; rotate_left
                · show Act.put _ (some 33) _ = _
                  simp only [Act.put, sT, sZ, sS, i64_w, i32_w]
                  rfl
                refine one_ (i := 3) (N := some 34) #[true, true, true, true, false, false, false, false, false, false, false, false, false, false, false, false, false, false, false, false, false, false, false, false, false, false, false, false, false, false, false, false, false, false, false, false, false, false, false, false] rfl rfl (one_of HT_.out (by kernel_rfl)) (by decide) (fun K hK => ?_)
                refine goes_ Try.func22 (by kernel_rfl) rfl #[.int .i64 0, .int .i64 1] (by rfl) rfl rfl (by (try simp only [List.map_toArray, List.map_cons, List.map_nil]); first | done | rfl | (simp; done)) ?_
                (with_reducible refine (barrowlaw07_tile.calls _ _ _ _ _  Hc11.out).mono ?_)
                rintro e_ w44 ⟨rfl, hb_⟩
                refine ⟨_, rfl, ?_⟩
                replace HS := Aside0.mk (HS.out.below hb_)
                replace HK := Aside0.mk (HK.out.trans (Keep.below hb_))
                refine hK.out _ _ ⟨(((blk_cell (SL.at_ (SL.get4 HS.out)) 0).trans rfl)), (((blk_cell (SL.at_ (SL.get4 HS.out)) 1).trans rfl)), (((blk_cell (SL.at_ (SL.get4 HS.out)) 2).trans rfl)), (((blk_cell (SL.at_ HS.out) 0).trans rfl)), (((blk_cell (SL.at_ HS.out) 1).trans rfl))⟩ (fun hHeld => ?_)
                clear hK K
                refine norm_ (a' := ?_) ?_ ?_; rotate_left
                · show Act.put _ (some 34) _ = _
                  simp only [Act.put, sT, sZ, sS, i64_w, i32_w]
                  rfl
                refine one_ (i := 4) (N := some 35) #[true, true, true, true, true, false, false, false, false, false, false, false, false, false, false, false, false, false, false, false, false, false, false, false, false, false, false, false, false, false, false, false, false, false, false, false, false, false, false, false] rfl rfl (one_of HT_.out (by kernel_rfl)) (by decide) (fun K hK => ?_)
                refine goes_ Try.func22 (by kernel_rfl) rfl #[.int .i64 1, .int .i64 1] (by rfl) rfl rfl (by (try simp only [List.map_toArray, List.map_cons, List.map_nil]); first | done | rfl | (simp; done)) ?_
                (with_reducible refine (barrowlaw07_tile.calls _ _ _ _ _  Hc12.out).mono ?_)
                rintro e_ w45 ⟨rfl, hb_⟩
                refine ⟨_, rfl, ?_⟩
                replace HS := Aside0.mk (HS.out.below hb_)
                replace HK := Aside0.mk (HK.out.trans (Keep.below hb_))
                refine hK.out _ _ ⟨(((blk_cell (SL.at_ (SL.get4 HS.out)) 0).trans rfl)), (((blk_cell (SL.at_ (SL.get4 HS.out)) 1).trans rfl)), (((blk_cell (SL.at_ (SL.get4 HS.out)) 2).trans rfl)), (((blk_cell (SL.at_ HS.out) 0).trans rfl)), (((blk_cell (SL.at_ HS.out) 1).trans rfl))⟩ (fun hHeld => ?_)
                clear hK K
                refine norm_ (a' := ?_) ?_ ?_; rotate_left
                · show Act.put _ (some 35) _ = _
                  simp only [Act.put, sT, sZ, sS, i64_w, i32_w]
                  rfl
                refine one_ (i := 5) (N := some 36) #[true, true, true, true, true, true, false, false, false, false, false, false, false, false, false, false, false, false, false, false, false, false, false, false, false, false, false, false, false, false, false, false, false, false, false, false, false, false, false, false] rfl rfl (one_of HT_.out (by kernel_rfl)) (by decide) (fun K hK => ?_)
                refine goes_ Try.func22 (by kernel_rfl) rfl #[.int .i64 2, .int .i64 1] (by rfl) rfl rfl (by (try simp only [List.map_toArray, List.map_cons, List.map_nil]); first | done | rfl | (simp; done)) ?_
                (with_reducible refine (barrowlaw07_tile.calls _ _ _ _ _  Hc13.out).mono ?_)
                rintro e_ w46 ⟨rfl, hb_⟩
                refine ⟨_, rfl, ?_⟩
                replace HS := Aside0.mk (HS.out.below hb_)
                replace HK := Aside0.mk (HK.out.trans (Keep.below hb_))
                refine hK.out _ _ ⟨(((blk_cell (SL.at_ (SL.get4 HS.out)) 0).trans rfl)), (((blk_cell (SL.at_ (SL.get4 HS.out)) 1).trans rfl)), (((blk_cell (SL.at_ (SL.get4 HS.out)) 2).trans rfl)), (((blk_cell (SL.at_ HS.out) 0).trans rfl)), (((blk_cell (SL.at_ HS.out) 1).trans rfl))⟩ (fun hHeld => ?_)
                clear hK K
                refine norm_ (a' := ?_) ?_ ?_; rotate_left
                · show Act.put _ (some 36) _ = _
                  simp only [Act.put, sT, sZ, sS, i64_w, i32_w]
                  rfl
                refine one_ (i := 6) (N := some 37) #[true, true, true, true, true, true, true, false, false, false, false, false, false, false, false, false, false, false, false, false, false, false, false, false, false, false, false, false, false, false, false, false, false, false, false, false, false, false, false, false] rfl rfl (one_of HT_.out (by kernel_rfl)) (by decide) (fun K hK => ?_)
                refine goes_ Try.func22 (by kernel_rfl) rfl #[.int .i64 1, .int .i64 2] (by rfl) rfl rfl (by (try simp only [List.map_toArray, List.map_cons, List.map_nil]); first | done | rfl | (simp; done)) ?_
                (with_reducible refine (barrowlaw07_tile.calls _ _ _ _ _  Hc14.out).mono ?_)
                rintro e_ w47 ⟨rfl, hb_⟩
                refine ⟨_, rfl, ?_⟩
                replace HS := Aside0.mk (HS.out.below hb_)
                replace HK := Aside0.mk (HK.out.trans (Keep.below hb_))
                refine hK.out _ _ ⟨(((blk_cell (SL.at_ (SL.get4 HS.out)) 0).trans rfl)), (((blk_cell (SL.at_ (SL.get4 HS.out)) 1).trans rfl)), (((blk_cell (SL.at_ (SL.get4 HS.out)) 2).trans rfl)), (((blk_cell (SL.at_ HS.out) 0).trans rfl)), (((blk_cell (SL.at_ HS.out) 1).trans rfl))⟩ (fun hHeld => ?_)
                clear hK K
                refine norm_ (a' := ?_) ?_ ?_; rotate_left
                · show Act.put _ (some 37) _ = _
                  simp only [Act.put, sT, sZ, sS, i64_w, i32_w]
                  rfl
                refine one_ (i := 7) (N := some 38) #[true, true, true, true, true, true, true, true, false, false, false, false, false, false, false, false, false, false, false, false, false, false, false, false, false, false, false, false, false, false, false, false, false, false, false, false, false, false, false, false] rfl rfl (one_of HT_.out (by kernel_rfl)) (by decide) (fun K hK => ?_)
                refine goes_ Try.func22 (by kernel_rfl) rfl #[.int .i64 2, .int .i64 2] (by rfl) rfl rfl (by (try simp only [List.map_toArray, List.map_cons, List.map_nil]); first | done | rfl | (simp; done)) ?_
                (with_reducible refine (barrowlaw07_tile.calls _ _ _ _ _  Hc3.out).mono ?_)
                rintro e_ w48 ⟨rfl, hb_⟩
                refine ⟨_, rfl, ?_⟩
                replace HS := Aside0.mk (HS.out.below hb_)
                replace HK := Aside0.mk (HK.out.trans (Keep.below hb_))
                refine hK.out _ _ ⟨(((blk_cell (SL.at_ (SL.get4 HS.out)) 0).trans rfl)), (((blk_cell (SL.at_ (SL.get4 HS.out)) 1).trans rfl)), (((blk_cell (SL.at_ (SL.get4 HS.out)) 2).trans rfl)), (((blk_cell (SL.at_ HS.out) 0).trans rfl)), (((blk_cell (SL.at_ HS.out) 1).trans rfl))⟩ (fun hHeld => ?_)
                clear hK K
                refine norm_ (a' := ?_) ?_ ?_; rotate_left
                · show Act.put _ (some 38) _ = _
                  simp only [Act.put, sT, sZ, sS, i64_w, i32_w]
                  rfl
                refine one_ (i := 8) (N := some 39) #[true, true, true, true, true, true, true, true, true, false, false, false, false, false, false, false, false, false, false, false, false, false, false, false, false, false, false, false, false, false, false, false, false, false, false, false, false, false, false, false] rfl rfl (one_of HT_.out (by kernel_rfl)) (by decide) (fun K hK => ?_)
                refine st_of (by rfl) ?_
                refine op_rowF (S := S) (d := k26) ⟨fun h_ => h_⟩ 26 y417 #[.int .i64 t379, .int .i64 t380, .int .i64 t405, .int .i64 t406, .int .i64 t407, .int .i64 t408, .int .i64 t409, .int .i64 t410, .int .i64 t411, .int .i64 t412, .int .i64 t413, .int .i64 t414, .int .i64 t381, .int .i64 t382] 7 (by rw [← Ny417.out]; exact reps_cons (k26_mkM _ 0 _ (⟨t379, t380⟩ : S26)) rfl (reps_cons (k26_mkM _ 0 _ (⟨t405, t406⟩ : S26)) rfl (reps_cons (k26_mkM _ 0 _ (⟨t407, t408⟩ : S26)) rfl (reps_cons (k26_mkM _ 0 _ (⟨t409, t410⟩ : S26)) rfl (reps_cons (k26_mkM _ 0 _ (⟨t411, t412⟩ : S26)) rfl (reps_cons (k26_mkM _ 0 _ (⟨t413, t414⟩ : S26)) rfl (reps_cons (k26_mkM _ 0 _ (⟨t381, t382⟩ : S26)) rfl (Reps.none _ _)))))))) (by rw [← Ny417.out]; rfl) (by decide) (HF.out.keep HK.out) HS.out (by first | (go_simp; done) | (go_simp; rfl)) ?_
                intro Az3000049 cz3000049 w49 hs_ hk_
                replace HS := Aside0.mk ((show SL (row k26 26 (.slice Az3000049 7 cz3000049) y417 :: _) _ _ from hs_))
                replace HK := Aside0.mk (HK.out.trans hk_)
                refine hK.out _ _ ⟨(((blk_cell (SL.at_ (SL.get5 HS.out)) 0).trans rfl)), (((blk_cell (SL.at_ (SL.get5 HS.out)) 1).trans rfl)), (((blk_cell (SL.at_ (SL.get5 HS.out)) 2).trans rfl)), (((blk_cell (SL.at_ (SL.get1 HS.out)) 0).trans rfl)), (((blk_cell (SL.at_ (SL.get1 HS.out)) 1).trans rfl))⟩ (fun hHeld => ?_)
                clear hK K
                refine norm_ (a' := ?_) ?_ ?_; rotate_left
                · show Act.put _ (some 39) _ = _
                  simp only [Act.put, sT, sZ, sS, i64_w, i32_w]
                  rfl
                refine one_ (i := 9) (N := some 40) #[true, true, true, true, true, true, true, true, true, true, false, false, false, false, false, false, false, false, false, false, false, false, false, false, false, false, false, false, false, false, false, false, false, false, false, false, false, false, false, false] rfl rfl (one_of HT_.out (by kernel_rfl)) (by decide) (fun K hK => ?_)
                refine goes_ Try.func11 (by kernel_rfl) rfl #[.slice Az3000046 t383.length cz3000046, .slice Az3000049 7 cz3000049] (by rfl) rfl rfl (by (try simp only [List.map_toArray, List.map_cons, List.map_nil]); first | done | rfl | (simp; done)) ?_
                have el3000049_ := Aside0.mk (SL.row_c HS.out).1
                refine calls_of_args (args' := #[.slice Az3000046 t383.length cz3000046, .slice Az3000049 y417.length cz3000049]) (by rw [← el3000049_.out]) ?_
                (with_reducible refine (barrowref06_Same.calls k _ _ _ _ _ _ _ _ (SL.row_c (SL.get4 HS.out)).2.2 (SL.row_c (SL.get4 HS.out)).2.1 (by have e_ := (SL.row_c HS.out).1; have h_ := (SL.row_c HS.out).2.2; rw [e_] at h_; exact h_) (by have e_ := (SL.row_c HS.out).1; have h_ := (SL.row_c HS.out).2.1; (try dsimp only at e_ h_); (try dsimp only); omega) Hc15.out).mono ?_)
                rintro e_ w50 ⟨rfl, hb_⟩
                refine ⟨_, rfl, ?_⟩
                replace hb_ := Drawn0.below hb_
                replace HS := Aside0.mk (HS.out.below hb_)
                replace HK := Aside0.mk (HK.out.trans (Keep.below hb_))
                refine hK.out _ _ ⟨(((blk_cell (SL.at_ (SL.get5 HS.out)) 0).trans rfl)), (((blk_cell (SL.at_ (SL.get5 HS.out)) 1).trans rfl)), (((blk_cell (SL.at_ (SL.get5 HS.out)) 2).trans rfl)), (((blk_cell (SL.at_ (SL.get1 HS.out)) 0).trans rfl)), (((blk_cell (SL.at_ (SL.get1 HS.out)) 1).trans rfl))⟩ (fun hHeld => ?_)
                clear hK K
                refine norm_ (a' := ?_) ?_ ?_; rotate_left
                · show Act.put _ (some 40) _ = _
                  simp only [Act.put, sT, sZ, sS, i64_w, i32_w]
                  rfl
                refine pure_ (i := 10) (N := some 41) (v := ?_) (a' := ?_) #[true, true, true, true, true, true, true, true, true, true, true, false, false, false, false, false, false, false, false, false, false, false, false, false, false, false, false, false, false, false, false, false, false, false, false, false, false, false, false, false] rfl rfl (any_of HT_.out (by kernel_rfl)) (fun _ _ _ h => h) (Or.inl ⟨by rfl, ?_⟩) ?_ ?_; rotate_left; · (intro w'; go_simp; with_reducible rfl)
                rotate_left; · (simp only [Act.put, sT, sZ, sS, i64_w, i32_w]; rfl)
                refine pure_ (i := 11) (N := some 42) (v := ?_) (a' := ?_) #[true, true, true, true, true, true, true, true, true, true, true, true, false, false, false, false, false, false, false, false, false, false, false, false, false, false, false, false, false, false, false, false, false, false, false, false, false, false, false, false] rfl rfl (any_of HT_.out (by kernel_rfl)) (fun _ _ _ h => h) (Or.inl ⟨by rfl, ?_⟩) ?_ ?_; rotate_left; · (intro w'; go_simp; with_reducible rfl)
                rotate_left; · (simp only [Act.put, sT, sZ, sS, i64_w, i32_w]; rfl)
                refine one_ (i := 12) (N := some 43) #[true, true, true, true, true, true, true, true, true, true, true, true, true, false, false, false, false, false, false, false, false, false, false, false, false, false, false, false, false, false, false, false, false, false, false, false, false, false, false, false] rfl rfl (one_of HT_.out (by kernel_rfl)) (by decide) (fun K hK => ?_)
                refine goes_ Try.func22 (by kernel_rfl) rfl #[.int .i64 0, .int .i64 0] (by rfl) rfl rfl (by (try simp only [List.map_toArray, List.map_cons, List.map_nil]); first | done | rfl | (simp; done)) ?_
                (with_reducible refine (barrowlaw07_tile.calls _ _ _ _ _  Hc2.out).mono ?_)
                rintro e_ w51 ⟨rfl, hb_⟩
                refine ⟨_, rfl, ?_⟩
                replace HS := Aside0.mk (HS.out.below hb_)
                replace HK := Aside0.mk (HK.out.trans (Keep.below hb_))
                refine hK.out _ _ ⟨(((blk_cell (SL.at_ (SL.get5 HS.out)) 0).trans rfl)), (((blk_cell (SL.at_ (SL.get5 HS.out)) 1).trans rfl)), (((blk_cell (SL.at_ (SL.get5 HS.out)) 2).trans rfl)), (((blk_cell (SL.at_ (SL.get1 HS.out)) 0).trans rfl)), (((blk_cell (SL.at_ (SL.get1 HS.out)) 1).trans rfl))⟩ (fun hHeld => ?_)
                clear hK K
                refine norm_ (a' := ?_) ?_ ?_; rotate_left
                · show Act.put _ (some 43) _ = _
                  simp only [Act.put, sT, sZ, sS, i64_w, i32_w]
                  rfl
                refine one_ (i := 13) (N := some 44) #[true, true, true, true, true, true, true, true, true, true, true, true, true, true, false, false, false, false, false, false, false, false, false, false, false, false, false, false, false, false, false, false, false, false, false, false, false, false, false, false] rfl rfl (one_of HT_.out (by kernel_rfl)) (by decide) (fun K hK => ?_)
                refine goes_ Try.func22 (by kernel_rfl) rfl #[.int .i64 1, .int .i64 0] (by rfl) rfl rfl (by (try simp only [List.map_toArray, List.map_cons, List.map_nil]); first | done | rfl | (simp; done)) ?_
                (with_reducible refine (barrowlaw07_tile.calls _ _ _ _ _  Hc10.out).mono ?_)
                rintro e_ w52 ⟨rfl, hb_⟩
                refine ⟨_, rfl, ?_⟩
                replace HS := Aside0.mk (HS.out.below hb_)
                replace HK := Aside0.mk (HK.out.trans (Keep.below hb_))
                refine hK.out _ _ ⟨(((blk_cell (SL.at_ (SL.get5 HS.out)) 0).trans rfl)), (((blk_cell (SL.at_ (SL.get5 HS.out)) 1).trans rfl)), (((blk_cell (SL.at_ (SL.get5 HS.out)) 2).trans rfl)), (((blk_cell (SL.at_ (SL.get1 HS.out)) 0).trans rfl)), (((blk_cell (SL.at_ (SL.get1 HS.out)) 1).trans rfl))⟩ (fun hHeld => ?_)
                clear hK K
                refine norm_ (a' := ?_) ?_ ?_; rotate_left
                · show Act.put _ (some 44) _ = _
                  simp only [Act.put, sT, sZ, sS, i64_w, i32_w]
                  rfl
                refine one_ (i := 14) (N := some 45) #[true, true, true, true, true, true, true, true, true, true, true, true, true, true, true, false, false, false, false, false, false, false, false, false, false, false, false, false, false, false, false, false, false, false, false, false, false, false, false, false] rfl rfl (one_of HT_.out (by kernel_rfl)) (by decide) (fun K hK => ?_)
                refine goes_ Try.func22 (by kernel_rfl) rfl #[.int .i64 2, .int .i64 0] (by rfl) rfl rfl (by (try simp only [List.map_toArray, List.map_cons, List.map_nil]); first | done | rfl | (simp; done)) ?_
                (with_reducible refine (barrowlaw07_tile.calls _ _ _ _ _  Hc17.out).mono ?_)
                rintro e_ w53 ⟨rfl, hb_⟩
                refine ⟨_, rfl, ?_⟩
                replace HS := Aside0.mk (HS.out.below hb_)
                replace HK := Aside0.mk (HK.out.trans (Keep.below hb_))
                refine hK.out _ _ ⟨(((blk_cell (SL.at_ (SL.get5 HS.out)) 0).trans rfl)), (((blk_cell (SL.at_ (SL.get5 HS.out)) 1).trans rfl)), (((blk_cell (SL.at_ (SL.get5 HS.out)) 2).trans rfl)), (((blk_cell (SL.at_ (SL.get1 HS.out)) 0).trans rfl)), (((blk_cell (SL.at_ (SL.get1 HS.out)) 1).trans rfl))⟩ (fun hHeld => ?_)
                clear hK K
                refine norm_ (a' := ?_) ?_ ?_; rotate_left
                · show Act.put _ (some 45) _ = _
                  simp only [Act.put, sT, sZ, sS, i64_w, i32_w]
                  rfl
                refine one_ (i := 15) (N := some 46) #[true, true, true, true, true, true, true, true, true, true, true, true, true, true, true, true, false, false, false, false, false, false, false, false, false, false, false, false, false, false, false, false, false, false, false, false, false, false, false, false] rfl rfl (one_of HT_.out (by kernel_rfl)) (by decide) (fun K hK => ?_)
                refine goes_ Try.func22 (by kernel_rfl) rfl #[.int .i64 1, .int .i64 1] (by rfl) rfl rfl (by (try simp only [List.map_toArray, List.map_cons, List.map_nil]); first | done | rfl | (simp; done)) ?_
                (with_reducible refine (barrowlaw07_tile.calls _ _ _ _ _  Hc12.out).mono ?_)
                rintro e_ w54 ⟨rfl, hb_⟩
                refine ⟨_, rfl, ?_⟩
                replace HS := Aside0.mk (HS.out.below hb_)
                replace HK := Aside0.mk (HK.out.trans (Keep.below hb_))
                refine hK.out _ _ ⟨(((blk_cell (SL.at_ (SL.get5 HS.out)) 0).trans rfl)), (((blk_cell (SL.at_ (SL.get5 HS.out)) 1).trans rfl)), (((blk_cell (SL.at_ (SL.get5 HS.out)) 2).trans rfl)), (((blk_cell (SL.at_ (SL.get1 HS.out)) 0).trans rfl)), (((blk_cell (SL.at_ (SL.get1 HS.out)) 1).trans rfl))⟩ (fun hHeld => ?_)
                clear hK K
                refine norm_ (a' := ?_) ?_ ?_; rotate_left
                · show Act.put _ (some 46) _ = _
                  simp only [Act.put, sT, sZ, sS, i64_w, i32_w]
                  rfl
                refine one_ (i := 16) (N := some 47) #[true, true, true, true, true, true, true, true, true, true, true, true, true, true, true, true, true, false, false, false, false, false, false, false, false, false, false, false, false, false, false, false, false, false, false, false, false, false, false, false] rfl rfl (one_of HT_.out (by kernel_rfl)) (by decide) (fun K hK => ?_)
                refine goes_ Try.func22 (by kernel_rfl) rfl #[.int .i64 2, .int .i64 1] (by rfl) rfl rfl (by (try simp only [List.map_toArray, List.map_cons, List.map_nil]); first | done | rfl | (simp; done)) ?_
                (with_reducible refine (barrowlaw07_tile.calls _ _ _ _ _  Hc13.out).mono ?_)
                rintro e_ w55 ⟨rfl, hb_⟩
                refine ⟨_, rfl, ?_⟩
                replace HS := Aside0.mk (HS.out.below hb_)
                replace HK := Aside0.mk (HK.out.trans (Keep.below hb_))
                refine hK.out _ _ ⟨(((blk_cell (SL.at_ (SL.get5 HS.out)) 0).trans rfl)), (((blk_cell (SL.at_ (SL.get5 HS.out)) 1).trans rfl)), (((blk_cell (SL.at_ (SL.get5 HS.out)) 2).trans rfl)), (((blk_cell (SL.at_ (SL.get1 HS.out)) 0).trans rfl)), (((blk_cell (SL.at_ (SL.get1 HS.out)) 1).trans rfl))⟩ (fun hHeld => ?_)
                clear hK K
                refine norm_ (a' := ?_) ?_ ?_; rotate_left
                · show Act.put _ (some 47) _ = _
                  simp only [Act.put, sT, sZ, sS, i64_w, i32_w]
                  rfl
                refine one_ (i := 17) (N := some 48) #[true, true, true, true, true, true, true, true, true, true, true, true, true, true, true, true, true, true, false, false, false, false, false, false, false, false, false, false, false, false, false, false, false, false, false, false, false, false, false, false] rfl rfl (one_of HT_.out (by kernel_rfl)) (by decide) (fun K hK => ?_)
                refine goes_ Try.func22 (by kernel_rfl) rfl #[.int .i64 3, .int .i64 1] (by rfl) rfl rfl (by (try simp only [List.map_toArray, List.map_cons, List.map_nil]); first | done | rfl | (simp; done)) ?_
                (with_reducible refine (barrowlaw07_tile.calls _ _ _ _ _  Hc5.out).mono ?_)
                rintro e_ w56 ⟨rfl, hb_⟩
                refine ⟨_, rfl, ?_⟩
                replace HS := Aside0.mk (HS.out.below hb_)
                replace HK := Aside0.mk (HK.out.trans (Keep.below hb_))
                refine hK.out _ _ ⟨(((blk_cell (SL.at_ (SL.get5 HS.out)) 0).trans rfl)), (((blk_cell (SL.at_ (SL.get5 HS.out)) 1).trans rfl)), (((blk_cell (SL.at_ (SL.get5 HS.out)) 2).trans rfl)), (((blk_cell (SL.at_ (SL.get1 HS.out)) 0).trans rfl)), (((blk_cell (SL.at_ (SL.get1 HS.out)) 1).trans rfl))⟩ (fun hHeld => ?_)
                clear hK K
                refine norm_ (a' := ?_) ?_ ?_; rotate_left
                · show Act.put _ (some 48) _ = _
                  simp only [Act.put, sT, sZ, sS, i64_w, i32_w]
                  rfl
                refine one_ (i := 18) (N := some 49) #[true, true, true, true, true, true, true, true, true, true, true, true, true, true, true, true, true, true, true, false, false, false, false, false, false, false, false, false, false, false, false, false, false, false, false, false, false, false, false, false] rfl rfl (one_of HT_.out (by kernel_rfl)) (by decide) (fun K hK => ?_)
                refine st_of (by rfl) ?_
                refine op_rowF (S := S) (d := k26) ⟨fun h_ => h_⟩ 26 y431 #[.int .i64 t379, .int .i64 t380, .int .i64 t405, .int .i64 t406, .int .i64 t423, .int .i64 t424, .int .i64 t409, .int .i64 t410, .int .i64 t411, .int .i64 t412, .int .i64 t386, .int .i64 t387] 6 (by rw [← Ny431.out]; exact reps_cons (k26_mkM _ 0 _ (⟨t379, t380⟩ : S26)) rfl (reps_cons (k26_mkM _ 0 _ (⟨t405, t406⟩ : S26)) rfl (reps_cons (k26_mkM _ 0 _ (⟨t423, t424⟩ : S26)) rfl (reps_cons (k26_mkM _ 0 _ (⟨t409, t410⟩ : S26)) rfl (reps_cons (k26_mkM _ 0 _ (⟨t411, t412⟩ : S26)) rfl (reps_cons (k26_mkM _ 0 _ (⟨t386, t387⟩ : S26)) rfl (Reps.none _ _))))))) (by rw [← Ny431.out]; rfl) (by decide) (HF.out.keep HK.out) HS.out (by first | (go_simp; done) | (go_simp; rfl)) ?_
                intro Az3000050 cz3000050 w57 hs_ hk_
                replace HS := Aside0.mk ((show SL (row k26 26 (.slice Az3000050 6 cz3000050) y431 :: _) _ _ from hs_))
                replace HK := Aside0.mk (HK.out.trans hk_)
                refine hK.out _ _ ⟨(((blk_cell (SL.at_ (SL.get6 HS.out)) 0).trans rfl)), (((blk_cell (SL.at_ (SL.get6 HS.out)) 1).trans rfl)), (((blk_cell (SL.at_ (SL.get6 HS.out)) 2).trans rfl)), (((blk_cell (SL.at_ (SL.get2 HS.out)) 0).trans rfl)), (((blk_cell (SL.at_ (SL.get2 HS.out)) 1).trans rfl))⟩ (fun hHeld => ?_)
                clear hK K
                refine norm_ (a' := ?_) ?_ ?_; rotate_left
                · show Act.put _ (some 49) _ = _
                  simp only [Act.put, sT, sZ, sS, i64_w, i32_w]
                  rfl
                refine one_ (i := 19) (N := some 50) #[true, true, true, true, true, true, true, true, true, true, true, true, true, true, true, true, true, true, true, true, false, false, false, false, false, false, false, false, false, false, false, false, false, false, false, false, false, false, false, false] rfl rfl (one_of HT_.out (by kernel_rfl)) (by decide) (fun K hK => ?_)
                refine goes_ Try.func11 (by kernel_rfl) rfl #[.slice Az3000047 t388.length cz3000047, .slice Az3000050 6 cz3000050] (by rfl) rfl rfl (by (try simp only [List.map_toArray, List.map_cons, List.map_nil]); first | done | rfl | (simp; done)) ?_
                have el3000050_ := Aside0.mk (SL.row_c HS.out).1
                refine calls_of_args (args' := #[.slice Az3000047 t388.length cz3000047, .slice Az3000050 y431.length cz3000050]) (by rw [← el3000050_.out]) ?_
                (with_reducible refine (barrowref06_Same.calls k _ _ _ _ _ _ _ _ (SL.row_c (SL.get4 HS.out)).2.2 (SL.row_c (SL.get4 HS.out)).2.1 (by have e_ := (SL.row_c HS.out).1; have h_ := (SL.row_c HS.out).2.2; rw [e_] at h_; exact h_) (by have e_ := (SL.row_c HS.out).1; have h_ := (SL.row_c HS.out).2.1; (try dsimp only at e_ h_); (try dsimp only); omega) Hc18.out).mono ?_)
                rintro e_ w58 ⟨rfl, hb_⟩
                refine ⟨_, rfl, ?_⟩
                replace hb_ := Drawn0.below hb_
                replace HS := Aside0.mk (HS.out.below hb_)
                replace HK := Aside0.mk (HK.out.trans (Keep.below hb_))
                refine hK.out _ _ ⟨(((blk_cell (SL.at_ (SL.get6 HS.out)) 0).trans rfl)), (((blk_cell (SL.at_ (SL.get6 HS.out)) 1).trans rfl)), (((blk_cell (SL.at_ (SL.get6 HS.out)) 2).trans rfl)), (((blk_cell (SL.at_ (SL.get2 HS.out)) 0).trans rfl)), (((blk_cell (SL.at_ (SL.get2 HS.out)) 1).trans rfl))⟩ (fun hHeld => ?_)
                clear hK K
                refine norm_ (a' := ?_) ?_ ?_; rotate_left
                · show Act.put _ (some 50) _ = _
                  simp only [Act.put, sT, sZ, sS, i64_w, i32_w]
                  rfl
                refine pure_ (i := 20) (N := some 51) (v := ?_) (a' := ?_) #[true, true, true, true, true, true, true, true, true, true, true, true, true, true, true, true, true, true, true, true, true, false, false, false, false, false, false, false, false, false, false, false, false, false, false, false, false, false, false, false] rfl rfl (any_of HT_.out (by kernel_rfl)) (fun _ _ _ h => h) (Or.inl ⟨by rfl, ?_⟩) ?_ ?_; rotate_left; · (intro w'; go_simp; with_reducible rfl)
                rotate_left; · (simp only [Act.put, sT, sZ, sS, i64_w, i32_w]; rfl)
                refine pure_ (i := 21) (N := some 52) (v := ?_) (a' := ?_) #[true, true, true, true, true, true, true, true, true, true, true, true, true, true, true, true, true, true, true, true, true, true, false, false, false, false, false, false, false, false, false, false, false, false, false, false, false, false, false, false] rfl rfl (any_of HT_.out (by kernel_rfl)) (fun _ _ _ h => h) (Or.inl ⟨by rfl, ?_⟩) ?_ ?_; rotate_left; · (intro w'; go_simp; with_reducible rfl)
                rotate_left; · (simp only [Act.put, sT, sZ, sS, i64_w, i32_w]; rfl)
                refine pure_ (i := 22) (N := some 53) (v := ?_) (a' := ?_) #[true, true, true, true, true, true, true, true, true, true, true, true, true, true, true, true, true, true, true, true, true, true, true, false, false, false, false, false, false, false, false, false, false, false, false, false, false, false, false, false] rfl rfl (any_of HT_.out (by kernel_rfl)) (fun _ _ _ h => h) (Or.inl ⟨by rfl, ?_⟩) ?_ ?_; rotate_left; · (intro w'; go_simp; with_reducible rfl)
                rotate_left; · (simp only [Act.put, sT, sZ, sS, i64_w, i32_w]; rfl)
                refine pure_ (i := 23) (N := some 54) (v := ?_) (a' := ?_) #[true, true, true, true, true, true, true, true, true, true, true, true, true, true, true, true, true, true, true, true, true, true, true, true, false, false, false, false, false, false, false, false, false, false, false, false, false, false, false, false] rfl rfl (any_of HT_.out (by kernel_rfl)) (fun _ _ _ h => h) (Or.inl ⟨by rfl, ?_⟩) ?_ ?_; rotate_left; · (intro w'; go_simp; with_reducible rfl)
                rotate_left; · (simp only [Act.put, sT, sZ, sS, i64_w, i32_w]; rfl)
                refine pure_ (i := 24) (N := some 55) (v := ?_) (a' := ?_) #[true, true, true, true, true, true, true, true, true, true, true, true, true, true, true, true, true, true, true, true, true, true, true, true, true, false, false, false, false, false, false, false, false, false, false, false, false, false, false, false] rfl rfl (any_of HT_.out (by kernel_rfl)) (fun _ _ _ h => h) (Or.inl ⟨by rfl, ?_⟩) ?_ ?_; rotate_left; · (intro w'; go_simp; with_reducible rfl)
                rotate_left; · (simp only [Act.put, sT, sZ, sS, i64_w, i32_w]; rfl)
                refine take_ (i := 25) (N := some 56) (v := ?_) (a' := ?_) #[true, true, true, true, true, true, true, true, true, true, true, true, true, true, true, true, true, true, true, true, true, true, true, true, true, true, false, false, false, false, false, false, false, false, false, false, false, false, false, false] rfl rfl (take_ofW HT_.out HW_.out (by kernel_rfl)) (fun _ _ _ h => h) (Or.inl ⟨by rfl, ?_⟩) hHeld ?_ ?_; rotate_left
                · rintro w' ⟨s0, s1, s2, s3, s4⟩
                  go_simp
                  with_reducible rfl
                rotate_left; · (simp only [Act.put, sT, sZ, sS, i64_w, i32_w]; rfl)
                refine one_ (i := 26) (N := some 57) #[true, true, true, true, true, true, true, true, true, true, true, true, true, true, true, true, true, true, true, true, true, true, true, true, true, true, true, false, false, false, false, false, false, false, false, false, false, false, false, false] rfl rfl (one_of HT_.out (by kernel_rfl)) (by decide) (fun K hK => ?_)
                refine goes_ Try.func22 (by kernel_rfl) rfl #[.int .i64 0, .int .i64 0] (by rfl) rfl rfl (by (try simp only [List.map_toArray, List.map_cons, List.map_nil]); first | done | rfl | (simp; done)) ?_
                (with_reducible refine (barrowlaw07_tile.calls _ _ _ _ _  Hc2.out).mono ?_)
                rintro e_ w59 ⟨rfl, hb_⟩
                refine ⟨_, rfl, ?_⟩
                replace HS := Aside0.mk (HS.out.below hb_)
                replace HK := Aside0.mk (HK.out.trans (Keep.below hb_))
                refine hK.out _ _ ⟨(((blk_cell (SL.at_ (SL.get6 HS.out)) 0).trans rfl)), (((blk_cell (SL.at_ (SL.get6 HS.out)) 1).trans rfl)), (((blk_cell (SL.at_ (SL.get6 HS.out)) 2).trans rfl)), (((blk_cell (SL.at_ (SL.get2 HS.out)) 0).trans rfl)), (((blk_cell (SL.at_ (SL.get2 HS.out)) 1).trans rfl))⟩ (fun hHeld => ?_)
                clear hK K
                refine norm_ (a' := ?_) ?_ ?_; rotate_left
                · show Act.put _ (some 57) _ = _
                  simp only [Act.put, sT, sZ, sS, i64_w, i32_w]
                  rfl
                refine one_ (i := 27) (N := some 58) #[true, true, true, true, true, true, true, true, true, true, true, true, true, true, true, true, true, true, true, true, true, true, true, true, true, true, true, true, false, false, false, false, false, false, false, false, false, false, false, false] rfl rfl (one_of HT_.out (by kernel_rfl)) (by decide) (fun K hK => ?_)
                refine goes_ Try.func22 (by kernel_rfl) rfl #[.int .i64 3, .int .i64 1] (by rfl) rfl rfl (by (try simp only [List.map_toArray, List.map_cons, List.map_nil]); first | done | rfl | (simp; done)) ?_
                (with_reducible refine (barrowlaw07_tile.calls _ _ _ _ _  Hc5.out).mono ?_)
                rintro e_ w60 ⟨rfl, hb_⟩
                refine ⟨_, rfl, ?_⟩
                replace HS := Aside0.mk (HS.out.below hb_)
                replace HK := Aside0.mk (HK.out.trans (Keep.below hb_))
                refine hK.out _ _ ⟨(((blk_cell (SL.at_ (SL.get6 HS.out)) 0).trans rfl)), (((blk_cell (SL.at_ (SL.get6 HS.out)) 1).trans rfl)), (((blk_cell (SL.at_ (SL.get6 HS.out)) 2).trans rfl)), (((blk_cell (SL.at_ (SL.get2 HS.out)) 0).trans rfl)), (((blk_cell (SL.at_ (SL.get2 HS.out)) 1).trans rfl))⟩ (fun hHeld => ?_)
                clear hK K
                refine norm_ (a' := ?_) ?_ ?_; rotate_left
                · show Act.put _ (some 58) _ = _
                  simp only [Act.put, sT, sZ, sS, i64_w, i32_w]
                  rfl
                refine one_ (i := 28) (N := some 59) #[true, true, true, true, true, true, true, true, true, true, true, true, true, true, true, true, true, true, true, true, true, true, true, true, true, true, true, true, true, false, false, false, false, false, false, false, false, false, false, false] rfl rfl (one_of HT_.out (by kernel_rfl)) (by decide) (fun K hK => ?_)
                refine goes_ Try.func14 (by kernel_rfl) rfl #[.agg #[.int .i64 4, .int .i64 3, .slice (some adq394) y378.length cz3000044], .agg #[.int .i64 t379, .int .i64 t380], .agg #[.int .i64 t386, .int .i64 t387]] (by rfl) rfl rfl (by (try simp only [List.map_toArray, List.map_cons, List.map_nil]); first | done | rfl | (simp; done)) ?_
                have el3000044_ := Aside0.mk (SL.row_c (SL.get3 HS.out)).1
                refine calls_of_args (args' := #[.agg #[.int .i64 4, .int .i64 3, .slice (some adq394) y395.length cz3000044], .agg #[.int .i64 t379, .int .i64 t380], .agg #[.int .i64 t386, .int .i64 t387]]) (by rw [← el3000044_.out]) ?_
                (with_reducible refine (sight_Sees.calls k _ _ _ _ _ _ _ _ _ _ _ (by have e_ := (SL.row_c (SL.get3 HS.out)).1; have h_ := (SL.row_c (SL.get3 HS.out)).2.2; rw [e_] at h_; exact h_) (by have e_ := (SL.row_c (SL.get3 HS.out)).1; have h_ := (SL.row_c (SL.get3 HS.out)).2.1; (try dsimp only at e_ h_); (try dsimp only); omega) Hc21.out).mono ?_)
                rintro e_ w61 ⟨rfl, hb_⟩
                refine ⟨_, rfl, ?_⟩
                replace HS := Aside0.mk (HS.out.below hb_)
                replace HK := Aside0.mk (HK.out.trans (Keep.below hb_))
                refine hK.out _ _ ⟨(((blk_cell (SL.at_ (SL.get6 HS.out)) 0).trans rfl)), (((blk_cell (SL.at_ (SL.get6 HS.out)) 1).trans rfl)), (((blk_cell (SL.at_ (SL.get6 HS.out)) 2).trans rfl)), (((blk_cell (SL.at_ (SL.get2 HS.out)) 0).trans rfl)), (((blk_cell (SL.at_ (SL.get2 HS.out)) 1).trans rfl))⟩ (fun hHeld => ?_)
                clear hK K
                refine norm_ (a' := ?_) ?_ ?_; rotate_left
                · show Act.put _ (some 59) _ = _
                  simp only [Act.put, sT, sZ, sS, i64_w, i32_w]
                  rfl
                refine pure_ (i := 29) (N := some 60) (v := ?_) (a' := ?_) #[true, true, true, true, true, true, true, true, true, true, true, true, true, true, true, true, true, true, true, true, true, true, true, true, true, true, true, true, true, true, false, false, false, false, false, false, false, false, false, false] rfl rfl (any_of HT_.out (by kernel_rfl)) (fun _ _ _ h => h) (Or.inl ⟨by rfl, ?_⟩) ?_ ?_; rotate_left; · (intro w'; go_simp; with_reducible rfl)
                rotate_left; · (simp only [Act.put, sT, sZ, sS, i64_w, i32_w]; rfl)
                refine pure_ (i := 30) (N := some 61) (v := ?_) (a' := ?_) #[true, true, true, true, true, true, true, true, true, true, true, true, true, true, true, true, true, true, true, true, true, true, true, true, true, true, true, true, true, true, true, false, false, false, false, false, false, false, false, false] rfl rfl (any_of HT_.out (by kernel_rfl)) (fun _ _ _ h => h) (Or.inl ⟨by rfl, ?_⟩) ?_ ?_; rotate_left; · (intro w'; go_simp; with_reducible rfl)
                rotate_left; · (simp only [Act.put, sT, sZ, sS, i64_w, i32_w]; rfl)
                refine pure_ (i := 31) (N := some 62) (v := ?_) (a' := ?_) #[true, true, true, true, true, true, true, true, true, true, true, true, true, true, true, true, true, true, true, true, true, true, true, true, true, true, true, true, true, true, true, true, false, false, false, false, false, false, false, false] rfl rfl (any_of HT_.out (by kernel_rfl)) (fun _ _ _ h => h) (Or.inl ⟨by rfl, ?_⟩) ?_ ?_; rotate_left; · (intro w'; go_simp; with_reducible rfl)
                rotate_left; · (simp only [Act.put, sT, sZ, sS, i64_w, i32_w]; rfl)
                refine pure_ (i := 32) (N := some 63) (v := ?_) (a' := ?_) #[true, true, true, true, true, true, true, true, true, true, true, true, true, true, true, true, true, true, true, true, true, true, true, true, true, true, true, true, true, true, true, true, true, false, false, false, false, false, false, false] rfl rfl (any_of HT_.out (by kernel_rfl)) (fun _ _ _ h => h) (Or.inl ⟨by rfl, ?_⟩) ?_ ?_; rotate_left; · (intro w'; go_simp; with_reducible rfl)
                rotate_left; · (simp only [Act.put, sT, sZ, sS, i64_w, i32_w]; rfl)
                refine pure_ (i := 33) (N := some 64) (v := ?_) (a' := ?_) #[true, true, true, true, true, true, true, true, true, true, true, true, true, true, true, true, true, true, true, true, true, true, true, true, true, true, true, true, true, true, true, true, true, true, false, false, false, false, false, false] rfl rfl (any_of HT_.out (by kernel_rfl)) (fun _ _ _ h => h) (Or.inl ⟨by rfl, ?_⟩) ?_ ?_; rotate_left; · (intro w'; go_simp; with_reducible rfl)
                rotate_left; · (simp only [Act.put, sT, sZ, sS, i64_w, i32_w]; rfl)
                refine pure_ (i := 34) (N := some 65) (v := ?_) (a' := ?_) #[true, true, true, true, true, true, true, true, true, true, true, true, true, true, true, true, true, true, true, true, true, true, true, true, true, true, true, true, true, true, true, true, true, true, true, false, false, false, false, false] rfl rfl (any_of HT_.out (by kernel_rfl)) (fun _ _ _ h => h) (Or.inl ⟨by rfl, ?_⟩) ?_ ?_; rotate_left; · (intro w'; go_simp; with_reducible rfl)
                rotate_left; · (simp only [Act.put, sT, sZ, sS, i64_w, i32_w]; rfl)
                refine take_ (i := 35) (N := some 66) (v := ?_) (a' := ?_) #[true, true, true, true, true, true, true, true, true, true, true, true, true, true, true, true, true, true, true, true, true, true, true, true, true, true, true, true, true, true, true, true, true, true, true, true, false, false, false, false] rfl rfl (take_ofW HT_.out HW_.out (by kernel_rfl)) (fun _ _ _ h => h) (Or.inl ⟨by rfl, ?_⟩) hHeld ?_ ?_; rotate_left
                · rintro w' ⟨s0, s1, s2, s3, s4⟩
                  go_simp
                  with_reducible rfl
                rotate_left; · (simp only [Act.put, sT, sZ, sS, i64_w, i32_w]; rfl)
                refine one_ (i := 36) (N := some 67) #[true, true, true, true, true, true, true, true, true, true, true, true, true, true, true, true, true, true, true, true, true, true, true, true, true, true, true, true, true, true, true, true, true, true, true, true, true, false, false, false] rfl rfl (one_of HT_.out (by kernel_rfl)) (by decide) (fun K hK => ?_)
                refine goes_ Try.func22 (by kernel_rfl) rfl #[.int .i64 1, .int .i64 0] (by rfl) rfl rfl (by (try simp only [List.map_toArray, List.map_cons, List.map_nil]); first | done | rfl | (simp; done)) ?_
                (with_reducible refine (barrowlaw07_tile.calls _ _ _ _ _  Hc10.out).mono ?_)
                rintro e_ w62 ⟨rfl, hb_⟩
                refine ⟨_, rfl, ?_⟩
                replace HS := Aside0.mk (HS.out.below hb_)
                replace HK := Aside0.mk (HK.out.trans (Keep.below hb_))
                refine hK.out _ _ ⟨(((blk_cell (SL.at_ (SL.get6 HS.out)) 0).trans rfl)), (((blk_cell (SL.at_ (SL.get6 HS.out)) 1).trans rfl)), (((blk_cell (SL.at_ (SL.get6 HS.out)) 2).trans rfl)), (((blk_cell (SL.at_ (SL.get2 HS.out)) 0).trans rfl)), (((blk_cell (SL.at_ (SL.get2 HS.out)) 1).trans rfl))⟩ (fun hHeld => ?_)
                clear hK K
                refine norm_ (a' := ?_) ?_ ?_; rotate_left
                · show Act.put _ (some 67) _ = _
                  simp only [Act.put, sT, sZ, sS, i64_w, i32_w]
                  rfl
                refine pure_ (i := 37) (N := some 68) (v := ?_) (a' := ?_) #[true, true, true, true, true, true, true, true, true, true, true, true, true, true, true, true, true, true, true, true, true, true, true, true, true, true, true, true, true, true, true, true, true, true, true, true, true, true, false, false] rfl rfl (any_of HT_.out (by kernel_rfl)) (fun _ _ _ h => h) (Or.inl ⟨by rfl, ?_⟩) ?_ ?_; rotate_left; · (intro w'; go_simp; with_reducible rfl)
                rotate_left; · (simp only [Act.put, sT, sZ, sS, i64_w, i32_w]; rfl)
                refine pure_ (i := 38) (N := some 69) (v := ?_) (a' := ?_) #[true, true, true, true, true, true, true, true, true, true, true, true, true, true, true, true, true, true, true, true, true, true, true, true, true, true, true, true, true, true, true, true, true, true, true, true, true, true, true, false] rfl rfl (any_of HT_.out (by kernel_rfl)) (fun _ _ _ h => h) (Or.inl ⟨by rfl, ?_⟩) ?_ ?_; rotate_left; · (intro w'; go_simp; with_reducible rfl)
                rotate_left; · (simp only [Act.put, sT, sZ, sS, i64_w, i32_w]; rfl)
                refine pure_ (i := 39) (N := some 0) (v := ?_) (a' := ?_) #[true, true, true, true, true, true, true, true, true, true, true, true, true, true, true, true, true, true, true, true, true, true, true, true, true, true, true, true, true, true, true, true, true, true, true, true, true, true, true, true] rfl rfl (any_of HT_.out (by kernel_rfl)) (fun _ _ _ h => h) (Or.inl ⟨by rfl, ?_⟩) ?_ ?_; rotate_left; · (intro w'; go_simp; with_reducible rfl)
                rotate_left; · (simp only [Act.put, sT, sZ, sS, i64_w, i32_w]; rfl)
                refine done_ (done_of HT_.out (by kernel_rfl)) ?_
                try go_wp2
                go_ret
                replace HS := Aside0.mk (SL.tail (SL.tail (SL.tail (SL.tail (SL.tail (SL.tail (SL.tail HS.out)))))))
                unfold barrowlaw07_small.Post
                exact ⟨by first | rfl | (simp; done) | (simp [*]; done) | (simp at c8b0 ⊢; first | exact c8b0 | (simp [c8b0]; done)), HS.out, HK.out⟩
              · replace c23 := Bool.eq_false_iff.mpr c23
                subst c23
                rw [if_neg (show ¬ (false = true) by decide)] at H
                exact absurd H (by simp)
          · replace c20 := Bool.eq_false_iff.mpr c20
            subst c20
            rw [if_neg (show ¬ (false = true) by decide)] at H
            exact absurd H (by simp)
        · replace c19 := Bool.eq_false_iff.mpr c19
          subst c19
          rw [if_neg (show ¬ (false = true) by decide)] at H
          exact absurd H (by simp)
      · replace c16 := Bool.eq_false_iff.mpr c16
        subst c16
        rw [if_neg (show ¬ (false = true) by decide)] at H
        exact absurd H (by simp)
    · rw [if_neg c8] at H
      exact absurd H (by simp)
  · rw [if_neg c1] at H
    exact absurd H (by simp)
theorem barrowlaw07_small.calls (k : Nat)  (r : Bool) (w : World) (h : barrowlaw07_small.f k  = some r) :
    Calls Try.prog 7 #[] w fun e w' => e = .returned (.bool r) ∧ Below w.heap.size w w' :=
  (barrowlaw07_small.slcalls k  r (news w) [] w (fresh_news w) trivial h).mono fun _ _ h => ⟨h.1, h.2.2.to_below⟩

end Go.Proofs.Ytljmecjciifceaa.XSW
