-- Written by xprint.py (a program of this session) for this claim
import Derived.Test.YtdpeflbdoaccbaaSL5
import Derived.Test.YtdpeflbdoaccbaaXCHx0
import Derived.Test.YtdpeflbdoaccbaaXCHx2
import Derived.Test.YtdpeflbdoaccbaaXCHx6
import Derived.Test.YtdpeflbdoaccbaaXCHx8
import Derived.Test.YtdpeflbdoaccbaaXCHx11
import Derived.Test.YtdpeflbdoaccbaaXCHx15
namespace Go.Proofs.Ytdpeflbdoaccbaa.XCH
open Go.Proofs.YtdpeflbdoaccbaaV Go.Proofs.YtdpeflbdoaccbaaS
open Go.RowKit Go.Proofs.YtdpeflbdoaccbaaW.PrintWords Go.Proofs.YtdpeflbdoaccbaaW.PrintLast Go.Proofs.YtdpeflbdoaccbaaW.PrintMore
attribute [local go_sem] max2_int min2_int max_two min_two max_three min_three max_four min_four   -- for this text's walks alone
set_option linter.unusedVariables false
set_option linter.unusedSimpArgs false

/-! ### barrowlaw38_ChatHears: function 3 -/
noncomputable def barrowlaw38_ChatHears.f (k : Nat) (l0 : List (S44)) (l1 : List (S71)) (l2 : List (S46)) (a3 : Int) (a4 : Int) (a5 : Int) (a6 : Int) : Option (Bool) := (barrowlaw38_small.f k).bind fun t500 => (if (l0.length : Int) > 60 then (some t500) else (if (l1.length : Int) > 60 then (some t500) else (if (l2.length : Int) > 60 then (some t500) else ((chat_Hear.f k l0 l1 l2 a3 a4 a5 a6).bind fun t501 => ((barrowref38_Hear.f k l0 l1 l2 a3 a4 a5 a6).bind fun t502 => ((barrowref02_Same.f k t501 t502).bind fun t503 => (if t500 = true then (if t503 = true then ((chat_Mutes.f k l2 a4 a5).bind fun t504 => ((barrowref38_Mutes.f k l2 a4 a5).bind fun t505 => (if (t504 == t505) = true then (some true) else (none)))) else (none)) else (none))))))))
theorem barrowlaw38_ChatHears.mono : ∀ a0 a1 a2 a3 a4 a5 a6 k, LeO (barrowlaw38_ChatHears.f k a0 a1 a2 a3 a4 a5 a6) (barrowlaw38_ChatHears.f (k + 1) a0 a1 a2 a3 a4 a5 a6) := by
  intro a0 a1 a2 a3 a4 a5 a6 k
  unfold barrowlaw38_ChatHears.f
  repeat' first
      | (with_reducible exact barrowlaw38_small.mono _)
      | (with_reducible exact barrowref02_Same.mono _ _ _)
      | (with_reducible exact barrowref38_Hear.mono _ _ _ _ _ _ _ _)
      | (with_reducible exact barrowref38_Mutes.mono _ _ _ _)
      | (with_reducible exact chat_Hear.mono _ _ _ _ _ _ _ _)
      | (with_reducible exact chat_Mutes.mono _ _ _ _)
      | (with_reducible exact LeO.refl _)
      | (with_reducible exact LeO.none _)
      | (with_reducible refine LeO.ite ?_ ?_)
      | (with_reducible refine everyOf_le (fun _ => ?_))
      | (with_reducible refine LeO.bind ?_ (fun _ => ?_))
      | exact barrowlaw38_small.mono _
      | exact barrowref02_Same.mono _ _ _
      | exact barrowref38_Hear.mono _ _ _ _ _ _ _ _
      | exact barrowref38_Mutes.mono _ _ _ _
      | exact chat_Hear.mono _ _ _ _ _ _ _ _
      | exact chat_Mutes.mono _ _ _ _
      | exact LeO.none _
      | refine LeO.ite ?_ ?_
      | refine LeO.bind ?_ (fun _ => ?_)
def barrowlaw38_ChatHears.Post (r : Bool) (S : Nat → Prop) (L : List Asr) (w : World) (e : Ending) (w' : World) : Prop := e = .returned (.bool r) ∧ SL (L) w' S ∧ Keep S w w'
set_option maxHeartbeats 8000000 in
set_option maxRecDepth 100000 in
theorem barrowlaw38_ChatHears.slcalls (k : Nat) (A0 : Option Addr) (c0 : Nat) (l0 : List (S44)) (A1 : Option Addr) (c1 : Nat) (l1 : List (S71)) (A2 : Option Addr) (c2 : Nat) (l2 : List (S46)) (a3 : Int) (a4 : Int) (a5 : Int) (a6 : Int) (r : Bool) (S : Nat → Prop) (L : List Asr) (w : World) (hf : Fresh S w) (hs : SL (L) w S) (hr0 : RO S w (fun w_ => Kd.C k44 w_ A0 l0.length l0)) (hc0 : l0.length ≤ c0) (hr1 : RO S w (fun w_ => Kd.C k71 w_ A1 l1.length l1)) (hc1 : l1.length ≤ c1) (hr2 : RO S w (fun w_ => Kd.C k46 w_ A2 l2.length l2)) (hc2 : l2.length ≤ c2) (h : barrowlaw38_ChatHears.f k l0 l1 l2 a3 a4 a5 a6 = some r) :
    Calls Try.prog 3 #[.slice A0 l0.length c0, .slice A1 l1.length c1, .slice A2 l2.length c2, .int .i64 a3, .int .i64 a4, .int .i64 a5, .int .i64 a6] w (barrowlaw38_ChatHears.Post r S L w) := by
  have HR0 := Aside0.mk hr0
  have HC0 := Aside0.mk hc0
  clear hr0 hc0
  have HR1 := Aside0.mk hr1
  have HC1 := Aside0.mk hc1
  clear hr1 hc1
  have HR2 := Aside0.mk hr2
  have HC2 := Aside0.mk hc2
  clear hr2 hc2
  have HF := Aside0.mk hf
  have HS := Aside0.mk hs
  have HK := Aside0.mk (Keep.refl S w)
  clear hf hs
  have H : ((barrowlaw38_small.f k).bind fun t500 => (if (l0.length : Int) > 60 then (some t500) else (if (l1.length : Int) > 60 then (some t500) else (if (l2.length : Int) > 60 then (some t500) else ((chat_Hear.f k l0 l1 l2 a3 a4 a5 a6).bind fun t501 => ((barrowref38_Hear.f k l0 l1 l2 a3 a4 a5 a6).bind fun t502 => ((barrowref02_Same.f k t501 t502).bind fun t503 => (if t500 = true then (if t503 = true then ((chat_Mutes.f k l2 a4 a5).bind fun t504 => ((barrowref38_Mutes.f k l2 a4 a5).bind fun t505 => (if (t504 == t505) = true then (some true) else (none)))) else (none)) else (none))))))))) = some r := h
  clear h
  replace H := Option.bind_eq_some_iff.1 H
  obtain ⟨t500, Hc10, H⟩ := H
  try dsimp only at H
  have Hc1 := Aside0.mk Hc10
  clear Hc10
  by_cases c2 : (l0.length : Int) > 60
  · rw [if_pos c2] at H
    have c2b0 : decide (60 < (l0.length : Int)) = true := decide_eq_true c2
    have c2b1 : decide (60 < l0.length) = true := decide_eq_true (by omega)
    clear c2
    obtain rfl := Option.some.inj H
    go_enter Try.func3, Try.ntmps3
    go_wp2_with (first | ((with_reducible refine gate_dst (N := 18) rfl ?_); refine goesL_ (some 18) rfl rfl Try.func7 (by kernel_rfl) rfl #[] rfl (by (try simp only [List.map_toArray, List.map_cons, List.map_nil]); first | done | rfl | (simp; done)) ?_; (with_reducible refine (barrowlaw38_small.calls k _ _  Hc1.out).mono ?_); rintro e_ w3 ⟨rfl, hb_⟩; refine ⟨_, rfl, ?_⟩; replace HS := Aside0.mk (HS.out.below hb_); replace HK := Aside0.mk (HK.out.trans (Keep.below hb_))))
    go_ret
    unfold barrowlaw38_ChatHears.Post
    exact ⟨by first | rfl | (simp; done) | (simp [*]; done) | (simp at c2b0 ⊢; first | exact c2b0 | (simp [c2b0]; done)), HS.out, HK.out⟩
  · rw [if_neg c2] at H
    have c2b0 : decide (60 < (l0.length : Int)) = false := decide_eq_false c2
    have c2b1 : decide (60 < l0.length) = false := decide_eq_false (by omega)
    clear c2
    by_cases c4 : (l1.length : Int) > 60
    · rw [if_pos c4] at H
      have c4b0 : decide (60 < (l1.length : Int)) = true := decide_eq_true c4
      have c4b1 : decide (60 < l1.length) = true := decide_eq_true (by omega)
      clear c4
      obtain rfl := Option.some.inj H
      go_enter Try.func3, Try.ntmps3
      go_wp2_with (first | ((with_reducible refine gate_dst (N := 18) rfl ?_); refine goesL_ (some 18) rfl rfl Try.func7 (by kernel_rfl) rfl #[] rfl (by (try simp only [List.map_toArray, List.map_cons, List.map_nil]); first | done | rfl | (simp; done)) ?_; (with_reducible refine (barrowlaw38_small.calls k _ _  Hc1.out).mono ?_); rintro e_ w5 ⟨rfl, hb_⟩; refine ⟨_, rfl, ?_⟩; replace HS := Aside0.mk (HS.out.below hb_); replace HK := Aside0.mk (HK.out.trans (Keep.below hb_))))
      go_ret
      unfold barrowlaw38_ChatHears.Post
      exact ⟨by first | rfl | (simp; done) | (simp [*]; done) | (simp at c4b0 ⊢; first | exact c4b0 | (simp [c4b0]; done)), HS.out, HK.out⟩
    · rw [if_neg c4] at H
      have c4b0 : decide (60 < (l1.length : Int)) = false := decide_eq_false c4
      have c4b1 : decide (60 < l1.length) = false := decide_eq_false (by omega)
      clear c4
      by_cases c6 : (l2.length : Int) > 60
      · rw [if_pos c6] at H
        have c6b0 : decide (60 < (l2.length : Int)) = true := decide_eq_true c6
        have c6b1 : decide (60 < l2.length) = true := decide_eq_true (by omega)
        clear c6
        obtain rfl := Option.some.inj H
        go_enter Try.func3, Try.ntmps3
        go_wp2_with (first | ((with_reducible refine gate_dst (N := 18) rfl ?_); refine goesL_ (some 18) rfl rfl Try.func7 (by kernel_rfl) rfl #[] rfl (by (try simp only [List.map_toArray, List.map_cons, List.map_nil]); first | done | rfl | (simp; done)) ?_; (with_reducible refine (barrowlaw38_small.calls k _ _  Hc1.out).mono ?_); rintro e_ w7 ⟨rfl, hb_⟩; refine ⟨_, rfl, ?_⟩; replace HS := Aside0.mk (HS.out.below hb_); replace HK := Aside0.mk (HK.out.trans (Keep.below hb_))))
        go_ret
        unfold barrowlaw38_ChatHears.Post
        exact ⟨by first | rfl | (simp; done) | (simp [*]; done) | (simp at c6b0 ⊢; first | exact c6b0 | (simp [c6b0]; done)), HS.out, HK.out⟩
      · rw [if_neg c6] at H
        have c6b0 : decide (60 < (l2.length : Int)) = false := decide_eq_false c6
        have c6b1 : decide (60 < l2.length) = false := decide_eq_false (by omega)
        clear c6
        replace H := Option.bind_eq_some_iff.1 H
        obtain ⟨t501, Hc80, H⟩ := H
        try dsimp only at H
        have Hc8 := Aside0.mk Hc80
        clear Hc80
        replace H := Option.bind_eq_some_iff.1 H
        obtain ⟨t502, Hc90, H⟩ := H
        try dsimp only at H
        have Hc9 := Aside0.mk Hc90
        clear Hc90
        replace H := Option.bind_eq_some_iff.1 H
        obtain ⟨t503, Hc100, H⟩ := H
        try dsimp only at H
        have Hc10 := Aside0.mk Hc100
        clear Hc100
        by_cases c11 : t500 = true
        · subst c11
          rw [if_pos rfl] at H
          by_cases c12 : t503 = true
          · subst c12
            rw [if_pos rfl] at H
            replace H := Option.bind_eq_some_iff.1 H
            obtain ⟨t504, Hc130, H⟩ := H
            try dsimp only at H
            have Hc13 := Aside0.mk Hc130
            clear Hc130
            replace H := Option.bind_eq_some_iff.1 H
            obtain ⟨t505, Hc140, H⟩ := H
            try dsimp only at H
            have Hc14 := Aside0.mk Hc140
            clear Hc140
            by_cases c15 : (t504 == t505) = true
            · rw [if_pos c15] at H
              have c15b0 : (t504 == t505) = true := c15
              (try (have c15b1 : decide (t504 = t505) = true := by simpa using c15))
              (try (have c15b2 : (t504 == t505) = true := by simpa using c15))
              clear c15
              obtain rfl := Option.some.inj H
              go_enter Try.func3, Try.ntmps3
              go_wp2_with (first | ((with_reducible refine gate_dst (N := 18) rfl ?_); refine goesL_ (some 18) rfl rfl Try.func7 (by kernel_rfl) rfl #[] rfl (by (try simp only [List.map_toArray, List.map_cons, List.map_nil]); first | done | rfl | (simp; done)) ?_; (with_reducible refine (barrowlaw38_small.calls k _ _  Hc1.out).mono ?_); rintro e_ w16 ⟨rfl, hb_⟩; refine ⟨_, rfl, ?_⟩; replace HS := Aside0.mk (HS.out.below hb_); replace HK := Aside0.mk (HK.out.trans (Keep.below hb_))) | ((with_reducible refine gate_dst (N := 40) rfl ?_); refine goesL_ (some 40) rfl rfl Try.func8 (by kernel_rfl) rfl #[.slice A0 l0.length c0, .slice A1 l1.length c1, .slice A2 l2.length c2, .int .i64 a3, .int .i64 a4, .int .i64 a5, .int .i64 a6] rfl (by (try simp only [List.map_toArray, List.map_cons, List.map_nil]); first | done | rfl | (simp; done)) ?_; have hs0_ := HS.out; (with_reducible refine (chat_Hear.slcalls k _ _ _ _ _ _ _ _ _ _ _ _ _ _ _ _ _ (HF.out.keep HK.out) hs0_ (HR0.out.keep HK.out) HC0.out (HR1.out.keep HK.out) HC1.out (HR2.out.keep HK.out) HC2.out Hc8.out).mono ?_); rintro e_ w17 ⟨Az3000047, cz3000047, rfl, hsr_, hkr_⟩; refine ⟨_, rfl, ?_⟩; replace HS := Aside0.mk (hsr_); replace HK := Aside0.mk (HK.out.trans hkr_)) | ((with_reducible refine gate_dst (N := 49) rfl ?_); refine goesL_ (some 49) rfl rfl Try.func10 (by kernel_rfl) rfl #[.slice A0 l0.length c0, .slice A1 l1.length c1, .slice A2 l2.length c2, .int .i64 a3, .int .i64 a4, .int .i64 a5, .int .i64 a6] rfl (by (try simp only [List.map_toArray, List.map_cons, List.map_nil]); first | done | rfl | (simp; done)) ?_; have hs0_ := HS.out; (with_reducible refine (barrowref38_Hear.slcalls k _ _ _ _ _ _ _ _ _ _ _ _ _ _ _ _ _ (HF.out.keep HK.out) hs0_ (HR0.out.keep HK.out) HC0.out (HR1.out.keep HK.out) HC1.out (HR2.out.keep HK.out) HC2.out Hc9.out).mono ?_); rintro e_ w18 ⟨Az3000048, cz3000048, rfl, hsr_, hkr_⟩; refine ⟨_, rfl, ?_⟩; replace HS := Aside0.mk (hsr_); replace HK := Aside0.mk (HK.out.trans hkr_)) | ((with_reducible refine gate_dst (N := 50) rfl ?_); refine goesL_ (some 50) rfl rfl Try.func9 (by kernel_rfl) rfl #[.slice Az3000047 t501.length cz3000047, .slice Az3000048 t502.length cz3000048] rfl (by (try simp only [List.map_toArray, List.map_cons, List.map_nil]); first | done | rfl | (simp; done)) ?_; (with_reducible refine (barrowref02_Same.calls k _ _ _ _ _ _ _ _ (SL.row_c (SL.get1 HS.out)).2.2 (SL.row_c (SL.get1 HS.out)).2.1 (SL.row_c HS.out).2.2 (SL.row_c HS.out).2.1 Hc10.out).mono ?_); rintro e_ w19 ⟨rfl, hb_⟩; refine ⟨_, rfl, ?_⟩; replace hb_ := Drawn0.below hb_; replace HS := Aside0.mk (HS.out.below hb_); replace HK := Aside0.mk (HK.out.trans (Keep.below hb_))) | ((with_reducible refine gate_dst (N := 59) rfl ?_); (try (refine gate_guard (by rfl) ?_; dsimp only)); refine goesL_ (some 59) rfl rfl Try.func11 (by kernel_rfl) rfl #[.slice A2 l2.length c2, .int .i64 a4, .int .i64 a5] rfl (by (try simp only [List.map_toArray, List.map_cons, List.map_nil]); first | done | rfl | (simp; done)) ?_; (with_reducible refine (chat_Mutes.calls k _ _ _ _ _ _ _ (RO.at_ HR2.out HK.out) HC2.out Hc13.out).mono ?_); rintro e_ w20 ⟨rfl, hb_⟩; refine ⟨_, rfl, ?_⟩; replace HS := Aside0.mk (HS.out.below hb_); replace HK := Aside0.mk (HK.out.trans (Keep.below hb_))) | ((with_reducible refine gate_dst (N := 63) rfl ?_); (try (refine gate_guard (by rfl) ?_; dsimp only)); refine goesL_ (some 63) rfl rfl Try.func12 (by kernel_rfl) rfl #[.slice A2 l2.length c2, .int .i64 a4, .int .i64 a5] rfl (by (try simp only [List.map_toArray, List.map_cons, List.map_nil]); first | done | rfl | (simp; done)) ?_; (with_reducible refine (barrowref38_Mutes.calls k _ _ _ _ _ _ _ (RO.at_ HR2.out HK.out) HC2.out Hc14.out).mono ?_); rintro e_ w21 ⟨rfl, hb_⟩; refine ⟨_, rfl, ?_⟩; replace hb_ := Drawn0.below hb_; replace HS := Aside0.mk (HS.out.below hb_); replace HK := Aside0.mk (HK.out.trans (Keep.below hb_))))
              go_ret
              replace HS := Aside0.mk (SL.tail (SL.tail HS.out))
              unfold barrowlaw38_ChatHears.Post
              exact ⟨by first | rfl | (simp; done) | (simp [*]; done) | (simp at c15b0 ⊢; first | exact c15b0 | (simp [c15b0]; done)), HS.out, HK.out⟩
            · rw [if_neg c15] at H
              exact absurd H (by simp)
          · replace c12 := Bool.eq_false_iff.mpr c12
            subst c12
            rw [if_neg (show ¬ (false = true) by decide)] at H
            exact absurd H (by simp)
        · replace c11 := Bool.eq_false_iff.mpr c11
          subst c11
          rw [if_neg (show ¬ (false = true) by decide)] at H
          exact absurd H (by simp)
theorem barrowlaw38_ChatHears.calls (k : Nat) (A0 : Option Addr) (c0 : Nat) (l0 : List (S44)) (A1 : Option Addr) (c1 : Nat) (l1 : List (S71)) (A2 : Option Addr) (c2 : Nat) (l2 : List (S46)) (a3 : Int) (a4 : Int) (a5 : Int) (a6 : Int) (r : Bool) (w : World) (hr0 : Kd.C k44 w A0 l0.length l0) (hc0 : l0.length ≤ c0) (hr1 : Kd.C k71 w A1 l1.length l1) (hc1 : l1.length ≤ c1) (hr2 : Kd.C k46 w A2 l2.length l2) (hc2 : l2.length ≤ c2) (h : barrowlaw38_ChatHears.f k l0 l1 l2 a3 a4 a5 a6 = some r) :
    Calls Try.prog 3 #[.slice A0 l0.length c0, .slice A1 l1.length c1, .slice A2 l2.length c2, .int .i64 a3, .int .i64 a4, .int .i64 a5, .int .i64 a6] w fun e w' => e = .returned (.bool r) ∧ Below w.heap.size w w' :=
  (barrowlaw38_ChatHears.slcalls k A0 c0 l0 A1 c1 l1 A2 c2 l2 a3 a4 a5 a6 r (news w) [] w (fresh_news w) trivial (RO.top hr0) hc0 (RO.top hr1) hc1 (RO.top hr2) hc2 h).mono fun _ _ h => ⟨h.1, h.2.2.to_below⟩

/-- THE ONE PURE STATEMENT of barrowlaw38_ChatHears. -/
noncomputable def barrowlaw38_ChatHears.Pure : Prop := ∀ (l0 : List (S44)) (l1 : List (S71)) (l2 : List (S46)) (a3 : Int) (a4 : Int) (a5 : Int) (a6 : Int), (l0.length ≤ maxLen ∧ l0.length * 24 ≤ 140737488351232 ∧ ∀ x506_ ∈ l0, ((Lit.int .i64 x506_.f0).wf = true) ∧ (((Lit.int .i64 x506_.f1.f0).wf = true) ∧ ((Lit.int .i64 x506_.f1.f1).wf = true))) → (l1.length ≤ maxLen ∧ l1.length * 16 ≤ 140737488351232 ∧ ∀ x507_ ∈ l1, ((Lit.int .i64 x507_.f0).wf = true) ∧ ((Lit.int .i64 x507_.f1).wf = true)) → (l2.length ≤ maxLen ∧ l2.length * 16 ≤ 140737488351232 ∧ ∀ x508_ ∈ l2, ((Lit.int .i64 x508_.f0).wf = true) ∧ ((Lit.int .i64 x508_.f1).wf = true)) → ((Lit.int .i64 a3).wf = true) → ((Lit.int .i64 a4).wf = true) → ((Lit.int .i64 a5).wf = true) → ((Lit.int .i64 a6).wf = true) → ∃ k, barrowlaw38_ChatHears.f k l0 l1 l2 a3 a4 a5 a6 = some true

end Go.Proofs.Ytdpeflbdoaccbaa.XCH
