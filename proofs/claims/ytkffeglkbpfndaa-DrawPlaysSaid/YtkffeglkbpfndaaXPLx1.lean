-- Written by xprint.py (a program of this session) for this claim
import Derived.Test.YtkffeglkbpfndaaSL5
import Derived.Test.YtkffeglkbpfndaaXPLx0
namespace Go.Proofs.Ytkffeglkbpfndaa.XPL
open Go.Proofs.YtkffeglkbpfndaaV Go.Proofs.YtkffeglkbpfndaaS
open Go.RowKit Go.Proofs.YtkffeglkbpfndaaW.PrintWords Go.Proofs.YtkffeglkbpfndaaW.PrintLast Go.Proofs.YtkffeglkbpfndaaW.PrintMore
attribute [local go_sem] max2_int min2_int max_two min_two max_three min_three max_four min_four   -- for this text's walks alone
set_option linter.unusedVariables false
set_option linter.unusedSimpArgs false

/-! ### draw_word: function 22 -/
def draw_word.f (a0 : Int) : Option (Bool) := if a0 ≥ 0 then (some (decide (a0 < 4294967296))) else (some false)
set_option maxHeartbeats 8000000 in
set_option maxRecDepth 100000 in
theorem draw_word.calls (a0 : Int) (r : Bool) (w : World) (h : draw_word.f a0 = some r) :
    Calls Try.prog 22 #[.int .i64 a0] w fun e w' => e = .returned (.bool r) ∧ Drawn0 w w' := by
  have H : (if a0 ≥ 0 then (some (decide (a0 < 4294967296))) else (some false)) = some r := h
  clear h
  by_cases c2 : a0 ≥ 0
  · rw [if_pos c2] at H
    have c2b0 : decide (0 ≤ a0) = true := decide_eq_true c2
    clear c2
    obtain rfl := Option.some.inj H
    go_enter Try.func22, Try.ntmps22
    go_wp2
    go_ret
    exact ⟨by first | rfl | (simp; done) | (simp [*]; done), by repeat (first | exact Drawn0.refl _ | apply Drawn0.step)⟩
  · rw [if_neg c2] at H
    have c2b0 : decide (0 ≤ a0) = false := decide_eq_false c2
    clear c2
    obtain rfl := Option.some.inj H
    go_enter Try.func22, Try.ntmps22
    go_wp2
    go_ret
    exact ⟨by first | rfl | (simp; done) | (simp [*]; done), by repeat (first | exact Drawn0.refl _ | apply Drawn0.step)⟩

/-! ### draw_Fair: function 9 -/
def draw_Fair.l0 : Nat → (List Int) → Int → Int → Option (Int × Int × Bool)
  | 0, _, _, _ => none
  | k + 1, l0, a1, x21_0 => if x21_0 < (l0.length : Int) then (if 0 ≤ x21_0 then ((draw_word.f (rd l0 x21_0)).bind fun t102 => (if t102 = true then (if (rd l0 x21_0) ≥ (wrap64 (4294967296 - ((4294967296 : Int) % a1))) then (draw_Fair.l0 k l0 a1 (wrap64 (x21_0 + 1))) else (if a1 = 0 then (none) else (some (Int.tmod (rd l0 x21_0) a1, wrap64 (x21_0 + 1), true)))) else (some (0, 0, false)))) else (none)) else (some (0, 0, false))
def draw_Fair.f (k : Nat) (l0 : List Int) (a1 : Int) : Option (Int × Int × Bool) := if a1 < 1 then (some (0, 0, false)) else (if a1 > 4294967296 then (some (0, 0, false)) else (if a1 = 0 then (none) else (draw_Fair.l0 k l0 a1 0)))
theorem draw_Fair.mono_l : ∀ k, (∀ y0 y1 y2, LeO (draw_Fair.l0 k y0 y1 y2) (draw_Fair.l0 (k + 1) y0 y1 y2))
  | 0 => fun _ _ _ r h => by simp [draw_Fair.l0] at h
  | k + 1 => by
    have ih0 := draw_Fair.mono_l k
    · intro y0 y1 y2
      unfold draw_Fair.l0
      repeat' first
      | (with_reducible exact ih0 _ _ _)
      | (with_reducible exact LeO.refl _)
      | (with_reducible exact LeO.none _)
      | (with_reducible refine LeO.ite ?_ ?_)
      | (with_reducible refine everyOf_le (fun _ => ?_))
      | (with_reducible refine LeO.bind ?_ (fun _ => ?_))
      | exact ih0 _ _ _
      | exact LeO.none _
      | refine LeO.ite ?_ ?_
      | refine LeO.bind ?_ (fun _ => ?_)
theorem draw_Fair.mono : ∀ a0 a1 k, LeO (draw_Fair.f k a0 a1) (draw_Fair.f (k + 1) a0 a1) := by
  intro a0 a1 k
  have ih0 := draw_Fair.mono_l k
  unfold draw_Fair.f
  repeat' first
      | (with_reducible exact ih0 _ _ _)
      | (with_reducible exact LeO.refl _)
      | (with_reducible exact LeO.none _)
      | (with_reducible refine LeO.ite ?_ ?_)
      | (with_reducible refine everyOf_le (fun _ => ?_))
      | (with_reducible refine LeO.bind ?_ (fun _ => ?_))
      | exact ih0 _ _ _
      | exact LeO.none _
      | refine LeO.ite ?_ ?_
      | refine LeO.bind ?_ (fun _ => ?_)
def draw_Fair.Post (r1 : Int) (r2 : Int) (r3 : Bool) (S : Nat → Prop) (L : List Asr) (w : World) (e : Ending) (w' : World) : Prop := e = .returned (.tuple #[.int .i64 r1, .int .i64 r2, .bool r3]) ∧ SL (L) w' S ∧ Keep S w w'
set_option maxHeartbeats 8000000 in
set_option maxRecDepth 100000 in
theorem draw_Fair.slcalls (k : Nat) (A0 : Option Addr) (c0 : Nat) (l0 : List Int) (a1 : Int) (r1 : Int) (r2 : Int) (r3 : Bool) (S : Nat → Prop) (L : List Asr) (w : World) (hf : Fresh S w) (hs : SL (L) w S) (hr0 : RO S w (fun w_ => Kd.C (Kd.int .i64) w_ A0 l0.length l0)) (hc0 : l0.length ≤ c0) (h : draw_Fair.f k l0 a1 = some (r1, r2, r3)) :
    Calls Try.prog 9 #[.slice A0 l0.length c0, .int .i64 a1] w (draw_Fair.Post r1 r2 r3 S L w) := by
  have HR0 := Aside0.mk hr0
  have HC0 := Aside0.mk hc0
  clear hr0 hc0
  have HF := Aside0.mk hf
  have HS := Aside0.mk hs
  have HK := Aside0.mk (Keep.refl S w)
  clear hf hs
  have H : (if a1 < 1 then (some (0, 0, false)) else (if a1 > 4294967296 then (some (0, 0, false)) else (if a1 = 0 then (none) else (draw_Fair.l0 k l0 a1 0)))) = some (r1, r2, r3) := h
  clear h
  by_cases c1 : a1 < 1
  · rw [if_pos c1] at H
    have c1b0 : decide (a1 < 1) = true := decide_eq_true c1
    clear c1
    simp only [Option.some.injEq, Prod.mk.injEq] at H
    obtain ⟨rfl, rfl, rfl⟩ := H
    go_enter Try.func9, Try.ntmps9
    try go_wp2
    go_step3
    try go_wp2
    try simp only [Exit.noGoto_ret, Exit.noGoto_normal, Exit.noGoto_exit]
    go_ret3
    unfold draw_Fair.Post
    exact ⟨by first | rfl | (simp; done) | (simp [*]; done) | (simp at c1b0 ⊢; first | exact c1b0 | (simp [c1b0]; done)), HS.out, HK.out⟩
  · rw [if_neg c1] at H
    have c1b0 : decide (a1 < 1) = false := decide_eq_false c1
    clear c1
    by_cases c2 : a1 > 4294967296
    · rw [if_pos c2] at H
      have c2b0 : decide (4294967296 < a1) = true := decide_eq_true c2
      clear c2
      simp only [Option.some.injEq, Prod.mk.injEq] at H
      obtain ⟨rfl, rfl, rfl⟩ := H
      go_enter Try.func9, Try.ntmps9
      try go_wp2
      go_step3
      try go_wp2
      try simp only [Exit.noGoto_ret, Exit.noGoto_normal, Exit.noGoto_exit]
      go_ret3
      unfold draw_Fair.Post
      exact ⟨by first | rfl | (simp; done) | (simp [*]; done) | (simp at c2b0 ⊢; first | exact c2b0 | (simp [c2b0]; done)), HS.out, HK.out⟩
    · rw [if_neg c2] at H
      have c2b0 : decide (4294967296 < a1) = false := decide_eq_false c2
      clear c2
      by_cases c3 : a1 = 0
      · rw [if_pos c3] at H
        exact absurd H (by simp)
      · rw [if_neg c3] at H
        have c3b0 : (a1 == 0) = false := beq_eq_false_iff_ne.mpr c3
        have c3b1 : (a1 != 0) = true := bne_iff_ne.mpr c3
        have H' := Aside0.mk H
        clear H
        go_enter Try.func9, Try.ntmps9
        try go_wp2
        go_step3
        try go_wp2
        go_step3
        try go_wp2
        try simp only [Exit.noGoto_ret, Exit.noGoto_normal, Exit.noGoto_exit]
        go_loopg [21] k (fun kq v21 w' => ∃ (x21_0 : Int), v21 = .int .i64 x21_0 ∧ Aside0 (draw_Fair.l0 kq l0 a1 x21_0 = some (r1, r2, r3)) ∧ Aside0 (kq ≤ k) ∧ Aside0 (SL (L) w' S) ∧ Aside0 (Keep S w w'))
        case atStart => exact ⟨(0), (by first | rfl | (simp; done) | (simp [*]; done)), H', ⟨Nat.le_refl _⟩, HS, HK⟩
        case round =>
          clear H' HS HK
          obtain ⟨x21_0, rfl, HA, HQ1, HS, HK⟩ := hrel
          cases gk with
          | zero => exact absurd HA.out (by simp [draw_Fair.l0])
          | succ k1 =>
            have H := HA.out
            clear HA
            simp only [draw_Fair.l0] at H
            by_cases c4 : x21_0 < (l0.length : Int)
            · rw [if_pos c4] at H
              have c4b0 : decide (x21_0 < (l0.length : Int)) = true := decide_eq_true c4
              clear c4
              by_cases c5 : 0 ≤ x21_0
              · rw [if_pos c5] at H
                have c5b0 : decide (0 ≤ x21_0) = true := decide_eq_true c5
                clear c5
                replace H := Option.bind_eq_some_iff.1 H
                obtain ⟨t102, Hc60, H⟩ := H
                try dsimp only at H
                have Hc6 := Aside0.mk Hc60
                clear Hc60
                by_cases c7 : t102 = true
                · subst c7
                  rw [if_pos rfl] at H
                  by_cases c8 : (rd l0 x21_0) ≥ (wrap64 (4294967296 - ((4294967296 : Int) % a1)))
                  · rw [if_pos c8] at H
                    have c8b0 : decide ((wrap64 (4294967296 - ((4294967296 : Int) % a1))) ≤ (rd l0 x21_0)) = true := decide_eq_true c8
                    clear c8
                    have H' := Aside0.mk H
                    clear H
                    have pq101 : 0 ≤ (x21_0 : Int) := of_decide_eq_true (by first | (with_reducible assumption) | assumption)
                    have qq101 : x21_0 < ((l0.length : Int) : Int) := of_decide_eq_true (by first | (with_reducible assumption) | assumption)
                    obtain ⟨adq101, eq101, hxq101_0⟩ := Kd.at_int (RO.at_ HR0.out HK.out) x21_0 pq101 qq101
                    cases eq101
                    replace pq101 := eq_true pq101
                    replace qq101 := eq_true qq101
                    go_wp2_with (first | ((with_reducible refine gate_dst (N := 28) rfl ?_); refine goesL_ (some 28) rfl rfl Try.func22 (by kernel_rfl) rfl #[.int .i64 (rd l0 x21_0)] rfl (by (try simp only [List.map_toArray, List.map_cons, List.map_nil]); first | done | rfl | (simp; done)) ?_; (with_reducible refine (draw_word.calls _ _ _  Hc6.out).mono ?_); rintro e_ w9 ⟨rfl, hb_⟩; refine ⟨_, rfl, ?_⟩; replace hb_ := Drawn0.below hb_; replace HS := Aside0.mk (HS.out.below hb_); replace HK := Aside0.mk (HK.out.trans (Keep.below hb_))))
                    try simp only [Exit.noGoto_ret, Exit.noGoto_normal, Exit.noGoto_exit]
                    go_roundg k1
                    case measure => have := HQ1.out; omega
                    case rel => exact ⟨(wrap64 (x21_0 + 1)), (by first | rfl | (simp; done) | (simp [*]; done)), H', ⟨by have := HQ1.out; omega⟩, HS, HK⟩
                  · rw [if_neg c8] at H
                    have c8b0 : decide ((wrap64 (4294967296 - ((4294967296 : Int) % a1))) ≤ (rd l0 x21_0)) = false := decide_eq_false c8
                    clear c8
                    by_cases c10 : a1 = 0
                    · rw [if_pos c10] at H
                      exact absurd H (by simp)
                    · rw [if_neg c10] at H
                      have c10b0 : (a1 == 0) = false := beq_eq_false_iff_ne.mpr c10
                      have c10b1 : (a1 != 0) = true := bne_iff_ne.mpr c10
                      simp only [Option.some.injEq, Prod.mk.injEq] at H
                      obtain ⟨rfl, rfl, rfl⟩ := H
                      have pq101 : 0 ≤ (x21_0 : Int) := of_decide_eq_true (by first | (with_reducible assumption) | assumption)
                      have qq101 : x21_0 < ((l0.length : Int) : Int) := of_decide_eq_true (by first | (with_reducible assumption) | assumption)
                      obtain ⟨adq101, eq101, hxq101_0⟩ := Kd.at_int (RO.at_ HR0.out HK.out) x21_0 pq101 qq101
                      cases eq101
                      replace pq101 := eq_true pq101
                      replace qq101 := eq_true qq101
                      go_wp2_with (first | ((with_reducible refine gate_dst (N := 28) rfl ?_); refine goesL_ (some 28) rfl rfl Try.func22 (by kernel_rfl) rfl #[.int .i64 (rd l0 x21_0)] rfl (by (try simp only [List.map_toArray, List.map_cons, List.map_nil]); first | done | rfl | (simp; done)) ?_; (with_reducible refine (draw_word.calls _ _ _  Hc6.out).mono ?_); rintro e_ w11 ⟨rfl, hb_⟩; refine ⟨_, rfl, ?_⟩; replace hb_ := Drawn0.below hb_; replace HS := Aside0.mk (HS.out.below hb_); replace HK := Aside0.mk (HK.out.trans (Keep.below hb_))))
                      try simp only [Exit.noGoto_ret, Exit.noGoto_normal, Exit.noGoto_exit]
                      go_ret3
                      unfold draw_Fair.Post
                      exact ⟨by first | rfl | (simp; done) | (simp [*]; done) | (simp at c10b0 ⊢; first | exact c10b0 | (simp [c10b0]; done)), HS.out, HK.out⟩
                · replace c7 := Bool.eq_false_iff.mpr c7
                  subst c7
                  rw [if_neg (show ¬ (false = true) by decide)] at H
                  simp only [Option.some.injEq, Prod.mk.injEq] at H
                  obtain ⟨rfl, rfl, rfl⟩ := H
                  have pq101 : 0 ≤ (x21_0 : Int) := of_decide_eq_true (by first | (with_reducible assumption) | assumption)
                  have qq101 : x21_0 < ((l0.length : Int) : Int) := of_decide_eq_true (by first | (with_reducible assumption) | assumption)
                  obtain ⟨adq101, eq101, hxq101_0⟩ := Kd.at_int (RO.at_ HR0.out HK.out) x21_0 pq101 qq101
                  cases eq101
                  replace pq101 := eq_true pq101
                  replace qq101 := eq_true qq101
                  go_wp2_with (first | ((with_reducible refine gate_dst (N := 28) rfl ?_); refine goesL_ (some 28) rfl rfl Try.func22 (by kernel_rfl) rfl #[.int .i64 (rd l0 x21_0)] rfl (by (try simp only [List.map_toArray, List.map_cons, List.map_nil]); first | done | rfl | (simp; done)) ?_; (with_reducible refine (draw_word.calls _ _ _  Hc6.out).mono ?_); rintro e_ w12 ⟨rfl, hb_⟩; refine ⟨_, rfl, ?_⟩; replace hb_ := Drawn0.below hb_; replace HS := Aside0.mk (HS.out.below hb_); replace HK := Aside0.mk (HK.out.trans (Keep.below hb_))))
                  try simp only [Exit.noGoto_ret, Exit.noGoto_normal, Exit.noGoto_exit]
                  go_ret3
                  unfold draw_Fair.Post
                  exact ⟨by first | rfl | (simp; done) | (simp [*]; done) | (simp at c5b0 ⊢; first | exact c5b0 | (simp [c5b0]; done)), HS.out, HK.out⟩
              · rw [if_neg c5] at H
                exact absurd H (by simp)
            · rw [if_neg c4] at H
              have c4b0 : decide (x21_0 < (l0.length : Int)) = false := decide_eq_false c4
              clear c4
              simp only [Option.some.injEq, Prod.mk.injEq] at H
              obtain ⟨rfl, rfl, rfl⟩ := H
              go_wp2
              try simp only [Exit.noGoto_ret, Exit.noGoto_normal, Exit.noGoto_exit]
              go_ret3
              unfold draw_Fair.Post
              exact ⟨by first | rfl | (simp; done) | (simp [*]; done) | (simp at c4b0 ⊢; first | exact c4b0 | (simp [c4b0]; done)), HS.out, HK.out⟩
theorem draw_Fair.calls (k : Nat) (A0 : Option Addr) (c0 : Nat) (l0 : List Int) (a1 : Int) (r1 : Int) (r2 : Int) (r3 : Bool) (w : World) (hr0 : Kd.C (Kd.int .i64) w A0 l0.length l0) (hc0 : l0.length ≤ c0) (h : draw_Fair.f k l0 a1 = some (r1, r2, r3)) :
    Calls Try.prog 9 #[.slice A0 l0.length c0, .int .i64 a1] w fun e w' => e = .returned (.tuple #[.int .i64 r1, .int .i64 r2, .bool r3]) ∧ Below w.heap.size w w' :=
  (draw_Fair.slcalls k A0 c0 l0 a1 r1 r2 r3 (news w) [] w (fresh_news w) trivial (RO.top hr0) hc0 h).mono fun _ _ h => ⟨h.1, h.2.2.to_below⟩

/-! ### draw_New: function 11 -/
def draw_New.f  : Option ((List Int)) := some ([] : List Int)
def draw_New.Post (r : List Int) (S : Nat → Prop) (L : List Asr) (w : World) (e : Ending) (w' : World) : Prop := ∃ (gr0 : Nat) (Ar1 : Option Addr) (cr1 : Nat), e = .returned (.pointer (some ⟨gr0, 0, none⟩)) ∧ SL (cells gr0 50 [.slice Ar1 r.length cr1].toArray :: row (Kd.int .i64) 3 (.slice Ar1 r.length cr1) r :: L) w' S ∧ Keep S w w'
set_option maxHeartbeats 8000000 in
set_option maxRecDepth 100000 in
theorem draw_New.slcalls  (r : List Int) (S : Nat → Prop) (L : List Asr) (w : World) (hf : Fresh S w) (hs : SL (L) w S) (h : draw_New.f  = some r) :
    Calls Try.prog 11 #[] w (draw_New.Post r S L w) := by
  have HF := Aside0.mk hf
  have HS := Aside0.mk hs
  have HK := Aside0.mk (Keep.refl S w)
  clear hf hs
  have hu50 := Try.underlying50
  have H : (some ([] : List Int)) = some r := h
  clear h
  obtain rfl := Option.some.inj H
  go_enter Try.func11, Try.ntmps11
  go_wp2_with (first | ((with_reducible refine gate_dst (N := 2) rfl ?_); refine wpList_plain rfl (fun K_ hK_ => ?_); refine op_box (S := S) (cs := #[.slice none 0 0]) (t := 50) (HF.out.keep HK.out) HS.out (by first | (go_simp; done) | (go_simp; rfl)) ?_; intro g3000000 w1 hs_ hk_; refine hK_ _ _ ?_; clear hK_ K_; replace HS := Aside0.mk (hs_); replace HK := Aside0.mk (HK.out.trans hk_); have n2_ := Aside0.mk (SL.nil_row (Kd.int .i64) 3 HS.out); clear HS; have HS := n2_; clear n2_))
  go_ret
  replace HS := Aside0.mk (SL.get1 HS.out)
  unfold draw_New.Post
  exact ⟨g3000000, none, 0, by first | rfl | (simp; done) | (simp [*]; done), HS.out, HK.out⟩

/-! ### draw_Stream_Feed: function 12 -/
def draw_Stream_Feed.l0 : Nat → (List Int) → (List Int) → Int → Option (Int × (List Int))
  | 0, _, _, _ => none
  | k + 1, l1, s0_0, x9_0 => if x9_0 < (l1.length : Int) then (if 0 ≤ x9_0 then ((draw_word.f (rd l1 x9_0)).bind fun t104 => (if t104 = true then (draw_Stream_Feed.l0 k l1 s0_0 (wrap64 (x9_0 + 1))) else (some (1, s0_0)))) else (none)) else (if (l1.length : Int) > (wrap64 (4096 - (s0_0.length : Int))) then (some (4, s0_0)) else (if s0_0.length + l1.length < 17592186044416 then ((some (s0_0 ++ l1 : List Int)).bind fun y105 => (some (0, y105))) else (none)))
def draw_Stream_Feed.f (k : Nat) (l1 : List Int) (s0_0 : List Int) : Option (Int × (List Int)) := draw_Stream_Feed.l0 k l1 s0_0 0
theorem draw_Stream_Feed.mono_l : ∀ k, (∀ y0 y1 y2, LeO (draw_Stream_Feed.l0 k y0 y1 y2) (draw_Stream_Feed.l0 (k + 1) y0 y1 y2))
  | 0 => fun _ _ _ r h => by simp [draw_Stream_Feed.l0] at h
  | k + 1 => by
    have ih0 := draw_Stream_Feed.mono_l k
    · intro y0 y1 y2
      unfold draw_Stream_Feed.l0
      repeat' first
      | (with_reducible exact ih0 _ _ _)
      | (with_reducible exact LeO.refl _)
      | (with_reducible exact LeO.none _)
      | (with_reducible refine LeO.ite ?_ ?_)
      | (with_reducible refine everyOf_le (fun _ => ?_))
      | (with_reducible refine LeO.bind ?_ (fun _ => ?_))
      | exact ih0 _ _ _
      | exact LeO.none _
      | refine LeO.ite ?_ ?_
      | refine LeO.bind ?_ (fun _ => ?_)
theorem draw_Stream_Feed.mono : ∀ a0 a1 k, LeO (draw_Stream_Feed.f k a0 a1) (draw_Stream_Feed.f (k + 1) a0 a1) := by
  intro a0 a1 k
  have ih0 := draw_Stream_Feed.mono_l k
  unfold draw_Stream_Feed.f
  repeat' first
      | (with_reducible exact ih0 _ _ _)
      | (with_reducible exact LeO.refl _)
      | (with_reducible exact LeO.none _)
      | (with_reducible refine LeO.ite ?_ ?_)
      | (with_reducible refine everyOf_le (fun _ => ?_))
      | (with_reducible refine LeO.bind ?_ (fun _ => ?_))
      | exact ih0 _ _ _
      | exact LeO.none _
      | refine LeO.ite ?_ ?_
      | refine LeO.bind ?_ (fun _ => ?_)
def draw_Stream_Feed.Post (b0 : Nat) (r1 : Int) (r2 : List Int) (S : Nat → Prop) (L : List Asr) (w : World) (e : Ending) (w' : World) : Prop := ∃ (Ar2 : Option Addr) (cr2 : Nat), e = .returned (.int .i64 r1) ∧ SL (cells b0 50 [.slice Ar2 r2.length cr2].toArray :: row (Kd.int .i64) 3 (.slice Ar2 r2.length cr2) r2 :: L) w' S ∧ Keep S w w'
set_option maxHeartbeats 8000000 in
set_option maxRecDepth 100000 in
theorem draw_Stream_Feed.slcalls (k : Nat) (A1 : Option Addr) (c1 : Nat) (l1 : List Int) (b0 : Nat) (As0_0 : Option Addr) (cs0_0 : Nat) (s0_0 : List Int) (r1 : Int) (r2 : List Int) (S : Nat → Prop) (L : List Asr) (w : World) (hf : Fresh S w) (hs : SL (cells b0 50 [.slice As0_0 s0_0.length cs0_0].toArray :: row (Kd.int .i64) 3 (.slice As0_0 s0_0.length cs0_0) s0_0 :: L) w S) (hr1 : RO S w (fun w_ => Kd.C (Kd.int .i64) w_ A1 l1.length l1)) (hc1 : l1.length ≤ c1) (h : draw_Stream_Feed.f k l1 s0_0 = some (r1, r2)) :
    Calls Try.prog 12 #[.pointer (some ⟨b0, 0, none⟩), .slice A1 l1.length c1] w (draw_Stream_Feed.Post b0 r1 r2 S L w) := by
  have HR1 := Aside0.mk hr1
  have HC1 := Aside0.mk hc1
  clear hr1 hc1
  have HF := Aside0.mk hf
  have HS := Aside0.mk hs
  have HK := Aside0.mk (Keep.refl S w)
  clear hf hs
  have H : (draw_Stream_Feed.l0 k l1 s0_0 0) = some (r1, r2) := h
  clear h
  have H' := Aside0.mk H
  clear H
  go_enter Try.func12, Try.ntmps12
  go_wp2
  go_loopg [9] k (fun kq v9 w' => ∃ (x9_0 : Int), v9 = .int .i64 x9_0 ∧ Aside0 (draw_Stream_Feed.l0 kq l1 s0_0 x9_0 = some (r1, r2)) ∧ Aside0 (kq ≤ k) ∧ Aside0 (SL (cells b0 50 [.slice As0_0 s0_0.length cs0_0].toArray :: row (Kd.int .i64) 3 (.slice As0_0 s0_0.length cs0_0) s0_0 :: L) w' S) ∧ Aside0 (Keep S w w'))
  case atStart => exact ⟨(0), (by first | rfl | (simp; done) | (simp [*]; done)), H', ⟨Nat.le_refl _⟩, HS, HK⟩
  case round =>
    clear H' HS HK
    obtain ⟨x9_0, rfl, HA, HQ1, HS, HK⟩ := hrel
    cases gk with
    | zero => exact absurd HA.out (by simp [draw_Stream_Feed.l0])
    | succ k1 =>
      have H := HA.out
      clear HA
      simp only [draw_Stream_Feed.l0] at H
      by_cases c1 : x9_0 < (l1.length : Int)
      · rw [if_pos c1] at H
        have c1b0 : decide (x9_0 < (l1.length : Int)) = true := decide_eq_true c1
        clear c1
        by_cases c2 : 0 ≤ x9_0
        · rw [if_pos c2] at H
          have c2b0 : decide (0 ≤ x9_0) = true := decide_eq_true c2
          clear c2
          replace H := Option.bind_eq_some_iff.1 H
          obtain ⟨t104, Hc30, H⟩ := H
          try dsimp only at H
          have Hc3 := Aside0.mk Hc30
          clear Hc30
          by_cases c4 : t104 = true
          · subst c4
            rw [if_pos rfl] at H
            have H' := Aside0.mk H
            clear H
            have pq103 : 0 ≤ (x9_0 : Int) := of_decide_eq_true (by first | (with_reducible assumption) | assumption)
            have qq103 : x9_0 < ((l1.length : Int) : Int) := of_decide_eq_true (by first | (with_reducible assumption) | assumption)
            obtain ⟨adq103, eq103, hxq103_0⟩ := Kd.at_int (RO.at_ HR1.out HK.out) x9_0 pq103 qq103
            cases eq103
            replace pq103 := eq_true pq103
            replace qq103 := eq_true qq103
            go_wp2_with (first | ((with_reducible refine gate_dst (N := 14) rfl ?_); refine goesL_ (some 14) rfl rfl Try.func22 (by kernel_rfl) rfl #[.int .i64 (rd l1 x9_0)] rfl (by (try simp only [List.map_toArray, List.map_cons, List.map_nil]); first | done | rfl | (simp; done)) ?_; (with_reducible refine (draw_word.calls _ _ _  Hc3.out).mono ?_); rintro e_ w5 ⟨rfl, hb_⟩; refine ⟨_, rfl, ?_⟩; replace hb_ := Drawn0.below hb_; replace HS := Aside0.mk (HS.out.below hb_); replace HK := Aside0.mk (HK.out.trans (Keep.below hb_))))
            go_roundg k1
            case measure => have := HQ1.out; omega
            case rel => exact ⟨(wrap64 (x9_0 + 1)), (by first | rfl | (simp; done) | (simp [*]; done)), H', ⟨by have := HQ1.out; omega⟩, HS, HK⟩
          · replace c4 := Bool.eq_false_iff.mpr c4
            subst c4
            rw [if_neg (show ¬ (false = true) by decide)] at H
            simp only [Option.some.injEq, Prod.mk.injEq] at H
            obtain ⟨rfl, rfl⟩ := H
            have pq103 : 0 ≤ (x9_0 : Int) := of_decide_eq_true (by first | (with_reducible assumption) | assumption)
            have qq103 : x9_0 < ((l1.length : Int) : Int) := of_decide_eq_true (by first | (with_reducible assumption) | assumption)
            obtain ⟨adq103, eq103, hxq103_0⟩ := Kd.at_int (RO.at_ HR1.out HK.out) x9_0 pq103 qq103
            cases eq103
            replace pq103 := eq_true pq103
            replace qq103 := eq_true qq103
            go_wp2_with (first | ((with_reducible refine gate_dst (N := 14) rfl ?_); refine goesL_ (some 14) rfl rfl Try.func22 (by kernel_rfl) rfl #[.int .i64 (rd l1 x9_0)] rfl (by (try simp only [List.map_toArray, List.map_cons, List.map_nil]); first | done | rfl | (simp; done)) ?_; (with_reducible refine (draw_word.calls _ _ _  Hc3.out).mono ?_); rintro e_ w6 ⟨rfl, hb_⟩; refine ⟨_, rfl, ?_⟩; replace hb_ := Drawn0.below hb_; replace HS := Aside0.mk (HS.out.below hb_); replace HK := Aside0.mk (HK.out.trans (Keep.below hb_))))
            go_ret
            unfold draw_Stream_Feed.Post
            exact ⟨As0_0, cs0_0, by first | rfl | (simp; done) | (simp [*]; done) | (simp at c2b0 ⊢; first | exact c2b0 | (simp [c2b0]; done)), HS.out, HK.out⟩
        · rw [if_neg c2] at H
          exact absurd H (by simp)
      · rw [if_neg c1] at H
        have c1b0 : decide (x9_0 < (l1.length : Int)) = false := decide_eq_false c1
        clear c1
        by_cases c7 : (l1.length : Int) > (wrap64 (4096 - (s0_0.length : Int)))
        · rw [if_pos c7] at H
          have c7b0 : decide ((wrap64 (4096 - (s0_0.length : Int))) < (l1.length : Int)) = true := decide_eq_true c7
          clear c7
          simp only [Option.some.injEq, Prod.mk.injEq] at H
          obtain ⟨rfl, rfl⟩ := H
          have hb_ := SL.at_ HS.out
          have hz0_0_0 := ((blk_cell hb_ 0).trans rfl : _ = some (.slice As0_0 s0_0.length cs0_0))
          clear hb_
          go_wp2
          go_ret
          unfold draw_Stream_Feed.Post
          exact ⟨As0_0, cs0_0, by first | rfl | (simp; done) | (simp [*]; done) | (simp at c7b0 ⊢; first | exact c7b0 | (simp [c7b0]; done)), HS.out, HK.out⟩
        · rw [if_neg c7] at H
          have c7b0 : decide ((wrap64 (4096 - (s0_0.length : Int))) < (l1.length : Int)) = false := decide_eq_false c7
          clear c7
          by_cases c8 : s0_0.length + l1.length < 17592186044416
          · rw [if_pos c8] at H
            have LMc8 := Aside0.mk c8
            clear c8
            replace H := Option.bind_eq_some_iff.1 H
            obtain ⟨y105, hy1050, H⟩ := H
            try dsimp only at H
            have hy105 := Option.some.inj hy1050
            clear hy1050
            have Ny105 := Aside0.mk hy105
            clear hy105
            simp only [Option.some.injEq, Prod.mk.injEq] at H
            obtain ⟨rfl, rfl⟩ := H
            have hb_ := SL.at_ HS.out
            have hz0_0_0 := ((blk_cell hb_ 0).trans rfl : _ = some (.slice As0_0 s0_0.length cs0_0))
            clear hb_
            go_wp2_with (first | ((with_reducible refine gate_dst (N := 32) rfl ?_); refine wpList_plain rfl (fun K_ hK_ => ?_); refine op_append (S := S) (enc := Value.int .i64) (h1 := fun _ => rfl) 0 (.tmp 30) (.tmp 31) 22 3 (.int .i64 0) 8 rfl Try.underlying22 info3 rfl (by decide) (.slice As0_0 s0_0.length cs0_0) rfl rfl (HF.out.keep HK.out) (SL.get1 HS.out) (RO.at_ HR1.out HK.out) (by have := LMc8.out; omega) y105 Ny105.out ?_; intro A106 c107 w9 hs_ hk_; refine hK_ _ _ ?_; clear hK_ K_; replace HS := Aside0.mk ((SL.back1 (show SL (row (Kd.int .i64) 3 (.slice A106 y105.length c107) y105 :: _) _ _ from hs_))); replace HK := Aside0.mk (HK.out.trans hk_); (try clear hz0_0_0)) | ((with_reducible refine gate_store (t := 22) (p := 34) (v := (.tmp 32)) rfl ?_); refine wpList_plain rfl (fun K_ hK_ => ?_); refine op_store (S := S) 22 (.tmp 34) (.tmp 32) rfl b0 0 (.slice A106 y105.length c107) [.slice A106 y105.length c107] rfl rfl rfl (by kernel_rfl) (by simp [Value.oneCell']) HS.out (by simp) ?_; intro w10 hs_ hk_; refine hK_ _ _ ?_; clear hK_ K_; replace HS := Aside0.mk ((show SL (cells b0 50 [.slice A106 y105.length c107].toArray :: _) _ _ from hs_)); replace HK := Aside0.mk (HK.out.trans hk_)))
            go_ret
            unfold draw_Stream_Feed.Post
            exact ⟨A106, c107, by first | rfl | (simp; done) | (simp [*]; done) | (simp at c8b0 ⊢; first | exact c8b0 | (simp [c8b0]; done)), HS.out, HK.out⟩
          · rw [if_neg c8] at H
            exact absurd H (by simp)

/-! ### draw_Stream_Left: function 13 -/
def draw_Stream_Left.f (s0_0 : List Int) : Option (Int × (List Int)) := some ((s0_0.length : Int), s0_0)
def draw_Stream_Left.Post (b0 : Nat) (r1 : Int) (r2 : List Int) (S : Nat → Prop) (L : List Asr) (w : World) (e : Ending) (w' : World) : Prop := ∃ (Ar2 : Option Addr) (cr2 : Nat), e = .returned (.int .i64 r1) ∧ SL (cells b0 50 [.slice Ar2 r2.length cr2].toArray :: row (Kd.int .i64) 3 (.slice Ar2 r2.length cr2) r2 :: L) w' S ∧ Keep S w w'
set_option maxHeartbeats 8000000 in
set_option maxRecDepth 100000 in
theorem draw_Stream_Left.slcalls (b0 : Nat) (As0_0 : Option Addr) (cs0_0 : Nat) (s0_0 : List Int) (r1 : Int) (r2 : List Int) (S : Nat → Prop) (L : List Asr) (w : World) (hf : Fresh S w) (hs : SL (cells b0 50 [.slice As0_0 s0_0.length cs0_0].toArray :: row (Kd.int .i64) 3 (.slice As0_0 s0_0.length cs0_0) s0_0 :: L) w S) (h : draw_Stream_Left.f s0_0 = some (r1, r2)) :
    Calls Try.prog 13 #[.pointer (some ⟨b0, 0, none⟩)] w (draw_Stream_Left.Post b0 r1 r2 S L w) := by
  have HF := Aside0.mk hf
  have HS := Aside0.mk hs
  have HK := Aside0.mk (Keep.refl S w)
  clear hf hs
  have H : (some ((s0_0.length : Int), s0_0)) = some (r1, r2) := h
  clear h
  simp only [Option.some.injEq, Prod.mk.injEq] at H
  obtain ⟨rfl, rfl⟩ := H
  have hb_ := SL.at_ HS.out
  have hz0_0_0 := ((blk_cell hb_ 0).trans rfl : _ = some (.slice As0_0 s0_0.length cs0_0))
  clear hb_
  go_enter Try.func13, Try.ntmps13
  go_wp2
  go_ret
  unfold draw_Stream_Left.Post
  exact ⟨As0_0, cs0_0, by first | rfl | (simp; done) | (simp [*]; done), HS.out, HK.out⟩

/-! ### draw_Stream_Below: function 14 -/
def draw_Stream_Below.f (k : Nat) (a1 : Int) (s0_0 : List Int) : Option (Int × Bool × (List Int)) := (draw_Fair.f k s0_0 a1).bind fun bt108 => (if 0 ≤ bt108.2.1 then (if bt108.2.1 ≤ (s0_0.length : Int) then ((some (s0_0.drop (bt108.2.1).toNat : List Int)).bind fun y111 => (some (bt108.1, bt108.2.2, y111))) else (none)) else (none))
theorem draw_Stream_Below.mono : ∀ a0 a1 k, LeO (draw_Stream_Below.f k a0 a1) (draw_Stream_Below.f (k + 1) a0 a1) := by
  intro a0 a1 k
  unfold draw_Stream_Below.f
  repeat' first
      | (with_reducible exact draw_Fair.mono _ _ _)
      | (with_reducible exact LeO.refl _)
      | (with_reducible exact LeO.none _)
      | (with_reducible refine LeO.ite ?_ ?_)
      | (with_reducible refine everyOf_le (fun _ => ?_))
      | (with_reducible refine LeO.bind ?_ (fun _ => ?_))
      | exact draw_Fair.mono _ _ _
      | exact LeO.none _
      | refine LeO.ite ?_ ?_
      | refine LeO.bind ?_ (fun _ => ?_)
def draw_Stream_Below.Post (b0 : Nat) (r1 : Int) (r2 : Bool) (r3 : List Int) (S : Nat → Prop) (L : List Asr) (w : World) (e : Ending) (w' : World) : Prop := ∃ (Ar3 : Option Addr) (cr3 : Nat), e = .returned (.tuple #[.int .i64 r1, .bool r2]) ∧ SL (cells b0 50 [.slice Ar3 r3.length cr3].toArray :: row (Kd.int .i64) 3 (.slice Ar3 r3.length cr3) r3 :: L) w' S ∧ Keep S w w'
set_option maxHeartbeats 8000000 in
set_option maxRecDepth 100000 in
theorem draw_Stream_Below.slcalls (k : Nat) (a1 : Int) (b0 : Nat) (As0_0 : Option Addr) (cs0_0 : Nat) (s0_0 : List Int) (r1 : Int) (r2 : Bool) (r3 : List Int) (S : Nat → Prop) (L : List Asr) (w : World) (hf : Fresh S w) (hs : SL (cells b0 50 [.slice As0_0 s0_0.length cs0_0].toArray :: row (Kd.int .i64) 3 (.slice As0_0 s0_0.length cs0_0) s0_0 :: L) w S) (h : draw_Stream_Below.f k a1 s0_0 = some (r1, r2, r3)) :
    Calls Try.prog 14 #[.pointer (some ⟨b0, 0, none⟩), .int .i64 a1] w (draw_Stream_Below.Post b0 r1 r2 r3 S L w) := by
  have HF := Aside0.mk hf
  have HS := Aside0.mk hs
  have HK := Aside0.mk (Keep.refl S w)
  clear hf hs
  have H : ((draw_Fair.f k s0_0 a1).bind fun bt108 => (if 0 ≤ bt108.2.1 then (if bt108.2.1 ≤ (s0_0.length : Int) then ((some (s0_0.drop (bt108.2.1).toNat : List Int)).bind fun y111 => (some (bt108.1, bt108.2.2, y111))) else (none)) else (none))) = some (r1, r2, r3) := h
  clear h
  replace H := Option.bind_eq_some_iff.1 H
  obtain ⟨⟨t108, t109, t110⟩, Hc10, H⟩ := H
  try dsimp only at H
  have Hc1 := Aside0.mk Hc10
  clear Hc10
  by_cases c2 : 0 ≤ t109
  · rw [if_pos c2] at H
    have c2b0 := eq_true c2
    have c2b1 : decide (0 ≤ t109) = true := decide_eq_true c2
    clear c2
    by_cases c3 : t109 ≤ (s0_0.length : Int)
    · rw [if_pos c3] at H
      have c3b0 := eq_true c3
      have c3b1 : decide (t109 ≤ (s0_0.length : Int)) = true := decide_eq_true c3
      clear c3
      replace H := Option.bind_eq_some_iff.1 H
      obtain ⟨y111, hy1110, H⟩ := H
      try dsimp only at H
      have hy111 := Option.some.inj hy1110
      clear hy1110
      have Ny111 := Aside0.mk hy111
      clear hy111
      simp only [Option.some.injEq, Prod.mk.injEq] at H
      obtain ⟨rfl, rfl, rfl⟩ := H
      have hb_ := SL.at_ HS.out
      have hz0_0_0 := ((blk_cell hb_ 0).trans rfl : _ = some (.slice As0_0 s0_0.length cs0_0))
      clear hb_
      go_enter Try.func14, Try.ntmps14
      go_wp2_with (first | ((with_reducible refine gate_dst (N := 15) rfl ?_); refine goesL_ (some 15) rfl rfl Try.func9 (by kernel_rfl) rfl #[.slice As0_0 s0_0.length cs0_0, .int .i64 a1] rfl (by (try simp only [List.map_toArray, List.map_cons, List.map_nil]); first | done | rfl | (simp; done)) ?_; (with_reducible refine (draw_Fair.calls k _ _ _ _ _ _ _ _ (SL.row_c (SL.get1 HS.out)).2.2 (SL.row_c (SL.get1 HS.out)).2.1 Hc1.out).mono ?_); rintro e_ w4 ⟨rfl, hb_⟩; refine ⟨_, rfl, ?_⟩; replace HS := Aside0.mk (HS.out.below hb_); replace HK := Aside0.mk (HK.out.trans (Keep.below hb_)); (try clear hz0_0_0); have hb_ := SL.at_ HS.out; have hz0_0_1 := ((blk_cell hb_ 0).trans rfl : _ = some (.slice As0_0 s0_0.length cs0_0)); clear hb_; obtain ⟨A112, c113, hcvq114, hcs_, hcc_, hcl_⟩ := cut_of (P := Try.prog) (Kd.int .i64) 22 3 .i64 .i64 Try.underlying22 (by kernel_rfl) rfl As0_0 s0_0.length cs0_0 s0_0 rfl (SL.row_c (SL.get1 HS.out)).2.1 t109 (of_decide_eq_true (by first | (with_reducible assumption) | assumption) : (0 : Int) ≤ (t109 : Int)) (of_decide_eq_true (by first | (with_reducible assumption) | assumption) : (t109 : Int) ≤ ((s0_0.length : Int) : Int)) y111 Ny111.out; have n2_ := Aside0.mk (SL.back1 (hcs_ _ _ _ (SL.get1 HS.out))); clear HS hcs_ hcc_ hcl_; have HS := n2_; clear n2_) | ((with_reducible refine gate_store (t := 22) (p := 27) (v := (.tmp 25)) rfl ?_); refine wpList_plain rfl (fun K_ hK_ => ?_); refine op_store (S := S) 22 (.tmp 27) (.tmp 25) rfl b0 0 (.slice A112 y111.length c113) [.slice A112 y111.length c113] rfl rfl rfl (by kernel_rfl) (by simp [Value.oneCell']) HS.out (by simp) ?_; intro w5 hs_ hk_; refine hK_ _ _ ?_; clear hK_ K_; replace HS := Aside0.mk ((show SL (cells b0 50 [.slice A112 y111.length c113].toArray :: _) _ _ from hs_)); replace HK := Aside0.mk (HK.out.trans hk_); (try clear hz0_0_1)))
      go_ret2
      unfold draw_Stream_Below.Post
      exact ⟨A112, c113, by first | rfl | (simp; done) | (simp [*]; done) | (simp at c3b0 ⊢; first | exact c3b0 | (simp [c3b0]; done)), HS.out, HK.out⟩
    · rw [if_neg c3] at H
      exact absurd H (by simp)
  · rw [if_neg c2] at H
    exact absurd H (by simp)

/-! ### draw_sum: function 23 -/
def draw_sum.l0 : Nat → Int → List Int → Int → Int → Option (Int × Bool)
  | 0, _, _, _, _ => none
  | k + 1, x4, x7, x8, x9 => if x9 < x8 then (if 0 ≤ x9 then (if x9 < (x7.length : Int) then (if (rd x7 x9) < 0 then (some (0, false)) else (if (rd x7 x9) > (wrap64 (4294967296 - x4)) then (some (0, false)) else (draw_sum.l0 k (wrap64 (x4 + (rd x7 x9))) x7 x8 (wrap64 (x9 + 1))))) else (none)) else (none)) else (some (x4, true))
def draw_sum.f (k : Nat) (l0 : List Int) : Option (Int × Bool) := draw_sum.l0 k 0 l0 (l0.length : Int) 0
theorem draw_sum.mono_l : ∀ k, (∀ y0 y1 y2 y3, LeO (draw_sum.l0 k y0 y1 y2 y3) (draw_sum.l0 (k + 1) y0 y1 y2 y3))
  | 0 => fun _ _ _ _ r h => by simp [draw_sum.l0] at h
  | k + 1 => by
    have ih0 := draw_sum.mono_l k
    · intro y0 y1 y2 y3
      unfold draw_sum.l0
      repeat' first
      | (with_reducible exact ih0 _ _ _ _)
      | (with_reducible exact LeO.refl _)
      | (with_reducible exact LeO.none _)
      | (with_reducible refine LeO.ite ?_ ?_)
      | (with_reducible refine LeO.bind ?_ (fun _ => ?_))
      | exact ih0 _ _ _ _
      | exact LeO.none _
      | refine LeO.ite ?_ ?_
      | refine LeO.bind ?_ (fun _ => ?_)
theorem draw_sum.mono : ∀ a0 k, LeO (draw_sum.f k a0) (draw_sum.f (k + 1) a0) := by
  intro a0 k
  have ih0 := draw_sum.mono_l k
  unfold draw_sum.f
  repeat' first
      | (with_reducible exact ih0 _ _ _ _)
      | (with_reducible exact LeO.refl _)
      | (with_reducible exact LeO.none _)
      | (with_reducible refine LeO.ite ?_ ?_)
      | (with_reducible refine LeO.bind ?_ (fun _ => ?_))
      | exact ih0 _ _ _ _
      | exact LeO.none _
      | refine LeO.ite ?_ ?_
      | refine LeO.bind ?_ (fun _ => ?_)
set_option maxHeartbeats 8000000 in
set_option maxRecDepth 100000 in
theorem draw_sum.calls (k : Nat) (A0 : Option Addr) (c0 : Nat) (l0 : List Int) (r1 : Int) (r2 : Bool) (w : World) (hr0 : Kd.C (Kd.int .i64) w A0 l0.length l0) (hc0 : l0.length ≤ c0) (h : draw_sum.f k l0 = some (r1, r2)) :
    Calls Try.prog 23 #[.slice A0 l0.length c0] w fun e w' => e = .returned (.tuple #[.int .i64 r1, .bool r2]) ∧ Drawn0 w w' := by
  have HR0 := Aside0.mk hr0
  have HC0 := Aside0.mk hc0
  clear hr0 hc0
  have H : (draw_sum.l0 k 0 l0 (l0.length : Int) 0) = some (r1, r2) := h
  clear h
  have H' := Aside0.mk H
  clear H
  go_enter Try.func23, Try.ntmps23
  go_wp2
  go_loopg [4, 9] k (fun kq v4 v9 w' => ∃ (x4_1 : Int) (x9_1 : Int), v4 = .int .i64 x4_1 ∧ v9 = .int .i64 x9_1 ∧ Aside0 (draw_sum.l0 kq x4_1 l0 (l0.length : Int) x9_1 = some (r1, r2)) ∧ Aside0 (kq ≤ k) ∧ Drawn0 w w')
  case atStart => exact ⟨(0), (0), (by first | rfl | (simp; done) | (simp [*]; done)), (by first | rfl | (simp; done) | (simp [*]; done)), H', ⟨Nat.le_refl _⟩, by repeat (first | exact Drawn0.refl _ | apply Drawn0.step)⟩
  case round =>
    clear H'
    obtain ⟨x4_1, x9_1, rfl, rfl, HA, HK1, ⟨m1, rfl⟩⟩ := hrel
    cases gk with
    | zero => exact absurd HA.out (by simp [draw_sum.l0])
    | succ k1 =>
      have H := HA.out
      clear HA
      simp only [draw_sum.l0] at H
      by_cases c2 : x9_1 < (l0.length : Int)
      · rw [if_pos c2] at H
        have c2b0 : decide (x9_1 < (l0.length : Int)) = true := decide_eq_true c2
        clear c2
        by_cases c3 : 0 ≤ x9_1
        · rw [if_pos c3] at H
          have c3b0 : decide (0 ≤ x9_1) = true := decide_eq_true c3
          clear c3
          by_cases c4 : x9_1 < (l0.length : Int)
          · rw [if_pos c4] at H
            have c4b0 : decide (x9_1 < (l0.length : Int)) = true := decide_eq_true c4
            clear c4
            by_cases c5 : (rd l0 x9_1) < 0
            · rw [if_pos c5] at H
              have c5b0 : decide ((rd l0 x9_1) < 0) = true := decide_eq_true c5
              clear c5
              simp only [Option.some.injEq, Prod.mk.injEq] at H
              obtain ⟨rfl, rfl⟩ := H
              have p115 : 0 ≤ (x9_1 : Int) := of_decide_eq_true (by first | (with_reducible assumption) | assumption)
              have q115 : x9_1 < (l0.length : Int) := of_decide_eq_true (by first | (with_reducible assumption) | assumption)
              obtain ⟨ad115, e115, hx115_0⟩ := Kd.at_int HR0.out x9_1 p115 q115
              cases e115
              replace p115 := eq_true p115
              replace q115 := eq_true q115
              go_wp2
              go_ret2
              exact ⟨by first | rfl | (simp; done) | (simp [*]; done), by repeat (first | exact Drawn0.refl _ | apply Drawn0.step)⟩
            · rw [if_neg c5] at H
              have c5b0 : decide ((rd l0 x9_1) < 0) = false := decide_eq_false c5
              clear c5
              by_cases c6 : (rd l0 x9_1) > (wrap64 (4294967296 - x4_1))
              · rw [if_pos c6] at H
                have c6b0 : decide ((wrap64 (4294967296 - x4_1)) < (rd l0 x9_1)) = true := decide_eq_true c6
                clear c6
                simp only [Option.some.injEq, Prod.mk.injEq] at H
                obtain ⟨rfl, rfl⟩ := H
                have p115 : 0 ≤ (x9_1 : Int) := of_decide_eq_true (by first | (with_reducible assumption) | assumption)
                have q115 : x9_1 < (l0.length : Int) := of_decide_eq_true (by first | (with_reducible assumption) | assumption)
                obtain ⟨ad115, e115, hx115_0⟩ := Kd.at_int HR0.out x9_1 p115 q115
                cases e115
                replace p115 := eq_true p115
                replace q115 := eq_true q115
                go_wp2
                go_ret2
                exact ⟨by first | rfl | (simp; done) | (simp [*]; done), by repeat (first | exact Drawn0.refl _ | apply Drawn0.step)⟩
              · rw [if_neg c6] at H
                have c6b0 : decide ((wrap64 (4294967296 - x4_1)) < (rd l0 x9_1)) = false := decide_eq_false c6
                clear c6
                have H' := Aside0.mk H
                clear H
                have p115 : 0 ≤ (x9_1 : Int) := of_decide_eq_true (by first | (with_reducible assumption) | assumption)
                have q115 : x9_1 < (l0.length : Int) := of_decide_eq_true (by first | (with_reducible assumption) | assumption)
                obtain ⟨ad115, e115, hx115_0⟩ := Kd.at_int HR0.out x9_1 p115 q115
                cases e115
                replace p115 := eq_true p115
                replace q115 := eq_true q115
                go_wp2
                go_roundg k1
                case measure => have := HK1.out; omega
                case rel => exact ⟨(wrap64 (x4_1 + (rd l0 x9_1))), (wrap64 (x9_1 + 1)), (by first | rfl | (simp; done) | (simp [*]; done)), (by first | rfl | (simp; done) | (simp [*]; done)), H', ⟨by have := HK1.out; omega⟩, by repeat (first | exact Drawn0.refl _ | apply Drawn0.step)⟩
          · rw [if_neg c4] at H
            exact absurd H (by simp)
        · rw [if_neg c3] at H
          exact absurd H (by simp)
      · rw [if_neg c2] at H
        have c2b0 : decide (x9_1 < (l0.length : Int)) = false := decide_eq_false c2
        clear c2
        simp only [Option.some.injEq, Prod.mk.injEq] at H
        obtain ⟨rfl, rfl⟩ := H
        go_wp2
        go_ret2
        exact ⟨by first | rfl | (simp; done) | (simp [*]; done), by repeat (first | exact Drawn0.refl _ | apply Drawn0.step)⟩

/-! ### draw_Stream_Pick: function 17 -/
def draw_Stream_Pick.l0 : Nat → (List Int) → (List Int) → Int → Int → Option (Int × Bool × (List Int))
  | 0, _, _, _, _ => none
  | k + 1, l1, t120, x8_0, x28_0 => if x28_0 < (l1.length : Int) then (if 0 ≤ x28_0 then (if x8_0 < (rd l1 x28_0) then (some (x28_0, true, t120)) else (draw_Stream_Pick.l0 k l1 t120 (wrap64 (x8_0 - (rd l1 x28_0))) (wrap64 (x28_0 + 1)))) else (none)) else (some (0, false, t120))
def draw_Stream_Pick.f (k : Nat) (l1 : List Int) (s0_0 : List Int) : Option (Int × Bool × (List Int)) := (draw_sum.f k l1).bind fun bt116 => (if bt116.2 = true then ((draw_Stream_Below.f k bt116.1 s0_0).bind fun bt118 => (if bt118.2.1 = true then (draw_Stream_Pick.l0 k l1 bt118.2.2 bt118.1 0) else (some (0, false, bt118.2.2)))) else (some (0, false, s0_0)))
theorem draw_Stream_Pick.mono_l : ∀ k, (∀ y0 y1 y2 y3, LeO (draw_Stream_Pick.l0 k y0 y1 y2 y3) (draw_Stream_Pick.l0 (k + 1) y0 y1 y2 y3))
  | 0 => fun _ _ _ _ r h => by simp [draw_Stream_Pick.l0] at h
  | k + 1 => by
    have ih0 := draw_Stream_Pick.mono_l k
    · intro y0 y1 y2 y3
      unfold draw_Stream_Pick.l0
      repeat' first
      | (with_reducible exact ih0 _ _ _ _)
      | (with_reducible exact draw_Stream_Below.mono _ _ _)
      | (with_reducible exact draw_sum.mono _ _)
      | (with_reducible exact LeO.refl _)
      | (with_reducible exact LeO.none _)
      | (with_reducible refine LeO.ite ?_ ?_)
      | (with_reducible refine everyOf_le (fun _ => ?_))
      | (with_reducible refine LeO.bind ?_ (fun _ => ?_))
      | exact ih0 _ _ _ _
      | exact draw_Stream_Below.mono _ _ _
      | exact draw_sum.mono _ _
      | exact LeO.none _
      | refine LeO.ite ?_ ?_
      | refine LeO.bind ?_ (fun _ => ?_)
theorem draw_Stream_Pick.mono : ∀ a0 a1 k, LeO (draw_Stream_Pick.f k a0 a1) (draw_Stream_Pick.f (k + 1) a0 a1) := by
  intro a0 a1 k
  have ih0 := draw_Stream_Pick.mono_l k
  unfold draw_Stream_Pick.f
  repeat' first
      | (with_reducible exact ih0 _ _ _ _)
      | (with_reducible exact draw_Stream_Below.mono _ _ _)
      | (with_reducible exact draw_sum.mono _ _)
      | (with_reducible exact LeO.refl _)
      | (with_reducible exact LeO.none _)
      | (with_reducible refine LeO.ite ?_ ?_)
      | (with_reducible refine everyOf_le (fun _ => ?_))
      | (with_reducible refine LeO.bind ?_ (fun _ => ?_))
      | exact ih0 _ _ _ _
      | exact draw_Stream_Below.mono _ _ _
      | exact draw_sum.mono _ _
      | exact LeO.none _
      | refine LeO.ite ?_ ?_
      | refine LeO.bind ?_ (fun _ => ?_)
def draw_Stream_Pick.Post (b0 : Nat) (r1 : Int) (r2 : Bool) (r3 : List Int) (S : Nat → Prop) (L : List Asr) (w : World) (e : Ending) (w' : World) : Prop := ∃ (Ar3 : Option Addr) (cr3 : Nat), e = .returned (.tuple #[.int .i64 r1, .bool r2]) ∧ SL (cells b0 50 [.slice Ar3 r3.length cr3].toArray :: row (Kd.int .i64) 3 (.slice Ar3 r3.length cr3) r3 :: L) w' S ∧ Keep S w w'
set_option maxHeartbeats 8000000 in
set_option maxRecDepth 100000 in
theorem draw_Stream_Pick.slcalls (k : Nat) (A1 : Option Addr) (c1 : Nat) (l1 : List Int) (b0 : Nat) (As0_0 : Option Addr) (cs0_0 : Nat) (s0_0 : List Int) (r1 : Int) (r2 : Bool) (r3 : List Int) (S : Nat → Prop) (L : List Asr) (w : World) (hf : Fresh S w) (hs : SL (cells b0 50 [.slice As0_0 s0_0.length cs0_0].toArray :: row (Kd.int .i64) 3 (.slice As0_0 s0_0.length cs0_0) s0_0 :: L) w S) (hr1 : RO S w (fun w_ => Kd.C (Kd.int .i64) w_ A1 l1.length l1)) (hc1 : l1.length ≤ c1) (h : draw_Stream_Pick.f k l1 s0_0 = some (r1, r2, r3)) :
    Calls Try.prog 17 #[.pointer (some ⟨b0, 0, none⟩), .slice A1 l1.length c1] w (draw_Stream_Pick.Post b0 r1 r2 r3 S L w) := by
  have HR1 := Aside0.mk hr1
  have HC1 := Aside0.mk hc1
  clear hr1 hc1
  have HF := Aside0.mk hf
  have HS := Aside0.mk hs
  have HK := Aside0.mk (Keep.refl S w)
  clear hf hs
  have H : ((draw_sum.f k l1).bind fun bt116 => (if bt116.2 = true then ((draw_Stream_Below.f k bt116.1 s0_0).bind fun bt118 => (if bt118.2.1 = true then (draw_Stream_Pick.l0 k l1 bt118.2.2 bt118.1 0) else (some (0, false, bt118.2.2)))) else (some (0, false, s0_0)))) = some (r1, r2, r3) := h
  clear h
  replace H := Option.bind_eq_some_iff.1 H
  obtain ⟨⟨t116, t117⟩, Hc10, H⟩ := H
  try dsimp only at H
  have Hc1 := Aside0.mk Hc10
  clear Hc10
  by_cases c2 : t117 = true
  · subst c2
    rw [if_pos rfl] at H
    replace H := Option.bind_eq_some_iff.1 H
    obtain ⟨⟨t118, t119, t120⟩, Hc30, H⟩ := H
    try dsimp only at H
    have Hc3 := Aside0.mk Hc30
    clear Hc30
    by_cases c4 : t119 = true
    · subst c4
      rw [if_pos rfl] at H
      have H' := Aside0.mk H
      clear H
      go_enter Try.func17, Try.ntmps17
      go_wp2_with (first | ((with_reducible refine gate_dst (N := 13) rfl ?_); refine goesL_ (some 13) rfl rfl Try.func23 (by kernel_rfl) rfl #[.slice A1 l1.length c1] rfl (by (try simp only [List.map_toArray, List.map_cons, List.map_nil]); first | done | rfl | (simp; done)) ?_; (with_reducible refine (draw_sum.calls k _ _ _ _ _ _ (RO.at_ HR1.out HK.out) HC1.out Hc1.out).mono ?_); rintro e_ w5 ⟨rfl, hb_⟩; refine ⟨_, rfl, ?_⟩; replace hb_ := Drawn0.below hb_; replace HS := Aside0.mk (HS.out.below hb_); replace HK := Aside0.mk (HK.out.trans (Keep.below hb_))) | ((with_reducible refine gate_dst (N := 21) rfl ?_); refine goesL_ (some 21) rfl rfl Try.func14 (by kernel_rfl) rfl #[.pointer (some ⟨b0, 0, none⟩), .int .i64 t116] rfl (by (try simp only [List.map_toArray, List.map_cons, List.map_nil]); first | done | rfl | (simp; done)) ?_; have hs0_ := (SL.get1 (SL.get1 HS.out)); (with_reducible refine (draw_Stream_Below.slcalls k _ _ _ _ _ _ _ _ _ _ _ (HF.out.keep HK.out) hs0_  Hc3.out).mono ?_); rintro e_ w6 ⟨A121, c122, rfl, hsr_, hkr_⟩; refine ⟨_, rfl, ?_⟩; replace HS := Aside0.mk (hsr_); replace HK := Aside0.mk (HK.out.trans hkr_)))
      try go_simp
      go_loopg [8, 28] k (fun kq v8 v28 w' => ∃ (x8_0 : Int) (x28_0 : Int), v8 = .int .i64 x8_0 ∧ v28 = .int .i64 x28_0 ∧ Aside0 (draw_Stream_Pick.l0 kq l1 t120 x8_0 x28_0 = some (r1, r2, r3)) ∧ Aside0 (kq ≤ k) ∧ Aside0 (SL (cells b0 50 [.slice A121 t120.length c122].toArray :: row (Kd.int .i64) 3 (.slice A121 t120.length c122) t120 :: L) w' S) ∧ Aside0 (Keep S w w'))
      case atStart => exact ⟨(t118), (0), (by first | rfl | (simp; done) | (simp [*]; done)), (by first | rfl | (simp; done) | (simp [*]; done)), H', ⟨Nat.le_refl _⟩, HS, HK⟩
      case round =>
        clear H' HS HK
        obtain ⟨x8_0, x28_0, rfl, rfl, HA, HQ1, HS, HK⟩ := hrel
        cases gk with
        | zero => exact absurd HA.out (by simp [draw_Stream_Pick.l0])
        | succ k1 =>
          have H := HA.out
          clear HA
          simp only [draw_Stream_Pick.l0] at H
          by_cases c7 : x28_0 < (l1.length : Int)
          · rw [if_pos c7] at H
            have c7b0 : decide (x28_0 < (l1.length : Int)) = true := decide_eq_true c7
            clear c7
            by_cases c8 : 0 ≤ x28_0
            · rw [if_pos c8] at H
              have c8b0 : decide (0 ≤ x28_0) = true := decide_eq_true c8
              clear c8
              by_cases c9 : x8_0 < (rd l1 x28_0)
              · rw [if_pos c9] at H
                have c9b0 : decide (x8_0 < (rd l1 x28_0)) = true := decide_eq_true c9
                clear c9
                simp only [Option.some.injEq, Prod.mk.injEq] at H
                obtain ⟨rfl, rfl, rfl⟩ := H
                have pq123 : 0 ≤ (x28_0 : Int) := of_decide_eq_true (by first | (with_reducible assumption) | assumption)
                have qq123 : x28_0 < ((l1.length : Int) : Int) := of_decide_eq_true (by first | (with_reducible assumption) | assumption)
                obtain ⟨adq123, eq123, hxq123_0⟩ := Kd.at_int (RO.at_ HR1.out HK.out) x28_0 pq123 qq123
                cases eq123
                replace pq123 := eq_true pq123
                replace qq123 := eq_true qq123
                go_wp2
                go_ret2
                unfold draw_Stream_Pick.Post
                exact ⟨A121, c122, by first | rfl | (simp; done) | (simp [*]; done) | (simp at c9b0 ⊢; first | exact c9b0 | (simp [c9b0]; done)), HS.out, HK.out⟩
              · rw [if_neg c9] at H
                have c9b0 : decide (x8_0 < (rd l1 x28_0)) = false := decide_eq_false c9
                clear c9
                have H' := Aside0.mk H
                clear H
                have pq123 : 0 ≤ (x28_0 : Int) := of_decide_eq_true (by first | (with_reducible assumption) | assumption)
                have qq123 : x28_0 < ((l1.length : Int) : Int) := of_decide_eq_true (by first | (with_reducible assumption) | assumption)
                obtain ⟨adq123, eq123, hxq123_0⟩ := Kd.at_int (RO.at_ HR1.out HK.out) x28_0 pq123 qq123
                cases eq123
                replace pq123 := eq_true pq123
                replace qq123 := eq_true qq123
                go_wp2
                go_roundg k1
                case measure => have := HQ1.out; omega
                case rel => exact ⟨(wrap64 (x8_0 - (rd l1 x28_0))), (wrap64 (x28_0 + 1)), (by first | rfl | (simp; done) | (simp [*]; done)), (by first | rfl | (simp; done) | (simp [*]; done)), H', ⟨by have := HQ1.out; omega⟩, HS, HK⟩
            · rw [if_neg c8] at H
              exact absurd H (by simp)
          · rw [if_neg c7] at H
            have c7b0 : decide (x28_0 < (l1.length : Int)) = false := decide_eq_false c7
            clear c7
            simp only [Option.some.injEq, Prod.mk.injEq] at H
            obtain ⟨rfl, rfl, rfl⟩ := H
            go_wp2
            go_ret2
            unfold draw_Stream_Pick.Post
            exact ⟨A121, c122, by first | rfl | (simp; done) | (simp [*]; done) | (simp at c7b0 ⊢; first | exact c7b0 | (simp [c7b0]; done)), HS.out, HK.out⟩
    · replace c4 := Bool.eq_false_iff.mpr c4
      subst c4
      rw [if_neg (show ¬ (false = true) by decide)] at H
      simp only [Option.some.injEq, Prod.mk.injEq] at H
      obtain ⟨rfl, rfl, rfl⟩ := H
      go_enter Try.func17, Try.ntmps17
      go_wp2_with (first | ((with_reducible refine gate_dst (N := 13) rfl ?_); refine goesL_ (some 13) rfl rfl Try.func23 (by kernel_rfl) rfl #[.slice A1 l1.length c1] rfl (by (try simp only [List.map_toArray, List.map_cons, List.map_nil]); first | done | rfl | (simp; done)) ?_; (with_reducible refine (draw_sum.calls k _ _ _ _ _ _ (RO.at_ HR1.out HK.out) HC1.out Hc1.out).mono ?_); rintro e_ w10 ⟨rfl, hb_⟩; refine ⟨_, rfl, ?_⟩; replace hb_ := Drawn0.below hb_; replace HS := Aside0.mk (HS.out.below hb_); replace HK := Aside0.mk (HK.out.trans (Keep.below hb_))) | ((with_reducible refine gate_dst (N := 21) rfl ?_); refine goesL_ (some 21) rfl rfl Try.func14 (by kernel_rfl) rfl #[.pointer (some ⟨b0, 0, none⟩), .int .i64 t116] rfl (by (try simp only [List.map_toArray, List.map_cons, List.map_nil]); first | done | rfl | (simp; done)) ?_; have hs0_ := (SL.get1 (SL.get1 HS.out)); (with_reducible refine (draw_Stream_Below.slcalls k _ _ _ _ _ _ _ _ _ _ _ (HF.out.keep HK.out) hs0_  Hc3.out).mono ?_); rintro e_ w11 ⟨A121, c122, rfl, hsr_, hkr_⟩; refine ⟨_, rfl, ?_⟩; replace HS := Aside0.mk (hsr_); replace HK := Aside0.mk (HK.out.trans hkr_)))
      go_ret2
      unfold draw_Stream_Pick.Post
      exact ⟨A121, c122, by first | rfl | (simp; done) | (simp [*]; done), HS.out, HK.out⟩
  · replace c2 := Bool.eq_false_iff.mpr c2
    subst c2
    rw [if_neg (show ¬ (false = true) by decide)] at H
    simp only [Option.some.injEq, Prod.mk.injEq] at H
    obtain ⟨rfl, rfl, rfl⟩ := H
    go_enter Try.func17, Try.ntmps17
    go_wp2_with (first | ((with_reducible refine gate_dst (N := 13) rfl ?_); refine goesL_ (some 13) rfl rfl Try.func23 (by kernel_rfl) rfl #[.slice A1 l1.length c1] rfl (by (try simp only [List.map_toArray, List.map_cons, List.map_nil]); first | done | rfl | (simp; done)) ?_; (with_reducible refine (draw_sum.calls k _ _ _ _ _ _ (RO.at_ HR1.out HK.out) HC1.out Hc1.out).mono ?_); rintro e_ w12 ⟨rfl, hb_⟩; refine ⟨_, rfl, ?_⟩; replace hb_ := Drawn0.below hb_; replace HS := Aside0.mk (HS.out.below hb_); replace HK := Aside0.mk (HK.out.trans (Keep.below hb_))))
    go_ret2
    unfold draw_Stream_Pick.Post
    exact ⟨As0_0, cs0_0, by first | rfl | (simp; done) | (simp [*]; done), HS.out, HK.out⟩

end Go.Proofs.Ytkffeglkbpfndaa.XPL
