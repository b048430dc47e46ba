-- Written by xprint.py (a program of this session) for this claim
import Derived.Test.YtiadhonhjnbliaaXZTx19a
import Derived.Test.YtiadhonhjnbliaaXZTx19b
import Derived.Test.YtiadhonhjnbliaaSL5
import Derived.Test.YtiadhonhjnbliaaSL4
import Derived.Test.YtiadhonhjnbliaaXZTx0
import Derived.Test.YtiadhonhjnbliaaXZTx7
import Derived.Test.YtiadhonhjnbliaaXZTx9
import Derived.Test.YtiadhonhjnbliaaXZTx11
import Derived.Test.YtiadhonhjnbliaaXZTx12
import Derived.Test.YtiadhonhjnbliaaXZTx14
import Derived.Test.YtiadhonhjnbliaaXZTx15
import Derived.Test.YtiadhonhjnbliaaXZTx16
import Derived.Test.YtiadhonhjnbliaaXZTx18
namespace Go.Proofs.Ytiadhonhjnbliaa.XZT
open Go.Proofs.YtiadhonhjnbliaaV Go.Proofs.YtiadhonhjnbliaaS
open Go.RowKit Go.Proofs.YtiadhonhjnbliaaW.PrintWords Go.Proofs.YtiadhonhjnbliaaW.PrintLast Go.Proofs.YtiadhonhjnbliaaW.PrintMore
attribute [local go_sem] max2_int min2_int max_two min_two max_three min_three max_four min_four   -- for this text's walks alone
set_option linter.unusedVariables false
set_option linter.unusedSimpArgs false

set_option maxHeartbeats 8000000 in
set_option maxRecDepth 100000 in
theorem barrowlaw33_ZoneStays.slcalls (k : Nat) (A0 : Option Addr) (c0 : Nat) (l0 : List (S37)) (a1_0 : Int) (a1_1 : Int) (a1_2 : Int) (a1_3 : Int) (a1_4 : Int) (a1_5 : Int) (a1_6 : Int) (a1_7 : Int) (a1_8 : Int) (a1_9 : Int) (a1_10 : Int) (a1_11 : Int) (a1_12 : Int) (a1_13 : Int) (a1_14 : Int) (a1_15 : Int) (A2 : Option Addr) (c2 : Nat) (l2 : List (S44)) (a3 : Int) (a4_0 : Int) (a4_1 : Int) (r : Bool) (S : Nat → Prop) (L : List Asr) (w : World) (hf : Fresh S w) (hs : SL (L) w S) (hr0 : RO S w (fun w_ => Kd.C k37 w_ A0 l0.length l0)) (hc0 : l0.length ≤ c0) (hr2 : RO S w (fun w_ => Kd.C k44 w_ A2 l2.length l2)) (hc2 : l2.length ≤ c2) (h : barrowlaw33_ZoneStays.f k l0 a1_0 a1_1 a1_2 a1_3 a1_4 a1_5 a1_6 a1_7 a1_8 a1_9 a1_10 a1_11 a1_12 a1_13 a1_14 a1_15 l2 a3 a4_0 a4_1 = some r) :
    Calls Try.prog 6 #[.slice A0 l0.length c0, .agg #[.int .i64 a1_0, .int .i64 a1_1, .int .i64 a1_2, .int .i64 a1_3, .int .i64 a1_4, .int .i64 a1_5, .int .i64 a1_6, .int .i64 a1_7, .int .i64 a1_8, .int .i64 a1_9, .int .i64 a1_10, .int .i64 a1_11, .int .i64 a1_12, .int .i64 a1_13, .int .i64 a1_14, .int .i64 a1_15], .slice A2 l2.length c2, .int .i64 a3, .agg #[.int .i64 a4_0, .int .i64 a4_1]] w (barrowlaw33_ZoneStays.Post r S L w) := by
  by_cases hz : ∀ q1 q2 q3, zone_Add.f k l0 a1_0 a1_1 a1_2 a1_3 a1_4 a1_5 a1_6 a1_7 a1_8 a1_9 a1_10 a1_11 a1_12 a1_13 a1_14 a1_15 a3 5 = some (q1, q2, q3) → q3 = 0
  · exact barrowlaw33_ZoneStays.slcallsA k A0 c0 l0 a1_0 a1_1 a1_2 a1_3 a1_4 a1_5 a1_6 a1_7 a1_8 a1_9 a1_10 a1_11 a1_12 a1_13 a1_14 a1_15 A2 c2 l2 a3 a4_0 a4_1 r S L w hf hs hr0 hc0 hr2 hc2 hz h
  · refine barrowlaw33_ZoneStays.slcallsB k A0 c0 l0 a1_0 a1_1 a1_2 a1_3 a1_4 a1_5 a1_6 a1_7 a1_8 a1_9 a1_10 a1_11 a1_12 a1_13 a1_14 a1_15 A2 c2 l2 a3 a4_0 a4_1 r S L w hf hs hr0 hc0 hr2 hc2 (fun s0 s1 s2 e_ e0_ => hz (fun q1 q2 q3 e1_ => ?_)) h
    rw [e_] at e1_
    simp only [Option.some.injEq, Prod.mk.injEq] at e1_
    obtain ⟨rfl, rfl, rfl⟩ := e1_
    exact e0_
theorem barrowlaw33_ZoneStays.calls (k : Nat) (A0 : Option Addr) (c0 : Nat) (l0 : List (S37)) (a1_0 : Int) (a1_1 : Int) (a1_2 : Int) (a1_3 : Int) (a1_4 : Int) (a1_5 : Int) (a1_6 : Int) (a1_7 : Int) (a1_8 : Int) (a1_9 : Int) (a1_10 : Int) (a1_11 : Int) (a1_12 : Int) (a1_13 : Int) (a1_14 : Int) (a1_15 : Int) (A2 : Option Addr) (c2 : Nat) (l2 : List (S44)) (a3 : Int) (a4_0 : Int) (a4_1 : Int) (r : Bool) (w : World) (hr0 : Kd.C k37 w A0 l0.length l0) (hc0 : l0.length ≤ c0) (hr2 : Kd.C k44 w A2 l2.length l2) (hc2 : l2.length ≤ c2) (h : barrowlaw33_ZoneStays.f k l0 a1_0 a1_1 a1_2 a1_3 a1_4 a1_5 a1_6 a1_7 a1_8 a1_9 a1_10 a1_11 a1_12 a1_13 a1_14 a1_15 l2 a3 a4_0 a4_1 = some r) :
    Calls Try.prog 6 #[.slice A0 l0.length c0, .agg #[.int .i64 a1_0, .int .i64 a1_1, .int .i64 a1_2, .int .i64 a1_3, .int .i64 a1_4, .int .i64 a1_5, .int .i64 a1_6, .int .i64 a1_7, .int .i64 a1_8, .int .i64 a1_9, .int .i64 a1_10, .int .i64 a1_11, .int .i64 a1_12, .int .i64 a1_13, .int .i64 a1_14, .int .i64 a1_15], .slice A2 l2.length c2, .int .i64 a3, .agg #[.int .i64 a4_0, .int .i64 a4_1]] w fun e w' => e = .returned (.bool r) ∧ Below w.heap.size w w' :=
  (barrowlaw33_ZoneStays.slcalls k A0 c0 l0 a1_0 a1_1 a1_2 a1_3 a1_4 a1_5 a1_6 a1_7 a1_8 a1_9 a1_10 a1_11 a1_12 a1_13 a1_14 a1_15 A2 c2 l2 a3 a4_0 a4_1 r (news w) [] w (fresh_news w) trivial (RO.top hr0) hc0 (RO.top hr2) hc2 h).mono fun _ _ h => ⟨h.1, h.2.2.to_below⟩

/-- THE ONE PURE STATEMENT of barrowlaw33_ZoneStays. -/
def barrowlaw33_ZoneStays.Pure : Prop := ∀ (l0 : List (S37)) (a1_0 : Int) (a1_1 : Int) (a1_2 : Int) (a1_3 : Int) (a1_4 : Int) (a1_5 : Int) (a1_6 : Int) (a1_7 : Int) (a1_8 : Int) (a1_9 : Int) (a1_10 : Int) (a1_11 : Int) (a1_12 : Int) (a1_13 : Int) (a1_14 : Int) (a1_15 : Int) (l2 : List (S44)) (a3 : Int) (a4_0 : Int) (a4_1 : Int), (l0.length ≤ maxLen ∧ l0.length * 128 ≤ 140737488351232 ∧ ∀ x597_ ∈ l0, ((Lit.int .i64 x597_.f0).wf = true) ∧ (((Lit.int .i64 x597_.f1.f0).wf = true) ∧ (((Lit.int .i64 x597_.f1.f1.f0).wf = true) ∧ ((Lit.int .i64 x597_.f1.f1.f1).wf = true)) ∧ (((Lit.int .i64 x597_.f1.f2.f0).wf = true) ∧ ((Lit.int .i64 x597_.f1.f2.f1).wf = true)) ∧ ((Lit.int .i64 x597_.f1.f3).wf = true) ∧ ((Lit.int .i64 x597_.f1.f4).wf = true)) ∧ ((Lit.int .i64 x597_.f2).wf = true) ∧ ((Lit.int .i64 x597_.f3).wf = true) ∧ ((Lit.int .i64 x597_.f4).wf = true) ∧ (((Lit.int .i64 x597_.f5.f0).wf = true) ∧ ((Lit.int .i64 x597_.f5.f1).wf = true) ∧ ((Lit.int .i64 x597_.f5.f2).wf = true)) ∧ ((Lit.int .i64 x597_.f6).wf = true) ∧ ((Lit.int .i64 x597_.f7).wf = true)) → ((Lit.int .i64 a1_0).wf = true) → ((Lit.int .i64 a1_1).wf = true) → ((Lit.int .i64 a1_2).wf = true) → ((Lit.int .i64 a1_3).wf = true) → ((Lit.int .i64 a1_4).wf = true) → ((Lit.int .i64 a1_5).wf = true) → ((Lit.int .i64 a1_6).wf = true) → ((Lit.int .i64 a1_7).wf = true) → ((Lit.int .i64 a1_8).wf = true) → ((Lit.int .i64 a1_9).wf = true) → ((Lit.int .i64 a1_10).wf = true) → ((Lit.int .i64 a1_11).wf = true) → ((Lit.int .i64 a1_12).wf = true) → ((Lit.int .i64 a1_13).wf = true) → ((Lit.int .i64 a1_14).wf = true) → ((Lit.int .i64 a1_15).wf = true) → (l2.length ≤ maxLen ∧ l2.length * 80 ≤ 140737488351232 ∧ ∀ x598_ ∈ l2, ((Lit.int .i64 x598_.f0).wf = true) ∧ ((Lit.int .i64 x598_.f1).wf = true) ∧ ((Lit.int .i64 x598_.f2).wf = true) ∧ ((Lit.int .i64 x598_.f3).wf = true) ∧ ((Lit.int .i64 x598_.f4).wf = true) ∧ ((Lit.int .i64 x598_.f5).wf = true) ∧ ((Lit.int .i64 x598_.f6).wf = true) ∧ (((Lit.int .i64 x598_.f7.f0).wf = true) ∧ ((Lit.int .i64 x598_.f7.f1).wf = true)) ∧ ((Lit.int .i64 x598_.f8).wf = true)) → ((Lit.int .i64 a3).wf = true) → ((Lit.int .i64 a4_0).wf = true) → ((Lit.int .i64 a4_1).wf = true) → ∃ k, barrowlaw33_ZoneStays.f k l0 a1_0 a1_1 a1_2 a1_3 a1_4 a1_5 a1_6 a1_7 a1_8 a1_9 a1_10 a1_11 a1_12 a1_13 a1_14 a1_15 l2 a3 a4_0 a4_1 = some true

end Go.Proofs.Ytiadhonhjnbliaa.XZT
