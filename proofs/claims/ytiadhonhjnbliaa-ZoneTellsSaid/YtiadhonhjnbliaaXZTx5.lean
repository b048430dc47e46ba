-- Written by xprint.py (a program of this session) for this claim
import Derived.Test.YtiadhonhjnbliaaSq
import Derived.Test.YtiadhonhjnbliaaSL5
import Derived.Test.YtiadhonhjnbliaaXZTx0
import Derived.Test.YtiadhonhjnbliaaXZTx4
namespace Go.Proofs.Ytiadhonhjnbliaa.XZT
open Go.Proofs.YtiadhonhjnbliaaV Go.Proofs.YtiadhonhjnbliaaS
open Go.RowKit Go.Proofs.YtiadhonhjnbliaaW.PrintWords Go.Proofs.YtiadhonhjnbliaaW.PrintLast Go.Proofs.YtiadhonhjnbliaaW.PrintMore
attribute [local go_sem] max2_int min2_int max_two min_two max_three min_three max_four min_four   -- for this text's walks alone
set_option linter.unusedVariables false
set_option linter.unusedSimpArgs false

/-! ### sat_Mul: function 53 -/
def sat_Mul.f (a0 : Int) (a1 : Int) : Option (Int) := (sat_size.f a0).bind fun t118 => ((sat_size.f a1).bind fun t119 => ((bits_Mul64.f t118 t119).bind fun bt120 => ((sat_size.f 9223372036854775807).bind fun t122 => (if ((decide (a0 < 0)) != (decide (a1 < 0))) = true then ((sat_size.f (-9223372036854775808)).bind fun t123 => (if bt120.1 > 0 then ((sat_end.f true).bind fun t124 => (some t124)) else (if bt120.2 > t123 then ((sat_end.f true).bind fun t125 => (some t125)) else (some (wrap64 (IntKind.u64.wrap (-bt120.2))))))) else (if bt120.1 > 0 then ((sat_end.f false).bind fun t126 => (some t126)) else (if bt120.2 > t122 then ((sat_end.f false).bind fun t127 => (some t127)) else (some (wrap64 (bt120.2)))))))))
set_option maxHeartbeats 8000000 in
set_option maxRecDepth 100000 in
theorem sat_Mul.calls (a0 : Int) (a1 : Int) (r : Int) (w : World) (h : sat_Mul.f a0 a1 = some r) :
  Calls Try.prog 53 #[.int .i64 a0, .int .i64 a1] w fun e w' => e = .returned (.int .i64 r) ∧ Drawn0 w w' := by
 have H : ((sat_size.f a0).bind fun t118 => ((sat_size.f a1).bind fun t119 => ((bits_Mul64.f t118 t119).bind fun bt120 => ((sat_size.f 9223372036854775807).bind fun t122 => (if ((decide (a0 < 0)) != (decide (a1 < 0))) = true then ((sat_size.f (-9223372036854775808)).bind fun t123 => (if bt120.1 > 0 then ((sat_end.f true).bind fun t124 => (some t124)) else (if bt120.2 > t123 then ((sat_end.f true).bind fun t125 => (some t125)) else (some (wrap64 (IntKind.u64.wrap (-bt120.2))))))) else (if bt120.1 > 0 then ((sat_end.f false).bind fun t126 => (some t126)) else (if bt120.2 > t122 then ((sat_end.f false).bind fun t127 => (some t127)) else (some (wrap64 (bt120.2)))))))))) = some r := h
 clear h
 replace H := Option.bind_eq_some_iff.mp H
 obtain ⟨t118, A30, H⟩ := H
 replace H : ((sat_size.f a1).bind fun t119 => ((bits_Mul64.f t118 t119).bind fun bt120 => ((sat_size.f 9223372036854775807).bind fun t122 => (if ((decide (a0 < 0)) != (decide (a1 < 0))) = true then ((sat_size.f (-9223372036854775808)).bind fun t123 => (if bt120.1 > 0 then ((sat_end.f true).bind fun t124 => (some t124)) else (if bt120.2 > t123 then ((sat_end.f true).bind fun t125 => (some t125)) else (some (wrap64 (IntKind.u64.wrap (-bt120.2))))))) else (if bt120.1 > 0 then ((sat_end.f false).bind fun t126 => (some t126)) else (if bt120.2 > t122 then ((sat_end.f false).bind fun t127 => (some t127)) else (some (wrap64 (bt120.2))))))))) = some r := H
 have A3 := Aside0.mk A30
 clear A30
 replace H := Option.bind_eq_some_iff.mp H
 obtain ⟨t119, A40, H⟩ := H
 replace H : ((bits_Mul64.f t118 t119).bind fun bt120 => ((sat_size.f 9223372036854775807).bind fun t122 => (if ((decide (a0 < 0)) != (decide (a1 < 0))) = true then ((sat_size.f (-9223372036854775808)).bind fun t123 => (if bt120.1 > 0 then ((sat_end.f true).bind fun t124 => (some t124)) else (if bt120.2 > t123 then ((sat_end.f true).bind fun t125 => (some t125)) else (some (wrap64 (IntKind.u64.wrap (-bt120.2))))))) else (if bt120.1 > 0 then ((sat_end.f false).bind fun t126 => (some t126)) else (if bt120.2 > t122 then ((sat_end.f false).bind fun t127 => (some t127)) else (some (wrap64 (bt120.2)))))))) = some r := H
 have A4 := Aside0.mk A40
 clear A40
 replace H := Option.bind_eq_some_iff.mp H
 obtain ⟨⟨t120, t121⟩, A50, H⟩ := H
 replace H : ((sat_size.f 9223372036854775807).bind fun t122 => (if ((decide (a0 < 0)) != (decide (a1 < 0))) = true then ((sat_size.f (-9223372036854775808)).bind fun t123 => (if t120 > 0 then ((sat_end.f true).bind fun t124 => (some t124)) else (if t121 > t123 then ((sat_end.f true).bind fun t125 => (some t125)) else (some (wrap64 (IntKind.u64.wrap (-t121))))))) else (if t120 > 0 then ((sat_end.f false).bind fun t126 => (some t126)) else (if t121 > t122 then ((sat_end.f false).bind fun t127 => (some t127)) else (some (wrap64 (t121))))))) = some r := H
 have A5 := Aside0.mk A50
 clear A50
 replace H := Option.bind_eq_some_iff.mp H
 obtain ⟨t122, A60, H⟩ := H
 replace H : (if ((decide (a0 < 0)) != (decide (a1 < 0))) = true then ((sat_size.f (-9223372036854775808)).bind fun t123 => (if t120 > 0 then ((sat_end.f true).bind fun t124 => (some t124)) else (if t121 > t123 then ((sat_end.f true).bind fun t125 => (some t125)) else (some (wrap64 (IntKind.u64.wrap (-t121))))))) else (if t120 > 0 then ((sat_end.f false).bind fun t126 => (some t126)) else (if t121 > t122 then ((sat_end.f false).bind fun t127 => (some t127)) else (some (wrap64 (t121)))))) = some r := H
 have A6 := Aside0.mk A60
 clear A60
 by_cases c7 : ((decide (a0 < 0)) != (decide (a1 < 0))) = true
 ·rw [if_pos c7] at H
  have c7b0 : ((decide (a0 < 0)) != (decide (a1 < 0))) = true := c7
  (try (have c7b1 : decide ((decide (a0 < 0)) = (decide (a1 < 0))) = false := by simpa using c7))
  (try (have c7b2 : ((decide (a0 < 0)) == (decide (a1 < 0))) = false := by simpa using c7))
  (try (have c7b3 : ¬ ((decide (a0 < 0)) = (decide (a1 < 0))) := by simpa using c7))
  clear c7
  replace H := Option.bind_eq_some_iff.mp H
  obtain ⟨t123, A80, H⟩ := H
  replace H : (if t120 > 0 then ((sat_end.f true).bind fun t124 => (some t124)) else (if t121 > t123 then ((sat_end.f true).bind fun t125 => (some t125)) else (some (wrap64 (IntKind.u64.wrap (-t121)))))) = some r := H
  have A8 := Aside0.mk A80
  clear A80
  by_cases c9 : t120 > 0
  ·rw [if_pos c9] at H
   have c9b0 : decide (0 < t120) = true := decide_eq_true c9
   clear c9
   replace H := Option.bind_eq_some_iff.mp H
   obtain ⟨t124, A100, H⟩ := H
   replace H : (some t124) = some r := H
   have A10 := Aside0.mk A100
   clear A100
   obtain rfl := Option.some.inj H
   go_enter Try.func53, Try.ntmps53
   go_wp2_with (first | ((with_reducible refine gate_callee (f := 58) rfl ?_); refine goesL_ (some 16) rfl rfl Try.func58 (by kernel_rfl) rfl #[.int .i64 a0] rfl (by (try simp only [List.map_toArray, List.map_cons, List.map_nil]); first | done | rfl | (simp only [List.length_drop, List.length_take]; rfl)) ?_; (with_reducible refine (sat_size.calls a0 t118 _ A3.out).mono ?_); rintro e w' ⟨rfl, ⟨nd, rfl⟩⟩; refine ⟨_, rfl, ?_⟩) | ((with_reducible refine gate_callee (f := 58) rfl ?_); refine goesL_ (some 18) rfl rfl Try.func58 (by kernel_rfl) rfl #[.int .i64 a1] rfl (by (try simp only [List.map_toArray, List.map_cons, List.map_nil]); first | done | rfl | (simp only [List.length_drop, List.length_take]; rfl)) ?_; (with_reducible refine (sat_size.calls a1 t119 _ A4.out).mono ?_); rintro e w' ⟨rfl, ⟨nd, rfl⟩⟩; refine ⟨_, rfl, ?_⟩) | ((with_reducible refine gate_callee (f := 57) rfl ?_); refine goesL_ (some 19) rfl rfl Try.func57 (by kernel_rfl) rfl #[.int .u64 t118, .int .u64 t119] rfl (by (try simp only [List.map_toArray, List.map_cons, List.map_nil]); first | done | rfl | (simp only [List.length_drop, List.length_take]; rfl)) ?_; (with_reducible refine (bits_Mul64.calls t118 t119 t120 t121 _ A5.out).mono ?_); rintro e w' ⟨rfl, ⟨nd, rfl⟩⟩; refine ⟨_, rfl, ?_⟩) | ((with_reducible refine gate_callee (f := 58) rfl ?_); refine goesL_ (some 22) rfl rfl Try.func58 (by kernel_rfl) rfl #[.int .i64 9223372036854775807] rfl (by (try simp only [List.map_toArray, List.map_cons, List.map_nil]); first | done | rfl | (simp only [List.length_drop, List.length_take]; rfl)) ?_; (with_reducible refine (sat_size.calls 9223372036854775807 t122 _ A6.out).mono ?_); rintro e w' ⟨rfl, ⟨nd, rfl⟩⟩; refine ⟨_, rfl, ?_⟩) | ((with_reducible refine gate_callee (f := 58) rfl ?_); refine goesL_ (some 24) rfl rfl Try.func58 (by kernel_rfl) rfl #[.int .i64 (-9223372036854775808)] rfl (by (try simp only [List.map_toArray, List.map_cons, List.map_nil]); first | done | rfl | (simp only [List.length_drop, List.length_take]; rfl)) ?_; (with_reducible refine (sat_size.calls (-9223372036854775808) t123 _ A8.out).mono ?_); rintro e w' ⟨rfl, ⟨nd, rfl⟩⟩; refine ⟨_, rfl, ?_⟩) | ((with_reducible refine gate_callee (f := 59) rfl ?_); refine goesL_ (some 34) rfl rfl Try.func59 (by kernel_rfl) rfl #[.bool true] rfl (by (try simp only [List.map_toArray, List.map_cons, List.map_nil]); first | done | rfl | (simp only [List.length_drop, List.length_take]; rfl)) ?_; (with_reducible refine (sat_end.calls true t124 _ A10.out).mono ?_); rintro e w' ⟨rfl, ⟨nd, rfl⟩⟩; refine ⟨_, rfl, ?_⟩))
   go_ret
   exact ⟨by first | rfl | (simp; done) | (simp [*]; done), by repeat (first | exact Drawn0.refl _ | apply Drawn0.step)⟩
  ·rw [if_neg c9] at H
   have c9b0 : decide (0 < t120) = false := decide_eq_false c9
   clear c9
   by_cases c11 : t121 > t123
   ·rw [if_pos c11] at H
    have c11b0 : decide (t123 < t121) = true := decide_eq_true c11
    clear c11
    replace H := Option.bind_eq_some_iff.mp H
    obtain ⟨t125, A120, H⟩ := H
    replace H : (some t125) = some r := H
    have A12 := Aside0.mk A120
    clear A120
    obtain rfl := Option.some.inj H
    go_enter Try.func53, Try.ntmps53
    go_wp2_with (first | ((with_reducible refine gate_callee (f := 58) rfl ?_); refine goesL_ (some 16) rfl rfl Try.func58 (by kernel_rfl) rfl #[.int .i64 a0] rfl (by (try simp only [List.map_toArray, List.map_cons, List.map_nil]); first | done | rfl | (simp only [List.length_drop, List.length_take]; rfl)) ?_; (with_reducible refine (sat_size.calls a0 t118 _ A3.out).mono ?_); rintro e w' ⟨rfl, ⟨nd, rfl⟩⟩; refine ⟨_, rfl, ?_⟩) | ((with_reducible refine gate_callee (f := 58) rfl ?_); refine goesL_ (some 18) rfl rfl Try.func58 (by kernel_rfl) rfl #[.int .i64 a1] rfl (by (try simp only [List.map_toArray, List.map_cons, List.map_nil]); first | done | rfl | (simp only [List.length_drop, List.length_take]; rfl)) ?_; (with_reducible refine (sat_size.calls a1 t119 _ A4.out).mono ?_); rintro e w' ⟨rfl, ⟨nd, rfl⟩⟩; refine ⟨_, rfl, ?_⟩) | ((with_reducible refine gate_callee (f := 57) rfl ?_); refine goesL_ (some 19) rfl rfl Try.func57 (by kernel_rfl) rfl #[.int .u64 t118, .int .u64 t119] rfl (by (try simp only [List.map_toArray, List.map_cons, List.map_nil]); first | done | rfl | (simp only [List.length_drop, List.length_take]; rfl)) ?_; (with_reducible refine (bits_Mul64.calls t118 t119 t120 t121 _ A5.out).mono ?_); rintro e w' ⟨rfl, ⟨nd, rfl⟩⟩; refine ⟨_, rfl, ?_⟩) | ((with_reducible refine gate_callee (f := 58) rfl ?_); refine goesL_ (some 22) rfl rfl Try.func58 (by kernel_rfl) rfl #[.int .i64 9223372036854775807] rfl (by (try simp only [List.map_toArray, List.map_cons, List.map_nil]); first | done | rfl | (simp only [List.length_drop, List.length_take]; rfl)) ?_; (with_reducible refine (sat_size.calls 9223372036854775807 t122 _ A6.out).mono ?_); rintro e w' ⟨rfl, ⟨nd, rfl⟩⟩; refine ⟨_, rfl, ?_⟩) | ((with_reducible refine gate_callee (f := 58) rfl ?_); refine goesL_ (some 24) rfl rfl Try.func58 (by kernel_rfl) rfl #[.int .i64 (-9223372036854775808)] rfl (by (try simp only [List.map_toArray, List.map_cons, List.map_nil]); first | done | rfl | (simp only [List.length_drop, List.length_take]; rfl)) ?_; (with_reducible refine (sat_size.calls (-9223372036854775808) t123 _ A8.out).mono ?_); rintro e w' ⟨rfl, ⟨nd, rfl⟩⟩; refine ⟨_, rfl, ?_⟩) | ((with_reducible refine gate_callee (f := 59) rfl ?_); refine goesL_ (some 34) rfl rfl Try.func59 (by kernel_rfl) rfl #[.bool true] rfl (by (try simp only [List.map_toArray, List.map_cons, List.map_nil]); first | done | rfl | (simp only [List.length_drop, List.length_take]; rfl)) ?_; (with_reducible refine (sat_end.calls true t125 _ A12.out).mono ?_); rintro e w' ⟨rfl, ⟨nd, rfl⟩⟩; refine ⟨_, rfl, ?_⟩))
    go_ret
    exact ⟨by first | rfl | (simp; done) | (simp [*]; done), by repeat (first | exact Drawn0.refl _ | apply Drawn0.step)⟩
   ·rw [if_neg c11] at H
    have c11b0 : decide (t123 < t121) = false := decide_eq_false c11
    clear c11
    obtain rfl := Option.some.inj H
    go_enter Try.func53, Try.ntmps53
    go_wp2_with (first | ((with_reducible refine gate_callee (f := 58) rfl ?_); refine goesL_ (some 16) rfl rfl Try.func58 (by kernel_rfl) rfl #[.int .i64 a0] rfl (by (try simp only [List.map_toArray, List.map_cons, List.map_nil]); first | done | rfl | (simp only [List.length_drop, List.length_take]; rfl)) ?_; (with_reducible refine (sat_size.calls a0 t118 _ A3.out).mono ?_); rintro e w' ⟨rfl, ⟨nd, rfl⟩⟩; refine ⟨_, rfl, ?_⟩) | ((with_reducible refine gate_callee (f := 58) rfl ?_); refine goesL_ (some 18) rfl rfl Try.func58 (by kernel_rfl) rfl #[.int .i64 a1] rfl (by (try simp only [List.map_toArray, List.map_cons, List.map_nil]); first | done | rfl | (simp only [List.length_drop, List.length_take]; rfl)) ?_; (with_reducible refine (sat_size.calls a1 t119 _ A4.out).mono ?_); rintro e w' ⟨rfl, ⟨nd, rfl⟩⟩; refine ⟨_, rfl, ?_⟩) | ((with_reducible refine gate_callee (f := 57) rfl ?_); refine goesL_ (some 19) rfl rfl Try.func57 (by kernel_rfl) rfl #[.int .u64 t118, .int .u64 t119] rfl (by (try simp only [List.map_toArray, List.map_cons, List.map_nil]); first | done | rfl | (simp only [List.length_drop, List.length_take]; rfl)) ?_; (with_reducible refine (bits_Mul64.calls t118 t119 t120 t121 _ A5.out).mono ?_); rintro e w' ⟨rfl, ⟨nd, rfl⟩⟩; refine ⟨_, rfl, ?_⟩) | ((with_reducible refine gate_callee (f := 58) rfl ?_); refine goesL_ (some 22) rfl rfl Try.func58 (by kernel_rfl) rfl #[.int .i64 9223372036854775807] rfl (by (try simp only [List.map_toArray, List.map_cons, List.map_nil]); first | done | rfl | (simp only [List.length_drop, List.length_take]; rfl)) ?_; (with_reducible refine (sat_size.calls 9223372036854775807 t122 _ A6.out).mono ?_); rintro e w' ⟨rfl, ⟨nd, rfl⟩⟩; refine ⟨_, rfl, ?_⟩) | ((with_reducible refine gate_callee (f := 58) rfl ?_); refine goesL_ (some 24) rfl rfl Try.func58 (by kernel_rfl) rfl #[.int .i64 (-9223372036854775808)] rfl (by (try simp only [List.map_toArray, List.map_cons, List.map_nil]); first | done | rfl | (simp only [List.length_drop, List.length_take]; rfl)) ?_; (with_reducible refine (sat_size.calls (-9223372036854775808) t123 _ A8.out).mono ?_); rintro e w' ⟨rfl, ⟨nd, rfl⟩⟩; refine ⟨_, rfl, ?_⟩))
    go_ret
    exact ⟨by first | rfl | (simp; done) | (simp [*]; done), by repeat (first | exact Drawn0.refl _ | apply Drawn0.step)⟩
 ·rw [if_neg c7] at H
  have c7b0 : ((decide (a0 < 0)) != (decide (a1 < 0))) = false := by simpa using c7
  (try (have c7b1 : decide ((decide (a0 < 0)) = (decide (a1 < 0))) = true := by simpa using c7))
  (try (have c7b2 : ((decide (a0 < 0)) == (decide (a1 < 0))) = true := by simpa using c7))
  clear c7
  by_cases c13 : t120 > 0
  ·rw [if_pos c13] at H
   have c13b0 : decide (0 < t120) = true := decide_eq_true c13
   clear c13
   replace H := Option.bind_eq_some_iff.mp H
   obtain ⟨t126, A140, H⟩ := H
   replace H : (some t126) = some r := H
   have A14 := Aside0.mk A140
   clear A140
   obtain rfl := Option.some.inj H
   go_enter Try.func53, Try.ntmps53
   go_wp2_with (first | ((with_reducible refine gate_callee (f := 58) rfl ?_); refine goesL_ (some 16) rfl rfl Try.func58 (by kernel_rfl) rfl #[.int .i64 a0] rfl (by (try simp only [List.map_toArray, List.map_cons, List.map_nil]); first | done | rfl | (simp only [List.length_drop, List.length_take]; rfl)) ?_; (with_reducible refine (sat_size.calls a0 t118 _ A3.out).mono ?_); rintro e w' ⟨rfl, ⟨nd, rfl⟩⟩; refine ⟨_, rfl, ?_⟩) | ((with_reducible refine gate_callee (f := 58) rfl ?_); refine goesL_ (some 18) rfl rfl Try.func58 (by kernel_rfl) rfl #[.int .i64 a1] rfl (by (try simp only [List.map_toArray, List.map_cons, List.map_nil]); first | done | rfl | (simp only [List.length_drop, List.length_take]; rfl)) ?_; (with_reducible refine (sat_size.calls a1 t119 _ A4.out).mono ?_); rintro e w' ⟨rfl, ⟨nd, rfl⟩⟩; refine ⟨_, rfl, ?_⟩) | ((with_reducible refine gate_callee (f := 57) rfl ?_); refine goesL_ (some 19) rfl rfl Try.func57 (by kernel_rfl) rfl #[.int .u64 t118, .int .u64 t119] rfl (by (try simp only [List.map_toArray, List.map_cons, List.map_nil]); first | done | rfl | (simp only [List.length_drop, List.length_take]; rfl)) ?_; (with_reducible refine (bits_Mul64.calls t118 t119 t120 t121 _ A5.out).mono ?_); rintro e w' ⟨rfl, ⟨nd, rfl⟩⟩; refine ⟨_, rfl, ?_⟩) | ((with_reducible refine gate_callee (f := 58) rfl ?_); refine goesL_ (some 22) rfl rfl Try.func58 (by kernel_rfl) rfl #[.int .i64 9223372036854775807] rfl (by (try simp only [List.map_toArray, List.map_cons, List.map_nil]); first | done | rfl | (simp only [List.length_drop, List.length_take]; rfl)) ?_; (with_reducible refine (sat_size.calls 9223372036854775807 t122 _ A6.out).mono ?_); rintro e w' ⟨rfl, ⟨nd, rfl⟩⟩; refine ⟨_, rfl, ?_⟩) | ((with_reducible refine gate_callee (f := 59) rfl ?_); refine goesL_ (some 34) rfl rfl Try.func59 (by kernel_rfl) rfl #[.bool false] rfl (by (try simp only [List.map_toArray, List.map_cons, List.map_nil]); first | done | rfl | (simp only [List.length_drop, List.length_take]; rfl)) ?_; (with_reducible refine (sat_end.calls false t126 _ A14.out).mono ?_); rintro e w' ⟨rfl, ⟨nd, rfl⟩⟩; refine ⟨_, rfl, ?_⟩))
   go_ret
   exact ⟨by first | rfl | (simp; done) | (simp [*]; done), by repeat (first | exact Drawn0.refl _ | apply Drawn0.step)⟩
  ·rw [if_neg c13] at H
   have c13b0 : decide (0 < t120) = false := decide_eq_false c13
   clear c13
   by_cases c15 : t121 > t122
   ·rw [if_pos c15] at H
    have c15b0 : decide (t122 < t121) = true := decide_eq_true c15
    clear c15
    replace H := Option.bind_eq_some_iff.mp H
    obtain ⟨t127, A160, H⟩ := H
    replace H : (some t127) = some r := H
    have A16 := Aside0.mk A160
    clear A160
    obtain rfl := Option.some.inj H
    go_enter Try.func53, Try.ntmps53
    go_wp2_with (first | ((with_reducible refine gate_callee (f := 58) rfl ?_); refine goesL_ (some 16) rfl rfl Try.func58 (by kernel_rfl) rfl #[.int .i64 a0] rfl (by (try simp only [List.map_toArray, List.map_cons, List.map_nil]); first | done | rfl | (simp only [List.length_drop, List.length_take]; rfl)) ?_; (with_reducible refine (sat_size.calls a0 t118 _ A3.out).mono ?_); rintro e w' ⟨rfl, ⟨nd, rfl⟩⟩; refine ⟨_, rfl, ?_⟩) | ((with_reducible refine gate_callee (f := 58) rfl ?_); refine goesL_ (some 18) rfl rfl Try.func58 (by kernel_rfl) rfl #[.int .i64 a1] rfl (by (try simp only [List.map_toArray, List.map_cons, List.map_nil]); first | done | rfl | (simp only [List.length_drop, List.length_take]; rfl)) ?_; (with_reducible refine (sat_size.calls a1 t119 _ A4.out).mono ?_); rintro e w' ⟨rfl, ⟨nd, rfl⟩⟩; refine ⟨_, rfl, ?_⟩) | ((with_reducible refine gate_callee (f := 57) rfl ?_); refine goesL_ (some 19) rfl rfl Try.func57 (by kernel_rfl) rfl #[.int .u64 t118, .int .u64 t119] rfl (by (try simp only [List.map_toArray, List.map_cons, List.map_nil]); first | done | rfl | (simp only [List.length_drop, List.length_take]; rfl)) ?_; (with_reducible refine (bits_Mul64.calls t118 t119 t120 t121 _ A5.out).mono ?_); rintro e w' ⟨rfl, ⟨nd, rfl⟩⟩; refine ⟨_, rfl, ?_⟩) | ((with_reducible refine gate_callee (f := 58) rfl ?_); refine goesL_ (some 22) rfl rfl Try.func58 (by kernel_rfl) rfl #[.int .i64 9223372036854775807] rfl (by (try simp only [List.map_toArray, List.map_cons, List.map_nil]); first | done | rfl | (simp only [List.length_drop, List.length_take]; rfl)) ?_; (with_reducible refine (sat_size.calls 9223372036854775807 t122 _ A6.out).mono ?_); rintro e w' ⟨rfl, ⟨nd, rfl⟩⟩; refine ⟨_, rfl, ?_⟩) | ((with_reducible refine gate_callee (f := 59) rfl ?_); refine goesL_ (some 34) rfl rfl Try.func59 (by kernel_rfl) rfl #[.bool false] rfl (by (try simp only [List.map_toArray, List.map_cons, List.map_nil]); first | done | rfl | (simp only [List.length_drop, List.length_take]; rfl)) ?_; (with_reducible refine (sat_end.calls false t127 _ A16.out).mono ?_); rintro e w' ⟨rfl, ⟨nd, rfl⟩⟩; refine ⟨_, rfl, ?_⟩))
    go_ret
    exact ⟨by first | rfl | (simp; done) | (simp [*]; done), by repeat (first | exact Drawn0.refl _ | apply Drawn0.step)⟩
   ·rw [if_neg c15] at H
    have c15b0 : decide (t122 < t121) = false := decide_eq_false c15
    clear c15
    obtain rfl := Option.some.inj H
    go_enter Try.func53, Try.ntmps53
    go_wp2_with (first | ((with_reducible refine gate_callee (f := 58) rfl ?_); refine goesL_ (some 16) rfl rfl Try.func58 (by kernel_rfl) rfl #[.int .i64 a0] rfl (by (try simp only [List.map_toArray, List.map_cons, List.map_nil]); first | done | rfl | (simp only [List.length_drop, List.length_take]; rfl)) ?_; (with_reducible refine (sat_size.calls a0 t118 _ A3.out).mono ?_); rintro e w' ⟨rfl, ⟨nd, rfl⟩⟩; refine ⟨_, rfl, ?_⟩) | ((with_reducible refine gate_callee (f := 58) rfl ?_); refine goesL_ (some 18) rfl rfl Try.func58 (by kernel_rfl) rfl #[.int .i64 a1] rfl (by (try simp only [List.map_toArray, List.map_cons, List.map_nil]); first | done | rfl | (simp only [List.length_drop, List.length_take]; rfl)) ?_; (with_reducible refine (sat_size.calls a1 t119 _ A4.out).mono ?_); rintro e w' ⟨rfl, ⟨nd, rfl⟩⟩; refine ⟨_, rfl, ?_⟩) | ((with_reducible refine gate_callee (f := 57) rfl ?_); refine goesL_ (some 19) rfl rfl Try.func57 (by kernel_rfl) rfl #[.int .u64 t118, .int .u64 t119] rfl (by (try simp only [List.map_toArray, List.map_cons, List.map_nil]); first | done | rfl | (simp only [List.length_drop, List.length_take]; rfl)) ?_; (with_reducible refine (bits_Mul64.calls t118 t119 t120 t121 _ A5.out).mono ?_); rintro e w' ⟨rfl, ⟨nd, rfl⟩⟩; refine ⟨_, rfl, ?_⟩) | ((with_reducible refine gate_callee (f := 58) rfl ?_); refine goesL_ (some 22) rfl rfl Try.func58 (by kernel_rfl) rfl #[.int .i64 9223372036854775807] rfl (by (try simp only [List.map_toArray, List.map_cons, List.map_nil]); first | done | rfl | (simp only [List.length_drop, List.length_take]; rfl)) ?_; (with_reducible refine (sat_size.calls 9223372036854775807 t122 _ A6.out).mono ?_); rintro e w' ⟨rfl, ⟨nd, rfl⟩⟩; refine ⟨_, rfl, ?_⟩))
    go_ret
    exact ⟨by first | rfl | (simp; done) | (simp [*]; done), by repeat (first | exact Drawn0.refl _ | apply Drawn0.step)⟩

/-! ### sat_Sub: function 50 -/
def sat_Sub.j0 : Nat → Int → Int → Int → Bool → Option (Int)
 | 0, _, _, _, _ => none
 | k + 1, x0, x1, x5, x9 => if x9 = true then (some 9223372036854775807) else (if x0 < 0 then (if x1 > 0 then (if x5 ≥ 0 then (some (-9223372036854775808)) else (some x5)) else (some x5)) else (some x5))
def sat_Sub.f (k : Nat) (a0 : Int) (a1 : Int) : Option (Int) := if a0 ≥ 0 then (if a1 < 0 then (sat_Sub.j0 k a0 a1 (wrap64 (a0 - a1)) (decide ((wrap64 (a0 - a1)) < 0))) else (sat_Sub.j0 k a0 a1 (wrap64 (a0 - a1)) false)) else (sat_Sub.j0 k a0 a1 (wrap64 (a0 - a1)) false)
theorem sat_Sub.mono_l : ∀ k, (∀ y0 y1 y2 y3, LeO (sat_Sub.j0 k y0 y1 y2 y3) (sat_Sub.j0 (k + 1) y0 y1 y2 y3))
 | 0 => fun _ _ _ _ r h => by simp [sat_Sub.j0] at h
 | k + 1 => by
  have ih0 := sat_Sub.mono_l k
  ·intro y0 y1 y2 y3
   unfold sat_Sub.j0
   repeat' first
   | (with_reducible exact ih0 _ _ _ _)
   | (with_reducible exact LeO.refl _)
   | (with_reducible exact LeO.none _)
   | (with_reducible refine LeO.ite ?_ ?_)
   | (with_reducible refine LeO.bind ?_ (fun _ => ?_))
   | exact ih0 _ _ _ _
   | exact LeO.none _
   | refine LeO.ite ?_ ?_
   | refine LeO.bind ?_ (fun _ => ?_)
theorem sat_Sub.mono : ∀ a0 a1 k, LeO (sat_Sub.f k a0 a1) (sat_Sub.f (k + 1) a0 a1) := by
 intro a0 a1 k
 have ih0 := sat_Sub.mono_l k
 unfold sat_Sub.f
 repeat' first
   | (with_reducible exact ih0 _ _ _ _)
   | (with_reducible exact LeO.refl _)
   | (with_reducible exact LeO.none _)
   | (with_reducible refine LeO.ite ?_ ?_)
   | (with_reducible refine LeO.bind ?_ (fun _ => ?_))
   | exact ih0 _ _ _ _
   | exact LeO.none _
   | refine LeO.ite ?_ ?_
   | refine LeO.bind ?_ (fun _ => ?_)
set_option maxHeartbeats 8000000 in
set_option maxRecDepth 100000 in
theorem sat_Sub.calls (k : Nat) (a0 : Int) (a1 : Int) (r : Int) (w : World) (h : sat_Sub.f k a0 a1 = some r) :
  Calls Try.prog 50 #[.int .i64 a0, .int .i64 a1] w fun e w' => e = .returned (.int .i64 r) ∧ Drawn0 w w' := by
 have H : (if a0 ≥ 0 then (if a1 < 0 then (sat_Sub.j0 k a0 a1 (wrap64 (a0 - a1)) (decide ((wrap64 (a0 - a1)) < 0))) else (sat_Sub.j0 k a0 a1 (wrap64 (a0 - a1)) false)) else (sat_Sub.j0 k a0 a1 (wrap64 (a0 - a1)) false)) = some r := h
 clear h
 have HC3 := Aside0.mk H
 clear H
 go_enter Try.func50, Try.ntmps50
 go_upto_region 2 with (fail)
 go_cut [9] (fun v9 wc => ∃ (kq : Nat) (x9_2 : Bool), v9 = .bool x9_2 ∧ Aside0 (sat_Sub.j0 kq a0 a1 (wrap64 (a0 - a1)) x9_2 = some r) ∧ Aside0 (kq ≤ k) ∧ Drawn0 w wc)
 case first =>
  have H := HC3.out
  clear HC3
  by_cases c4 : a0 ≥ 0
  ·rw [if_pos c4] at H
   have c4b0 : decide (0 ≤ a0) = true := decide_eq_true c4
   clear c4
   (first | rw [c4b0] | (simp only [i64_w, i32_w]; rw [c4b0]) | skip)
   by_cases c5 : a1 < 0
   ·rw [if_pos c5] at H
    have c5b0 : decide (a1 < 0) = true := decide_eq_true c5
    clear c5
    have H' := Aside0.mk H
    clear H
    go_wp2
    go_meet
    case rel => exact ⟨_, (decide ((wrap64 (a0 - a1)) < 0)), (by first | rfl | (simp; done) | (simp [*]; done)), H', ⟨by first | omega | exact Nat.le_refl _⟩, by repeat (first | exact Drawn0.refl _ | apply Drawn0.step)⟩
   ·rw [if_neg c5] at H
    have c5b0 : decide (a1 < 0) = false := decide_eq_false c5
    clear c5
    have H' := Aside0.mk H
    clear H
    go_wp2
    go_meet
    case rel => exact ⟨_, (false), (by first | rfl | (simp; done) | (simp [*]; done)), H', ⟨by first | omega | exact Nat.le_refl _⟩, by repeat (first | exact Drawn0.refl _ | apply Drawn0.step)⟩
  ·rw [if_neg c4] at H
   have c4b0 : decide (0 ≤ a0) = false := decide_eq_false c4
   clear c4
   (first | rw [c4b0] | (simp only [i64_w, i32_w]; rw [c4b0]) | skip)
   have H' := Aside0.mk H
   clear H
   go_wp2
   go_meet
   case rel => exact ⟨_, (false), (by first | rfl | (simp; done) | (simp [*]; done)), H', ⟨by first | omega | exact Nat.le_refl _⟩, by repeat (first | exact Drawn0.refl _ | apply Drawn0.step)⟩
 case rest =>
  clear HC3
  try clear p2
  try clear c4
  try clear c4b0
  try clear c5
  try clear c5b0
  obtain ⟨kq, x9_2, rfl, HA, HJ2, ⟨mc2, rfl⟩⟩ := hcut
  cases kq with
  | zero => exact absurd HA.out (by simp [sat_Sub.j0])
  | succ kj2 =>
   have H := HA.out
   clear HA
   simp only [sat_Sub.j0] at H
   by_cases c6 : x9_2 = true
   ·subst c6
    have H1 : (some 9223372036854775807) = some r := by rw [if_pos rfl] at H; exact H
    clear H
    have H := H1
    clear H1
    obtain rfl := Option.some.inj H
    go_wp2
    go_ret
    exact ⟨by first | rfl | (simp; done) | (simp [*]; done), by repeat (first | exact Drawn0.refl _ | apply Drawn0.step)⟩
   ·replace c6 := Bool.eq_false_iff.mpr c6
    subst c6
    have H1 : (if a0 < 0 then (if a1 > 0 then (if (wrap64 (a0 - a1)) ≥ 0 then (some (-9223372036854775808)) else (some (wrap64 (a0 - a1)))) else (some (wrap64 (a0 - a1)))) else (some (wrap64 (a0 - a1)))) = some r := by rw [if_neg (show ¬ (false = true) by decide)] at H; exact H
    clear H
    have H := H1
    clear H1
    by_cases c7 : a0 < 0
    ·rw [if_pos c7] at H
     have c7b0 : decide (a0 < 0) = true := decide_eq_true c7
     clear c7
     by_cases c8 : a1 > 0
     ·rw [if_pos c8] at H
      have c8b0 : decide (0 < a1) = true := decide_eq_true c8
      clear c8
      by_cases c9 : (wrap64 (a0 - a1)) ≥ 0
      ·rw [if_pos c9] at H
       have c9b0 : decide (0 ≤ (wrap64 (a0 - a1))) = true := decide_eq_true c9
       clear c9
       obtain rfl := Option.some.inj H
       go_wp2
       go_ret
       exact ⟨by first | rfl | (simp; done) | (simp [*]; done), by repeat (first | exact Drawn0.refl _ | apply Drawn0.step)⟩
      ·rw [if_neg c9] at H
       have c9b0 : decide (0 ≤ (wrap64 (a0 - a1))) = false := decide_eq_false c9
       clear c9
       obtain rfl := Option.some.inj H
       go_wp2
       go_ret
       exact ⟨by first | rfl | (simp; done) | (simp [*]; done), by repeat (first | exact Drawn0.refl _ | apply Drawn0.step)⟩
     ·rw [if_neg c8] at H
      have c8b0 : decide (0 < a1) = false := decide_eq_false c8
      clear c8
      obtain rfl := Option.some.inj H
      go_wp2
      go_ret
      exact ⟨by first | rfl | (simp; done) | (simp [*]; done), by repeat (first | exact Drawn0.refl _ | apply Drawn0.step)⟩
    ·rw [if_neg c7] at H
     have c7b0 : decide (a0 < 0) = false := decide_eq_false c7
     clear c7
     obtain rfl := Option.some.inj H
     go_wp2
     go_ret
     exact ⟨by first | rfl | (simp; done) | (simp [*]; done), by repeat (first | exact Drawn0.refl _ | apply Drawn0.step)⟩

/-! ### grid_far: function 56 -/
def grid_far.f (k : Nat) (a0 : Int) (a1 : Int) : Option (Int) := (sat_Sub.f k (mx a0 a1) (mn a0 a1)).bind fun t128 => (some t128)
theorem grid_far.mono : ∀ a0 a1 k, LeO (grid_far.f k a0 a1) (grid_far.f (k + 1) a0 a1) := by
 intro a0 a1 k
 unfold grid_far.f
 repeat' first
   | (with_reducible exact sat_Sub.mono _ _ _)
   | (with_reducible exact LeO.refl _)
   | (with_reducible exact LeO.none _)
   | (with_reducible refine LeO.ite ?_ ?_)
   | (with_reducible refine LeO.bind ?_ (fun _ => ?_))
   | exact sat_Sub.mono _ _ _
   | exact LeO.none _
   | refine LeO.ite ?_ ?_
   | refine LeO.bind ?_ (fun _ => ?_)
set_option maxHeartbeats 8000000 in
set_option maxRecDepth 100000 in
theorem grid_far.calls (k : Nat) (a0 : Int) (a1 : Int) (r : Int) (w : World) (h : grid_far.f k a0 a1 = some r) :
  Calls Try.prog 56 #[.int .i64 a0, .int .i64 a1] w fun e w' => e = .returned (.int .i64 r) ∧ Below w.heap.size w w' := by
 have HB := Aside0.mk (Below.refl w.heap.size w)
 have H : ((sat_Sub.f k (mx a0 a1) (mn a0 a1)).bind fun t128 => (some t128)) = some r := h
 clear h
 obtain ⟨ji3, hji3⟩ : ∃ j_ : Int, (mx a0 a1) = j_ := ⟨_, rfl⟩
 replace H : ((sat_Sub.f k (ji3) (mn a0 a1)).bind fun t128 => (some t128)) = some r := by first | (rw [hji3] at H; exact H) | (simp only [hji3] at H ⊢; exact H)
 have hji3_ : (if a0 < a1 then a1 else a0) = ji3 := hji3
 obtain ⟨ji4, hji4⟩ : ∃ j_ : Int, (mn a0 a1) = j_ := ⟨_, rfl⟩
 replace H : ((sat_Sub.f k (ji3) (ji4)).bind fun t128 => (some t128)) = some r := by first | (rw [hji4] at H; exact H) | (simp only [hji4] at H ⊢; exact H)
 have hji4_ : (if a1 < a0 then a1 else a0) = ji4 := hji4
 replace H := Option.bind_eq_some_iff.mp H
 obtain ⟨t128, A50, H⟩ := H
 replace H : (some t128) = some r := H
 have A5 := Aside0.mk A50
 clear A50
 obtain rfl := Option.some.inj H
 go_enter Try.func56, Try.ntmps56
 go_wp2_with (first | ((with_reducible refine gate_callee (f := 50) rfl ?_); refine goesL_ (some 11) rfl rfl Try.func50 (by kernel_rfl) rfl #[.int .i64 ji3, .int .i64 ji4] rfl (by (try simp only [List.map_toArray, List.map_cons, List.map_nil]); first | done | (simp only [hji3, hji4]; rfl) | rfl | (simp only [List.length_drop, List.length_take]; rfl)) ?_; (with_reducible refine (sat_Sub.calls k ji3 ji4 t128 _ A5.out).mono ?_); rintro e w' ⟨rfl, ⟨nd, rfl⟩⟩; refine ⟨_, rfl, ?_⟩))
 go_ret
 exact ⟨by first | rfl | (simp [errW_none, errW_some] <;> rfl) | (simp only [← hji3, ← hji4]; first | rfl | (simp [errW_none, errW_some] <;> rfl)) | (simp [*, errW_none, errW_some] <;> rfl), by repeat (first | (with_reducible first | exact HB.out | apply below_alloc | apply pw_below_drewN | apply below_drew1) | exact HB.out)⟩

/-! ### grid_Square: function 52 -/
def grid_Square.f (k : Nat) (a0_0 : Int) (a0_1 : Int) (a1_0 : Int) (a1_1 : Int) : Option (Int) := (grid_far.f k a0_0 a1_0).bind fun t136 => ((grid_far.f k a0_1 a1_1).bind fun t137 => ((sat_Mul.f t136 t136).bind fun t138 => ((sat_Mul.f t137 t137).bind fun t139 => ((sat_Add.f k t138 t139).bind fun t140 => (some t140)))))
theorem grid_Square.mono : ∀ a0 a1 a2 a3 k, LeO (grid_Square.f k a0 a1 a2 a3) (grid_Square.f (k + 1) a0 a1 a2 a3) := by
 intro a0 a1 a2 a3 k
 unfold grid_Square.f
 repeat' first
   | (with_reducible exact grid_far.mono _ _ _)
   | (with_reducible exact sat_Add.mono _ _ _)
   | (with_reducible exact LeO.refl _)
   | (with_reducible exact LeO.none _)
   | (with_reducible refine LeO.ite ?_ ?_)
   | (with_reducible refine everyOf_le (fun _ => ?_))
   | (with_reducible refine LeO.bind ?_ (fun _ => ?_))
   | exact grid_far.mono _ _ _
   | exact sat_Add.mono _ _ _
   | exact LeO.none _
   | refine LeO.ite ?_ ?_
   | refine LeO.bind ?_ (fun _ => ?_)
def grid_Square.T1 : Bool × List (List Nat × List Nat) := (true, [([], []), ([0], [0]), ([], []), ([2], [2]), ([1, 3], [1, 3]), ([], []), ([5], [5]), ([], []), ([7], [7]), ([6, 8, 4], [6, 8]), ([4, 9, 0, 1, 2, 3, 4], [4]), ([9, 10, 0, 1, 2, 3, 4, 5, 6, 7, 8, 9, 10], [9])])
def grid_Square.B1 : List Nat := [0, 1, 0, 4, 15, 0, 32, 0, 128, 511, 1023, 2047]
theorem grid_Square.tab1 : rtab .any (opsOf Try.f52 1) = grid_Square.T1 := by kernel_rfl
theorem grid_Square.bits1 : waitsOk grid_Square.T1.2 grid_Square.B1 = true := by kernel_rfl
def grid_Square.Post (r : Int) (S : Nat → Prop) (L : List Asr) (w : World) (e : Ending) (w' : World) : Prop := e = .returned (.int .i64 r) ∧ SL (L) w' S ∧ Keep S w w'
set_option maxHeartbeats 8000000 in
set_option maxRecDepth 100000 in
theorem grid_Square.slcalls (k : Nat) (a0_0 : Int) (a0_1 : Int) (a1_0 : Int) (a1_1 : Int) (r : Int) (S : Nat → Prop) (L : List Asr) (w : World) (hf : Fresh S w) (hs : SL (L) w S) (h : grid_Square.f k a0_0 a0_1 a1_0 a1_1 = some r) :
  Calls Try.prog 52 #[.agg #[.int .i64 a0_0, .int .i64 a0_1], .agg #[.int .i64 a1_0, .int .i64 a1_1]] w (grid_Square.Post r S L w) := by
 have HF := Aside0.mk hf
 have HS := Aside0.mk hs
 have HK := Aside0.mk (Keep.refl S w)
 clear hf hs
 have hu31 := Try.underlying31
 have H : ((grid_far.f k a0_0 a1_0).bind fun t136 => ((grid_far.f k a0_1 a1_1).bind fun t137 => ((sat_Mul.f t136 t136).bind fun t138 => ((sat_Mul.f t137 t137).bind fun t139 => ((sat_Add.f k t138 t139).bind fun t140 => (some t140)))))) = some r := h
 clear h
 replace H := Option.bind_eq_some_iff.1 H
 obtain ⟨t136, Hc10, H⟩ := H
 try dsimp only at H
 have Hc1 := Aside0.mk Hc10
 clear Hc10
 replace H := Option.bind_eq_some_iff.1 H
 obtain ⟨t137, Hc20, H⟩ := H
 try dsimp only at H
 have Hc2 := Aside0.mk Hc20
 clear Hc20
 replace H := Option.bind_eq_some_iff.1 H
 obtain ⟨t138, Hc30, H⟩ := H
 try dsimp only at H
 have Hc3 := Aside0.mk Hc30
 clear Hc30
 replace H := Option.bind_eq_some_iff.1 H
 obtain ⟨t139, Hc40, H⟩ := H
 try dsimp only at H
 have Hc4 := Aside0.mk Hc40
 clear Hc40
 replace H := Option.bind_eq_some_iff.1 H
 obtain ⟨t140, Hc50, H⟩ := H
 try dsimp only at H
 have Hc5 := Aside0.mk Hc50
 clear Hc50
 obtain rfl := Option.some.inj H
 go_enter Try.func52, Try.ntmps52
 try go_wp2_with (first | ((with_reducible refine gate_dst (N := 2) rfl ?_); refine wpList_plain rfl (fun K_ hK_ => ?_); refine op_box (S := S) (cs := #[.int .i64 a0_0, .int .i64 a0_1]) (t := 31) (HF.out.keep HK.out) HS.out (by first | (go_simp; done) | (go_simp; rfl)) ?_; intro g3000001 w6 hs_ hk_; refine hK_ _ _ ?_; clear hK_ K_; replace HS := Aside0.mk (hs_); replace HK := Aside0.mk (HK.out.trans hk_)) | ((with_reducible refine gate_dst (N := 3) rfl ?_); refine wpList_plain rfl (fun K_ hK_ => ?_); refine op_box (S := S) (cs := #[.int .i64 a1_0, .int .i64 a1_1]) (t := 31) (HF.out.keep HK.out) HS.out (by first | (go_simp; done) | (go_simp; rfl)) ?_; intro g3000002 w7 hs_ hk_; refine hK_ _ _ ?_; clear hK_ K_; replace HS := Aside0.mk (hs_); replace HK := Aside0.mk (HK.out.trans hk_)))
 refine start_ (n := 12) (S := fun w' => w'.cell? ⟨g3000001, 0, none⟩ = some (.int .i64 a0_0) ∧ w'.cell? ⟨g3000002, 0, none⟩ = some (.int .i64 a1_0) ∧ w'.cell? ⟨g3000001, 1, none⟩ = some (.int .i64 a0_1) ∧ w'.cell? ⟨g3000002, 1, none⟩ = some (.int .i64 a1_1)) (ds := []) #[O,O,O,O,O,O,O,O,O,O,O,O] (by kernel_rfl) rfl rfl ⟨bc (SL.get1 HS.out) 0 rfl, bc HS.out 0 rfl, bc (SL.get1 HS.out) 1 rfl, bc HS.out 1 rfl⟩ (fun hHeld => ?_); refine with_tabW grid_Square.tab1 grid_Square.bits1 (fun HT_ HW_ => ?_)
 replace HK := Aside0.mk (Keep.drew HK.out)
 replace HS := Aside0.mk (SL.drew HS.out)
 refine pure_ (i := 0) (N := some 7) (v := ?_) (a' := ?_) #[I,O,O,O,O,O,O,O,O,O,O,O] rfl rfl (any_of HT_.out (by kernel_rfl)) (fun _ _ _ h => h) (Or.inl ⟨by rfl, ?_⟩) ?_ ?_; rotate_left; · (intro w'; go_simp; with_reducible rfl)
 rotate_left; · (simp only [Act.put, sT, sZ, sS, i64_w, i32_w]; rfl)
 refine pure_ (i := 2) (N := some 9) (v := ?_) (a' := ?_) #[I,O,I,O,O,O,O,O,O,O,O,O] rfl rfl (any_of HT_.out (by kernel_rfl)) (fun _ _ _ h => h) (Or.inl ⟨by rfl, ?_⟩) ?_ ?_; rotate_left; · (intro w'; go_simp; with_reducible rfl)
 rotate_left; · (simp only [Act.put, sT, sZ, sS, i64_w, i32_w]; rfl)
 refine pure_ (i := 5) (N := some 12) (v := ?_) (a' := ?_) #[I,O,I,O,O,I,O,O,O,O,O,O] rfl rfl (any_of HT_.out (by kernel_rfl)) (fun _ _ _ h => h) (Or.inl ⟨by rfl, ?_⟩) ?_ ?_; rotate_left; · (intro w'; go_simp; with_reducible rfl)
 rotate_left; · (simp only [Act.put, sT, sZ, sS, i64_w, i32_w]; rfl)
 refine pure_ (i := 7) (N := some 14) (v := ?_) (a' := ?_) #[I,O,I,O,O,I,O,I,O,O,O,O] rfl rfl (any_of HT_.out (by kernel_rfl)) (fun _ _ _ h => h) (Or.inl ⟨by rfl, ?_⟩) ?_ ?_; rotate_left; · (intro w'; go_simp; with_reducible rfl)
 rotate_left; · (simp only [Act.put, sT, sZ, sS, i64_w, i32_w]; rfl)
 refine take_ (i := 1) (N := some 8) (v := ?_) (a' := ?_) #[I,I,I,O,O,I,O,I,O,O,O,O] rfl rfl (take_ofW HT_.out HW_.out (by kernel_rfl)) (fun _ _ _ h => h) (Or.inl ⟨by rfl, ?_⟩) hHeld ?_ ?_; rotate_left
 ·rintro w' ⟨s0, s1, s2, s3⟩
  go_simp
  with_reducible rfl
 rotate_left; · (simp only [Act.put, sT, sZ, sS, i64_w, i32_w]; rfl)
 refine take_ (i := 3) (N := some 10) (v := ?_) (a' := ?_) #[I,I,I,I,O,I,O,I,O,O,O,O] rfl rfl (take_ofW HT_.out HW_.out (by kernel_rfl)) (fun _ _ _ h => h) (Or.inl ⟨by rfl, ?_⟩) hHeld ?_ ?_; rotate_left
 ·rintro w' ⟨s0, s1, s2, s3⟩
  go_simp
  with_reducible rfl
 rotate_left; · (simp only [Act.put, sT, sZ, sS, i64_w, i32_w]; rfl)
 refine take_ (i := 6) (N := some 13) (v := ?_) (a' := ?_) #[I,I,I,I,O,I,I,I,O,O,O,O] rfl rfl (take_ofW HT_.out HW_.out (by kernel_rfl)) (fun _ _ _ h => h) (Or.inl ⟨by rfl, ?_⟩) hHeld ?_ ?_; rotate_left
 ·rintro w' ⟨s0, s1, s2, s3⟩
  go_simp
  with_reducible rfl
 rotate_left; · (simp only [Act.put, sT, sZ, sS, i64_w, i32_w]; rfl)
 refine take_ (i := 8) (N := some 15) (v := ?_) (a' := ?_) #[I,I,I,I,O,I,I,I,I,O,O,O] rfl rfl (take_ofW HT_.out HW_.out (by kernel_rfl)) (fun _ _ _ h => h) (Or.inl ⟨by rfl, ?_⟩) hHeld ?_ ?_; rotate_left
 ·rintro w' ⟨s0, s1, s2, s3⟩
  go_simp
  with_reducible rfl
 rotate_left; · (simp only [Act.put, sT, sZ, sS, i64_w, i32_w]; rfl)
 refine one_ (i := 4) (N := some 11) #[I,I,I,I,I,I,I,I,I,O,O,O] rfl rfl (one_of HT_.out (by kernel_rfl)) (by decide) (fun K hK => ?_)
 refine goes_ Try.func56 (by kernel_rfl) rfl #[.int .i64 a0_0, .int .i64 a1_0] (by rfl) rfl rfl (by (try simp only [List.map_toArray, List.map_cons, List.map_nil]); first | done | rfl | (simp; done)) ?_
 (with_reducible refine (grid_far.calls k _ _ _ _  Hc1.out).mono ?_)
 rintro e_ w8 ⟨rfl, hb_⟩
 refine ⟨_, rfl, ?_⟩
 replace HS := Aside0.mk (HS.out.below hb_)
 replace HK := Aside0.mk (HK.out.trans (Keep.below hb_))
 refine hK.out _ _ ⟨bc (SL.get1 HS.out) 0 rfl, bc HS.out 0 rfl, bc (SL.get1 HS.out) 1 rfl, bc HS.out 1 rfl⟩ (fun hHeld => ?_)
 clear hK K
 refine norm_ (a' := ?_) ?_ ?_; rotate_left
 ·show Act.put _ (some 11) _ = _
  simp only [Act.put, sT, sZ, sS, i64_w, i32_w]
  rfl
 refine one_ (i := 9) (N := some 16) #[I,I,I,I,I,I,I,I,I,I,O,O] rfl rfl (one_of HT_.out (by kernel_rfl)) (by decide) (fun K hK => ?_)
 refine goes_ Try.func56 (by kernel_rfl) rfl #[.int .i64 a0_1, .int .i64 a1_1] (by rfl) rfl rfl (by (try simp only [List.map_toArray, List.map_cons, List.map_nil]); first | done | rfl | (simp; done)) ?_
 (with_reducible refine (grid_far.calls k _ _ _ _  Hc2.out).mono ?_)
 rintro e_ w9 ⟨rfl, hb_⟩
 refine ⟨_, rfl, ?_⟩
 replace HS := Aside0.mk (HS.out.below hb_)
 replace HK := Aside0.mk (HK.out.trans (Keep.below hb_))
 refine hK.out _ _ ⟨bc (SL.get1 HS.out) 0 rfl, bc HS.out 0 rfl, bc (SL.get1 HS.out) 1 rfl, bc HS.out 1 rfl⟩ (fun hHeld => ?_)
 clear hK K
 refine norm_ (a' := ?_) ?_ ?_; rotate_left
 ·show Act.put _ (some 16) _ = _
  simp only [Act.put, sT, sZ, sS, i64_w, i32_w]
  rfl
 refine pure_ (i := 10) (N := some 5) (v := ?_) (a' := ?_) #[I,I,I,I,I,I,I,I,I,I,I,O] rfl rfl (any_of HT_.out (by kernel_rfl)) (fun _ _ _ h => h) (Or.inl ⟨by rfl, ?_⟩) ?_ ?_; rotate_left; · (intro w'; go_simp; with_reducible rfl)
 rotate_left; · (simp only [Act.put, sT, sZ, sS, i64_w, i32_w]; rfl)
 refine pure_ (i := 11) (N := some 6) (v := ?_) (a' := ?_) #[I,I,I,I,I,I,I,I,I,I,I,I] rfl rfl (any_of HT_.out (by kernel_rfl)) (fun _ _ _ h => h) (Or.inl ⟨by rfl, ?_⟩) ?_ ?_; rotate_left; · (intro w'; go_simp; with_reducible rfl)
 rotate_left; · (simp only [Act.put, sT, sZ, sS, i64_w, i32_w]; rfl)
 refine done_ (done_of HT_.out (by kernel_rfl)) ?_
 try go_wp2_with (first | ((with_reducible refine gate_dst (N := 19) rfl ?_); refine goesL_ (some 19) rfl rfl Try.func53 (by kernel_rfl) rfl #[.int .i64 t136, .int .i64 t136] rfl (by (try simp only [List.map_toArray, List.map_cons, List.map_nil]); first | done | rfl | (simp; done)) ?_; (with_reducible refine (sat_Mul.calls _ _ _ _  Hc3.out).mono ?_); rintro e_ w10 ⟨rfl, hb_⟩; refine ⟨_, rfl, ?_⟩; replace hb_ := Drawn0.below hb_; replace HS := Aside0.mk (HS.out.below hb_); replace HK := Aside0.mk (HK.out.trans (Keep.below hb_))) | ((with_reducible refine gate_dst (N := 22) rfl ?_); refine goesL_ (some 22) rfl rfl Try.func53 (by kernel_rfl) rfl #[.int .i64 t137, .int .i64 t137] rfl (by (try simp only [List.map_toArray, List.map_cons, List.map_nil]); first | done | rfl | (simp; done)) ?_; (with_reducible refine (sat_Mul.calls _ _ _ _  Hc4.out).mono ?_); rintro e_ w11 ⟨rfl, hb_⟩; refine ⟨_, rfl, ?_⟩; replace hb_ := Drawn0.below hb_; replace HS := Aside0.mk (HS.out.below hb_); replace HK := Aside0.mk (HK.out.trans (Keep.below hb_))) | ((with_reducible refine gate_dst (N := 23) rfl ?_); refine goesL_ (some 23) rfl rfl Try.func26 (by kernel_rfl) rfl #[.int .i64 t138, .int .i64 t139] rfl (by (try simp only [List.map_toArray, List.map_cons, List.map_nil]); first | done | rfl | (simp; done)) ?_; (with_reducible refine (sat_Add.calls k _ _ _ _  Hc5.out).mono ?_); rintro e_ w12 ⟨rfl, hb_⟩; refine ⟨_, rfl, ?_⟩; replace hb_ := Drawn0.below hb_; replace HS := Aside0.mk (HS.out.below hb_); replace HK := Aside0.mk (HK.out.trans (Keep.below hb_))))
 go_ret
 replace HS := Aside0.mk (SL.tail (SL.tail HS.out))
 unfold grid_Square.Post
 exact ⟨by first | rfl | (simp; done) | (simp [*]; done), HS.out, HK.out⟩
theorem grid_Square.calls (k : Nat) (a0_0 : Int) (a0_1 : Int) (a1_0 : Int) (a1_1 : Int) (r : Int) (w : World) (h : grid_Square.f k a0_0 a0_1 a1_0 a1_1 = some r) :
  Calls Try.prog 52 #[.agg #[.int .i64 a0_0, .int .i64 a0_1], .agg #[.int .i64 a1_0, .int .i64 a1_1]] w fun e w' => e = .returned (.int .i64 r) ∧ Below w.heap.size w w' :=
 (grid_Square.slcalls k a0_0 a0_1 a1_0 a1_1 r (news w) [] w (fresh_news w) trivial h).mono fun _ _ h => ⟨h.1, h.2.2.to_below⟩

/-! ### grid_Near: function 42 -/
def grid_Near.f (k : Nat) (a0_0 : Int) (a0_1 : Int) (a1_0 : Int) (a1_1 : Int) (a2 : Int) : Option (Bool) := if a2 ≥ 0 then ((grid_Square.f k a0_0 a0_1 a1_0 a1_1).bind fun t143 => ((sat_Mul.f a2 a2).bind fun t144 => (some (decide (t143 ≤ t144))))) else (some false)
theorem grid_Near.mono : ∀ a0 a1 a2 a3 a4 k, LeO (grid_Near.f k a0 a1 a2 a3 a4) (grid_Near.f (k + 1) a0 a1 a2 a3 a4) := by
 intro a0 a1 a2 a3 a4 k
 unfold grid_Near.f
 repeat' first
   | (with_reducible exact grid_Square.mono _ _ _ _ _)
   | (with_reducible exact LeO.refl _)
   | (with_reducible exact LeO.none _)
   | (with_reducible refine LeO.ite ?_ ?_)
   | (with_reducible refine LeO.bind ?_ (fun _ => ?_))
   | exact grid_Square.mono _ _ _ _ _
   | exact LeO.none _
   | refine LeO.ite ?_ ?_
   | refine LeO.bind ?_ (fun _ => ?_)
set_option maxHeartbeats 8000000 in
set_option maxRecDepth 100000 in
theorem grid_Near.calls (k : Nat) (a0_0 : Int) (a0_1 : Int) (a1_0 : Int) (a1_1 : Int) (a2 : Int) (r : Bool) (w : World) (h : grid_Near.f k a0_0 a0_1 a1_0 a1_1 a2 = some r) :
  Calls Try.prog 42 #[.agg #[.int .i64 a0_0, .int .i64 a0_1], .agg #[.int .i64 a1_0, .int .i64 a1_1], .int .i64 a2] w fun e w' => e = .returned (.bool r) ∧ Below w.heap.size w w' := by
 have hu31 := Try.underlying31
 have HB := Aside0.mk (Below.refl w.heap.size w)
 have H : (if a2 ≥ 0 then ((grid_Square.f k a0_0 a0_1 a1_0 a1_1).bind fun t143 => ((sat_Mul.f a2 a2).bind fun t144 => (some (decide (t143 ≤ t144))))) else (some false)) = some r := h
 clear h
 by_cases c4 : a2 ≥ 0
 ·rw [if_pos c4] at H
  have c4b0 : decide (0 ≤ a2) = true := decide_eq_true c4
  clear c4
  replace H := Option.bind_eq_some_iff.mp H
  obtain ⟨t143, A50, H⟩ := H
  replace H : ((sat_Mul.f a2 a2).bind fun t144 => (some (decide (t143 ≤ t144)))) = some r := H
  have A5 := Aside0.mk A50
  clear A50
  replace H := Option.bind_eq_some_iff.mp H
  obtain ⟨t144, A60, H⟩ := H
  replace H : (some (decide (t143 ≤ t144))) = some r := H
  have A6 := Aside0.mk A60
  clear A60
  obtain rfl := Option.some.inj H
  go_enter Try.func42, Try.ntmps42
  go_wp2_with (first | ((with_reducible refine gate_dst (N := 3) rfl ?_); refine box_event ?hg (N := 3) ?hd (cs := #[.int .i64 a0_0, .int .i64 a0_1]) (t := 31) ?hr ?_; (case hd => rfl); (case hg => rfl); (case hr => first | (go_simp; done) | (go_simp; rfl)); intro gb141 hg w7 hbox hb; have n0_ := Aside0.mk (below_step (by repeat (first | (with_reducible first | exact HB.out | apply below_alloc | apply pw_below_drewN | apply below_drew1) | exact HB.out)) hb); have n1_ := Aside0.mk (hbox); have n2_ := Aside0.mk ((by rw [hg]; exact (below_size (by repeat (first | (with_reducible first | exact HB.out | apply below_alloc | apply pw_below_drewN | apply below_drew1) | exact HB.out))) : w.heap.size ≤ gb141)); have n3_ := Aside0.mk ((by rw [hg]; exact (below_size (by repeat (first | (with_reducible first | exact HB.out | apply below_alloc | apply pw_below_drewN | apply below_drew1) | exact HB.out))) : w.heap.size ≤ gb141)); clear HB; have HB := n0_; have BK141 := n1_; have GW141 := n2_; have GE141 := n3_; clear n0_ n1_ n2_ n3_; clear hb hbox hg) | ((with_reducible refine gate_dst (N := 4) rfl ?_); refine box_event ?hg (N := 4) ?hd (cs := #[.int .i64 a1_0, .int .i64 a1_1]) (t := 31) ?hr ?_; (case hd => rfl); (case hg => rfl); (case hr => first | (go_simp; done) | (go_simp; rfl)); intro gb142 hg w8 hbox hb; have n0_ := Aside0.mk (blk_below (g := gb141) (o := .cells #[.int .i64 a0_0, .int .i64 a0_1] 31 (0, 0)) (by (with_reducible repeat (first | refine blk_drewN ?_ _ | refine blk_drew ?_ | refine blk_alloc ?_ _)); exact BK141.out) hb); have n1_ := Aside0.mk (below_step (by repeat (first | (with_reducible first | exact HB.out | apply below_alloc | apply pw_below_drewN | apply below_drew1 | refine below_set ?_ GE141.out) | exact HB.out)) hb); have n2_ := Aside0.mk (hbox); have n3_ := Aside0.mk ((by rw [hg]; exact (below_size (by repeat (first | (with_reducible first | exact HB.out | apply below_alloc | apply pw_below_drewN | apply below_drew1 | refine below_set ?_ GE141.out) | exact HB.out))) : w.heap.size ≤ gb142)); have n4_ := Aside0.mk ((by rw [hg]; exact (below_size (by repeat (first | (with_reducible first | exact HB.out | apply below_alloc | apply pw_below_drewN | apply below_drew1 | refine below_set ?_ GE141.out) | exact HB.out))) : w.heap.size ≤ gb142)); have n5_ := Aside0.mk ((by rw [hg]; exact Nat.ne_of_lt (blk_lt (g := gb141) (o := .cells #[.int .i64 a0_0, .int .i64 a0_1] 31 (0, 0)) (by (with_reducible repeat (first | refine blk_drewN ?_ _ | refine blk_drew ?_ | refine blk_alloc ?_ _)); exact BK141.out)) : gb141 ≠ gb142)); have n6_ := Aside0.mk ((by rw [hg]; exact Nat.ne_of_gt (blk_lt (g := gb141) (o := .cells #[.int .i64 a0_0, .int .i64 a0_1] 31 (0, 0)) (by (with_reducible repeat (first | refine blk_drewN ?_ _ | refine blk_drew ?_ | refine blk_alloc ?_ _)); exact BK141.out)) : gb142 ≠ gb141)); clear BK141; clear HB; have BK141 := n0_; have HB := n1_; have BK142 := n2_; have GW142 := n3_; have GE142 := n4_; have NB141_142 := n5_; have NB142_141 := n6_; clear n0_ n1_ n2_ n3_ n4_ n5_ n6_; clear hb hbox hg; have hnb9 := NB141_142.out; have hnc9 := NB142_141.out; have hcz10_0 : w8.cell? ⟨gb141, 0, none⟩ = some (.int .i64 a0_0) := (blk_cell BK141.out 0).trans rfl; have hcz10_1 : w8.cell? ⟨gb141, 1, none⟩ = some (.int .i64 a0_1) := (blk_cell BK141.out 1).trans rfl; have hfz10_0 := blk_frozen BK141.out 0; have hfz10_1 := blk_frozen BK141.out 1; have hcz11_0 : w8.cell? ⟨gb142, 0, none⟩ = some (.int .i64 a1_0) := (blk_cell BK142.out 0).trans rfl; have hcz11_1 : w8.cell? ⟨gb142, 1, none⟩ = some (.int .i64 a1_1) := (blk_cell BK142.out 1).trans rfl; have hfz11_0 := blk_frozen BK142.out 0; have hfz11_1 := blk_frozen BK142.out 1) | (go_at_call 52; (with_reducible refine (grid_Square.calls k a0_0 a0_1 a1_0 a1_1 t143 _ A5.out).mono ?_); rintro e w12 ⟨rfl, hb⟩; have n0_ := Aside0.mk (blk_below (g := gb141) (o := .cells #[.int .i64 a0_0, .int .i64 a0_1] 31 (0, 0)) (by (with_reducible repeat (first | refine blk_drewN ?_ _ | refine blk_drew ?_ | refine blk_alloc ?_ _)); exact BK141.out) hb); have n1_ := Aside0.mk (blk_below (g := gb142) (o := .cells #[.int .i64 a1_0, .int .i64 a1_1] 31 (0, 0)) (by (with_reducible repeat (first | refine blk_drewN ?_ _ | refine blk_drew ?_ | refine blk_alloc ?_ _)); exact BK142.out) hb); have n2_ := Aside0.mk (below_step (by repeat (first | (with_reducible first | exact HB.out | apply below_alloc | apply pw_below_drewN | apply below_drew1 | refine below_set ?_ GE141.out | refine below_set ?_ GE142.out) | exact HB.out)) hb); clear BK141; clear BK142; clear HB; have BK141 := n0_; have BK142 := n1_; have HB := n2_; clear n0_ n1_ n2_; (try clear hb); (try clear hb2); (try clear hk); (try clear hi)) | (go_at_call 53; (with_reducible refine calls_of_args (args' := #[.int .i64 a2, .int .i64 a2]) rfl ?_); (with_reducible refine (sat_Mul.calls a2 a2 t144 _ A6.out).mono ?_); rintro e w' ⟨rfl, ⟨nd, rfl⟩⟩))
  go_ret
  exact ⟨by first | rfl | (simp [errW_none, errW_some] <;> rfl) | (simp [*, errW_none, errW_some] <;> rfl), by repeat (first | (with_reducible first | exact HB.out | apply below_alloc | apply pw_below_drewN | apply below_drew1 | refine below_set ?_ GE141.out | refine below_set ?_ GE142.out) | exact HB.out)⟩
 ·rw [if_neg c4] at H
  have c4b0 : decide (0 ≤ a2) = false := decide_eq_false c4
  clear c4
  obtain rfl := Option.some.inj H
  go_enter Try.func42, Try.ntmps42
  go_wp2_with (first | ((with_reducible refine gate_dst (N := 3) rfl ?_); refine box_event ?hg (N := 3) ?hd (cs := #[.int .i64 a0_0, .int .i64 a0_1]) (t := 31) ?hr ?_; (case hd => rfl); (case hg => rfl); (case hr => first | (go_simp; done) | (go_simp; rfl)); intro gb141 hg w13 hbox hb; have n0_ := Aside0.mk (below_step (by repeat (first | (with_reducible first | exact HB.out | apply below_alloc | apply pw_below_drewN | apply below_drew1) | exact HB.out)) hb); have n1_ := Aside0.mk (hbox); have n2_ := Aside0.mk ((by rw [hg]; exact (below_size (by repeat (first | (with_reducible first | exact HB.out | apply below_alloc | apply pw_below_drewN | apply below_drew1) | exact HB.out))) : w.heap.size ≤ gb141)); have n3_ := Aside0.mk ((by rw [hg]; exact (below_size (by repeat (first | (with_reducible first | exact HB.out | apply below_alloc | apply pw_below_drewN | apply below_drew1) | exact HB.out))) : w.heap.size ≤ gb141)); clear HB; have HB := n0_; have BK141 := n1_; have GW141 := n2_; have GE141 := n3_; clear n0_ n1_ n2_ n3_; clear hb hbox hg) | ((with_reducible refine gate_dst (N := 4) rfl ?_); refine box_event ?hg (N := 4) ?hd (cs := #[.int .i64 a1_0, .int .i64 a1_1]) (t := 31) ?hr ?_; (case hd => rfl); (case hg => rfl); (case hr => first | (go_simp; done) | (go_simp; rfl)); intro gb142 hg w14 hbox hb; have n0_ := Aside0.mk (blk_below (g := gb141) (o := .cells #[.int .i64 a0_0, .int .i64 a0_1] 31 (0, 0)) (by (with_reducible repeat (first | refine blk_drewN ?_ _ | refine blk_drew ?_ | refine blk_alloc ?_ _)); exact BK141.out) hb); have n1_ := Aside0.mk (below_step (by repeat (first | (with_reducible first | exact HB.out | apply below_alloc | apply pw_below_drewN | apply below_drew1 | refine below_set ?_ GE141.out) | exact HB.out)) hb); have n2_ := Aside0.mk (hbox); have n3_ := Aside0.mk ((by rw [hg]; exact (below_size (by repeat (first | (with_reducible first | exact HB.out | apply below_alloc | apply pw_below_drewN | apply below_drew1 | refine below_set ?_ GE141.out) | exact HB.out))) : w.heap.size ≤ gb142)); have n4_ := Aside0.mk ((by rw [hg]; exact (below_size (by repeat (first | (with_reducible first | exact HB.out | apply below_alloc | apply pw_below_drewN | apply below_drew1 | refine below_set ?_ GE141.out) | exact HB.out))) : w.heap.size ≤ gb142)); have n5_ := Aside0.mk ((by rw [hg]; exact Nat.ne_of_lt (blk_lt (g := gb141) (o := .cells #[.int .i64 a0_0, .int .i64 a0_1] 31 (0, 0)) (by (with_reducible repeat (first | refine blk_drewN ?_ _ | refine blk_drew ?_ | refine blk_alloc ?_ _)); exact BK141.out)) : gb141 ≠ gb142)); have n6_ := Aside0.mk ((by rw [hg]; exact Nat.ne_of_gt (blk_lt (g := gb141) (o := .cells #[.int .i64 a0_0, .int .i64 a0_1] 31 (0, 0)) (by (with_reducible repeat (first | refine blk_drewN ?_ _ | refine blk_drew ?_ | refine blk_alloc ?_ _)); exact BK141.out)) : gb142 ≠ gb141)); clear BK141; clear HB; have BK141 := n0_; have HB := n1_; have BK142 := n2_; have GW142 := n3_; have GE142 := n4_; have NB141_142 := n5_; have NB142_141 := n6_; clear n0_ n1_ n2_ n3_ n4_ n5_ n6_; clear hb hbox hg))
  go_ret
  exact ⟨by first | rfl | (simp [errW_none, errW_some] <;> rfl) | (simp [*, errW_none, errW_some] <;> rfl), by repeat (first | (with_reducible first | exact HB.out | apply below_alloc | apply pw_below_drewN | apply below_drew1 | refine below_set ?_ GE141.out | refine below_set ?_ GE142.out) | exact HB.out)⟩

end Go.Proofs.Ytiadhonhjnbliaa.XZT
