-- Written by xprint.py (a program of this session) for this claim
import Derived.Test.YtgcbmhihiacgnaaSL5
import Derived.Test.YtgcbmhihiacgnaaXINx0
namespace Go.Proofs.Ytgcbmhihiacgnaa.XIN
open Go.Proofs.YtgcbmhihiacgnaaV Go.Proofs.YtgcbmhihiacgnaaS
open Go.RowKit Go.Proofs.YtgcbmhihiacgnaaW.PrintWords Go.Proofs.YtgcbmhihiacgnaaW.PrintLast Go.Proofs.YtgcbmhihiacgnaaW.PrintMore
attribute [local go_sem] max2_int min2_int max_two min_two max_three min_three max_four min_four   -- for this text's walks alone
set_option linter.unusedVariables false
set_option linter.unusedSimpArgs false

/-! ### interest_places: function 19 -/
def interest_places.l0 : Nat → (List (S50)) → Int → (List (Int × S41)) → Option ((List (Int × S41)))
  | 0, _, _, _ => none
  | k + 1, l0, x11_0, y3000000_0 => if x11_0 < (l0.length : Int) then (if 0 ≤ x11_0 then ((some (mgetD z41 y3000000_0 ((rd_T50 l0 x11_0).f0) : S41)).bind fun y108 => ((some (mhas y3000000_0 ((rd_T50 l0 x11_0).f0) : Bool)).bind fun t109 => (if t109 = true then (interest_places.l0 k l0 (wrap64 (x11_0 + 1)) y3000000_0) else ((some (mput y3000000_0 ((rd_T50 l0 x11_0).f0) (⟨(rd_T50 l0 x11_0).f1.f0, (rd_T50 l0 x11_0).f1.f1⟩ : S41) : List (Int × S41))).bind fun y110 => (interest_places.l0 k l0 (wrap64 (x11_0 + 1)) y110))))) else (none)) else (some y3000000_0)
def interest_places.f (k : Nat) (l0 : List (S50)) : Option ((List (Int × S41))) := interest_places.l0 k l0 0 ([] : List (Int × S41))
theorem interest_places.mono_l : ∀ k, (∀ y0 y1 y2, LeO (interest_places.l0 k y0 y1 y2) (interest_places.l0 (k + 1) y0 y1 y2))
  | 0 => fun _ _ _ r h => by simp [interest_places.l0] at h
  | k + 1 => by
    have ih0 := interest_places.mono_l k
    · intro y0 y1 y2
      unfold interest_places.l0
      repeat' first
      | (with_reducible exact ih0 _ _ _)
      | (with_reducible exact LeO.refl _)
      | (with_reducible exact LeO.none _)
      | (with_reducible refine LeO.ite ?_ ?_)
      | (with_reducible refine everyOf_le (fun _ => ?_))
      | (with_reducible refine LeO.bind ?_ (fun _ => ?_))
      | exact ih0 _ _ _
      | exact LeO.none _
      | refine LeO.ite ?_ ?_
      | refine LeO.bind ?_ (fun _ => ?_)
theorem interest_places.mono : ∀ a0 k, LeO (interest_places.f k a0) (interest_places.f (k + 1) a0) := by
  intro a0 k
  have ih0 := interest_places.mono_l k
  unfold interest_places.f
  repeat' first
      | (with_reducible exact ih0 _ _ _)
      | (with_reducible exact LeO.refl _)
      | (with_reducible exact LeO.none _)
      | (with_reducible refine LeO.ite ?_ ?_)
      | (with_reducible refine everyOf_le (fun _ => ?_))
      | (with_reducible refine LeO.bind ?_ (fun _ => ?_))
      | exact ih0 _ _ _
      | exact LeO.none _
      | refine LeO.ite ?_ ?_
      | refine LeO.bind ?_ (fun _ => ?_)
def interest_places.Post (r : List (Int × S41)) (S : Nat → Prop) (L : List Asr) (w : World) (e : Ending) (w' : World) : Prop := ∃ (gr0 : Nat) (bsr1 : List Nat) (ckr1 : Nat), e = .returned (.map (some gr0)) ∧ SL (mapo gr0 (Value.int .i64) (fun x_ : S41 => Value.agg #[.int .i64 x_.f0, .int .i64 x_.f1]) r bsr1 ckr1 :: L) w' S ∧ Keep S w w'
set_option maxHeartbeats 8000000 in
set_option maxRecDepth 100000 in
theorem interest_places.slcalls (k : Nat) (A0 : Option Addr) (c0 : Nat) (l0 : List (S50)) (r : List (Int × S41)) (S : Nat → Prop) (L : List Asr) (w : World) (hf : Fresh S w) (hs : SL (L) w S) (hr0 : RO S w (fun w_ => Kd.C k50 w_ A0 l0.length l0)) (hc0 : l0.length ≤ c0) (h : interest_places.f k l0 = some r) :
    Calls Try.prog 19 #[.slice A0 l0.length c0] w (interest_places.Post r S L w) := by
  have HR0 := Aside0.mk hr0
  have HC0 := Aside0.mk hc0
  clear hr0 hc0
  have HF := Aside0.mk hf
  have HS := Aside0.mk hs
  have HK := Aside0.mk (Keep.refl S w)
  clear hf hs
  have hu41 := Try.underlying41
  have hu50 := Try.underlying50
  have H : (interest_places.l0 k l0 0 ([] : List (Int × S41))) = some r := h
  clear h
  have H' := Aside0.mk H
  clear H
  go_enter Try.func19, Try.ntmps19
  go_wp2_with (first | ((with_reducible refine gate_dst (N := 8) rfl ?_); refine wpList_plain rfl (fun K_ hK_ => ?_); refine op_makeMap (S := S) (w := _) (Value.int .i64) (fun x_ : S41 => Value.agg #[.int .i64 x_.f0, .int .i64 x_.f1]) 38 rfl (HF.out.keep HK.out) HS.out ?_; intro g3000000 w1 hs_ hk_; refine hK_ _ _ ?_; clear hK_ K_; replace HS := Aside0.mk ((show SL (mapo g3000000 (Value.int .i64) (fun x_ : S41 => Value.agg #[.int .i64 x_.f0, .int .i64 x_.f1]) ([] : List (Int × S41)) [] 0 :: _) _ _ from hs_)); replace HK := Aside0.mk (HK.out.trans hk_)))
  go_loopg [11] k (fun kq v11 w' => ∃ (y3000000_0 : List (Int × S41)) (bs3000000_0 : List Nat) (ck3000000_0 : Nat) (x11_0 : Int), v11 = .int .i64 x11_0 ∧ Aside0 (interest_places.l0 kq l0 x11_0 y3000000_0 = some r) ∧ Aside0 (kq ≤ k) ∧ Aside0 (SL (mapo g3000000 (Value.int .i64) (fun x_ : S41 => Value.agg #[.int .i64 x_.f0, .int .i64 x_.f1]) y3000000_0 bs3000000_0 ck3000000_0 :: L) w' S) ∧ Aside0 (Keep S w w'))
  case atStart => exact ⟨(([] : List (Int × S41))), ([]), (0), (0), (by first | rfl | (simp; done) | (simp [*]; done)), H', ⟨Nat.le_refl _⟩, HS, HK⟩
  case round =>
    clear H' HS HK
    obtain ⟨y3000000_0, bs3000000_0, ck3000000_0, x11_0, rfl, HA, HQ1, HS, HK⟩ := hrel
    cases gk with
    | zero => exact absurd HA.out (by simp [interest_places.l0])
    | succ k1 =>
      have H := HA.out
      clear HA
      simp only [interest_places.l0] at H
      by_cases c2 : x11_0 < (l0.length : Int)
      · rw [if_pos c2] at H
        have c2b0 : decide (x11_0 < (l0.length : Int)) = true := decide_eq_true c2
        clear c2
        by_cases c3 : 0 ≤ x11_0
        · rw [if_pos c3] at H
          have c3b0 : decide (0 ≤ x11_0) = true := decide_eq_true c3
          clear c3
          replace H := Option.bind_eq_some_iff.1 H
          obtain ⟨y108, hy1080, H⟩ := H
          try dsimp only at H
          have hy108 := Option.some.inj hy1080
          clear hy1080
          have Ny108 := Aside0.mk hy108
          clear hy108
          replace H := Option.bind_eq_some_iff.1 H
          obtain ⟨t109, ht1090, H⟩ := H
          try dsimp only at H
          have ht109 := Option.some.inj ht1090
          clear ht1090
          have Nt109 := Aside0.mk ht109
          clear ht109
          have H' := Aside0.mk H
          clear H
          have pq107 : 0 ≤ (x11_0 : Int) := of_decide_eq_true (by first | (with_reducible assumption) | assumption)
          have qq107 : x11_0 < ((l0.length : Int) : Int) := of_decide_eq_true (by first | (with_reducible assumption) | assumption)
          obtain ⟨adq107, eq107, hxq107_0, hxq107_1, hxq107_2⟩ := at_T50 (RO.at_ HR0.out HK.out) x11_0 pq107 qq107
          cases eq107
          replace pq107 := eq_true pq107
          replace qq107 := eq_true qq107
          go_wp2_with (first | ((with_reducible refine gate_dst (N := 5) rfl ?_); refine wpList_plain rfl (fun K_ hK_ => ?_); refine op_box (S := S) (cs := #[.int .i64 0, .int .i64 0, .int .i64 0]) (t := 50) (HF.out.keep HK.out) HS.out (by first | (go_simp; done) | (go_simp; rfl)) ?_; intro g3000001 w4 hs_ hk_; refine hK_ _ _ ?_; clear hK_ K_; replace HS := Aside0.mk (hs_); replace HK := Aside0.mk (HK.out.trans hk_)) | ((with_reducible refine gate_store (t := 50) (p := 5) (v := (.tmp 14)) rfl ?_); refine wpList_plain rfl (fun K_ hK_ => ?_); refine op_store (S := S) 50 (.tmp 5) (.tmp 14) rfl g3000001 0 (.agg #[.int .i64 ((rd_T50 l0 x11_0).f0), .int .i64 ((rd_T50 l0 x11_0).f1.f0), .int .i64 ((rd_T50 l0 x11_0).f1.f1)]) [.int .i64 ((rd_T50 l0 x11_0).f0), .int .i64 ((rd_T50 l0 x11_0).f1.f0), .int .i64 ((rd_T50 l0 x11_0).f1.f1)] rfl rfl rfl (by kernel_rfl) (by simp [Value.oneCell']) HS.out (by simp) ?_; intro w5 hs_ hk_; refine hK_ _ _ ?_; clear hK_ K_; replace HS := Aside0.mk ((show SL (cells g3000001 50 [.int .i64 ((rd_T50 l0 x11_0).f0), .int .i64 ((rd_T50 l0 x11_0).f1.f0), .int .i64 ((rd_T50 l0 x11_0).f1.f1)].toArray :: _) _ _ from hs_)); replace HK := Aside0.mk (HK.out.trans hk_); have hb_ := SL.at_ HS.out; have hz3000001_0_2 := ((blk_cell hb_ 0).trans rfl : _ = some (.int .i64 ((rd_T50 l0 x11_0).f0))); have hz3000001_1_2 := ((blk_cell hb_ 1).trans rfl : _ = some (.int .i64 ((rd_T50 l0 x11_0).f1.f0))); have hz3000001_2_2 := ((blk_cell hb_ 2).trans rfl : _ = some (.int .i64 ((rd_T50 l0 x11_0).f1.f1))); clear hb_) | ((with_reducible refine gate_dst (N := 19) rfl ?_); refine wpList_plain rfl (fun K_ hK_ => ?_); refine op_lookup (keyL_int (β := S41) (P := Try.prog) Try.underlying3) z41 (.tmp 16) (.tmp 18) rfl Try.underlying38 (by kernel_rfl) g3000000 rfl ((rd_T50 l0 x11_0).f0) (by rfl) (SL.get1 HS.out) y108 Ny108.out t109 Nt109.out (.agg #[.int .i64 y108.f0, .int .i64 y108.f1]) rfl ?_; refine hK_ _ _ ?_; clear hK_ K_) | ((with_reducible refine gate_dst (N := 6) rfl ?_); refine wpList_plain rfl (fun K_ hK_ => ?_); refine op_box (S := S) (cs := #[.int .i64 0, .int .i64 0]) (t := 41) (HF.out.keep HK.out) HS.out (by first | (go_simp; done) | (go_simp; rfl)) ?_; intro g3000002 w7 hs_ hk_; refine hK_ _ _ ?_; clear hK_ K_; replace HS := Aside0.mk (hs_); replace HK := Aside0.mk (HK.out.trans hk_); (try clear hz3000001_0_2 hz3000001_1_2 hz3000001_2_2)) | ((with_reducible refine gate_store (t := 41) (p := 6) (v := (.tmp 20)) rfl ?_); refine wpList_plain rfl (fun K_ hK_ => ?_); refine op_store (S := S) 41 (.tmp 6) (.tmp 20) rfl g3000002 0 (.agg #[.int .i64 y108.f0, .int .i64 y108.f1]) [.int .i64 y108.f0, .int .i64 y108.f1] rfl rfl rfl (by kernel_rfl) (by simp [Value.oneCell']) HS.out (by simp) ?_; intro w8 hs_ hk_; refine hK_ _ _ ?_; clear hK_ K_; replace HS := Aside0.mk ((show SL (cells g3000002 41 [.int .i64 y108.f0, .int .i64 y108.f1].toArray :: _) _ _ from hs_)); replace HK := Aside0.mk (HK.out.trans hk_); refine stop_ ?_; intro G_ hG_))
          have H := H'.out
          clear H'
          by_cases c9 : t109 = true
          · subst c9
            rw [if_pos rfl] at H
            have H' := Aside0.mk H
            clear H
            refine hG_.out ?_
            go_wp2
            replace HS := Aside0.mk (SL.tail (SL.tail HS.out))
            go_roundg k1
            case measure => have := HQ1.out; omega
            case rel => exact ⟨(y3000000_0), (bs3000000_0), (ck3000000_0), (wrap64 (x11_0 + 1)), (by first | rfl | (simp; done) | (simp [*]; done)), H', ⟨by have := HQ1.out; omega⟩, HS, HK⟩
          · replace c9 := Bool.eq_false_iff.mpr c9
            subst c9
            rw [if_neg (show ¬ (false = true) by decide)] at H
            replace H := Option.bind_eq_some_iff.1 H
            obtain ⟨y110, hy1100, H⟩ := H
            try dsimp only at H
            have hy110 := Option.some.inj hy1100
            clear hy1100
            have Ny110 := Aside0.mk hy110
            clear hy110
            have H' := Aside0.mk H
            clear H
            have hb_ := SL.at_ (SL.get1 HS.out)
            have hz3000001_0_0 := ((blk_cell hb_ 0).trans rfl : _ = some (.int .i64 ((rd_T50 l0 x11_0).f0)))
            have hz3000001_1_0 := ((blk_cell hb_ 1).trans rfl : _ = some (.int .i64 ((rd_T50 l0 x11_0).f1.f0)))
            have hz3000001_2_0 := ((blk_cell hb_ 2).trans rfl : _ = some (.int .i64 ((rd_T50 l0 x11_0).f1.f1)))
            clear hb_
            refine hG_.out ?_
            go_wp2_with (first | ((with_reducible refine gate_mapUpdate (T := 38) (m := (.tmp 24)) (k := (.tmp 26)) (v := (.tmp 28)) rfl ?_); refine wpList_plain rfl (fun K_ hK_ => ?_); refine op_mapUpdate (S := S) (keyL_int (β := S41) (P := Try.prog) Try.underlying3) (.tmp 24) (.tmp 26) (.tmp 28) rfl Try.underlying38 g3000000 rfl ((rd_T50 l0 x11_0).f0) (by rfl) (⟨(rd_T50 l0 x11_0).f1.f0, (rd_T50 l0 x11_0).f1.f1⟩ : S41) (by rfl) (HF.out.keep HK.out) (SL.get2 HS.out) y110 Ny110.out ?_; intro bs111 ck112 w10 hs_ hk_; refine hK_ _ _ ?_; clear hK_ K_; replace HS := Aside0.mk ((SL.back2 (show SL (mapo g3000000 (Value.int .i64) (fun x_ : S41 => Value.agg #[.int .i64 x_.f0, .int .i64 x_.f1]) y110 bs111 ck112 :: _) _ _ from hs_))); replace HK := Aside0.mk (HK.out.trans hk_); (try clear hz3000001_0_0 hz3000001_1_0 hz3000001_2_0)))
            replace HS := Aside0.mk (SL.tail (SL.tail HS.out))
            go_roundg k1
            case measure => have := HQ1.out; omega
            case rel => exact ⟨(y110), (bs111), (ck112), (wrap64 (x11_0 + 1)), (by first | rfl | (simp; done) | (simp [*]; done)), H', ⟨by have := HQ1.out; omega⟩, HS, HK⟩
        · rw [if_neg c3] at H
          exact absurd H (by simp)
      · rw [if_neg c2] at H
        have c2b0 : decide (x11_0 < (l0.length : Int)) = false := decide_eq_false c2
        clear c2
        obtain rfl := Option.some.inj H
        go_wp2
        go_ret
        unfold interest_places.Post
        exact ⟨g3000000, bs3000000_0, ck3000000_0, by first | rfl | (simp; done) | (simp [*]; done) | (simp at c2b0 ⊢; first | exact c2b0 | (simp [c2b0]; done)), HS.out, HK.out⟩

-- NOT PRINTED: function 30 (api_Member_30)

-- NOT PRINTED: function 20 (api_Member_20)

-- NOT PRINTED: function 21 (interest_Set_1)

/-! ### bits_Mul64: function 40 -/
def bits_Mul64.f (a0 : Int) (a1 : Int) : Option (Int × Int) := some (IntKind.u64.wrap ((IntKind.u64.wrap ((IntKind.u64.wrap ((a0 / 4294967296) * (a1 / 4294967296))) + ((IntKind.u64.wrap ((IntKind.u64.wrap ((a0 / 4294967296) * (Go.bits .and .u64 a1 4294967295))) + ((IntKind.u64.wrap ((Go.bits .and .u64 a0 4294967295) * (Go.bits .and .u64 a1 4294967295))) / 4294967296))) / 4294967296))) + ((IntKind.u64.wrap ((Go.bits .and .u64 (IntKind.u64.wrap ((IntKind.u64.wrap ((a0 / 4294967296) * (Go.bits .and .u64 a1 4294967295))) + ((IntKind.u64.wrap ((Go.bits .and .u64 a0 4294967295) * (Go.bits .and .u64 a1 4294967295))) / 4294967296))) 4294967295) + (IntKind.u64.wrap ((Go.bits .and .u64 a0 4294967295) * (a1 / 4294967296))))) / 4294967296)), IntKind.u64.wrap (a0 * a1))
set_option maxHeartbeats 8000000 in
set_option maxRecDepth 100000 in
theorem bits_Mul64.calls (a0 : Int) (a1 : Int) (r1 : Int) (r2 : Int) (w : World) (h : bits_Mul64.f a0 a1 = some (r1, r2)) :
    Calls Try.prog 40 #[.int .u64 a0, .int .u64 a1] w fun e w' => e = .returned (.tuple #[.int .u64 r1, .int .u64 r2]) ∧ Drawn0 w w' := by
  have H : (some (IntKind.u64.wrap ((IntKind.u64.wrap ((IntKind.u64.wrap ((a0 / 4294967296) * (a1 / 4294967296))) + ((IntKind.u64.wrap ((IntKind.u64.wrap ((a0 / 4294967296) * (Go.bits .and .u64 a1 4294967295))) + ((IntKind.u64.wrap ((Go.bits .and .u64 a0 4294967295) * (Go.bits .and .u64 a1 4294967295))) / 4294967296))) / 4294967296))) + ((IntKind.u64.wrap ((Go.bits .and .u64 (IntKind.u64.wrap ((IntKind.u64.wrap ((a0 / 4294967296) * (Go.bits .and .u64 a1 4294967295))) + ((IntKind.u64.wrap ((Go.bits .and .u64 a0 4294967295) * (Go.bits .and .u64 a1 4294967295))) / 4294967296))) 4294967295) + (IntKind.u64.wrap ((Go.bits .and .u64 a0 4294967295) * (a1 / 4294967296))))) / 4294967296)), IntKind.u64.wrap (a0 * a1))) = some (r1, r2) := h
  clear h
  simp only [Option.some.injEq, Prod.mk.injEq] at H
  obtain ⟨rfl, rfl⟩ := H
  go_enter Try.func40, Try.ntmps40
  go_wp2
  go_ret2
  exact ⟨by first | rfl | (simp; done) | (simp [*]; done), by repeat (first | exact Drawn0.refl _ | apply Drawn0.step)⟩

/-! ### sat_size: function 41 -/
def sat_size.f (a0 : Int) : Option (Int) := if a0 < 0 then (some (IntKind.u64.wrap (-(IntKind.u64.wrap (a0))))) else (some (IntKind.u64.wrap (a0)))
set_option maxHeartbeats 8000000 in
set_option maxRecDepth 100000 in
theorem sat_size.calls (a0 : Int) (r : Int) (w : World) (h : sat_size.f a0 = some r) :
    Calls Try.prog 41 #[.int .i64 a0] w fun e w' => e = .returned (.int .u64 r) ∧ Drawn0 w w' := by
  have H : (if a0 < 0 then (some (IntKind.u64.wrap (-(IntKind.u64.wrap (a0))))) else (some (IntKind.u64.wrap (a0)))) = some r := h
  clear h
  by_cases c2 : a0 < 0
  · rw [if_pos c2] at H
    have c2b0 : decide (a0 < 0) = true := decide_eq_true c2
    clear c2
    obtain rfl := Option.some.inj H
    go_enter Try.func41, Try.ntmps41
    go_wp2
    go_ret
    exact ⟨by first | rfl | (simp; done) | (simp [*]; done), by repeat (first | exact Drawn0.refl _ | apply Drawn0.step)⟩
  · rw [if_neg c2] at H
    have c2b0 : decide (a0 < 0) = false := decide_eq_false c2
    clear c2
    obtain rfl := Option.some.inj H
    go_enter Try.func41, Try.ntmps41
    go_wp2
    go_ret
    exact ⟨by first | rfl | (simp; done) | (simp [*]; done), by repeat (first | exact Drawn0.refl _ | apply Drawn0.step)⟩

/-! ### sat_end: function 42 -/
def sat_end.f (a0 : Bool) : Option (Int) := if a0 = true then (some (-9223372036854775808)) else (some 9223372036854775807)
set_option maxHeartbeats 8000000 in
set_option maxRecDepth 100000 in
theorem sat_end.calls (a0 : Bool) (r : Int) (w : World) (h : sat_end.f a0 = some r) :
    Calls Try.prog 42 #[.bool a0] w fun e w' => e = .returned (.int .i64 r) ∧ Drawn0 w w' := by
  have H : (if a0 = true then (some (-9223372036854775808)) else (some 9223372036854775807)) = some r := h
  clear h
  by_cases c2 : a0 = true
  · subst c2
    have H1 : (some (-9223372036854775808)) = some r := by rw [if_pos rfl] at H; exact H
    clear H
    have H := H1
    clear H1
    obtain rfl := Option.some.inj H
    go_enter Try.func42, Try.ntmps42
    go_wp2
    go_ret
    exact ⟨by first | rfl | (simp; done) | (simp [*]; done), by repeat (first | exact Drawn0.refl _ | apply Drawn0.step)⟩
  · replace c2 := Bool.eq_false_iff.mpr c2
    subst c2
    have H1 : (some 9223372036854775807) = some r := by rw [if_neg (show ¬ (false = true) by decide)] at H; exact H
    clear H
    have H := H1
    clear H1
    obtain rfl := Option.some.inj H
    go_enter Try.func42, Try.ntmps42
    go_wp2
    go_ret
    exact ⟨by first | rfl | (simp; done) | (simp [*]; done), by repeat (first | exact Drawn0.refl _ | apply Drawn0.step)⟩

/-! ### sat_Mul: function 32 -/
def sat_Mul.f (a0 : Int) (a1 : Int) : Option (Int) := (sat_size.f a0).bind fun t113 => ((sat_size.f a1).bind fun t114 => ((bits_Mul64.f t113 t114).bind fun bt115 => ((sat_size.f 9223372036854775807).bind fun t117 => (if ((decide (a0 < 0)) != (decide (a1 < 0))) = true then ((sat_size.f (-9223372036854775808)).bind fun t118 => (if bt115.1 > 0 then ((sat_end.f true).bind fun t119 => (some t119)) else (if bt115.2 > t118 then ((sat_end.f true).bind fun t120 => (some t120)) else (some (wrap64 (IntKind.u64.wrap (-bt115.2))))))) else (if bt115.1 > 0 then ((sat_end.f false).bind fun t121 => (some t121)) else (if bt115.2 > t117 then ((sat_end.f false).bind fun t122 => (some t122)) else (some (wrap64 (bt115.2)))))))))
set_option maxHeartbeats 8000000 in
set_option maxRecDepth 100000 in
theorem sat_Mul.calls (a0 : Int) (a1 : Int) (r : Int) (w : World) (h : sat_Mul.f a0 a1 = some r) :
    Calls Try.prog 32 #[.int .i64 a0, .int .i64 a1] w fun e w' => e = .returned (.int .i64 r) ∧ Drawn0 w w' := by
  have H : ((sat_size.f a0).bind fun t113 => ((sat_size.f a1).bind fun t114 => ((bits_Mul64.f t113 t114).bind fun bt115 => ((sat_size.f 9223372036854775807).bind fun t117 => (if ((decide (a0 < 0)) != (decide (a1 < 0))) = true then ((sat_size.f (-9223372036854775808)).bind fun t118 => (if bt115.1 > 0 then ((sat_end.f true).bind fun t119 => (some t119)) else (if bt115.2 > t118 then ((sat_end.f true).bind fun t120 => (some t120)) else (some (wrap64 (IntKind.u64.wrap (-bt115.2))))))) else (if bt115.1 > 0 then ((sat_end.f false).bind fun t121 => (some t121)) else (if bt115.2 > t117 then ((sat_end.f false).bind fun t122 => (some t122)) else (some (wrap64 (bt115.2)))))))))) = some r := h
  clear h
  replace H := Option.bind_eq_some_iff.mp H
  obtain ⟨t113, A30, H⟩ := H
  replace H : ((sat_size.f a1).bind fun t114 => ((bits_Mul64.f t113 t114).bind fun bt115 => ((sat_size.f 9223372036854775807).bind fun t117 => (if ((decide (a0 < 0)) != (decide (a1 < 0))) = true then ((sat_size.f (-9223372036854775808)).bind fun t118 => (if bt115.1 > 0 then ((sat_end.f true).bind fun t119 => (some t119)) else (if bt115.2 > t118 then ((sat_end.f true).bind fun t120 => (some t120)) else (some (wrap64 (IntKind.u64.wrap (-bt115.2))))))) else (if bt115.1 > 0 then ((sat_end.f false).bind fun t121 => (some t121)) else (if bt115.2 > t117 then ((sat_end.f false).bind fun t122 => (some t122)) else (some (wrap64 (bt115.2))))))))) = some r := H
  have A3 := Aside0.mk A30
  clear A30
  replace H := Option.bind_eq_some_iff.mp H
  obtain ⟨t114, A40, H⟩ := H
  replace H : ((bits_Mul64.f t113 t114).bind fun bt115 => ((sat_size.f 9223372036854775807).bind fun t117 => (if ((decide (a0 < 0)) != (decide (a1 < 0))) = true then ((sat_size.f (-9223372036854775808)).bind fun t118 => (if bt115.1 > 0 then ((sat_end.f true).bind fun t119 => (some t119)) else (if bt115.2 > t118 then ((sat_end.f true).bind fun t120 => (some t120)) else (some (wrap64 (IntKind.u64.wrap (-bt115.2))))))) else (if bt115.1 > 0 then ((sat_end.f false).bind fun t121 => (some t121)) else (if bt115.2 > t117 then ((sat_end.f false).bind fun t122 => (some t122)) else (some (wrap64 (bt115.2)))))))) = some r := H
  have A4 := Aside0.mk A40
  clear A40
  replace H := Option.bind_eq_some_iff.mp H
  obtain ⟨⟨t115, t116⟩, A50, H⟩ := H
  replace H : ((sat_size.f 9223372036854775807).bind fun t117 => (if ((decide (a0 < 0)) != (decide (a1 < 0))) = true then ((sat_size.f (-9223372036854775808)).bind fun t118 => (if t115 > 0 then ((sat_end.f true).bind fun t119 => (some t119)) else (if t116 > t118 then ((sat_end.f true).bind fun t120 => (some t120)) else (some (wrap64 (IntKind.u64.wrap (-t116))))))) else (if t115 > 0 then ((sat_end.f false).bind fun t121 => (some t121)) else (if t116 > t117 then ((sat_end.f false).bind fun t122 => (some t122)) else (some (wrap64 (t116))))))) = some r := H
  have A5 := Aside0.mk A50
  clear A50
  replace H := Option.bind_eq_some_iff.mp H
  obtain ⟨t117, A60, H⟩ := H
  replace H : (if ((decide (a0 < 0)) != (decide (a1 < 0))) = true then ((sat_size.f (-9223372036854775808)).bind fun t118 => (if t115 > 0 then ((sat_end.f true).bind fun t119 => (some t119)) else (if t116 > t118 then ((sat_end.f true).bind fun t120 => (some t120)) else (some (wrap64 (IntKind.u64.wrap (-t116))))))) else (if t115 > 0 then ((sat_end.f false).bind fun t121 => (some t121)) else (if t116 > t117 then ((sat_end.f false).bind fun t122 => (some t122)) else (some (wrap64 (t116)))))) = some r := H
  have A6 := Aside0.mk A60
  clear A60
  by_cases c7 : ((decide (a0 < 0)) != (decide (a1 < 0))) = true
  · rw [if_pos c7] at H
    have c7b0 : ((decide (a0 < 0)) != (decide (a1 < 0))) = true := c7
    (try (have c7b1 : decide ((decide (a0 < 0)) = (decide (a1 < 0))) = false := by simpa using c7))
    (try (have c7b2 : ((decide (a0 < 0)) == (decide (a1 < 0))) = false := by simpa using c7))
    (try (have c7b3 : ¬ ((decide (a0 < 0)) = (decide (a1 < 0))) := by simpa using c7))
    clear c7
    replace H := Option.bind_eq_some_iff.mp H
    obtain ⟨t118, A80, H⟩ := H
    replace H : (if t115 > 0 then ((sat_end.f true).bind fun t119 => (some t119)) else (if t116 > t118 then ((sat_end.f true).bind fun t120 => (some t120)) else (some (wrap64 (IntKind.u64.wrap (-t116)))))) = some r := H
    have A8 := Aside0.mk A80
    clear A80
    by_cases c9 : t115 > 0
    · rw [if_pos c9] at H
      have c9b0 : decide (0 < t115) = true := decide_eq_true c9
      clear c9
      replace H := Option.bind_eq_some_iff.mp H
      obtain ⟨t119, A100, H⟩ := H
      replace H : (some t119) = some r := H
      have A10 := Aside0.mk A100
      clear A100
      obtain rfl := Option.some.inj H
      go_enter Try.func32, Try.ntmps32
      go_wp2_with (first | ((with_reducible refine gate_callee (f := 41) rfl ?_); refine goesL_ (some 16) rfl rfl Try.func41 (by kernel_rfl) rfl #[.int .i64 a0] rfl (by (try simp only [List.map_toArray, List.map_cons, List.map_nil]); first | done | rfl | (simp only [List.length_drop, List.length_take]; rfl)) ?_; (with_reducible refine (sat_size.calls a0 t113 _ A3.out).mono ?_); rintro e w' ⟨rfl, ⟨nd, rfl⟩⟩; refine ⟨_, rfl, ?_⟩) | ((with_reducible refine gate_callee (f := 41) rfl ?_); refine goesL_ (some 18) rfl rfl Try.func41 (by kernel_rfl) rfl #[.int .i64 a1] rfl (by (try simp only [List.map_toArray, List.map_cons, List.map_nil]); first | done | rfl | (simp only [List.length_drop, List.length_take]; rfl)) ?_; (with_reducible refine (sat_size.calls a1 t114 _ A4.out).mono ?_); rintro e w' ⟨rfl, ⟨nd, rfl⟩⟩; refine ⟨_, rfl, ?_⟩) | ((with_reducible refine gate_callee (f := 40) rfl ?_); refine goesL_ (some 19) rfl rfl Try.func40 (by kernel_rfl) rfl #[.int .u64 t113, .int .u64 t114] rfl (by (try simp only [List.map_toArray, List.map_cons, List.map_nil]); first | done | rfl | (simp only [List.length_drop, List.length_take]; rfl)) ?_; (with_reducible refine (bits_Mul64.calls t113 t114 t115 t116 _ A5.out).mono ?_); rintro e w' ⟨rfl, ⟨nd, rfl⟩⟩; refine ⟨_, rfl, ?_⟩) | ((with_reducible refine gate_callee (f := 41) rfl ?_); refine goesL_ (some 22) rfl rfl Try.func41 (by kernel_rfl) rfl #[.int .i64 9223372036854775807] rfl (by (try simp only [List.map_toArray, List.map_cons, List.map_nil]); first | done | rfl | (simp only [List.length_drop, List.length_take]; rfl)) ?_; (with_reducible refine (sat_size.calls 9223372036854775807 t117 _ A6.out).mono ?_); rintro e w' ⟨rfl, ⟨nd, rfl⟩⟩; refine ⟨_, rfl, ?_⟩) | ((with_reducible refine gate_callee (f := 41) rfl ?_); refine goesL_ (some 24) rfl rfl Try.func41 (by kernel_rfl) rfl #[.int .i64 (-9223372036854775808)] rfl (by (try simp only [List.map_toArray, List.map_cons, List.map_nil]); first | done | rfl | (simp only [List.length_drop, List.length_take]; rfl)) ?_; (with_reducible refine (sat_size.calls (-9223372036854775808) t118 _ A8.out).mono ?_); rintro e w' ⟨rfl, ⟨nd, rfl⟩⟩; refine ⟨_, rfl, ?_⟩) | ((with_reducible refine gate_callee (f := 42) rfl ?_); refine goesL_ (some 34) rfl rfl Try.func42 (by kernel_rfl) rfl #[.bool true] rfl (by (try simp only [List.map_toArray, List.map_cons, List.map_nil]); first | done | rfl | (simp only [List.length_drop, List.length_take]; rfl)) ?_; (with_reducible refine (sat_end.calls true t119 _ A10.out).mono ?_); rintro e w' ⟨rfl, ⟨nd, rfl⟩⟩; refine ⟨_, rfl, ?_⟩))
      go_ret
      exact ⟨by first | rfl | (simp; done) | (simp [*]; done), by repeat (first | exact Drawn0.refl _ | apply Drawn0.step)⟩
    · rw [if_neg c9] at H
      have c9b0 : decide (0 < t115) = false := decide_eq_false c9
      clear c9
      by_cases c11 : t116 > t118
      · rw [if_pos c11] at H
        have c11b0 : decide (t118 < t116) = true := decide_eq_true c11
        clear c11
        replace H := Option.bind_eq_some_iff.mp H
        obtain ⟨t120, A120, H⟩ := H
        replace H : (some t120) = some r := H
        have A12 := Aside0.mk A120
        clear A120
        obtain rfl := Option.some.inj H
        go_enter Try.func32, Try.ntmps32
        go_wp2_with (first | ((with_reducible refine gate_callee (f := 41) rfl ?_); refine goesL_ (some 16) rfl rfl Try.func41 (by kernel_rfl) rfl #[.int .i64 a0] rfl (by (try simp only [List.map_toArray, List.map_cons, List.map_nil]); first | done | rfl | (simp only [List.length_drop, List.length_take]; rfl)) ?_; (with_reducible refine (sat_size.calls a0 t113 _ A3.out).mono ?_); rintro e w' ⟨rfl, ⟨nd, rfl⟩⟩; refine ⟨_, rfl, ?_⟩) | ((with_reducible refine gate_callee (f := 41) rfl ?_); refine goesL_ (some 18) rfl rfl Try.func41 (by kernel_rfl) rfl #[.int .i64 a1] rfl (by (try simp only [List.map_toArray, List.map_cons, List.map_nil]); first | done | rfl | (simp only [List.length_drop, List.length_take]; rfl)) ?_; (with_reducible refine (sat_size.calls a1 t114 _ A4.out).mono ?_); rintro e w' ⟨rfl, ⟨nd, rfl⟩⟩; refine ⟨_, rfl, ?_⟩) | ((with_reducible refine gate_callee (f := 40) rfl ?_); refine goesL_ (some 19) rfl rfl Try.func40 (by kernel_rfl) rfl #[.int .u64 t113, .int .u64 t114] rfl (by (try simp only [List.map_toArray, List.map_cons, List.map_nil]); first | done | rfl | (simp only [List.length_drop, List.length_take]; rfl)) ?_; (with_reducible refine (bits_Mul64.calls t113 t114 t115 t116 _ A5.out).mono ?_); rintro e w' ⟨rfl, ⟨nd, rfl⟩⟩; refine ⟨_, rfl, ?_⟩) | ((with_reducible refine gate_callee (f := 41) rfl ?_); refine goesL_ (some 22) rfl rfl Try.func41 (by kernel_rfl) rfl #[.int .i64 9223372036854775807] rfl (by (try simp only [List.map_toArray, List.map_cons, List.map_nil]); first | done | rfl | (simp only [List.length_drop, List.length_take]; rfl)) ?_; (with_reducible refine (sat_size.calls 9223372036854775807 t117 _ A6.out).mono ?_); rintro e w' ⟨rfl, ⟨nd, rfl⟩⟩; refine ⟨_, rfl, ?_⟩) | ((with_reducible refine gate_callee (f := 41) rfl ?_); refine goesL_ (some 24) rfl rfl Try.func41 (by kernel_rfl) rfl #[.int .i64 (-9223372036854775808)] rfl (by (try simp only [List.map_toArray, List.map_cons, List.map_nil]); first | done | rfl | (simp only [List.length_drop, List.length_take]; rfl)) ?_; (with_reducible refine (sat_size.calls (-9223372036854775808) t118 _ A8.out).mono ?_); rintro e w' ⟨rfl, ⟨nd, rfl⟩⟩; refine ⟨_, rfl, ?_⟩) | ((with_reducible refine gate_callee (f := 42) rfl ?_); refine goesL_ (some 34) rfl rfl Try.func42 (by kernel_rfl) rfl #[.bool true] rfl (by (try simp only [List.map_toArray, List.map_cons, List.map_nil]); first | done | rfl | (simp only [List.length_drop, List.length_take]; rfl)) ?_; (with_reducible refine (sat_end.calls true t120 _ A12.out).mono ?_); rintro e w' ⟨rfl, ⟨nd, rfl⟩⟩; refine ⟨_, rfl, ?_⟩))
        go_ret
        exact ⟨by first | rfl | (simp; done) | (simp [*]; done), by repeat (first | exact Drawn0.refl _ | apply Drawn0.step)⟩
      · rw [if_neg c11] at H
        have c11b0 : decide (t118 < t116) = false := decide_eq_false c11
        clear c11
        obtain rfl := Option.some.inj H
        go_enter Try.func32, Try.ntmps32
        go_wp2_with (first | ((with_reducible refine gate_callee (f := 41) rfl ?_); refine goesL_ (some 16) rfl rfl Try.func41 (by kernel_rfl) rfl #[.int .i64 a0] rfl (by (try simp only [List.map_toArray, List.map_cons, List.map_nil]); first | done | rfl | (simp only [List.length_drop, List.length_take]; rfl)) ?_; (with_reducible refine (sat_size.calls a0 t113 _ A3.out).mono ?_); rintro e w' ⟨rfl, ⟨nd, rfl⟩⟩; refine ⟨_, rfl, ?_⟩) | ((with_reducible refine gate_callee (f := 41) rfl ?_); refine goesL_ (some 18) rfl rfl Try.func41 (by kernel_rfl) rfl #[.int .i64 a1] rfl (by (try simp only [List.map_toArray, List.map_cons, List.map_nil]); first | done | rfl | (simp only [List.length_drop, List.length_take]; rfl)) ?_; (with_reducible refine (sat_size.calls a1 t114 _ A4.out).mono ?_); rintro e w' ⟨rfl, ⟨nd, rfl⟩⟩; refine ⟨_, rfl, ?_⟩) | ((with_reducible refine gate_callee (f := 40) rfl ?_); refine goesL_ (some 19) rfl rfl Try.func40 (by kernel_rfl) rfl #[.int .u64 t113, .int .u64 t114] rfl (by (try simp only [List.map_toArray, List.map_cons, List.map_nil]); first | done | rfl | (simp only [List.length_drop, List.length_take]; rfl)) ?_; (with_reducible refine (bits_Mul64.calls t113 t114 t115 t116 _ A5.out).mono ?_); rintro e w' ⟨rfl, ⟨nd, rfl⟩⟩; refine ⟨_, rfl, ?_⟩) | ((with_reducible refine gate_callee (f := 41) rfl ?_); refine goesL_ (some 22) rfl rfl Try.func41 (by kernel_rfl) rfl #[.int .i64 9223372036854775807] rfl (by (try simp only [List.map_toArray, List.map_cons, List.map_nil]); first | done | rfl | (simp only [List.length_drop, List.length_take]; rfl)) ?_; (with_reducible refine (sat_size.calls 9223372036854775807 t117 _ A6.out).mono ?_); rintro e w' ⟨rfl, ⟨nd, rfl⟩⟩; refine ⟨_, rfl, ?_⟩) | ((with_reducible refine gate_callee (f := 41) rfl ?_); refine goesL_ (some 24) rfl rfl Try.func41 (by kernel_rfl) rfl #[.int .i64 (-9223372036854775808)] rfl (by (try simp only [List.map_toArray, List.map_cons, List.map_nil]); first | done | rfl | (simp only [List.length_drop, List.length_take]; rfl)) ?_; (with_reducible refine (sat_size.calls (-9223372036854775808) t118 _ A8.out).mono ?_); rintro e w' ⟨rfl, ⟨nd, rfl⟩⟩; refine ⟨_, rfl, ?_⟩))
        go_ret
        exact ⟨by first | rfl | (simp; done) | (simp [*]; done), by repeat (first | exact Drawn0.refl _ | apply Drawn0.step)⟩
  · rw [if_neg c7] at H
    have c7b0 : ((decide (a0 < 0)) != (decide (a1 < 0))) = false := by simpa using c7
    (try (have c7b1 : decide ((decide (a0 < 0)) = (decide (a1 < 0))) = true := by simpa using c7))
    (try (have c7b2 : ((decide (a0 < 0)) == (decide (a1 < 0))) = true := by simpa using c7))
    clear c7
    by_cases c13 : t115 > 0
    · rw [if_pos c13] at H
      have c13b0 : decide (0 < t115) = true := decide_eq_true c13
      clear c13
      replace H := Option.bind_eq_some_iff.mp H
      obtain ⟨t121, A140, H⟩ := H
      replace H : (some t121) = some r := H
      have A14 := Aside0.mk A140
      clear A140
      obtain rfl := Option.some.inj H
      go_enter Try.func32, Try.ntmps32
      go_wp2_with (first | ((with_reducible refine gate_callee (f := 41) rfl ?_); refine goesL_ (some 16) rfl rfl Try.func41 (by kernel_rfl) rfl #[.int .i64 a0] rfl (by (try simp only [List.map_toArray, List.map_cons, List.map_nil]); first | done | rfl | (simp only [List.length_drop, List.length_take]; rfl)) ?_; (with_reducible refine (sat_size.calls a0 t113 _ A3.out).mono ?_); rintro e w' ⟨rfl, ⟨nd, rfl⟩⟩; refine ⟨_, rfl, ?_⟩) | ((with_reducible refine gate_callee (f := 41) rfl ?_); refine goesL_ (some 18) rfl rfl Try.func41 (by kernel_rfl) rfl #[.int .i64 a1] rfl (by (try simp only [List.map_toArray, List.map_cons, List.map_nil]); first | done | rfl | (simp only [List.length_drop, List.length_take]; rfl)) ?_; (with_reducible refine (sat_size.calls a1 t114 _ A4.out).mono ?_); rintro e w' ⟨rfl, ⟨nd, rfl⟩⟩; refine ⟨_, rfl, ?_⟩) | ((with_reducible refine gate_callee (f := 40) rfl ?_); refine goesL_ (some 19) rfl rfl Try.func40 (by kernel_rfl) rfl #[.int .u64 t113, .int .u64 t114] rfl (by (try simp only [List.map_toArray, List.map_cons, List.map_nil]); first | done | rfl | (simp only [List.length_drop, List.length_take]; rfl)) ?_; (with_reducible refine (bits_Mul64.calls t113 t114 t115 t116 _ A5.out).mono ?_); rintro e w' ⟨rfl, ⟨nd, rfl⟩⟩; refine ⟨_, rfl, ?_⟩) | ((with_reducible refine gate_callee (f := 41) rfl ?_); refine goesL_ (some 22) rfl rfl Try.func41 (by kernel_rfl) rfl #[.int .i64 9223372036854775807] rfl (by (try simp only [List.map_toArray, List.map_cons, List.map_nil]); first | done | rfl | (simp only [List.length_drop, List.length_take]; rfl)) ?_; (with_reducible refine (sat_size.calls 9223372036854775807 t117 _ A6.out).mono ?_); rintro e w' ⟨rfl, ⟨nd, rfl⟩⟩; refine ⟨_, rfl, ?_⟩) | ((with_reducible refine gate_callee (f := 42) rfl ?_); refine goesL_ (some 34) rfl rfl Try.func42 (by kernel_rfl) rfl #[.bool false] rfl (by (try simp only [List.map_toArray, List.map_cons, List.map_nil]); first | done | rfl | (simp only [List.length_drop, List.length_take]; rfl)) ?_; (with_reducible refine (sat_end.calls false t121 _ A14.out).mono ?_); rintro e w' ⟨rfl, ⟨nd, rfl⟩⟩; refine ⟨_, rfl, ?_⟩))
      go_ret
      exact ⟨by first | rfl | (simp; done) | (simp [*]; done), by repeat (first | exact Drawn0.refl _ | apply Drawn0.step)⟩
    · rw [if_neg c13] at H
      have c13b0 : decide (0 < t115) = false := decide_eq_false c13
      clear c13
      by_cases c15 : t116 > t117
      · rw [if_pos c15] at H
        have c15b0 : decide (t117 < t116) = true := decide_eq_true c15
        clear c15
        replace H := Option.bind_eq_some_iff.mp H
        obtain ⟨t122, A160, H⟩ := H
        replace H : (some t122) = some r := H
        have A16 := Aside0.mk A160
        clear A160
        obtain rfl := Option.some.inj H
        go_enter Try.func32, Try.ntmps32
        go_wp2_with (first | ((with_reducible refine gate_callee (f := 41) rfl ?_); refine goesL_ (some 16) rfl rfl Try.func41 (by kernel_rfl) rfl #[.int .i64 a0] rfl (by (try simp only [List.map_toArray, List.map_cons, List.map_nil]); first | done | rfl | (simp only [List.length_drop, List.length_take]; rfl)) ?_; (with_reducible refine (sat_size.calls a0 t113 _ A3.out).mono ?_); rintro e w' ⟨rfl, ⟨nd, rfl⟩⟩; refine ⟨_, rfl, ?_⟩) | ((with_reducible refine gate_callee (f := 41) rfl ?_); refine goesL_ (some 18) rfl rfl Try.func41 (by kernel_rfl) rfl #[.int .i64 a1] rfl (by (try simp only [List.map_toArray, List.map_cons, List.map_nil]); first | done | rfl | (simp only [List.length_drop, List.length_take]; rfl)) ?_; (with_reducible refine (sat_size.calls a1 t114 _ A4.out).mono ?_); rintro e w' ⟨rfl, ⟨nd, rfl⟩⟩; refine ⟨_, rfl, ?_⟩) | ((with_reducible refine gate_callee (f := 40) rfl ?_); refine goesL_ (some 19) rfl rfl Try.func40 (by kernel_rfl) rfl #[.int .u64 t113, .int .u64 t114] rfl (by (try simp only [List.map_toArray, List.map_cons, List.map_nil]); first | done | rfl | (simp only [List.length_drop, List.length_take]; rfl)) ?_; (with_reducible refine (bits_Mul64.calls t113 t114 t115 t116 _ A5.out).mono ?_); rintro e w' ⟨rfl, ⟨nd, rfl⟩⟩; refine ⟨_, rfl, ?_⟩) | ((with_reducible refine gate_callee (f := 41) rfl ?_); refine goesL_ (some 22) rfl rfl Try.func41 (by kernel_rfl) rfl #[.int .i64 9223372036854775807] rfl (by (try simp only [List.map_toArray, List.map_cons, List.map_nil]); first | done | rfl | (simp only [List.length_drop, List.length_take]; rfl)) ?_; (with_reducible refine (sat_size.calls 9223372036854775807 t117 _ A6.out).mono ?_); rintro e w' ⟨rfl, ⟨nd, rfl⟩⟩; refine ⟨_, rfl, ?_⟩) | ((with_reducible refine gate_callee (f := 42) rfl ?_); refine goesL_ (some 34) rfl rfl Try.func42 (by kernel_rfl) rfl #[.bool false] rfl (by (try simp only [List.map_toArray, List.map_cons, List.map_nil]); first | done | rfl | (simp only [List.length_drop, List.length_take]; rfl)) ?_; (with_reducible refine (sat_end.calls false t122 _ A16.out).mono ?_); rintro e w' ⟨rfl, ⟨nd, rfl⟩⟩; refine ⟨_, rfl, ?_⟩))
        go_ret
        exact ⟨by first | rfl | (simp; done) | (simp [*]; done), by repeat (first | exact Drawn0.refl _ | apply Drawn0.step)⟩
      · rw [if_neg c15] at H
        have c15b0 : decide (t117 < t116) = false := decide_eq_false c15
        clear c15
        obtain rfl := Option.some.inj H
        go_enter Try.func32, Try.ntmps32
        go_wp2_with (first | ((with_reducible refine gate_callee (f := 41) rfl ?_); refine goesL_ (some 16) rfl rfl Try.func41 (by kernel_rfl) rfl #[.int .i64 a0] rfl (by (try simp only [List.map_toArray, List.map_cons, List.map_nil]); first | done | rfl | (simp only [List.length_drop, List.length_take]; rfl)) ?_; (with_reducible refine (sat_size.calls a0 t113 _ A3.out).mono ?_); rintro e w' ⟨rfl, ⟨nd, rfl⟩⟩; refine ⟨_, rfl, ?_⟩) | ((with_reducible refine gate_callee (f := 41) rfl ?_); refine goesL_ (some 18) rfl rfl Try.func41 (by kernel_rfl) rfl #[.int .i64 a1] rfl (by (try simp only [List.map_toArray, List.map_cons, List.map_nil]); first | done | rfl | (simp only [List.length_drop, List.length_take]; rfl)) ?_; (with_reducible refine (sat_size.calls a1 t114 _ A4.out).mono ?_); rintro e w' ⟨rfl, ⟨nd, rfl⟩⟩; refine ⟨_, rfl, ?_⟩) | ((with_reducible refine gate_callee (f := 40) rfl ?_); refine goesL_ (some 19) rfl rfl Try.func40 (by kernel_rfl) rfl #[.int .u64 t113, .int .u64 t114] rfl (by (try simp only [List.map_toArray, List.map_cons, List.map_nil]); first | done | rfl | (simp only [List.length_drop, List.length_take]; rfl)) ?_; (with_reducible refine (bits_Mul64.calls t113 t114 t115 t116 _ A5.out).mono ?_); rintro e w' ⟨rfl, ⟨nd, rfl⟩⟩; refine ⟨_, rfl, ?_⟩) | ((with_reducible refine gate_callee (f := 41) rfl ?_); refine goesL_ (some 22) rfl rfl Try.func41 (by kernel_rfl) rfl #[.int .i64 9223372036854775807] rfl (by (try simp only [List.map_toArray, List.map_cons, List.map_nil]); first | done | rfl | (simp only [List.length_drop, List.length_take]; rfl)) ?_; (with_reducible refine (sat_size.calls 9223372036854775807 t117 _ A6.out).mono ?_); rintro e w' ⟨rfl, ⟨nd, rfl⟩⟩; refine ⟨_, rfl, ?_⟩))
        go_ret
        exact ⟨by first | rfl | (simp; done) | (simp [*]; done), by repeat (first | exact Drawn0.refl _ | apply Drawn0.step)⟩

/-! ### sat_Sub: function 48 -/
def sat_Sub.j0 : Nat → Int → Int → Int → Bool → Option (Int)
  | 0, _, _, _, _ => none
  | k + 1, x0, x1, x5, x9 => if x9 = true then (some 9223372036854775807) else (if x0 < 0 then (if x1 > 0 then (if x5 ≥ 0 then (some (-9223372036854775808)) else (some x5)) else (some x5)) else (some x5))
def sat_Sub.f (k : Nat) (a0 : Int) (a1 : Int) : Option (Int) := if a0 ≥ 0 then (if a1 < 0 then (sat_Sub.j0 k a0 a1 (wrap64 (a0 - a1)) (decide ((wrap64 (a0 - a1)) < 0))) else (sat_Sub.j0 k a0 a1 (wrap64 (a0 - a1)) false)) else (sat_Sub.j0 k a0 a1 (wrap64 (a0 - a1)) false)
theorem sat_Sub.mono_l : ∀ k, (∀ y0 y1 y2 y3, LeO (sat_Sub.j0 k y0 y1 y2 y3) (sat_Sub.j0 (k + 1) y0 y1 y2 y3))
  | 0 => fun _ _ _ _ r h => by simp [sat_Sub.j0] at h
  | k + 1 => by
    have ih0 := sat_Sub.mono_l k
    · intro y0 y1 y2 y3
      unfold sat_Sub.j0
      repeat' first
      | (with_reducible exact ih0 _ _ _ _)
      | (with_reducible exact LeO.refl _)
      | (with_reducible exact LeO.none _)
      | (with_reducible refine LeO.ite ?_ ?_)
      | (with_reducible refine LeO.bind ?_ (fun _ => ?_))
      | exact ih0 _ _ _ _
      | exact LeO.none _
      | refine LeO.ite ?_ ?_
      | refine LeO.bind ?_ (fun _ => ?_)
theorem sat_Sub.mono : ∀ a0 a1 k, LeO (sat_Sub.f k a0 a1) (sat_Sub.f (k + 1) a0 a1) := by
  intro a0 a1 k
  have ih0 := sat_Sub.mono_l k
  unfold sat_Sub.f
  repeat' first
      | (with_reducible exact ih0 _ _ _ _)
      | (with_reducible exact LeO.refl _)
      | (with_reducible exact LeO.none _)
      | (with_reducible refine LeO.ite ?_ ?_)
      | (with_reducible refine LeO.bind ?_ (fun _ => ?_))
      | exact ih0 _ _ _ _
      | exact LeO.none _
      | refine LeO.ite ?_ ?_
      | refine LeO.bind ?_ (fun _ => ?_)
set_option maxHeartbeats 8000000 in
set_option maxRecDepth 100000 in
theorem sat_Sub.calls (k : Nat) (a0 : Int) (a1 : Int) (r : Int) (w : World) (h : sat_Sub.f k a0 a1 = some r) :
    Calls Try.prog 48 #[.int .i64 a0, .int .i64 a1] w fun e w' => e = .returned (.int .i64 r) ∧ Drawn0 w w' := by
  have H : (if a0 ≥ 0 then (if a1 < 0 then (sat_Sub.j0 k a0 a1 (wrap64 (a0 - a1)) (decide ((wrap64 (a0 - a1)) < 0))) else (sat_Sub.j0 k a0 a1 (wrap64 (a0 - a1)) false)) else (sat_Sub.j0 k a0 a1 (wrap64 (a0 - a1)) false)) = some r := h
  clear h
  have HC3 := Aside0.mk H
  clear H
  go_enter Try.func48, Try.ntmps48
  go_upto_region 2 with (fail)
  go_cut [9] (fun v9 wc => ∃ (kq : Nat) (x9_2 : Bool), v9 = .bool x9_2 ∧ Aside0 (sat_Sub.j0 kq a0 a1 (wrap64 (a0 - a1)) x9_2 = some r) ∧ Aside0 (kq ≤ k) ∧ Drawn0 w wc)
  case first =>
    have H := HC3.out
    clear HC3
    by_cases c4 : a0 ≥ 0
    · rw [if_pos c4] at H
      have c4b0 : decide (0 ≤ a0) = true := decide_eq_true c4
      clear c4
      (first | rw [c4b0] | (simp only [i64_w, i32_w]; rw [c4b0]) | skip)
      by_cases c5 : a1 < 0
      · rw [if_pos c5] at H
        have c5b0 : decide (a1 < 0) = true := decide_eq_true c5
        clear c5
        have H' := Aside0.mk H
        clear H
        go_wp2
        go_meet
        case rel => exact ⟨_, (decide ((wrap64 (a0 - a1)) < 0)), (by first | rfl | (simp; done) | (simp [*]; done)), H', ⟨by first | omega | exact Nat.le_refl _⟩, by repeat (first | exact Drawn0.refl _ | apply Drawn0.step)⟩
      · rw [if_neg c5] at H
        have c5b0 : decide (a1 < 0) = false := decide_eq_false c5
        clear c5
        have H' := Aside0.mk H
        clear H
        go_wp2
        go_meet
        case rel => exact ⟨_, (false), (by first | rfl | (simp; done) | (simp [*]; done)), H', ⟨by first | omega | exact Nat.le_refl _⟩, by repeat (first | exact Drawn0.refl _ | apply Drawn0.step)⟩
    · rw [if_neg c4] at H
      have c4b0 : decide (0 ≤ a0) = false := decide_eq_false c4
      clear c4
      (first | rw [c4b0] | (simp only [i64_w, i32_w]; rw [c4b0]) | skip)
      have H' := Aside0.mk H
      clear H
      go_wp2
      go_meet
      case rel => exact ⟨_, (false), (by first | rfl | (simp; done) | (simp [*]; done)), H', ⟨by first | omega | exact Nat.le_refl _⟩, by repeat (first | exact Drawn0.refl _ | apply Drawn0.step)⟩
  case rest =>
    clear HC3
    try clear p2
    try clear c4
    try clear c4b0
    try clear c5
    try clear c5b0
    obtain ⟨kq, x9_2, rfl, HA, HJ2, ⟨mc2, rfl⟩⟩ := hcut
    cases kq with
    | zero => exact absurd HA.out (by simp [sat_Sub.j0])
    | succ kj2 =>
      have H := HA.out
      clear HA
      simp only [sat_Sub.j0] at H
      by_cases c6 : x9_2 = true
      · subst c6
        have H1 : (some 9223372036854775807) = some r := by rw [if_pos rfl] at H; exact H
        clear H
        have H := H1
        clear H1
        obtain rfl := Option.some.inj H
        go_wp2
        go_ret
        exact ⟨by first | rfl | (simp; done) | (simp [*]; done), by repeat (first | exact Drawn0.refl _ | apply Drawn0.step)⟩
      · replace c6 := Bool.eq_false_iff.mpr c6
        subst c6
        have H1 : (if a0 < 0 then (if a1 > 0 then (if (wrap64 (a0 - a1)) ≥ 0 then (some (-9223372036854775808)) else (some (wrap64 (a0 - a1)))) else (some (wrap64 (a0 - a1)))) else (some (wrap64 (a0 - a1)))) = some r := by rw [if_neg (show ¬ (false = true) by decide)] at H; exact H
        clear H
        have H := H1
        clear H1
        by_cases c7 : a0 < 0
        · rw [if_pos c7] at H
          have c7b0 : decide (a0 < 0) = true := decide_eq_true c7
          clear c7
          by_cases c8 : a1 > 0
          · rw [if_pos c8] at H
            have c8b0 : decide (0 < a1) = true := decide_eq_true c8
            clear c8
            by_cases c9 : (wrap64 (a0 - a1)) ≥ 0
            · rw [if_pos c9] at H
              have c9b0 : decide (0 ≤ (wrap64 (a0 - a1))) = true := decide_eq_true c9
              clear c9
              obtain rfl := Option.some.inj H
              go_wp2
              go_ret
              exact ⟨by first | rfl | (simp; done) | (simp [*]; done), by repeat (first | exact Drawn0.refl _ | apply Drawn0.step)⟩
            · rw [if_neg c9] at H
              have c9b0 : decide (0 ≤ (wrap64 (a0 - a1))) = false := decide_eq_false c9
              clear c9
              obtain rfl := Option.some.inj H
              go_wp2
              go_ret
              exact ⟨by first | rfl | (simp; done) | (simp [*]; done), by repeat (first | exact Drawn0.refl _ | apply Drawn0.step)⟩
          · rw [if_neg c8] at H
            have c8b0 : decide (0 < a1) = false := decide_eq_false c8
            clear c8
            obtain rfl := Option.some.inj H
            go_wp2
            go_ret
            exact ⟨by first | rfl | (simp; done) | (simp [*]; done), by repeat (first | exact Drawn0.refl _ | apply Drawn0.step)⟩
        · rw [if_neg c7] at H
          have c7b0 : decide (a0 < 0) = false := decide_eq_false c7
          clear c7
          obtain rfl := Option.some.inj H
          go_wp2
          go_ret
          exact ⟨by first | rfl | (simp; done) | (simp [*]; done), by repeat (first | exact Drawn0.refl _ | apply Drawn0.step)⟩

/-! ### grid_far: function 38 -/
def grid_far.f (k : Nat) (a0 : Int) (a1 : Int) : Option (Int) := (sat_Sub.f k (mx a0 a1) (mn a0 a1)).bind fun t123 => (some t123)
theorem grid_far.mono : ∀ a0 a1 k, LeO (grid_far.f k a0 a1) (grid_far.f (k + 1) a0 a1) := by
  intro a0 a1 k
  unfold grid_far.f
  repeat' first
      | (with_reducible exact sat_Sub.mono _ _ _)
      | (with_reducible exact LeO.refl _)
      | (with_reducible exact LeO.none _)
      | (with_reducible refine LeO.ite ?_ ?_)
      | (with_reducible refine LeO.bind ?_ (fun _ => ?_))
      | exact sat_Sub.mono _ _ _
      | exact LeO.none _
      | refine LeO.ite ?_ ?_
      | refine LeO.bind ?_ (fun _ => ?_)
set_option maxHeartbeats 8000000 in
set_option maxRecDepth 100000 in
theorem grid_far.calls (k : Nat) (a0 : Int) (a1 : Int) (r : Int) (w : World) (h : grid_far.f k a0 a1 = some r) :
    Calls Try.prog 38 #[.int .i64 a0, .int .i64 a1] w fun e w' => e = .returned (.int .i64 r) ∧ Below w.heap.size w w' := by
  have HB := Aside0.mk (Below.refl w.heap.size w)
  have H : ((sat_Sub.f k (mx a0 a1) (mn a0 a1)).bind fun t123 => (some t123)) = some r := h
  clear h
  obtain ⟨ji3, hji3⟩ : ∃ j_ : Int, (mx a0 a1) = j_ := ⟨_, rfl⟩
  replace H : ((sat_Sub.f k (ji3) (mn a0 a1)).bind fun t123 => (some t123)) = some r := by first | (rw [hji3] at H; exact H) | (simp only [hji3] at H ⊢; exact H)
  have hji3_ : (if a0 < a1 then a1 else a0) = ji3 := hji3
  obtain ⟨ji4, hji4⟩ : ∃ j_ : Int, (mn a0 a1) = j_ := ⟨_, rfl⟩
  replace H : ((sat_Sub.f k (ji3) (ji4)).bind fun t123 => (some t123)) = some r := by first | (rw [hji4] at H; exact H) | (simp only [hji4] at H ⊢; exact H)
  have hji4_ : (if a1 < a0 then a1 else a0) = ji4 := hji4
  replace H := Option.bind_eq_some_iff.mp H
  obtain ⟨t123, A50, H⟩ := H
  replace H : (some t123) = some r := H
  have A5 := Aside0.mk A50
  clear A50
  obtain rfl := Option.some.inj H
  go_enter Try.func38, Try.ntmps38
  go_wp2_with (first | ((with_reducible refine gate_callee (f := 48) rfl ?_); refine goesL_ (some 11) rfl rfl Try.func48 (by kernel_rfl) rfl #[.int .i64 ji3, .int .i64 ji4] rfl (by (try simp only [List.map_toArray, List.map_cons, List.map_nil]); first | done | (simp only [hji3, hji4]; rfl) | rfl | (simp only [List.length_drop, List.length_take]; rfl)) ?_; (with_reducible refine (sat_Sub.calls k ji3 ji4 t123 _ A5.out).mono ?_); rintro e w' ⟨rfl, ⟨nd, rfl⟩⟩; refine ⟨_, rfl, ?_⟩))
  go_ret
  exact ⟨by first | rfl | (simp [errW_none, errW_some] <;> rfl) | (simp only [← hji3, ← hji4]; first | rfl | (simp [errW_none, errW_some] <;> rfl)) | (simp [*, errW_none, errW_some] <;> rfl), by repeat (first | (with_reducible first | exact HB.out | apply below_alloc | apply pw_below_drewN | apply below_drew1) | exact HB.out)⟩

/-! ### sat_Add: function 39 -/
def sat_Add.j0 : Nat → Int → Int → Int → Bool → Option (Int)
  | 0, _, _, _, _ => none
  | k + 1, x0, x1, x5, x9 => if x9 = true then (some 9223372036854775807) else (if x0 < 0 then (if x1 < 0 then (if x5 ≥ 0 then (some (-9223372036854775808)) else (some x5)) else (some x5)) else (some x5))
def sat_Add.f (k : Nat) (a0 : Int) (a1 : Int) : Option (Int) := if a0 > 0 then (if a1 > 0 then (sat_Add.j0 k a0 a1 (wrap64 (a0 + a1)) (decide ((wrap64 (a0 + a1)) ≤ 0))) else (sat_Add.j0 k a0 a1 (wrap64 (a0 + a1)) false)) else (sat_Add.j0 k a0 a1 (wrap64 (a0 + a1)) false)
theorem sat_Add.mono_l : ∀ k, (∀ y0 y1 y2 y3, LeO (sat_Add.j0 k y0 y1 y2 y3) (sat_Add.j0 (k + 1) y0 y1 y2 y3))
  | 0 => fun _ _ _ _ r h => by simp [sat_Add.j0] at h
  | k + 1 => by
    have ih0 := sat_Add.mono_l k
    · intro y0 y1 y2 y3
      unfold sat_Add.j0
      repeat' first
      | (with_reducible exact ih0 _ _ _ _)
      | (with_reducible exact LeO.refl _)
      | (with_reducible exact LeO.none _)
      | (with_reducible refine LeO.ite ?_ ?_)
      | (with_reducible refine LeO.bind ?_ (fun _ => ?_))
      | exact ih0 _ _ _ _
      | exact LeO.none _
      | refine LeO.ite ?_ ?_
      | refine LeO.bind ?_ (fun _ => ?_)
theorem sat_Add.mono : ∀ a0 a1 k, LeO (sat_Add.f k a0 a1) (sat_Add.f (k + 1) a0 a1) := by
  intro a0 a1 k
  have ih0 := sat_Add.mono_l k
  unfold sat_Add.f
  repeat' first
      | (with_reducible exact ih0 _ _ _ _)
      | (with_reducible exact LeO.refl _)
      | (with_reducible exact LeO.none _)
      | (with_reducible refine LeO.ite ?_ ?_)
      | (with_reducible refine LeO.bind ?_ (fun _ => ?_))
      | exact ih0 _ _ _ _
      | exact LeO.none _
      | refine LeO.ite ?_ ?_
      | refine LeO.bind ?_ (fun _ => ?_)
set_option maxHeartbeats 8000000 in
set_option maxRecDepth 100000 in
theorem sat_Add.calls (k : Nat) (a0 : Int) (a1 : Int) (r : Int) (w : World) (h : sat_Add.f k a0 a1 = some r) :
    Calls Try.prog 39 #[.int .i64 a0, .int .i64 a1] w fun e w' => e = .returned (.int .i64 r) ∧ Drawn0 w w' := by
  have H : (if a0 > 0 then (if a1 > 0 then (sat_Add.j0 k a0 a1 (wrap64 (a0 + a1)) (decide ((wrap64 (a0 + a1)) ≤ 0))) else (sat_Add.j0 k a0 a1 (wrap64 (a0 + a1)) false)) else (sat_Add.j0 k a0 a1 (wrap64 (a0 + a1)) false)) = some r := h
  clear h
  have HC3 := Aside0.mk H
  clear H
  go_enter Try.func39, Try.ntmps39
  go_upto_region 2 with (fail)
  go_cut [9] (fun v9 wc => ∃ (kq : Nat) (x9_2 : Bool), v9 = .bool x9_2 ∧ Aside0 (sat_Add.j0 kq a0 a1 (wrap64 (a0 + a1)) x9_2 = some r) ∧ Aside0 (kq ≤ k) ∧ Drawn0 w wc)
  case first =>
    have H := HC3.out
    clear HC3
    by_cases c4 : a0 > 0
    · rw [if_pos c4] at H
      have c4b0 : decide (0 < a0) = true := decide_eq_true c4
      clear c4
      (first | rw [c4b0] | (simp only [i64_w, i32_w]; rw [c4b0]) | skip)
      by_cases c5 : a1 > 0
      · rw [if_pos c5] at H
        have c5b0 : decide (0 < a1) = true := decide_eq_true c5
        clear c5
        have H' := Aside0.mk H
        clear H
        go_wp2
        go_meet
        case rel => exact ⟨_, (decide ((wrap64 (a0 + a1)) ≤ 0)), (by first | rfl | (simp; done) | (simp [*]; done)), H', ⟨by first | omega | exact Nat.le_refl _⟩, by repeat (first | exact Drawn0.refl _ | apply Drawn0.step)⟩
      · rw [if_neg c5] at H
        have c5b0 : decide (0 < a1) = false := decide_eq_false c5
        clear c5
        have H' := Aside0.mk H
        clear H
        go_wp2
        go_meet
        case rel => exact ⟨_, (false), (by first | rfl | (simp; done) | (simp [*]; done)), H', ⟨by first | omega | exact Nat.le_refl _⟩, by repeat (first | exact Drawn0.refl _ | apply Drawn0.step)⟩
    · rw [if_neg c4] at H
      have c4b0 : decide (0 < a0) = false := decide_eq_false c4
      clear c4
      (first | rw [c4b0] | (simp only [i64_w, i32_w]; rw [c4b0]) | skip)
      have H' := Aside0.mk H
      clear H
      go_wp2
      go_meet
      case rel => exact ⟨_, (false), (by first | rfl | (simp; done) | (simp [*]; done)), H', ⟨by first | omega | exact Nat.le_refl _⟩, by repeat (first | exact Drawn0.refl _ | apply Drawn0.step)⟩
  case rest =>
    clear HC3
    try clear p2
    try clear c3
    try clear c4
    try clear c4b0
    try clear c5
    try clear c5b0
    obtain ⟨kq, x9_2, rfl, HA, HJ2, ⟨mc2, rfl⟩⟩ := hcut
    cases kq with
    | zero => exact absurd HA.out (by simp [sat_Add.j0])
    | succ kj2 =>
      have H := HA.out
      clear HA
      simp only [sat_Add.j0] at H
      by_cases c6 : x9_2 = true
      · subst c6
        have H1 : (some 9223372036854775807) = some r := by rw [if_pos rfl] at H; exact H
        clear H
        have H := H1
        clear H1
        obtain rfl := Option.some.inj H
        go_wp2
        go_ret
        exact ⟨by first | rfl | (simp; done) | (simp [*]; done), by repeat (first | exact Drawn0.refl _ | apply Drawn0.step)⟩
      · replace c6 := Bool.eq_false_iff.mpr c6
        subst c6
        have H1 : (if a0 < 0 then (if a1 < 0 then (if (wrap64 (a0 + a1)) ≥ 0 then (some (-9223372036854775808)) else (some (wrap64 (a0 + a1)))) else (some (wrap64 (a0 + a1)))) else (some (wrap64 (a0 + a1)))) = some r := by rw [if_neg (show ¬ (false = true) by decide)] at H; exact H
        clear H
        have H := H1
        clear H1
        by_cases c7 : a0 < 0
        · rw [if_pos c7] at H
          have c7b0 : decide (a0 < 0) = true := decide_eq_true c7
          clear c7
          by_cases c8 : a1 < 0
          · rw [if_pos c8] at H
            have c8b0 : decide (a1 < 0) = true := decide_eq_true c8
            clear c8
            by_cases c9 : (wrap64 (a0 + a1)) ≥ 0
            · rw [if_pos c9] at H
              have c9b0 : decide (0 ≤ (wrap64 (a0 + a1))) = true := decide_eq_true c9
              clear c9
              obtain rfl := Option.some.inj H
              go_wp2
              go_ret
              exact ⟨by first | rfl | (simp; done) | (simp [*]; done), by repeat (first | exact Drawn0.refl _ | apply Drawn0.step)⟩
            · rw [if_neg c9] at H
              have c9b0 : decide (0 ≤ (wrap64 (a0 + a1))) = false := decide_eq_false c9
              clear c9
              obtain rfl := Option.some.inj H
              go_wp2
              go_ret
              exact ⟨by first | rfl | (simp; done) | (simp [*]; done), by repeat (first | exact Drawn0.refl _ | apply Drawn0.step)⟩
          · rw [if_neg c8] at H
            have c8b0 : decide (a1 < 0) = false := decide_eq_false c8
            clear c8
            obtain rfl := Option.some.inj H
            go_wp2
            go_ret
            exact ⟨by first | rfl | (simp; done) | (simp [*]; done), by repeat (first | exact Drawn0.refl _ | apply Drawn0.step)⟩
        · rw [if_neg c7] at H
          have c7b0 : decide (a0 < 0) = false := decide_eq_false c7
          clear c7
          obtain rfl := Option.some.inj H
          go_wp2
          go_ret
          exact ⟨by first | rfl | (simp; done) | (simp [*]; done), by repeat (first | exact Drawn0.refl _ | apply Drawn0.step)⟩

end Go.Proofs.Ytgcbmhihiacgnaa.XIN
