-- Written by xprint.py (a program of this session) for this claim
import Derived.Test.YtbhgohomgfjjfaaSL12
import Derived.Deep.RegionLaw
import Derived.Test.YtbhgohomgfjjfaaSL5
import Derived.Test.YtbhgohomgfjjfaaXCOx0
namespace Go.Proofs.Ytbhgohomgfjjfaa.XCO
open Go.Proofs.YtbhgohomgfjjfaaV Go.Proofs.YtbhgohomgfjjfaaS
open Go.RowKit Go.Proofs.YtbhgohomgfjjfaaW.PrintWords Go.Proofs.YtbhgohomgfjjfaaW.PrintLast Go.Proofs.YtbhgohomgfjjfaaW.PrintMore
attribute [local go_sem] max2_int min2_int max_two min_two max_three min_three max_four min_four   -- for this text's walks alone
set_option linter.unusedVariables false
set_option linter.unusedSimpArgs false

-- NOT PRINTED: function 38 (api_Cool_38)

/-! ### slices_Clone_int_int: function 39 -/
def slices_Clone_int_int.f (l0 : List Int) : Option (List Int) := (some (([] : List Int) : List Int)).bind fun y101 => (if y101.length + l0.length < 17592186044416 then (some (y101 ++ l0)) else (none))
set_option maxHeartbeats 8000000 in
set_option maxRecDepth 100000 in
theorem slices_Clone_int_int.calls (A0 : Option Addr) (c0 : Nat) (l0 : List Int) (r : List Int) (w : World) (hr0 : Kd.C (Kd.int .i64) w A0 l0.length l0) (hc0 : l0.length ≤ c0) (h : slices_Clone_int_int.f l0 = some r) :
    Calls Try.prog 39 #[.slice A0 l0.length c0] w fun e w' => ∃ v0_ : Value, e = .returned (v0_) ∧ Kd.R (Kd.int .i64) 3 w' w.heap.size (fun _ => True) v0_ r ∧ Below w.heap.size w w' := by
  cases A0 with
  | none =>
    have hl0 : l0 = [] := by
      cases l0 with
      | nil => rfl
      | cons z_ zs_ => obtain ⟨ad_, e_, _⟩ := hr0.2.2 (by simp); cases e_
    subst hl0
    have hr_ : r = [] := by simpa [slices_Clone_int_int.f] using h.symm
    subst hr_
    have hnil := fun (w : World) => Lib.run_eql_slice_nil (P := Try.prog) w 33 3 none ([] : List Int).length c0 0 0 Try.underlying33
    have hnil0 := fun (w : World) => Lib.run_eql_slice_nil (P := Try.prog) w 33 3 none 0 c0 0 0 Try.underlying33
    go_enter Try.func39, Try.ntmps39
    go_wp2
    go_ret
    exact ⟨_, rfl, Kd.R_nil _ _ _ _ _, Below.refl _ _⟩
  | some A0 =>
    have hnil := fun (w : World) => Lib.run_eql_slice_nil (P := Try.prog) w 33 3 (some A0) l0.length c0 0 0 Try.underlying33
    have HR0 := Aside0.mk hr0
    have HC0 := Aside0.mk hc0
    clear hr0 hc0
    have HB := Aside0.mk (Below.refl w.heap.size w)
    have H : ((some (([] : List Int) : List Int)).bind fun y101 => (if y101.length + l0.length < 17592186044416 then (some (y101 ++ l0)) else (none))) = some r := h
    clear h
    obtain ⟨y101, hy101⟩ : ∃ y_ : List Int, y_ = (([] : List Int)) := ⟨_, rfl⟩
    replace H : (if y101.length + l0.length < 17592186044416 then (some (y101 ++ l0)) else (none)) = some r := by first | (rw [hy101]; with_reducible exact H) | (have H2_ := (Option.bind_some _ _).symm.trans H; rw [hy101]; with_reducible exact H2_) | (have H2_ := (Option.bind_some _ _).symm.trans H; with_reducible exact H2_) | with_reducible exact H | (rw [hy101]; exact H) | exact H
    have Ny101 := Aside0.mk hy101
    clear hy101
    by_cases c2 : y101.length + l0.length < 17592186044416
    · rw [if_pos c2] at H
      have LMc2 := Aside0.mk c2
      clear c2
      obtain ⟨y104, hy104⟩ : ∃ y_ : List Int, y_ = (y101 ++ l0) := ⟨_, rfl⟩
      replace H : (some y104) = some r := by first | (rw [hy104]; with_reducible exact H) | (have H2_ := (Option.bind_some _ _).symm.trans H; rw [hy104]; with_reducible exact H2_) | (have H2_ := (Option.bind_some _ _).symm.trans H; with_reducible exact H2_) | with_reducible exact H | (rw [hy104]; exact H) | exact H
      have Ny104 := Aside0.mk hy104
      clear hy104
      obtain rfl := Option.some.inj H
      go_enter Try.func39, Try.ntmps39
      go_wp2_with (first | ((with_reducible refine gate_dst (N := 5) rfl ?_); refine Kd.R_lit (Kd.int .i64) _ 3 ?hg (N := 5) ?hd (xs := ([] : List Int)) (inner := []) (ok := fun _ => True) (okp := fun _ => True) ?hr ?hp (fun _ hk => hk) trivial (Below.refl _ _) (Nat.le_refl _) (by simp) ?_; (case hd => rfl); (case hg => rfl); (case hr => first | (go_simp; done) | (go_simp; rfl)); (case hp => exact (Reps.none _ _)); intro v102 w3 ho4 hb hg_ hnew_; clear hg_ hnew_; (first | rw [← Ny101.out] at ho4 | (simp only [Int.reduceToNat] at ho4; rw [← Ny101.out] at ho4)); have n0_ := Aside0.mk (Kd.R_lower ho4 (below_size (by repeat (first | (with_reducible first | exact HB.out | apply below_alloc | apply pw_below_drewN | apply below_drew1) | exact HB.out)))); have n1_ := Aside0.mk (below_step (by repeat (first | (with_reducible first | exact HB.out | apply below_alloc | apply pw_below_drewN | apply below_drew1) | exact HB.out)) hb); clear HB; have HO103 := n0_; have HB := n1_; clear n0_ n1_; clear hb ho4) | ((with_reducible refine gate_builtin (b := .append) (xs := #[.tmp 5, .tmp 6]) rfl ?_); at_builtin; refine Kd.R_append_rows (Kd.int .i64) (w0 := w) w.heap.size rfl (.tmp 5) (.tmp 6) 33 3 (.int .i64 0) 8 rfl Try.underlying33 info3 rfl (by decide) (by omega) v102 y101 l0 _ _ _ (fun _ => True) (fun _ => False) rfl rfl ?aO ?aR (fun _ _ h => h) (fun _ h => h.elim) ?aF ?aB ?aS ?aL ?_; (case aR => repeat (first | exact (Kd.C_below HR0.out HB.out) | (with_reducible refine Kd.C_alloc ?_ _) | (with_reducible refine Kd.C_drewN ?_ _) | (with_reducible refine Kd.C_drew ?_))); (case aB => exact (by repeat (first | (with_reducible first | exact HB.out | apply below_alloc | apply pw_below_drewN | apply below_drew1) | exact HB.out))); (case aF => exact (fun _ _ => trivial)); (case aO => exact (by (with_reducible repeat (first | apply Kd.R_alloc | apply Kd.R_drewN | apply Kd.R_drew)); exact HO103.out)); (case aS => exact (below_size (by repeat (first | (with_reducible first | exact HB.out | apply below_alloc | apply pw_below_drewN | apply below_drew1) | exact HB.out)))); (case aL => have := LMc2.out; omega); intro v105 w5 ho hb hg hat; rw [← Ny104.out] at ho; have n0_ := Aside0.mk (hb); have n1_ := Aside0.mk (ho); clear HB; clear HO103; have HB := n0_; have HO106 := n1_; clear n0_ n1_; clear ho hb hg hat))
      go_ret
      exact ⟨_, by first | rfl | (simp [errW_none, errW_some] <;> rfl) | (simp [*, errW_none, errW_some] <;> rfl), by (with_reducible repeat (first | apply Kd.R_alloc | apply Kd.R_drewN | apply Kd.R_drew)); exact HO106.out, by repeat (first | (with_reducible first | exact HB.out | apply below_alloc | apply pw_below_drewN | apply below_drew1) | exact HB.out)⟩
    · rw [if_neg c2] at H
      exact absurd H (by simp)

-- NOT PRINTED: function 24 (cool_copied)

-- NOT PRINTED: function 26 (api_Cool_26)

-- NOT PRINTED: function 32 (api_Cool_32)

-- NOT PRINTED: function 33 (cool_Reset_1)

-- NOT PRINTED: function 7000002 (api_Cool_26_c33)

-- NOT PRINTED: function 7000001 (api_Cool_32_c33)

/-! #### elements of type 35 over a row -/
theorem ro_at_T35 {S : Nat → Prop} {w : World} {A : Option Addr} {n : Nat} {xs : List S35} (h : RO S w (fun w_ => Kd.C k35 w_ A n xs)) (i : Int) (h0 : 0 ≤ i) (h1 : i < n) : ∃ ad A1 c1, A = some ad ∧ (∀ w', Keep S w w' → w'.cell? (ad.add (i.toNat * 2)) = some (.int .i64 (rd_T35 xs i).f0)) ∧ (∀ w', Keep S w w' → w'.cell? ⟨(ad.add (i.toNat * 2)).block, (ad.add (i.toNat * 2)).off + 1, none⟩ = some (.slice A1 (rd_T35 xs i).f1.length c1)) ∧ RO S w (fun w_ => (Kd.int .i64).C w_ A1 (rd_T35 xs i).f1.length (rd_T35 xs i).f1) ∧ (rd_T35 xs i).f1.length ≤ c1 := by
  obtain ⟨ad, cs, hA, hl, hk⟩ := RO.elem h z35 i h0 h1 (show 0 < 2 by omega)
  obtain ⟨A1, c1, hcs, l1, g1⟩ := k35_open (hk w (.refl _ _)).1
  subst hcs
  refine ⟨ad, A1, c1, hA, fun w' hw => (hk w' hw).2 0 _ rfl, fun w' hw => ?_, fun w' hw => ?_, l1⟩
  · rw [← add_field _ _ 1 (by omega)]; exact (hk w' hw).2 1 _ rfl
  · obtain ⟨A2, c2, hcs2, _, g2⟩ := k35_open (hk w' hw).1
    injection hcs2 with _ hcs3
    injection hcs3 with hcs4 _
    injection hcs4 with e1 _ _
    subst e1
    exact g2
def inn35 (x : S35) (cs : List Value) : Asr where
  H w S := ∃ v, cs = [.int .i64 x.f0, v] ∧ Qs (Kd.int .i64) 3 w 0 S v x.f1
  mono hs h := let ⟨v, h1, h2⟩ := h; ⟨v, h1, Qs_mono h2 hs⟩
  bound h := let ⟨v, h1, h2⟩ := h; ⟨v, h1, Qs_mono (Qs_bound h2) (fun _ hk => ⟨hk.1, hk.2.2.1⟩)⟩
  move hm h := let ⟨v, h1, h2⟩ := h; ⟨v, h1, Qs_move h2 hm⟩
theorem reads_inn35 : Reads inn35 k35 := ⟨fun ⟨v, h1, h2⟩ => by
  obtain ⟨A, c, rfl, hl, hr⟩ := Qs_reads h2
  subst h1
  exact k35_mk _ _ hl hr⟩
theorem inn35_open {x : S35} {cs : List Value} {L : List Asr} {w : World} {S : Nat → Prop} (h : SL (inn35 x cs :: L) w S) : ∃ A1 c1, cs = [.int .i64 x.f0, .slice A1 x.f1.length c1] ∧ x.f1.length ≤ c1 ∧ SL (row (Kd.int .i64) 3 (.slice A1 x.f1.length c1) x.f1 :: L) w S := by
  obtain ⟨T, U, h1, h2, h3, ⟨v, h4, h5⟩, h6⟩ := h
  have h7 : SL (row (Kd.int .i64) 3 v x.f1 :: L) w S := ⟨T, U, h1, h2, h3, h5, h6⟩
  obtain ⟨A1, c1, rfl, hl, _⟩ := SL.row_reads h7
  exact ⟨A1, c1, h4, hl, h7⟩
theorem inn35_shut {x : S35} {v : Value} {L : List Asr} {w : World} {S : Nat → Prop} (h : SL (row (Kd.int .i64) 3 v x.f1 :: L) w S) : SL (inn35 x [.int .i64 x.f0, v] :: L) w S := SL.imp (fun T hT => ⟨_, rfl, hT⟩) h
theorem sz35 : (k35 : Kd S35).sz = 2 := rfl

/-! ### cool_copied: function 24, by hand -/
theorem list_choose {β : Type} (P : Nat → β → Prop) : ∀ n : Nat, (∀ j, j < n → ∃ b, P j b) → ∃ l : List β, l.length = n ∧ ∀ j b, l[j]? = some b → P j b
  | 0, _ => ⟨[], rfl, fun j b h => by simp at h⟩
  | n + 1, h => by
    obtain ⟨l, hl, hp⟩ := list_choose P n (fun j hj => h j (by omega))
    obtain ⟨b, hb⟩ := h n (by omega)
    refine ⟨l ++ [b], by simp [hl], fun j b' hj => ?_⟩
    rw [List.getElem?_append] at hj
    split at hj
    · exact hp j b' hj
    · have hj1 := (List.getElem?_eq_some_iff.1 hj).1
      simp at hj1
      have : j = n := by omega
      subst this
      rw [hl, Nat.sub_self] at hj
      injection hj with hj
      exact hj ▸ hb
/-- What came in, as cells. -/
theorem ro_raw35 {S : Nat → Prop} {w : World} {A : Option Addr} {n : Nat} {xs : List S35} (h : RO S w (fun w_ => Kd.C k35 w_ A n xs)) :
    ∃ css : List (List Value), css.length = n ∧ (∀ w', Keep S w w' → Kd.C (raw 2) w' A n css) ∧ ∀ (j : Nat) (cs : List Value), css[j]? = some cs → ∃ A1 c1, cs = [.int .i64 (rd_T35 xs j).f0, .slice A1 (rd_T35 xs j).f1.length c1] ∧ (rd_T35 xs j).f1.length ≤ c1 ∧ RO S w (fun w_ => (Kd.int .i64).C w_ A1 (rd_T35 xs j).f1.length (rd_T35 xs j).f1) := by
  have hnow := h w (.refl _ _)
  obtain ⟨css, hl, hp⟩ := list_choose (fun (j : Nat) (cs : List Value) => ∃ ad, A = some ad ∧ (∀ w', Keep S w w' → ∀ t u, cs[t]? = some u → w'.cell? (ad.add (j * 2 + t)) = some u) ∧ ∃ A1 c1, cs = [.int .i64 (rd_T35 xs j).f0, .slice A1 (rd_T35 xs j).f1.length c1] ∧ (rd_T35 xs j).f1.length ≤ c1 ∧ RO S w (fun w_ => (Kd.int .i64).C w_ A1 (rd_T35 xs j).f1.length (rd_T35 xs j).f1)) n (fun j hj => by
    obtain ⟨ad, cs, hA, hl, hk⟩ := RO.elem h z35 (j : Int) (by omega) (by omega) (show 0 < 2 by omega)
    obtain ⟨A1, c1, hcs, l1, g1⟩ := k35_open (hk w (.refl _ _)).1
    refine ⟨cs, ad, hA, fun w' hw => (hk w' hw).2, A1, c1, hcs, l1, fun w' hw => ?_⟩
    obtain ⟨A2, c2, hcs2, _, g2⟩ := k35_open (hk w' hw).1
    rw [hcs] at hcs2
    injection hcs2 with _ hcs3
    injection hcs3 with hcs4 _
    injection hcs4 with e1 _ _
    subst e1
    exact g2)
  refine ⟨css, hl, fun w' hw => ⟨hl.symm ▸ rfl, hnow.2.1, fun hpos => ?_⟩, fun j cs hj => ?_⟩
  · obtain ⟨ad, hA, _⟩ := hp 0 css[0] (List.getElem?_eq_getElem (by omega))
    refine ⟨ad, hA, fun j p hj => ?_⟩
    obtain ⟨ad2, hA2, hc, A1, c1, hcs, _⟩ := hp j p hj
    rw [hA] at hA2
    injection hA2 with hA2
    subst hA2
    refine ⟨p, by rw [hcs]; rfl, ⟨rfl, by rw [hcs]; rfl, fun u hu => ?_⟩, hc w' hw⟩
    rw [hcs] at hu
    simp at hu
    rcases hu with rfl | rfl <;> rfl
  · obtain ⟨_, _, _, h2⟩ := hp j cs hj
    exact h2
/-- slices.Clone of such a row: the cells alone. -/
theorem clone_35 (A0 : Option Addr) (c0 : Nat) (css : List (List Value)) (S : Nat → Prop) (L : List Asr) (w : World) (hf : Fresh S w) (hs : SL L w S) (hr : ∀ w', Keep S w w' → Kd.C (raw 2) w' A0 css.length css) (hn : css.length < 100000) :
    Calls Try.prog 38 #[.slice A0 css.length c0] w fun e w' => ∃ (Ar : Option Addr) (cr : Nat), e = .returned (.slice Ar css.length cr) ∧ SL (row (raw 2) 35 (.slice Ar css.length cr) css :: L) w' S ∧ Keep S w w' := by
  cases A0 with
  | none =>
    have hl0 : css = [] := by
      cases css with
      | nil => rfl
      | cons z_ zs_ => obtain ⟨ad_, e_, _⟩ := (hr w (.refl _ _)).2.2 (by simp); cases e_
    subst hl0
    have hnil := fun (w : World) => Lib.run_eql_slice_nil (P := Try.prog) w 22 35 none ([] : List Int).length c0 0 0 Try.underlying22
    have hnil0 := fun (w : World) => Lib.run_eql_slice_nil (P := Try.prog) w 22 35 none 0 c0 0 0 Try.underlying22
    clear hr hn
    go_enter Try.func38, Try.ntmps38
    go_wp2
    go_ret
    exact ⟨none, 0, rfl, SL.nil_row (raw 2) 35 hs, Keep.refl _ _⟩
  | some A0 =>
    have hnil := fun (w : World) => Lib.run_eql_slice_nil (P := Try.prog) w 22 35 (some A0) css.length c0 0 0 Try.underlying22
    have HF := Aside0.mk hf
    have HS := Aside0.mk hs
    have HR := Aside0.mk hr
    have HN := Aside0.mk hn
    have HK := Aside0.mk (Keep.refl S w)
    clear hf hs hr hn
    go_enter Try.func38, Try.ntmps38
    go_wp2_with (first
      | ((with_reducible refine gate_dst (N := 5) rfl ?_); refine wpList_plain rfl (fun K_ hK_ => ?_); refine op_rowF (flat_raw 2) (S := S) 35 [] #[] 0 (Reps.none _ _) rfl (by omega) (HF.out.keep HK.out) HS.out (by first | (go_simp; done) | (go_simp; rfl)) ?_; intro Az cz w2 hs_ hk_; refine hK_ _ _ ?_; clear hK_ K_; replace HS := Aside0.mk hs_; replace HK := Aside0.mk (HK.out.trans hk_); clear hs_ hk_)
      | ((with_reducible refine gate_dst (N := 7) rfl ?_); refine wpList_plain rfl (fun K_ hK_ => ?_); refine op_appendF (S := S) (d := raw 2) (flat_raw 2) (.tmp 5) (.tmp 6) 22 35 (.agg #[(.int .i64 0), (.slice none 0 0)]) 32 rfl Try.underlying22 info35 rfl (by decide) (by decide) (.slice Az 0 cz) rfl rfl (HF.out.keep HK.out) HS.out (HR.out _ HK.out) (by have h1_ := HN.out; simp only [List.length_nil]; omega) css rfl ?_; intro An cn w3 hs_ hk_; refine hK_ _ _ ?_; clear hK_ K_; replace HS := Aside0.mk hs_; replace HK := Aside0.mk (HK.out.trans hk_); clear hs_ hk_))
    go_ret
    exact ⟨An, cn, rfl, HS.out, HK.out⟩
def cool_copied.f (l0 : List S35) : Option (List S35) := if l0.length < 100000 ∧ ∀ x ∈ l0, x.f1.length < 100000 then some l0 else none
def cool_copied.Post (r : List S35) (S : Nat → Prop) (L : List Asr) (w : World) (e : Ending) (w' : World) : Prop := ∃ (Ar1 : Option Addr) (cr1 : Nat), e = .returned (.slice Ar1 r.length cr1) ∧ SL (rows inn35 2 35 (.slice Ar1 r.length cr1) r :: L) w' S ∧ Keep S w w'
theorem cool_copied.slcalls (A0 : Option Addr) (c0 : Nat) (l0 : List S35) (r : List S35) (S : Nat → Prop) (L : List Asr) (w : World) (hf : Fresh S w) (hs : SL L w S) (hr0 : RO S w (fun w_ => Kd.C k35 w_ A0 l0.length l0)) (hc0 : l0.length ≤ c0) (h : cool_copied.f l0 = some r) :
    Calls Try.prog 24 #[.slice A0 l0.length c0] w (cool_copied.Post r S L w) := by
  unfold cool_copied.f at h
  by_cases hb : l0.length < 100000 ∧ ∀ x ∈ l0, x.f1.length < 100000
  · rw [if_pos hb] at h
    obtain rfl := Option.some.inj h
    obtain ⟨hn, hi⟩ := hb
    obtain ⟨css, hcl, hcr, hce⟩ := ro_raw35 hr0
    obtain ⟨n, hnn⟩ : ∃ n, l0.length = n := ⟨_, rfl⟩
    rw [hnn] at hcl hn hcr hc0 ⊢
    have HF := Aside0.mk hf
    have HS := Aside0.mk hs
    have HCR := Aside0.mk hcr
    have HCE := Aside0.mk hce
    have HI := Aside0.mk hi
    have HCL := Aside0.mk hcl
    have HNN := Aside0.mk hnn
    have HN := Aside0.mk hn
    have HK := Aside0.mk (Keep.refl S w)
    clear hf hs hr0 hc0 h hcr hce hi hcl hnn
    have hu35 := Try.underlying35
    go_enter Try.func24, Try.ntmps24
    go_wp2_with (first | ((with_reducible refine gate_callee (f := 38) rfl ?_); refine goesL_ (some 7) rfl rfl Try.func38 (by kernel_rfl) rfl #[.slice A0 n c0] rfl (by (try simp only [List.map_toArray, List.map_cons, List.map_nil]); first | done | rfl | (simp; done)) ?_; refine (HCL.out ▸ clone_35 A0 c0 css S L w HF.out HS.out (fun w_ hw_ => HCL.out.symm ▸ HCR.out w_ hw_) (by have h1_ := HN.out; have h2_ := HCL.out; omega)).mono ?_; rintro e_ w2 ⟨Ar, cr, rfl, hs_, hk_⟩; refine ⟨_, rfl, ?_⟩; replace HS := Aside0.mk hs_; replace HK := Aside0.mk (HK.out.trans hk_); clear hs_ hk_; refine stop_ ?_; intro G_ hG_))
    refine hG_.out ?_
    go_wp2
    go_loopg [10] (n + 1) (fun kq v10 w' => ∃ (x : Int) (m : Nat) (css2 : List (List Value)), v10 = .int .i64 x ∧ x = (m : Int) ∧ m ≤ n ∧ Aside0 (kq + m = n + 1) ∧ Aside0 (css2.length = n) ∧ Aside0 (∀ j, m ≤ j → css2[j]? = css[j]?) ∧ Aside0 (SL (row (raw 2) 35 (.slice Ar n cr) css2 :: (List.zipWith inn35 (l0.take m) (css2.take m) ++ L)) w' S) ∧ Aside0 (Keep S w w'))
    case atStart => exact ⟨0, 0, css, rfl, rfl, Nat.zero_le _, ⟨rfl⟩, HCL, ⟨fun _ _ => rfl⟩, HS, HK⟩
    case round =>
      clear HS HK hG_ G_
      obtain ⟨x, m, css2, rfl, hx, hmn, HQ, HL2, HJ, HS, HK⟩ := hrel
      cases gk with
      | zero => exact absurd HQ.out (by omega)
      | succ k1 =>
        by_cases c1 : x < (n : Int)
        · have c1b0 : decide (x < (n : Int)) = true := decide_eq_true c1
          have hlt : m < n := by omega
          have hmc : m < css.length := by have := HCL.out; omega
          have hml : m < l0.length := by have := HNN.out; omega
          have hx2 : css2[m]? = some css[m] := (HJ.out m (Nat.le_refl _)).trans (List.getElem?_eq_getElem hmc)
          obtain ⟨A1, c1_, hcs, l1, g1⟩ := HCE.out m css[m] (List.getElem?_eq_getElem hmc)
          have hgd : css2.getD x.toNat [] = css[m] := by rw [hx, Int.toNat_natCast, List.getD_eq_getElem?_getD, hx2]; rfl
          have hrd : rd_T35 l0 (m : Int) = l0[m] := by unfold rd_T35; rw [Int.toNat_natCast, List.getD_eq_getElem?_getD, List.getElem?_eq_getElem hml]; rfl
          have hbd : (rd_T35 l0 (m : Int)).f1.length < 100000 := by rw [hrd]; exact HI.out _ (List.getElem_mem hml)
          obtain ⟨X, hX⟩ : ∃ X, X = rd_T35 l0 (m : Int) := ⟨_, rfl⟩
          rw [← hX] at hcs l1 g1 hrd hbd
          have p0 : 0 ≤ (x : Int) := by omega
          obtain ⟨ad, cs, hA, hcl2, hK2, hcell⟩ := Kd.C_get (SL.row_c HS.out).2.2 [] x p0 c1
          subst hA
          have hcse : cs = [.int .i64 X.f0, .slice A1 X.f1.length c1_] := by rw [← hcs, ← hgd]; exact hK2.1
          subst hcse
          have hx0 : wr.cell? (ad.add (x.toNat * 2)) = some (.int .i64 X.f0) := hcell 0 _ rfl
          have hx1 : wr.cell? ⟨(ad.add (x.toNat * 2)).block, (ad.add (x.toNat * 2)).off + 1, none⟩ = some (.slice A1 X.f1.length c1_) := by rw [← add_field _ _ 1 (by omega)]; exact hcell 1 _ rfl
          clear hcell hK2 hcl2
          have HS1 := Aside0.mk HS.out
          have HX0 := Aside0.mk (⟨hx, hlt, hx2, hrd, hgd.trans hcs⟩ : x = (m : Int) ∧ m < n ∧ css2[m]? = some css[m] ∧ X = l0[m] ∧ css2.getD x.toNat [] = [.int .i64 X.f0, .slice A1 X.f1.length c1_])
          have HB := Aside0.mk hbd
          have HL1 := Aside0.mk l1
          have HG1 := Aside0.mk g1
          have HP := Aside0.mk (⟨p0, c1⟩ : 0 ≤ x ∧ x < (n : Int))
          have q0 := eq_true p0
          have q1 := eq_true c1
          clear hx hx2 hrd hgd hcs hbd l1 g1 hX p0 c1 hlt
          go_wp2_with (first
            | ((with_reducible refine gate_dst (N := 5) rfl ?_); refine wpList_plain rfl (fun K_ hK_ => ?_); refine op_box (S := S) (cs := #[.int .i64 0, .slice none 0 0]) (t := 35) (HF.out.keep HK.out) HS.out (by first | (go_simp; done) | (go_simp; rfl)) ?_; intro gb w4 hs_ hk_; refine hK_ _ _ ?_; clear hK_ K_; replace HS := Aside0.mk (hs_); replace HK := Aside0.mk (HK.out.trans hk_))
            | ((with_reducible refine gate_store (t := 35) (p := 5) (v := (.tmp 14)) rfl ?_); refine wpList_plain rfl (fun K_ hK_ => ?_); refine op_store (S := S) 35 (.tmp 5) (.tmp 14) rfl gb 0 (.agg #[.int .i64 X.f0, .slice A1 X.f1.length c1_]) [.int .i64 X.f0, .slice A1 X.f1.length c1_] rfl rfl rfl (by kernel_rfl) (by simp [Value.oneCell']) HS.out (by simp) ?_; intro w5 hs_ hk_; refine hK_ _ _ ?_; clear hK_ K_; replace HS := Aside0.mk ((show SL (cells gb 35 [.int .i64 X.f0, .slice A1 X.f1.length c1_].toArray :: _) _ _ from hs_)); replace HK := Aside0.mk (HK.out.trans hk_); have hb_ := SL.at_ HS.out; have hz0 := ((blk_cell hb_ 0).trans rfl : _ = some (.int .i64 X.f0)); have hz1 := ((blk_cell hb_ 1).trans rfl : _ = some (.slice A1 X.f1.length c1_)); clear hb_)
            | ((with_reducible refine gate_callee (f := 39) rfl ?_); refine goesL_ (some 19) rfl rfl Try.func39 (by kernel_rfl) rfl #[.slice A1 X.f1.length c1_] rfl (by (try simp only [List.map_toArray, List.map_cons, List.map_nil]); first | done | rfl | (simp; done)) ?_; refine (slices_Clone_int_int.calls _ _ _ X.f1 _ (RO.at_ HG1.out HK.out) HL1.out (by have h1_ := HB.out; unfold slices_Clone_int_int.f; simp; omega)).mono ?_; rintro e_ w6 ⟨v0_, rfl, ho_, hb_⟩; refine ⟨_, rfl, ?_⟩; have hs_ := (SL.new (HF.out.keep HK.out) HS.out hb_ (row_of_R ho_)).1; obtain ⟨Az, cz, e2_, _, _⟩ := SL.row_reads hs_; subst e2_; replace HS := Aside0.mk hs_; replace HK := Aside0.mk (HK.out.trans (Keep.below hb_)); clear hs_ ho_ hb_ hz0 hz1; refine stop_ ?_; intro G_ hG_))
          refine hG_.out ?_
          go_wp2_with ((with_reducible refine gate_store (t := 33) (p := 21) (v := (.tmp 19)) rfl ?_); refine wpList_plain rfl (fun K_ hK_ => ?_); refine op_setF (flat_raw 2) (S := S) 33 (.tmp 21) (.tmp 19) rfl ad x [] 1 [.slice Az X.f1.length cz] (.slice Az X.f1.length cz) (SL.get2 HS.out) ⟨(ad.add (x.toNat * 2)).block, (ad.add (x.toNat * 2)).off + 1, none⟩ (fun g o h_ => by subst h_; rw [Addr.add_lit]; rfl) rfl rfl rfl (by kernel_rfl) (by simp [Value.oneCell']) HP.out.1 HP.out.2 (by show 1 + 1 ≤ 2; omega) [.int .i64 X.f0, .slice Az X.f1.length cz] (fun c hc_ => by have h2_ := hc_.1; rw [HX0.out.2.2.2.2] at h2_; subst h2_; exact ⟨rfl, rfl, fun u hu => by simp at hu; rcases hu with rfl | rfl <;> rfl⟩) (css2.set m [.int .i64 X.f0, .slice Az X.f1.length cz]) (by rw [HX0.out.1, Int.toNat_natCast]) ?_; intro w7 hs_ hk_; refine hK_ _ _ ?_; clear hK_ K_; replace HS := Aside0.mk hs_; replace HK := Aside0.mk (HK.out.trans hk_); clear hs_ hk_)
          go_roundg k1
          case measure => have := HQ.out; omega
          case rel =>
            have hx := HX0.out.1
            have hw : wrap64 (x + 1) = ((m + 1 : Nat) : Int) := by have := HN.out; have := HX0.out.2.1; rw [ins_wrap _ (by omega) (by omega)]; omega
            refine ⟨wrap64 (x + 1), m + 1, css2.set m [.int .i64 X.f0, .slice Az X.f1.length cz], rfl, hw, HX0.out.2.1, ⟨by have := HQ.out; omega⟩, ⟨by rw [List.length_set]; exact HL2.out⟩, ⟨fun j hj => ?_⟩, ⟨?_⟩, HK⟩
            · rw [List.getElem?_set_ne (by omega)]
              exact HJ.out j (by omega)
            · have h1_ := HS.out
              have hml2 : m < css2.length := by have := HL2.out; have := HX0.out.2.1; omega
              have e1 : (css2.set m [.int .i64 X.f0, .slice Az X.f1.length cz]).take (m + 1) = css2.take m ++ [[.int .i64 X.f0, .slice Az X.f1.length cz]] := by
                rw [List.take_add_one, List.getElem?_set_self hml2, List.take_set_of_le (Nat.le_refl m)]; rfl
              have e2 : l0.take (m + 1) = l0.take m ++ [X] := by
                rw [List.take_add_one, List.getElem?_eq_getElem hml, HX0.out.2.2.2.1]; rfl
              rw [e1, e2, List.zipWith_append (by rw [List.length_take, List.length_take]; omega), List.append_assoc]
              refine SL.cons (fun _ _ h3_ => SL.perm (List.perm_middle (l₁ := List.zipWith inn35 (l0.take m) (css2.take m))).symm (SL.imp (fun T hT => ?_) (SL.cons (fun _ _ => SL.tail) h3_))) h1_
              exact ⟨_, rfl, hT⟩
        · have c1b0 : decide (x < (n : Int)) = false := decide_eq_false c1
          have : m = n := by omega
          subst this
          go_wp2
          go_ret
          have h1_ := HS.out
          rw [List.take_of_length_le (by have := HNN.out; omega), List.take_of_length_le (by have := HL2.out; omega)] at h1_
          exact ⟨Ar, cr, by rw [HNN.out]; rfl, by rw [HNN.out]; exact rows_close (by have := HNN.out; have := HL2.out; omega) h1_, HK.out⟩
  · rw [if_neg hb] at h
    cases h

/-! ### cool_Reset_1_i1: function 33 -/
def cool_Reset_1_i1.f (a0_0 : Int) (l0_1 : List Int) (s0_0 : Int) : Option (Bool × Int) := if a0_0 = s0_0 then (some (true, s0_0)) else (some (false, s0_0))
def cool_Reset_1_i1.Post (b0 : Nat) (r1 : Bool) (r2 : Int) (S : Nat → Prop) (L : List Asr) (w : World) (e : Ending) (w' : World) : Prop := e = .returned (.bool r1) ∧ SL (cells b0 3 [.int .i64 r2].toArray :: L) w' S ∧ Keep S w w'
set_option maxHeartbeats 8000000 in
set_option maxRecDepth 100000 in
theorem cool_Reset_1_i1.slcalls (a0_0 : Int) (A0_1 : Option Addr) (c0_1 : Nat) (l0_1 : List Int) (b0 : Nat) (s0_0 : Int) (r1 : Bool) (r2 : Int) (S : Nat → Prop) (L : List Asr) (w : World) (hf : Fresh S w) (hs : SL (cells b0 3 [.int .i64 s0_0].toArray :: L) w S) (hr0_1 : RO S w (fun w_ => Kd.C (Kd.int .i64) w_ A0_1 l0_1.length l0_1)) (hc0_1 : l0_1.length ≤ c0_1) (h : cool_Reset_1_i1.f a0_0 l0_1 s0_0 = some (r1, r2)) :
    Calls Try.prog 33 #[.agg #[.int .i64 a0_0, .slice A0_1 l0_1.length c0_1], .pointer (some ⟨b0, 0, none⟩)] w (cool_Reset_1_i1.Post b0 r1 r2 S L w) := by
  have HR0_1 := Aside0.mk hr0_1
  have HC0_1 := Aside0.mk hc0_1
  clear hr0_1 hc0_1
  have HF := Aside0.mk hf
  have HS := Aside0.mk hs
  have HK := Aside0.mk (Keep.refl S w)
  clear hf hs
  have hu35 := Try.underlying35
  have H : (if a0_0 = s0_0 then (some (true, s0_0)) else (some (false, s0_0))) = some (r1, r2) := h
  clear h
  by_cases c1 : a0_0 = s0_0
  · rw [if_pos c1] at H
    have c1b0 : (a0_0 == s0_0) = true := beq_iff_eq.mpr c1
    have c1b1 : (a0_0 != s0_0) = false := bne_eq_false_iff_eq.mpr c1
    clear c1
    simp only [Option.some.injEq, Prod.mk.injEq] at H
    obtain ⟨rfl, rfl⟩ := H
    go_enter Try.func33, Try.ntmps33
    go_wp2_with (first | ((with_reducible refine gate_dst (N := 2) rfl ?_); refine wpList_plain rfl (fun K_ hK_ => ?_); refine op_box (S := S) (cs := #[.int .i64 a0_0, .slice A0_1 l0_1.length c0_1]) (t := 35) (HF.out.keep HK.out) HS.out (by first | (go_simp; done) | (go_simp; rfl)) ?_; intro g3000002 w2 hs_ hk_; refine hK_ _ _ ?_; clear hK_ K_; replace HS := Aside0.mk (hs_); replace HK := Aside0.mk (HK.out.trans hk_); have hb_ := SL.at_ HS.out; have hz3000002_0_1 := ((blk_cell hb_ 0).trans rfl : _ = some (.int .i64 a0_0)); have hz3000002_1_1 := ((blk_cell hb_ 1).trans rfl : _ = some (.slice A0_1 l0_1.length c0_1)); clear hb_; have hb_ := SL.at_ (SL.get1 HS.out); have hz0_0_1 := ((blk_cell hb_ 0).trans rfl : _ = some (.int .i64 s0_0)); clear hb_))
    go_ret
    replace HS := Aside0.mk (SL.tail HS.out)
    unfold cool_Reset_1_i1.Post
    exact ⟨by first | rfl | (simp; done) | (simp [*]; done) | (simp at c1b0 ⊢; first | exact c1b0 | (simp [c1b0]; done)), HS.out, HK.out⟩
  · rw [if_neg c1] at H
    have c1b0 : (a0_0 == s0_0) = false := beq_eq_false_iff_ne.mpr c1
    have c1b1 : (a0_0 != s0_0) = true := bne_iff_ne.mpr c1
    simp only [Option.some.injEq, Prod.mk.injEq] at H
    obtain ⟨rfl, rfl⟩ := H
    go_enter Try.func33, Try.ntmps33
    go_wp2_with (first | ((with_reducible refine gate_dst (N := 2) rfl ?_); refine wpList_plain rfl (fun K_ hK_ => ?_); refine op_box (S := S) (cs := #[.int .i64 a0_0, .slice A0_1 l0_1.length c0_1]) (t := 35) (HF.out.keep HK.out) HS.out (by first | (go_simp; done) | (go_simp; rfl)) ?_; intro g3000002 w3 hs_ hk_; refine hK_ _ _ ?_; clear hK_ K_; replace HS := Aside0.mk (hs_); replace HK := Aside0.mk (HK.out.trans hk_); have hb_ := SL.at_ HS.out; have hz3000002_0_1 := ((blk_cell hb_ 0).trans rfl : _ = some (.int .i64 a0_0)); have hz3000002_1_1 := ((blk_cell hb_ 1).trans rfl : _ = some (.slice A0_1 l0_1.length c0_1)); clear hb_; have hb_ := SL.at_ (SL.get1 HS.out); have hz0_0_1 := ((blk_cell hb_ 0).trans rfl : _ = some (.int .i64 s0_0)); clear hb_))
    go_ret
    replace HS := Aside0.mk (SL.tail HS.out)
    unfold cool_Reset_1_i1.Post
    exact ⟨by first | rfl | (simp; done) | (simp [*]; done) | (simp at c1b0 ⊢; first | exact c1b0 | (simp [c1b0]; done)), HS.out, HK.out⟩

/-! ### api_Cool_26_i1: function 26 -/
def api_Cool_26_i1.l0 : Nat → (List (S35)) → Int → Int → Option (Int × Int)
  | 0, _, _, _ => none
  | k + 1, l0, x8_0, x0_0_0 => if x8_0 < (l0.length : Int) then (if 0 ≤ x8_0 then ((cool_Reset_1_i1.f ((rd_T35 l0 x8_0).f0) ((rd_T35 l0 x8_0).f1) x0_0_0).bind fun bt116 => (if bt116.1 = true then (some (x8_0, bt116.2)) else (api_Cool_26_i1.l0 k l0 (wrap64 (x8_0 + 1)) bt116.2))) else (none)) else (some ((-1), x0_0_0))
def api_Cool_26_i1.f (k : Nat) (l0 : List (S35)) (s0_0 : Int) : Option (Int × Int) := api_Cool_26_i1.l0 k l0 0 s0_0
theorem api_Cool_26_i1.mono_l : ∀ k, (∀ y0 y1 y2, LeO (api_Cool_26_i1.l0 k y0 y1 y2) (api_Cool_26_i1.l0 (k + 1) y0 y1 y2))
  | 0 => fun _ _ _ r h => by simp [api_Cool_26_i1.l0] at h
  | k + 1 => by
    have ih0 := api_Cool_26_i1.mono_l k
    · intro y0 y1 y2
      unfold api_Cool_26_i1.l0
      repeat' first
      | (with_reducible exact ih0 _ _ _)
      | (with_reducible exact LeO.refl _)
      | (with_reducible exact LeO.none _)
      | (with_reducible refine LeO.ite ?_ ?_)
      | (with_reducible refine everyOf_le (fun _ => ?_))
      | (with_reducible refine LeO.bind ?_ (fun _ => ?_))
      | exact ih0 _ _ _
      | exact LeO.none _
      | refine LeO.ite ?_ ?_
      | refine LeO.bind ?_ (fun _ => ?_)
theorem api_Cool_26_i1.mono : ∀ a0 a1 k, LeO (api_Cool_26_i1.f k a0 a1) (api_Cool_26_i1.f (k + 1) a0 a1) := by
  intro a0 a1 k
  have ih0 := api_Cool_26_i1.mono_l k
  unfold api_Cool_26_i1.f
  repeat' first
      | (with_reducible exact ih0 _ _ _)
      | (with_reducible exact LeO.refl _)
      | (with_reducible exact LeO.none _)
      | (with_reducible refine LeO.ite ?_ ?_)
      | (with_reducible refine everyOf_le (fun _ => ?_))
      | (with_reducible refine LeO.bind ?_ (fun _ => ?_))
      | exact ih0 _ _ _
      | exact LeO.none _
      | refine LeO.ite ?_ ?_
      | refine LeO.bind ?_ (fun _ => ?_)
def api_Cool_26_i1.Post (b0 : Nat) (r1 : Int) (r2 : Int) (S : Nat → Prop) (L : List Asr) (w : World) (e : Ending) (w' : World) : Prop := e = .returned (.int .i64 r1) ∧ SL (cells b0 3 [.int .i64 r2].toArray :: L) w' S ∧ Keep S w w'
set_option maxHeartbeats 8000000 in
set_option maxRecDepth 100000 in
theorem api_Cool_26_i1.slcalls (k : Nat) (A0 : Option Addr) (c0 : Nat) (l0 : List (S35)) (b0 : Nat) (s0_0 : Int) (r1 : Int) (r2 : Int) (S : Nat → Prop) (L : List Asr) (w : World) (hf : Fresh S w) (hs : SL (cells b0 3 [.int .i64 s0_0].toArray :: L) w S) (hr0 : RO S w (fun w_ => Kd.C k35 w_ A0 l0.length l0)) (hc0 : l0.length ≤ c0) (h : api_Cool_26_i1.f k l0 s0_0 = some (r1, r2)) :
    Calls Try.prog 26 #[.slice A0 l0.length c0, .func (.func 33) #[] #[.pointer (some ⟨b0, 0, none⟩)]] w (api_Cool_26_i1.Post b0 r1 r2 S L w) := by
  have HR0 := Aside0.mk hr0
  have HC0 := Aside0.mk hc0
  clear hr0 hc0
  have HF := Aside0.mk hf
  have HS := Aside0.mk hs
  have HK := Aside0.mk (Keep.refl S w)
  clear hf hs
  have hu35 := Try.underlying35
  have H : (api_Cool_26_i1.l0 k l0 0 s0_0) = some (r1, r2) := h
  clear h
  have H' := Aside0.mk H
  clear H
  go_enter Try.func26, Try.ntmps26
  go_wp2
  go_loopg [8] k (fun kq v8 w' => ∃ (x0_0_0 : Int) (x8_0 : Int), v8 = .int .i64 x8_0 ∧ Aside0 (api_Cool_26_i1.l0 kq l0 x8_0 x0_0_0 = some (r1, r2)) ∧ Aside0 (kq ≤ k) ∧ Aside0 (SL (cells b0 3 [.int .i64 x0_0_0].toArray :: L) w' S) ∧ Aside0 (Keep S w w'))
  case atStart => exact ⟨(s0_0), (0), (by first | rfl | (simp; done) | (simp [*]; done)), H', ⟨Nat.le_refl _⟩, HS, HK⟩
  case round =>
    clear H' HS HK
    obtain ⟨x0_0_0, x8_0, rfl, HA, HQ1, HS, HK⟩ := hrel
    cases gk with
    | zero => exact absurd HA.out (by simp [api_Cool_26_i1.l0])
    | succ k1 =>
      have H := HA.out
      clear HA
      simp only [api_Cool_26_i1.l0] at H
      by_cases c1 : x8_0 < (l0.length : Int)
      · rw [if_pos c1] at H
        have c1b0 : decide (x8_0 < (l0.length : Int)) = true := decide_eq_true c1
        clear c1
        by_cases c2 : 0 ≤ x8_0
        · rw [if_pos c2] at H
          have c2b0 : decide (0 ≤ x8_0) = true := decide_eq_true c2
          clear c2
          replace H := Option.bind_eq_some_iff.1 H
          obtain ⟨⟨t116, t117⟩, Hc30, H⟩ := H
          try dsimp only at H
          have Hc3 := Aside0.mk Hc30
          clear Hc30
          by_cases c4 : t116 = true
          · subst c4
            rw [if_pos rfl] at H
            simp only [Option.some.injEq, Prod.mk.injEq] at H
            obtain ⟨rfl, rfl⟩ := H
            have pq115 : 0 ≤ (x8_0 : Int) := of_decide_eq_true (by first | (with_reducible assumption) | assumption)
            have qq115 : x8_0 < ((l0.length : Int) : Int) := of_decide_eq_true (by first | (with_reducible assumption) | assumption)
            obtain ⟨adq115, Aq115_1, cq115_1, eq115, hxxq115_0, hxxq115_1, hiq115, hlq115⟩ := ro_at_T35 HR0.out x8_0 pq115 qq115
            have hxq115_0 := hxxq115_0 _ HK.out
            have hxq115_1 := hxxq115_1 _ HK.out
            clear hxxq115_0 hxxq115_1
            have HRq115_1 := Aside0.mk hiq115
            have HCq115_1 := Aside0.mk hlq115
            clear hiq115 hlq115
            cases eq115
            replace pq115 := eq_true pq115
            replace qq115 := eq_true qq115
            go_wp2_with (first | ((with_reducible refine gate_dst (N := 16) rfl ?_); refine goesLc_ (some 16) rfl (by with_unfolding_all rfl) rfl Try.func33 (by kernel_rfl) rfl #[.agg #[.int .i64 ((rd_T35 l0 x8_0).f0), .slice Aq115_1 ((rd_T35 l0 x8_0).f1).length cq115_1], .pointer (some ⟨b0, 0, none⟩)] rfl (by (try simp only [List.map_toArray, List.map_cons, List.map_nil]); first | done | rfl | (simp; done)) ?_; have hs0_ := HS.out; (with_reducible refine (cool_Reset_1_i1.slcalls _ _ _ _ _ _ _ _ _ _ _ (HF.out.keep HK.out) hs0_ (HRq115_1.out.keep HK.out) HCq115_1.out Hc3.out).mono ?_); rintro e_ w5 ⟨rfl, hsr_, hkr_⟩; refine ⟨_, rfl, ?_⟩; replace HS := Aside0.mk (hsr_); replace HK := Aside0.mk (HK.out.trans hkr_)))
            go_ret
            unfold api_Cool_26_i1.Post
            exact ⟨by first | rfl | (simp; done) | (simp [*]; done) | (simp at c2b0 ⊢; first | exact c2b0 | (simp [c2b0]; done)), HS.out, HK.out⟩
          · replace c4 := Bool.eq_false_iff.mpr c4
            subst c4
            rw [if_neg (show ¬ (false = true) by decide)] at H
            have H' := Aside0.mk H
            clear H
            have pq115 : 0 ≤ (x8_0 : Int) := of_decide_eq_true (by first | (with_reducible assumption) | assumption)
            have qq115 : x8_0 < ((l0.length : Int) : Int) := of_decide_eq_true (by first | (with_reducible assumption) | assumption)
            obtain ⟨adq115, Aq115_1, cq115_1, eq115, hxxq115_0, hxxq115_1, hiq115, hlq115⟩ := ro_at_T35 HR0.out x8_0 pq115 qq115
            have hxq115_0 := hxxq115_0 _ HK.out
            have hxq115_1 := hxxq115_1 _ HK.out
            clear hxxq115_0 hxxq115_1
            have HRq115_1 := Aside0.mk hiq115
            have HCq115_1 := Aside0.mk hlq115
            clear hiq115 hlq115
            cases eq115
            replace pq115 := eq_true pq115
            replace qq115 := eq_true qq115
            go_wp2_with (first | ((with_reducible refine gate_dst (N := 16) rfl ?_); refine goesLc_ (some 16) rfl (by with_unfolding_all rfl) rfl Try.func33 (by kernel_rfl) rfl #[.agg #[.int .i64 ((rd_T35 l0 x8_0).f0), .slice Aq115_1 ((rd_T35 l0 x8_0).f1).length cq115_1], .pointer (some ⟨b0, 0, none⟩)] rfl (by (try simp only [List.map_toArray, List.map_cons, List.map_nil]); first | done | rfl | (simp; done)) ?_; have hs0_ := HS.out; (with_reducible refine (cool_Reset_1_i1.slcalls _ _ _ _ _ _ _ _ _ _ _ (HF.out.keep HK.out) hs0_ (HRq115_1.out.keep HK.out) HCq115_1.out Hc3.out).mono ?_); rintro e_ w6 ⟨rfl, hsr_, hkr_⟩; refine ⟨_, rfl, ?_⟩; replace HS := Aside0.mk (hsr_); replace HK := Aside0.mk (HK.out.trans hkr_)))
            go_roundg k1
            case measure => have := HQ1.out; omega
            case rel => exact ⟨(t117), (wrap64 (x8_0 + 1)), (by first | rfl | (simp; done) | (simp [*]; done)), H', ⟨by have := HQ1.out; omega⟩, HS, HK⟩
        · rw [if_neg c2] at H
          exact absurd H (by simp)
      · rw [if_neg c1] at H
        have c1b0 : decide (x8_0 < (l0.length : Int)) = false := decide_eq_false c1
        clear c1
        simp only [Option.some.injEq, Prod.mk.injEq] at H
        obtain ⟨rfl, rfl⟩ := H
        go_wp2
        go_ret
        unfold api_Cool_26_i1.Post
        exact ⟨by first | rfl | (simp; done) | (simp [*]; done) | (simp at c1b0 ⊢; first | exact c1b0 | (simp [c1b0]; done)), HS.out, HK.out⟩

-- NOT PRINTED: function 13 (cool_Reset)

/-! ### cmp_isNaN_int: function 48 -/
def cmp_isNaN_int.f (a0 : Int) : Option (Bool) := some (a0 != a0)
set_option maxHeartbeats 8000000 in
set_option maxRecDepth 100000 in
theorem cmp_isNaN_int.calls (a0 : Int) (r : Bool) (w : World) (h : cmp_isNaN_int.f a0 = some r) :
    Calls Try.prog 48 #[.int .i64 a0] w fun e w' => e = .returned (.bool r) ∧ Drawn0 w w' := by
  have H : (some (a0 != a0)) = some r := h
  clear h
  obtain rfl := Option.some.inj H
  go_enter Try.func48, Try.ntmps48
  go_wp2
  go_ret
  exact ⟨by first | rfl | (simp; done) | (simp [*]; done), by repeat (first | exact Drawn0.refl _ | apply Drawn0.step)⟩

/-! ### cmp_Less_int: function 46 -/
def cmp_Less_int.f (a0 : Int) (a1 : Int) : Option (Bool) := (cmp_isNaN_int.f a0).bind fun t128 => (if t128 = true then ((cmp_isNaN_int.f a1).bind fun t129 => (if t129 = true then (some (decide (a0 < a1))) else (some true))) else (some (decide (a0 < a1))))
set_option maxHeartbeats 8000000 in
set_option maxRecDepth 100000 in
theorem cmp_Less_int.calls (a0 : Int) (a1 : Int) (r : Bool) (w : World) (h : cmp_Less_int.f a0 a1 = some r) :
    Calls Try.prog 46 #[.int .i64 a0, .int .i64 a1] w fun e w' => e = .returned (.bool r) ∧ Drawn0 w w' := by
  have H : ((cmp_isNaN_int.f a0).bind fun t128 => (if t128 = true then ((cmp_isNaN_int.f a1).bind fun t129 => (if t129 = true then (some (decide (a0 < a1))) else (some true))) else (some (decide (a0 < a1))))) = some r := h
  clear h
  replace H := Option.bind_eq_some_iff.mp H
  obtain ⟨t128, A30, H⟩ := H
  replace H : (if t128 = true then ((cmp_isNaN_int.f a1).bind fun t129 => (if t129 = true then (some (decide (a0 < a1))) else (some true))) else (some (decide (a0 < a1)))) = some r := H
  have A3 := Aside0.mk A30
  clear A30
  by_cases c4 : t128 = true
  · subst c4
    have H1 : ((cmp_isNaN_int.f a1).bind fun t129 => (if t129 = true then (some (decide (a0 < a1))) else (some true))) = some r := by rw [if_pos rfl] at H; exact H
    clear H
    have H := H1
    clear H1
    replace H := Option.bind_eq_some_iff.mp H
    obtain ⟨t129, A50, H⟩ := H
    replace H : (if t129 = true then (some (decide (a0 < a1))) else (some true)) = some r := H
    have A5 := Aside0.mk A50
    clear A50
    by_cases c6 : t129 = true
    · subst c6
      have H1 : (some (decide (a0 < a1))) = some r := by rw [if_pos rfl] at H; exact H
      clear H
      have H := H1
      clear H1
      obtain rfl := Option.some.inj H
      go_enter Try.func46, Try.ntmps46
      go_wp2_with (first | ((with_reducible refine gate_callee (f := 48) rfl ?_); refine goesL_ (some 6) rfl rfl Try.func48 (by kernel_rfl) rfl #[.int .i64 a0] rfl (by (try simp only [List.map_toArray, List.map_cons, List.map_nil]); first | done | rfl | (simp only [List.length_drop, List.length_take]; rfl)) ?_; (with_reducible refine (cmp_isNaN_int.calls a0 true _ A3.out).mono ?_); rintro e w' ⟨rfl, ⟨nd, rfl⟩⟩; refine ⟨_, rfl, ?_⟩) | (go_at_call 48; (with_reducible refine calls_of_args (args' := #[.int .i64 a1]) rfl ?_); (with_reducible refine (cmp_isNaN_int.calls a1 true _ A5.out).mono ?_); rintro e w' ⟨rfl, ⟨nd, rfl⟩⟩))
      go_ret
      exact ⟨by first | rfl | (simp; done) | (simp [*]; done), by repeat (first | exact Drawn0.refl _ | apply Drawn0.step)⟩
    · replace c6 := Bool.eq_false_iff.mpr c6
      subst c6
      have H1 : (some true) = some r := by rw [if_neg (show ¬ (false = true) by decide)] at H; exact H
      clear H
      have H := H1
      clear H1
      obtain rfl := Option.some.inj H
      go_enter Try.func46, Try.ntmps46
      go_wp2_with (first | ((with_reducible refine gate_callee (f := 48) rfl ?_); refine goesL_ (some 6) rfl rfl Try.func48 (by kernel_rfl) rfl #[.int .i64 a0] rfl (by (try simp only [List.map_toArray, List.map_cons, List.map_nil]); first | done | rfl | (simp only [List.length_drop, List.length_take]; rfl)) ?_; (with_reducible refine (cmp_isNaN_int.calls a0 true _ A3.out).mono ?_); rintro e w' ⟨rfl, ⟨nd, rfl⟩⟩; refine ⟨_, rfl, ?_⟩) | (go_at_call 48; (with_reducible refine calls_of_args (args' := #[.int .i64 a1]) rfl ?_); (with_reducible refine (cmp_isNaN_int.calls a1 false _ A5.out).mono ?_); rintro e w' ⟨rfl, ⟨nd, rfl⟩⟩))
      go_ret
      exact ⟨by first | rfl | (simp; done) | (simp [*]; done), by repeat (first | exact Drawn0.refl _ | apply Drawn0.step)⟩
  · replace c4 := Bool.eq_false_iff.mpr c4
    subst c4
    have H1 : (some (decide (a0 < a1))) = some r := by rw [if_neg (show ¬ (false = true) by decide)] at H; exact H
    clear H
    have H := H1
    clear H1
    obtain rfl := Option.some.inj H
    go_enter Try.func46, Try.ntmps46
    go_wp2_with (first | ((with_reducible refine gate_callee (f := 48) rfl ?_); refine goesL_ (some 6) rfl rfl Try.func48 (by kernel_rfl) rfl #[.int .i64 a0] rfl (by (try simp only [List.map_toArray, List.map_cons, List.map_nil]); first | done | rfl | (simp only [List.length_drop, List.length_take]; rfl)) ?_; (with_reducible refine (cmp_isNaN_int.calls a0 false _ A3.out).mono ?_); rintro e w' ⟨rfl, ⟨nd, rfl⟩⟩; refine ⟨_, rfl, ?_⟩))
    go_ret
    exact ⟨by first | rfl | (simp; done) | (simp [*]; done), by repeat (first | exact Drawn0.refl _ | apply Drawn0.step)⟩

/-! ### slices_IsSorted_int_int: function 43 -/
def slices_IsSorted_int_int.l0 : Nat → List Int → Int → Option (Bool)
  | 0, _, _ => none
  | k + 1, x0, x3 => if x3 > 0 then (if 0 ≤ x3 then (if x3 < (x0.length : Int) then (if 0 ≤ (wrap64 (x3 - 1)) then (if (wrap64 (x3 - 1)) < (x0.length : Int) then ((cmp_Less_int.f (rd x0 x3) (rd x0 (wrap64 (x3 - 1)))).bind fun t132 => (if t132 = true then (some false) else (slices_IsSorted_int_int.l0 k x0 (wrap64 (x3 - 1))))) else (none)) else (none)) else (none)) else (none)) else (some true)
def slices_IsSorted_int_int.f (k : Nat) (l0 : List Int) : Option (Bool) := slices_IsSorted_int_int.l0 k l0 (wrap64 ((l0.length : Int) - 1))
theorem slices_IsSorted_int_int.mono_l : ∀ k, (∀ y0 y1, LeO (slices_IsSorted_int_int.l0 k y0 y1) (slices_IsSorted_int_int.l0 (k + 1) y0 y1))
  | 0 => fun _ _ r h => by simp [slices_IsSorted_int_int.l0] at h
  | k + 1 => by
    have ih0 := slices_IsSorted_int_int.mono_l k
    · intro y0 y1
      unfold slices_IsSorted_int_int.l0
      repeat' first
      | (with_reducible exact ih0 _ _)
      | (with_reducible exact LeO.refl _)
      | (with_reducible exact LeO.none _)
      | (with_reducible refine LeO.ite ?_ ?_)
      | (with_reducible refine LeO.bind ?_ (fun _ => ?_))
      | exact ih0 _ _
      | exact LeO.none _
      | refine LeO.ite ?_ ?_
      | refine LeO.bind ?_ (fun _ => ?_)
theorem slices_IsSorted_int_int.mono : ∀ a0 k, LeO (slices_IsSorted_int_int.f k a0) (slices_IsSorted_int_int.f (k + 1) a0) := by
  intro a0 k
  have ih0 := slices_IsSorted_int_int.mono_l k
  unfold slices_IsSorted_int_int.f
  repeat' first
      | (with_reducible exact ih0 _ _)
      | (with_reducible exact LeO.refl _)
      | (with_reducible exact LeO.none _)
      | (with_reducible refine LeO.ite ?_ ?_)
      | (with_reducible refine LeO.bind ?_ (fun _ => ?_))
      | exact ih0 _ _
      | exact LeO.none _
      | refine LeO.ite ?_ ?_
      | refine LeO.bind ?_ (fun _ => ?_)
set_option maxHeartbeats 8000000 in
set_option maxRecDepth 100000 in
theorem slices_IsSorted_int_int.calls (k : Nat) (A0 : Option Addr) (c0 : Nat) (l0 : List Int) (r : Bool) (w : World) (hr0 : Kd.C (Kd.int .i64) w A0 l0.length l0) (hc0 : l0.length ≤ c0) (h : slices_IsSorted_int_int.f k l0 = some r) :
    Calls Try.prog 43 #[.slice A0 l0.length c0] w fun e w' => e = .returned (.bool r) ∧ Drawn0 w w' := by
  have HR0 := Aside0.mk hr0
  have HC0 := Aside0.mk hc0
  clear hr0 hc0
  have H : (slices_IsSorted_int_int.l0 k l0 (wrap64 ((l0.length : Int) - 1))) = some r := h
  clear h
  have H' := Aside0.mk H
  clear H
  go_enter Try.func43, Try.ntmps43
  go_wp2
  repeat (go_quiet (fail); try go_wp2)
  go_loopg [3] k (fun kq v3 w' => ∃ (x3_1 : Int), v3 = .int .i64 x3_1 ∧ Aside0 (slices_IsSorted_int_int.l0 kq l0 x3_1 = some r) ∧ Aside0 (kq ≤ k) ∧ Drawn0 w w')
  case atStart => exact ⟨(wrap64 ((l0.length : Int) - 1)), (by first | rfl | (simp; done) | (simp [*]; done)), H', ⟨Nat.le_refl _⟩, by repeat (first | exact Drawn0.refl _ | apply Drawn0.step)⟩
  case round =>
    clear H'
    obtain ⟨x3_1, rfl, HA, HK1, ⟨m1, rfl⟩⟩ := hrel
    cases gk with
    | zero => exact absurd HA.out (by simp [slices_IsSorted_int_int.l0])
    | succ k1 =>
      have H := HA.out
      clear HA
      simp only [slices_IsSorted_int_int.l0] at H
      by_cases c2 : x3_1 > 0
      · rw [if_pos c2] at H
        have c2b0 : decide (0 < x3_1) = true := decide_eq_true c2
        clear c2
        by_cases c3 : 0 ≤ x3_1
        · rw [if_pos c3] at H
          have c3b0 : decide (0 ≤ x3_1) = true := decide_eq_true c3
          clear c3
          by_cases c4 : x3_1 < (l0.length : Int)
          · rw [if_pos c4] at H
            have c4b0 : decide (x3_1 < (l0.length : Int)) = true := decide_eq_true c4
            clear c4
            obtain ⟨ji5, hji5⟩ : ∃ j_ : Int, (wrap64 (x3_1 - 1)) = j_ := ⟨_, rfl⟩
            replace H : (if 0 ≤ (ji5) then (if (ji5) < (l0.length : Int) then ((cmp_Less_int.f (rd l0 x3_1) (rd l0 (ji5))).bind fun t132 => (if t132 = true then (some false) else (slices_IsSorted_int_int.l0 k1 l0 ji5))) else (none)) else (none)) = some r := by first | (rw [hji5] at H; exact H) | (simp only [hji5] at H ⊢; exact H)
            have hji5w : (IntKind.i64.wrap (x3_1 - 1)) = ji5 := (i64_w _).trans hji5
            by_cases c6 : 0 ≤ (ji5)
            · rw [if_pos c6] at H
              have c6b0 : decide (0 ≤ (ji5)) = true := decide_eq_true c6
              clear c6
              by_cases c7 : (ji5) < (l0.length : Int)
              · rw [if_pos c7] at H
                have c7b0 : decide ((ji5) < (l0.length : Int)) = true := decide_eq_true c7
                clear c7
                replace H := Option.bind_eq_some_iff.mp H
                obtain ⟨t132, A80, H⟩ := H
                replace H : (if t132 = true then (some false) else (slices_IsSorted_int_int.l0 k1 l0 ji5)) = some r := H
                have A8 := Aside0.mk A80
                clear A80
                by_cases c9 : t132 = true
                · subst c9
                  have H1 : (some false) = some r := by rw [if_pos rfl] at H; exact H
                  clear H
                  have H := H1
                  clear H1
                  obtain rfl := Option.some.inj H
                  have p130 : 0 ≤ (x3_1 : Int) := of_decide_eq_true (by first | (with_reducible assumption) | assumption)
                  have q130 : x3_1 < (l0.length : Int) := of_decide_eq_true (by first | (with_reducible assumption) | assumption)
                  obtain ⟨ad130, e130, hx130_0⟩ := Kd.at_int HR0.out x3_1 p130 q130
                  cases e130
                  replace p130 := eq_true p130
                  replace q130 := eq_true q130
                  have p131 : 0 ≤ ((ji5) : Int) := of_decide_eq_true (by first | (with_reducible assumption) | assumption)
                  have q131 : (ji5) < (l0.length : Int) := of_decide_eq_true (by first | (with_reducible assumption) | assumption)
                  obtain ⟨ad131, e131, hx131_0⟩ := Kd.at_int HR0.out (ji5) p131 q131
                  obtain rfl : ad130 = ad131 := (by injection e131)
                  replace p131 := eq_true p131
                  replace q131 := eq_true q131
                  go_wp2_with (first | (go_at_call 46; (with_reducible refine (cmp_Less_int.calls (rd l0 x3_1) (rd l0 (ji5)) true _ A8.out).mono ?_); rintro e w' ⟨rfl, ⟨nd, rfl⟩⟩; (try first | exact ⟨rfl, _, World.drewN_drewN _ _ _⟩ | exact ⟨rfl, _, Eq.trans (World.drewN_drewN _ _ _) (congrArg (World.drewN _) (Nat.add_assoc _ _ _))⟩)))
                  repeat (go_quiet (first | (go_at_call 46; (with_reducible refine (cmp_Less_int.calls (rd l0 x3_1) (rd l0 (ji5)) true _ A8.out).mono ?_); rintro e w' ⟨rfl, ⟨nd, rfl⟩⟩; (try first | exact ⟨rfl, _, World.drewN_drewN _ _ _⟩ | exact ⟨rfl, _, Eq.trans (World.drewN_drewN _ _ _) (congrArg (World.drewN _) (Nat.add_assoc _ _ _))⟩))); try go_wp2_with (first | (go_at_call 46; (with_reducible refine (cmp_Less_int.calls (rd l0 x3_1) (rd l0 (ji5)) true _ A8.out).mono ?_); rintro e w' ⟨rfl, ⟨nd, rfl⟩⟩; (try first | exact ⟨rfl, _, World.drewN_drewN _ _ _⟩ | exact ⟨rfl, _, Eq.trans (World.drewN_drewN _ _ _) (congrArg (World.drewN _) (Nat.add_assoc _ _ _))⟩))))
                  go_ret
                  exact ⟨by first | rfl | (simp; done) | (simp only [← hji5] <;> (first | rfl | simp)) | (simp [*]; done), by repeat (first | exact Drawn0.refl _ | apply Drawn0.step)⟩
                · replace c9 := Bool.eq_false_iff.mpr c9
                  subst c9
                  have H1 : (slices_IsSorted_int_int.l0 k1 l0 ji5) = some r := by rw [if_neg (show ¬ (false = true) by decide)] at H; exact H
                  clear H
                  have H := H1
                  clear H1
                  have H' := Aside0.mk H
                  clear H
                  have p130 : 0 ≤ (x3_1 : Int) := of_decide_eq_true (by first | (with_reducible assumption) | assumption)
                  have q130 : x3_1 < (l0.length : Int) := of_decide_eq_true (by first | (with_reducible assumption) | assumption)
                  obtain ⟨ad130, e130, hx130_0⟩ := Kd.at_int HR0.out x3_1 p130 q130
                  cases e130
                  replace p130 := eq_true p130
                  replace q130 := eq_true q130
                  have p131 : 0 ≤ ((ji5) : Int) := of_decide_eq_true (by first | (with_reducible assumption) | assumption)
                  have q131 : (ji5) < (l0.length : Int) := of_decide_eq_true (by first | (with_reducible assumption) | assumption)
                  obtain ⟨ad131, e131, hx131_0⟩ := Kd.at_int HR0.out (ji5) p131 q131
                  obtain rfl : ad130 = ad131 := (by injection e131)
                  replace p131 := eq_true p131
                  replace q131 := eq_true q131
                  go_wp2_with (first | (go_at_call 46; (with_reducible refine (cmp_Less_int.calls (rd l0 x3_1) (rd l0 (ji5)) false _ A8.out).mono ?_); rintro e w' ⟨rfl, ⟨nd, rfl⟩⟩; (try first | exact ⟨rfl, _, World.drewN_drewN _ _ _⟩ | exact ⟨rfl, _, Eq.trans (World.drewN_drewN _ _ _) (congrArg (World.drewN _) (Nat.add_assoc _ _ _))⟩)))
                  repeat (go_quiet (first | (go_at_call 46; (with_reducible refine (cmp_Less_int.calls (rd l0 x3_1) (rd l0 (ji5)) false _ A8.out).mono ?_); rintro e w' ⟨rfl, ⟨nd, rfl⟩⟩; (try first | exact ⟨rfl, _, World.drewN_drewN _ _ _⟩ | exact ⟨rfl, _, Eq.trans (World.drewN_drewN _ _ _) (congrArg (World.drewN _) (Nat.add_assoc _ _ _))⟩))); try go_wp2_with (first | (go_at_call 46; (with_reducible refine (cmp_Less_int.calls (rd l0 x3_1) (rd l0 (ji5)) false _ A8.out).mono ?_); rintro e w' ⟨rfl, ⟨nd, rfl⟩⟩; (try first | exact ⟨rfl, _, World.drewN_drewN _ _ _⟩ | exact ⟨rfl, _, Eq.trans (World.drewN_drewN _ _ _) (congrArg (World.drewN _) (Nat.add_assoc _ _ _))⟩))))
                  go_roundg k1
                  case measure => have := HK1.out; omega
                  case rel => exact ⟨(ji5), (by first | rfl | (simp; done) | (simp only [← hji5] <;> (first | rfl | simp)) | (simp [*]; done)), H', ⟨by have := HK1.out; omega⟩, by repeat (first | exact Drawn0.refl _ | apply Drawn0.step)⟩
              · rw [if_neg c7] at H
                exact absurd H (by simp)
            · rw [if_neg c6] at H
              exact absurd H (by simp)
          · rw [if_neg c4] at H
            exact absurd H (by simp)
        · rw [if_neg c3] at H
          exact absurd H (by simp)
      · rw [if_neg c2] at H
        have c2b0 : decide (0 < x3_1) = false := decide_eq_false c2
        clear c2
        obtain rfl := Option.some.inj H
        go_wp2
        repeat (go_quiet (fail); try go_wp2)
        go_ret
        exact ⟨by first | rfl | (simp; done) | (simp [*]; done), by repeat (first | exact Drawn0.refl _ | apply Drawn0.step)⟩

end Go.Proofs.Ytbhgohomgfjjfaa.XCO
