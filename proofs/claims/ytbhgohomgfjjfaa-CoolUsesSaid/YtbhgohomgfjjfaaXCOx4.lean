-- Written by xprint.py (a program of this session) for this claim
import Derived.Test.YtbhgohomgfjjfaaSL12
import Derived.Deep.RegionLaw
import Derived.Test.YtbhgohomgfjjfaaSL5
import Derived.Test.YtbhgohomgfjjfaaXCOx0
import Derived.Test.YtbhgohomgfjjfaaXCOx1
namespace Go.Proofs.Ytbhgohomgfjjfaa.XCO
open Go.Proofs.YtbhgohomgfjjfaaV Go.Proofs.YtbhgohomgfjjfaaS
open Go.RowKit Go.Proofs.YtbhgohomgfjjfaaW.PrintWords Go.Proofs.YtbhgohomgfjjfaaW.PrintLast Go.Proofs.YtbhgohomgfjjfaaW.PrintMore
attribute [local go_sem] max2_int min2_int max_two min_two max_three min_three max_four min_four   -- for this text's walks alone
set_option linter.unusedVariables false
set_option linter.unusedSimpArgs false

/-! ### cool_Reset: function 13, by hand -/
def cool_Reset.f (k : Nat) (l0 : List S35) (a1 : Int) : Option (List S35) := (cool_copied.f l0).bind fun l => (api_Cool_26_i1.f k l a1).bind fun p => if p.2 = a1 then (if p.1 = -1 then some l else if 0 ≤ p.1 ∧ p.1 < (l.length : Int) then some (l.take p.1.toNat ++ (l.drop (p.1.toNat + 1)).filter (fun x => decide (x.f0 ≠ a1))) else none) else none
theorem cool_Reset.mono : ∀ a0 a1 k, LeO (cool_Reset.f k a0 a1) (cool_Reset.f (k + 1) a0 a1) := by
  intro a0 a1 k
  unfold cool_Reset.f
  repeat' first
      | (with_reducible exact api_Cool_26_i1.mono _ _ _)
      | (with_reducible exact LeO.refl _)
      | (with_reducible refine LeO.ite ?_ ?_)
      | (with_reducible refine LeO.bind ?_ (fun _ => ?_))
/-- slices.DeleteFunc, the cells alone. -/
theorem delf_35 (k : Nat) (A0 : Option Addr) (c0 : Nat) (l0 : List S35) (g : Nat) (id : Int) (i : Int) (r : List S35) (S : Nat → Prop) (L : List Asr) (w : World) (hf : Fresh S w) (hs : SL (rows inn35 2 35 (.slice A0 l0.length c0) l0 :: cells g 3 [.int .i64 id].toArray :: L) w S) (hn : l0.length < 100000) (hidx : api_Cool_26_i1.f k l0 id = some (i, id))
    (hr : (if i = -1 then some l0 else if 0 ≤ i ∧ i < (l0.length : Int) then some (l0.take i.toNat ++ (l0.drop (i.toNat + 1)).filter (fun x => decide (x.f0 ≠ id))) else none) = some r) :
    Calls Try.prog 32 #[.slice A0 l0.length c0, .func (.func 33) #[] #[.pointer (some ⟨g, 0, none⟩)]] w (cool_copied.Post r S L w) := by
  have HF := Aside0.mk hf
  have HS := Aside0.mk hs
  have HN := Aside0.mk hn
  have HK := Aside0.mk (Keep.refl S w)
  have HI := Aside0.mk hidx
  have HR := Aside0.mk hr
  have hnc := (rows_c (d := k35) reads_inn35 rfl hs).2.1
  clear hf hs hn hidx hr
  have hu35 := Try.underlying35
  go_enter Try.func32, Try.ntmps32
  go_wp2_with (first | ((with_reducible refine gate_dst (N := 10) rfl ?_); refine goesL_ (some 10) rfl rfl Try.func26 (by kernel_rfl) rfl #[.slice A0 l0.length c0, .func (.func 33) #[] #[.pointer (some ⟨g, 0, none⟩)]] rfl (by (try simp only [List.map_toArray, List.map_cons, List.map_nil]); first | done | rfl | (simp; done)) ?_; obtain ⟨U1_, hfU1_, hsub1_, hs1_, hro1_, hback1_⟩ := SL.lend (HF.out.keep HK.out) HS.out (p := fun w_ => Kd.C k35 w_ A0 l0.length l0) (fun w_ T_ h_ => rows_h (d := k35) reads_inn35 rfl h_); refine (api_Cool_26_i1.slcalls k _ _ _ _ _ _ _ _ _ _ hfU1_ hs1_ hro1_ hnc HI.out).mono ?_; rintro e_ w3 ⟨rfl, hsr_, hkr_⟩; refine ⟨_, rfl, ?_⟩; replace HS := Aside0.mk (hback1_ _ _ hkr_ hsr_); replace HK := Aside0.mk (HK.out.trans (Keep.sub hkr_ hsub1_)); clear hs1_ hro1_ hback1_ hsr_ hkr_; refine stop_ ?_; intro G_ hG_))
  by_cases h1 : i = -1
  · have hr := HR.out
    rw [if_pos h1] at hr
    obtain rfl := Option.some.inj hr
    subst h1
    refine hG_.out ?_
    go_wp2
    go_ret
    exact ⟨A0, c0, rfl, SL.cons (fun _ _ => SL.tail) HS.out, HK.out⟩
  · have hr := HR.out
    rw [if_neg h1] at hr
    by_cases h2 : 0 ≤ i ∧ i < (l0.length : Int)
    · rw [if_pos h2] at hr
      have hr2 := Option.some.inj hr
      clear hr h1
      obtain ⟨m, hm⟩ : ∃ m, i.toNat = m := ⟨_, rfl⟩
      rw [hm] at hr2
      obtain ⟨n, hnn⟩ : ∃ n, l0.length = n := ⟨_, rfl⟩
      have hmn : m < n := by omega
      have him : i = (m : Int) := by omega
      subst him
      obtain ⟨css, hcl, hs⟩ := rows_open HS.out
      rw [hnn] at hs hcl hnc
      obtain ⟨ad, cs_, hA, _, _, _⟩ := Kd.C_get (SL.row_c hs).2.2 [] (0 : Int) (by omega) (by omega)
      subst hA
      have hml : m < l0.length := by omega
      have hmc : m < css.length := by omega
      have hs0 : SL (row (raw 2) 35 (.slice (some ad) n c0) css :: cells g 3 [.int .i64 id].toArray :: (List.zipWith inn35 (l0.take m) (css.take m) ++ (List.zipWith inn35 (l0.drop (m + 1)) (css.drop (m + 1)) ++ L))) w3 S := by
        refine SL.cons (fun _ _ h3_ => ?_) hs
        have e1 : List.zipWith inn35 l0 css = List.zipWith inn35 (l0.take m) (css.take m) ++ (inn35 l0[m] css[m] :: List.zipWith inn35 (l0.drop (m + 1)) (css.drop (m + 1))) := by
          rw [← List.zipWith_cons_cons, ← List.drop_eq_getElem_cons, ← List.drop_eq_getElem_cons, ← List.zipWith_append (by rw [List.length_take, List.length_take]; omega), List.take_append_drop, List.take_append_drop]
        rw [e1, List.append_assoc] at h3_
        have h4_ := SL.tail (SL.perm (List.perm_middle (l₁ := List.zipWith inn35 (l0.take m) (css.take m))) h3_)
        simp only [List.append_eq] at h4_
        rw [← List.append_assoc] at h4_
        have h5_ := SL.perm (List.perm_middle (l₁ := List.zipWith inn35 (l0.take m) (css.take m) ++ List.zipWith inn35 (l0.drop (m + 1)) (css.drop (m + 1)))) h4_
        rw [List.append_assoc] at h5_
        exact h5_
      replace HS := Aside0.mk hs0
      have HR2 := Aside0.mk hr2
      have HNN := Aside0.mk hnn
      have HCL := Aside0.mk hcl
      rw [hnn] at hG_
      have HNC := Aside0.mk hnc
      have HN2 := Aside0.mk (hnn ▸ HN.out : n < 100000)
      have HMN := Aside0.mk hmn
      have hw0 : wrap64 ((m : Int) + 1) = ((m + 1 : Nat) : Int) := by have h9_ := HN2.out; rw [ins_wrap _ (by omega) (by omega)]; omega
      have HW0 := Aside0.mk hw0
      clear hw0
      clear hs hs0 hr2 hcl hm h2 hnc hmn hml hmc HI HR HN
      have q0 : ((m : Int) = -1) = False := eq_false (by omega)
      have q00 : ((m : Int) == -1) = false := by rw [beq_eq_false_iff_ne]; omega
      refine hG_.out ?_
      clear hG_ G_
      go_wp2
      go_loopg [5, 6] (n + 1) (fun kq v5 v6 w' => ∃ (y x : Int) (p j : Nat) (ys : List S35) (css2 : List (List Value)), v5 = .int .i64 y ∧ v6 = .int .i64 x ∧ y = (p : Int) ∧ x = (j : Int) ∧ p < j ∧ j ≤ n ∧ ys.length = p ∧ Aside0 (kq + j = n + m + 2) ∧ Aside0 (css2.length = n) ∧ Aside0 (∀ q, j ≤ q → css2[q]? = css[q]?) ∧ Aside0 (ys ++ (l0.drop j).filter (fun x => decide (x.f0 ≠ id)) = r) ∧ Aside0 (SL (row (raw 2) 35 (.slice (some ad) n c0) css2 :: cells g 3 [.int .i64 id].toArray :: (List.zipWith inn35 ys (css2.take p) ++ (List.zipWith inn35 (l0.drop j) (css.drop j) ++ L))) w' S) ∧ Aside0 (Keep S w w'))
      case atStart => exact ⟨(m : Int), wrap64 ((m : Int) + 1), m, m + 1, l0.take m, css, rfl, rfl, rfl, HW0.out, by omega, by have := HMN.out; omega, by rw [List.length_take]; have := HMN.out; have := HNN.out; omega, ⟨by omega⟩, HCL, ⟨fun _ _ => rfl⟩, HR2, HS, HK⟩
      case round =>
        clear HS HK
        obtain ⟨y, x, p, j, ys, css2, rfl, rfl, hy, hx, hpj, hjn, hyl, HQ, HL2, HJ, HY, HS, HK⟩ := hrel
        cases gk with
        | zero => exact absurd HQ.out (by omega)
        | succ k1 =>
          by_cases c1 : x < (n : Int)
          · have c1b0 : decide (x < (n : Int)) = true := decide_eq_true c1
            have hlt : j < n := by omega
            have hjc : j < css.length := by have := HCL.out; omega
            have hjl : j < l0.length := by have := HNN.out; omega
            have hx2 : css2[j]? = some css[j] := (HJ.out j (Nat.le_refl _)).trans (List.getElem?_eq_getElem hjc)
            have hd1 : List.zipWith inn35 (l0.drop j) (css.drop j) = inn35 l0[j] css[j] :: List.zipWith inn35 (l0.drop (j + 1)) (css.drop (j + 1)) := by
              rw [← List.zipWith_cons_cons, ← List.drop_eq_getElem_cons, ← List.drop_eq_getElem_cons]
            have hd2 : l0.drop j = l0[j] :: l0.drop (j + 1) := List.drop_eq_getElem_cons hjl
            obtain ⟨X, hX⟩ : ∃ X, X = l0[j] := ⟨_, rfl⟩
            obtain ⟨XC, hXC⟩ : ∃ XC, XC = css[j] := ⟨_, rfl⟩
            rw [← hX, ← hXC] at hd1
            rw [← hX] at hd2
            rw [← hXC] at hx2
            have hs0 := HS.out
            rw [hd1, List.cons_append] at hs0
            have hs1 := SL.perm (List.perm_middle (l₁ := row (raw 2) 35 (.slice (some ad) n c0) css2 :: cells g 3 [Value.int .i64 id].toArray :: List.zipWith inn35 ys (css2.take p))) hs0
            obtain ⟨A1, c1_, hcs, l1, hs2⟩ := inn35_open hs1
            subst hcs
            have hgd : css2.getD x.toNat [] = [.int .i64 X.f0, .slice A1 X.f1.length c1_] := by rw [hx, Int.toNat_natCast, List.getD_eq_getElem?_getD, hx2]; rfl
            have p0 : 0 ≤ (x : Int) := by omega
            obtain ⟨ad3, cs, hA, hcl2, hK2, hcell⟩ := Kd.C_get (SL.row_c HS.out).2.2 [] x p0 c1
            injection hA with hA
            subst hA
            have hcse : cs = [.int .i64 X.f0, .slice A1 X.f1.length c1_] := by rw [← hgd]; exact hK2.1
            subst hcse
            have hx0 : wr.cell? (ad.add (x.toNat * 2)) = some (.int .i64 X.f0) := hcell 0 _ rfl
            have hx1 : wr.cell? ⟨(ad.add (x.toNat * 2)).block, (ad.add (x.toNat * 2)).off + 1, none⟩ = some (.slice A1 X.f1.length c1_) := by rw [← add_field _ _ 1 (by omega)]; exact hcell 1 _ rfl
            clear hcell hK2 hcl2 hs0 hs1 HS
            have HS := Aside0.mk (show SL (row (Kd.int .i64) 3 (.slice A1 X.f1.length c1_) X.f1 :: row (raw 2) 35 (.slice (some ad) n c0) css2 :: cells g 3 [.int .i64 id].toArray :: (List.zipWith inn35 ys (css2.take p) ++ (List.zipWith inn35 (l0.drop (j + 1)) (css.drop (j + 1)) ++ L))) wr S from hs2)
            have HX0 := Aside0.mk (⟨hx, hy, hlt, hpj, hyl, hx2, hgd, hd2⟩ : x = (j : Int) ∧ y = (p : Int) ∧ j < n ∧ p < j ∧ ys.length = p ∧ css2[j]? = some [.int .i64 X.f0, .slice A1 X.f1.length c1_] ∧ css2.getD x.toNat [] = [.int .i64 X.f0, .slice A1 X.f1.length c1_] ∧ l0.drop j = X :: l0.drop (j + 1))
            have HL1 := Aside0.mk l1
            have p1 : 0 ≤ (y : Int) := by omega
            have c2 : y < (n : Int) := by omega
            have HP := Aside0.mk (⟨p0, c1, p1, c2⟩ : 0 ≤ x ∧ x < (n : Int) ∧ 0 ≤ y ∧ y < (n : Int))
            have q1 := eq_true p0
            have q2 := eq_true c1
            have q3 := eq_true p1
            have q4 := eq_true c2
            have hcf : cool_Reset_1_i1.f X.f0 X.f1 id = some (decide (X.f0 = id), id) := by
              unfold cool_Reset_1_i1.f
              by_cases h9 : X.f0 = id
              · rw [if_pos h9, decide_eq_true h9]
              · rw [if_neg h9, decide_eq_false h9]
            have HCF := Aside0.mk hcf
            clear hx hx2 hgd l1 hX hXC p0 c1 p1 c2 hlt hjl hjc hpj hyl hy hd1 hd2 hs2 hcf hjn
            go_wp2_with (first
              | ((with_reducible refine gate_dst (N := 7) rfl ?_); refine wpList_plain rfl (fun K_ hK_ => ?_); refine op_box (S := S) (cs := #[.int .i64 0, .slice none 0 0]) (t := 35) (HF.out.keep HK.out) HS.out (by first | (go_simp; done) | (go_simp; rfl)) ?_; intro gb w4 hs_ hk_; refine hK_ _ _ ?_; clear hK_ K_; replace HS := Aside0.mk (hs_); replace HK := Aside0.mk (HK.out.trans hk_))
              | ((with_reducible refine gate_store (t := 35) (p := 7) (v := (.tmp 25)) rfl ?_); refine wpList_plain rfl (fun K_ hK_ => ?_); refine op_store (S := S) 35 (.tmp 7) (.tmp 25) rfl gb 0 (.agg #[.int .i64 X.f0, .slice A1 X.f1.length c1_]) [.int .i64 X.f0, .slice A1 X.f1.length c1_] rfl rfl rfl (by kernel_rfl) (by simp [Value.oneCell']) HS.out (by simp) ?_; intro w5 hs_ hk_; refine hK_ _ _ ?_; clear hK_ K_; replace HS := Aside0.mk ((show SL (cells gb 35 [.int .i64 X.f0, .slice A1 X.f1.length c1_].toArray :: _) _ _ from hs_)); replace HK := Aside0.mk (HK.out.trans hk_); have hb_ := SL.at_ HS.out; have hz0 := ((blk_cell hb_ 0).trans rfl : _ = some (.int .i64 X.f0)); have hz1 := ((blk_cell hb_ 1).trans rfl : _ = some (.slice A1 X.f1.length c1_)); clear hb_)
              | ((with_reducible refine gate_dst (N := 28) rfl ?_); refine goesLc_ (some 28) rfl (by with_unfolding_all rfl) rfl Try.func33 (by kernel_rfl) rfl #[.agg #[.int .i64 X.f0, .slice A1 X.f1.length c1_], .pointer (some ⟨g, 0, none⟩)] rfl (by (try simp only [List.map_toArray, List.map_cons, List.map_nil]); first | done | rfl | (simp; done)) ?_; obtain ⟨U2_, hfU2_, hsub2_, hs2_, hro2_, hback2_⟩ := SL.lend (HF.out.keep HK.out) (SL.get1 HS.out) (p := fun w_ => Kd.C (Kd.int .i64) w_ A1 X.f1.length X.f1) (fun w_ T_ h_ => (Qs_c h_).2.2); refine (cool_Reset_1_i1.slcalls _ _ _ _ _ _ _ _ _ _ _ hfU2_ (SL.get2 hs2_) hro2_ HL1.out HCF.out).mono ?_; rintro e_ w6 ⟨rfl, hsr_, hkr_⟩; refine ⟨_, rfl, ?_⟩; replace HS := Aside0.mk (hback2_ _ _ hkr_ hsr_); replace HK := Aside0.mk (HK.out.trans (Keep.sub hkr_ hsub2_)); clear hs2_ hro2_ hback2_ hsr_ hkr_ hz0 hz1; have hb_ := SL.at_ (SL.get2 HS.out); have hz0 := ((blk_cell hb_ 0).trans rfl : _ = some (.int .i64 X.f0)); have hz1 := ((blk_cell hb_ 1).trans rfl : _ = some (.slice A1 X.f1.length c1_)); clear hb_; refine stop_ ?_; intro G_ hG_))
            by_cases hid : X.f0 = id
            · have hd := decide_eq_true hid
              rw [hd] at hG_
              refine hG_.out ?_
              clear hG_ G_
              go_wp2
              go_roundg k1
              case measure => have := HQ.out; omega
              case rel =>
                obtain ⟨hx, hy, hlt, hpj, hyl, hx2, hgd, hd2⟩ := HX0.out
                have hw : wrap64 (x + 1) = ((j + 1 : Nat) : Int) := by have := HN2.out; rw [ins_wrap _ (by omega) (by omega)]; omega
                refine ⟨y, wrap64 (x + 1), p, j + 1, ys, css2, rfl, rfl, hy, hw, by omega, by omega, hyl, ⟨by have := HQ.out; omega⟩, HL2, ⟨fun q hq => HJ.out q (by omega)⟩, ⟨?_⟩, ⟨SL.cons (fun _ _ => SL.cons (fun _ _ => SL.tail)) (SL.get2 (SL.tail HS.out))⟩, HK⟩
                have h1_ := HY.out
                rw [hd2, List.filter_cons_of_neg (by simp [hid])] at h1_
                exact h1_
            · have hd := decide_eq_false hid
              rw [hd] at hG_
              refine hG_.out ?_
              clear hG_ G_
              go_wp2_with ((with_reducible refine gate_store (t := 35) (p := 33) (v := (.tmp 32)) rfl ?_); refine wpList_plain rfl (fun K_ hK_ => ?_); refine op_setF (flat_raw 2) (S := S) 35 (.tmp 33) (.tmp 32) rfl ad y [] 0 [.int .i64 X.f0, .slice A1 X.f1.length c1_] (.agg #[.int .i64 X.f0, .slice A1 X.f1.length c1_]) (SL.get3 HS.out) (ad.add (y.toNat * 2)) (fun g o h_ => by subst h_; rw [Addr.add_lit]; rfl) rfl rfl rfl (by kernel_rfl) (by simp [Value.oneCell']) HP.out.2.2.1 HP.out.2.2.2 (by show 0 + 2 ≤ 2; omega) [.int .i64 X.f0, .slice A1 X.f1.length c1_] (fun c hc_ => by have h2_ := hc_.1; have h3_ := hc_.2.1; rw [← h2_] at h3_; rw [List.take_zero, List.nil_append, List.drop_of_length_le (by rw [h3_]; exact Nat.le_refl _), List.append_nil]; exact ⟨rfl, rfl, fun u hu => by simp at hu; rcases hu with rfl | rfl <;> rfl⟩) (css2.set p [.int .i64 X.f0, .slice A1 X.f1.length c1_]) (by rw [HX0.out.2.1, Int.toNat_natCast]) ?_; intro w7 hs_ hk_; refine hK_ _ _ ?_; clear hK_ K_; replace HS := Aside0.mk hs_; replace HK := Aside0.mk (HK.out.trans hk_); clear hs_ hk_)
              go_roundg k1
              case measure => have := HQ.out; omega
              case rel =>
                obtain ⟨hx, hy, hlt, hpj, hyl, hx2, hgd, hd2⟩ := HX0.out
                have hw : wrap64 (x + 1) = ((j + 1 : Nat) : Int) := by have := HN2.out; rw [ins_wrap _ (by omega) (by omega)]; omega
                have hw2 : wrap64 (y + 1) = ((p + 1 : Nat) : Int) := by have := HN2.out; rw [ins_wrap _ (by omega) (by omega)]; omega
                have hpl : p < css2.length := by have := HL2.out; omega
                refine ⟨wrap64 (y + 1), wrap64 (x + 1), p + 1, j + 1, ys ++ [X], css2.set p [.int .i64 X.f0, .slice A1 X.f1.length c1_], rfl, rfl, hw2, hw, by omega, by omega, by rw [List.length_append, hyl]; rfl, ⟨by have := HQ.out; omega⟩, ⟨by rw [List.length_set]; exact HL2.out⟩, ⟨fun q hq => ?_⟩, ⟨?_⟩, ⟨?_⟩, HK⟩
                · rw [List.getElem?_set_ne (by omega)]
                  exact HJ.out q (by omega)
                · have h1_ := HY.out
                  rw [hd2, List.filter_cons_of_pos (by simp [hid])] at h1_
                  rw [List.append_assoc]
                  exact h1_
                · have e1 : (css2.set p [.int .i64 X.f0, .slice A1 X.f1.length c1_]).take (p + 1) = css2.take p ++ [[.int .i64 X.f0, .slice A1 X.f1.length c1_]] := by
                    rw [List.take_add_one, List.getElem?_set_self hpl, List.take_set_of_le (Nat.le_refl p)]; rfl
                  rw [e1, List.zipWith_append (by rw [List.length_take, hyl]; omega), List.append_assoc]
                  refine SL.cons (fun _ _ h3_ => ?_) HS.out
                  refine SL.cons (fun _ _ h5_ => SL.perm (List.perm_middle (l₁ := List.zipWith inn35 ys (css2.take p))).symm (inn35_shut h5_)) (SL.swap (SL.cons (fun _ _ => SL.cons (fun _ _ => SL.tail)) h3_))
          · have c1b0 : decide (x < (n : Int)) = false := decide_eq_false c1
            have hjn2 : j = n := by omega
            have hpn : p < n := by omega
            have hnc := HNC.out
            have hs0 := HS.out
            rw [hjn2, List.drop_of_length_le (by have := HNN.out; omega : l0.length ≤ n), List.zipWith_nil_left, List.nil_append] at hs0
            have hu : Try.prog.underlying 22 = some (.slice (Try.prog.elem 22)) := Try.underlying22
            have hel : Try.prog.elem 22 = 35 := rfl
            obtain ⟨g2, o, W2, hA2, hclr, HS2, hk2⟩ := row_clear (flat_raw 2) 22 0 (.agg #[(.int .i64 0), (.slice none 0 0)]) Try.underlying22 Try.zeroValue35 rfl (by decide) hs0 hpn
            injection hA2 with hA2
            subst hA2
            have v1 : ∀ W : World, (Instr.slice 22 (.slice (some ⟨g2, o, none⟩) n c0) (some (.int .i64 y)) none none).run Try.prog W = .ok (.slice (some ⟨g2, o + p * 2, none⟩) (n - p) (c0 - p)) W := fun W => by
              rw [hy, run_slice_l W 22 _ n c0 hu .i64 (p : Int) (by omega) (by omega), hel, Try.sizeOf35]
              simp only [Result.andThen, sliced, Int.toNat_natCast]
              rw [if_neg (by omega), Option.map_some, Addr.add_lit]
            have v2 : ∀ W : World, (Instr.slice 22 (.slice (some ⟨g2, o, none⟩) n c0) none (some (.int .i64 y)) none).run Try.prog W = .ok (.slice (some ⟨g2, o, none⟩) p c0) W := fun W => by
              rw [hy, run_slice_h W 22 _ n c0 hu .i64 (p : Int) (by omega) (by omega), hel, Try.sizeOf35]
              simp only [Result.andThen, sliced, Int.toNat_natCast, Nat.sub_zero, Nat.zero_mul]
              rw [if_neg (by omega), Option.map_some, Addr.add_zero']
            obtain ⟨B1, hB1⟩ : ∃ B, (⟨g2, o + p * 2, none⟩ : Addr) = B := ⟨_, rfl⟩
            obtain ⟨n1, hn1⟩ : ∃ q, n - p = q := ⟨_, rfl⟩
            obtain ⟨c1', hc1'⟩ : ∃ q, c0 - p = q := ⟨_, rfl⟩
            have hclr2 : (Builtin.clear_ #[22] 0 #[.slice (some ⟨g2, o + p * 2, none⟩) (n - p) (c0 - p)]).run Try.prog wr = .ok (.tuple #[]) W2 := hclr
            rw [hB1, hn1, hc1'] at v1 hclr2
            have hyr := HY.out
            rw [hjn2, List.drop_of_length_le (by have := HNN.out; omega), List.filter_nil, List.append_nil] at hyr
            have HS3 := Aside0.mk HS2
            have HK3 := Aside0.mk (HK.out.trans hk2)
            have HYR := Aside0.mk hyr
            have HYL := Aside0.mk hyl
            have HLP := Aside0.mk (by rw [List.length_take, hyl, HL2.out]; omega : (css2.take p).length = ys.length)
            clear hs0 HS HK HS2 hk2 hclr hu hel hyr hB1 hn1 hc1' hnc hpn hjn2 hjn hpj hyl hy hx c1
            go_wp2
            go_ret
            have hyl := HYL.out
            obtain rfl := HYR.out
            have h1_ := HS3.out
            exact ⟨_, c0, by rw [hyl]; rfl, by rw [hyl]; exact rows_close HLP.out (SL.cons (fun _ _ => SL.tail) h1_), HK3.out⟩
    · rw [if_neg h2] at hr
      cases hr
def cool_Reset.Post (r : List S35) (S : Nat → Prop) (L : List Asr) (w : World) (e : Ending) (w' : World) : Prop := ∃ (Ar1 : Option Addr) (cr1 : Nat), e = .returned (.slice Ar1 r.length cr1) ∧ SL (rows inn35 2 35 (.slice Ar1 r.length cr1) r :: L) w' S ∧ Keep S w w'
theorem cool_Reset.slcalls (k : Nat) (A0 : Option Addr) (c0 : Nat) (l0 : List S35) (a1 : Int) (r : List S35) (S : Nat → Prop) (L : List Asr) (w : World) (hf : Fresh S w) (hs : SL L w S) (hr0 : RO S w (fun w_ => Kd.C k35 w_ A0 l0.length l0)) (hc0 : l0.length ≤ c0) (h : cool_Reset.f k l0 a1 = some r) :
    Calls Try.prog 13 #[.slice A0 l0.length c0, .int .i64 a1] w (cool_Reset.Post r S L w) := by
  unfold cool_Reset.f at h
  obtain ⟨l, hl, h⟩ := Option.bind_eq_some_iff.1 h
  obtain ⟨⟨i, i2⟩, hi, h⟩ := Option.bind_eq_some_iff.1 h
  dsimp only at h
  by_cases h2 : i2 = a1
  · rw [if_pos h2] at h
    subst h2
    have hn : l.length < 100000 := by
      unfold cool_copied.f at hl
      by_cases hb : l0.length < 100000 ∧ ∀ x ∈ l0, x.f1.length < 100000
      · rw [if_pos hb] at hl
        obtain rfl := Option.some.inj hl
        exact hb.1
      · rw [if_neg hb] at hl; cases hl
    have HF := Aside0.mk hf
    have HS := Aside0.mk hs
    have HL := Aside0.mk hl
    have HI := Aside0.mk hi
    have HH := Aside0.mk h
    have HN := Aside0.mk hn
    have HR0 := Aside0.mk hr0
    have HC0 := Aside0.mk hc0
    have HK := Aside0.mk (Keep.refl S w)
    clear hf hs hl hi h hn hr0 hc0
    go_enter Try.func13, Try.ntmps13
    go_wp2_with (first
      | ((with_reducible refine gate_dst (N := 3) rfl ?_); refine wpList_plain rfl (fun K_ hK_ => ?_); refine op_box (S := S) (cs := #[.int .i64 i2]) (t := 3) (HF.out.keep HK.out) HS.out (by first | (go_simp; done) | (go_simp; rfl)) ?_; intro g w2 hs_ hk_; refine hK_ _ _ ?_; clear hK_ K_; replace HS := Aside0.mk (hs_); replace HK := Aside0.mk (HK.out.trans hk_); clear hs_ hk_)
      | ((with_reducible refine gate_callee (f := 24) rfl ?_); refine goesL_ (some 6) rfl rfl Try.func24 (by kernel_rfl) rfl #[.slice A0 l0.length c0] rfl (by (try simp only [List.map_toArray, List.map_cons, List.map_nil]); first | done | rfl | (simp; done)) ?_; refine (cool_copied.slcalls _ _ _ _ _ _ _ (HF.out.keep HK.out) HS.out (HR0.out.keep HK.out) HC0.out HL.out).mono ?_; rintro e_ w3 ⟨A1, c1, rfl, hs_, hk_⟩; refine ⟨_, rfl, ?_⟩; replace HS := Aside0.mk (hs_); replace HK := Aside0.mk (HK.out.trans hk_); clear hs_ hk_)
      | ((with_reducible refine gate_callee (f := 32) rfl ?_); refine goesL_ (some 8) rfl rfl Try.func32 (by kernel_rfl) rfl #[.slice A1 l.length c1, .func (.func 33) #[] #[.pointer (some ⟨g, 0, none⟩)]] rfl (by (try simp only [List.map_toArray, List.map_cons, List.map_nil]); first | done | rfl | (simp; done)) ?_; refine (delf_35 k A1 c1 l g i2 i r S _ _ (HF.out.keep HK.out) HS.out HN.out HI.out HH.out).mono ?_; rintro e_ w4 ⟨A2, c2, rfl, hs_, hk_⟩; refine ⟨_, rfl, ?_⟩; replace HS := Aside0.mk (hs_); replace HK := Aside0.mk (HK.out.trans hk_); clear hs_ hk_))
    go_ret
    exact ⟨A2, c2, rfl, HS.out, HK.out⟩
  · rw [if_neg h2] at h
    cases h

/-! ### cool_Use_1_i1: function 27 -/
def cool_Use_1_i1.f (a0_0 : Int) (l0_1 : List Int) (s0_0 : Int) (s0_1 : Int) (s0_2 : Int) (s0_3 : Int) (s0_4 : Int) (s0_5 : Int) (s0_6 : Bool) (lo0_7 : List (S76)) : Option (Bool × Int × Int × Int × Int × Int × Int × Bool) := if a0_0 > s0_0 then (some (true, s0_0, s0_1, s0_2, s0_3, s0_4, s0_5, s0_6)) else (some (false, s0_0, s0_1, s0_2, s0_3, s0_4, s0_5, s0_6))
def cool_Use_1_i1.Post (b0 : Nat) (Ao0_7 : Option Addr) (co0_7 : Nat) (lo0_7 : List (S76)) (r1 : Bool) (r2 : Int) (r3 : Int) (r4 : Int) (r5 : Int) (r6 : Int) (r7 : Int) (r8 : Bool) (S : Nat → Prop) (L : List Asr) (w : World) (e : Ending) (w' : World) : Prop := e = .returned (.bool r1) ∧ SL (cells b0 25 [.int .i64 r2, .int .i64 r3, .int .i64 r4, .int .i64 r5, .int .i64 r6, .int .i64 r7, .bool r8, .slice Ao0_7 lo0_7.length co0_7].toArray :: L) w' S ∧ Keep S w w'
set_option maxHeartbeats 8000000 in
set_option maxRecDepth 100000 in
theorem cool_Use_1_i1.slcalls (a0_0 : Int) (A0_1 : Option Addr) (c0_1 : Nat) (l0_1 : List Int) (b0 : Nat) (s0_0 : Int) (s0_1 : Int) (s0_2 : Int) (s0_3 : Int) (s0_4 : Int) (s0_5 : Int) (s0_6 : Bool) (Ao0_7 : Option Addr) (co0_7 : Nat) (lo0_7 : List (S76)) (r1 : Bool) (r2 : Int) (r3 : Int) (r4 : Int) (r5 : Int) (r6 : Int) (r7 : Int) (r8 : Bool) (S : Nat → Prop) (L : List Asr) (w : World) (hf : Fresh S w) (hs : SL (cells b0 25 [.int .i64 s0_0, .int .i64 s0_1, .int .i64 s0_2, .int .i64 s0_3, .int .i64 s0_4, .int .i64 s0_5, .bool s0_6, .slice Ao0_7 lo0_7.length co0_7].toArray :: L) w S) (hr0_1 : RO S w (fun w_ => Kd.C (Kd.int .i64) w_ A0_1 l0_1.length l0_1)) (hc0_1 : l0_1.length ≤ c0_1) (hro0_7 : RO S w (fun w_ => Kd.C k76 w_ Ao0_7 lo0_7.length lo0_7)) (hco0_7 : lo0_7.length ≤ co0_7) (h : cool_Use_1_i1.f a0_0 l0_1 s0_0 s0_1 s0_2 s0_3 s0_4 s0_5 s0_6 lo0_7 = some (r1, r2, r3, r4, r5, r6, r7, r8)) :
    Calls Try.prog 27 #[.agg #[.int .i64 a0_0, .slice A0_1 l0_1.length c0_1], .pointer (some ⟨b0, 0, none⟩)] w (cool_Use_1_i1.Post b0 Ao0_7 co0_7 lo0_7 r1 r2 r3 r4 r5 r6 r7 r8 S L w) := by
  have HR0_1 := Aside0.mk hr0_1
  have HC0_1 := Aside0.mk hc0_1
  clear hr0_1 hc0_1
  have HRo0_7 := Aside0.mk hro0_7
  have HCo0_7 := Aside0.mk hco0_7
  clear hro0_7 hco0_7
  have HF := Aside0.mk hf
  have HS := Aside0.mk hs
  have HK := Aside0.mk (Keep.refl S w)
  clear hf hs
  have hu35 := Try.underlying35
  have H : (if a0_0 > s0_0 then (some (true, s0_0, s0_1, s0_2, s0_3, s0_4, s0_5, s0_6)) else (some (false, s0_0, s0_1, s0_2, s0_3, s0_4, s0_5, s0_6))) = some (r1, r2, r3, r4, r5, r6, r7, r8) := h
  clear h
  by_cases c1 : a0_0 > s0_0
  · rw [if_pos c1] at H
    have c1b0 : decide (s0_0 < a0_0) = true := decide_eq_true c1
    clear c1
    simp only [Option.some.injEq, Prod.mk.injEq] at H
    obtain ⟨rfl, rfl, rfl, rfl, rfl, rfl, rfl, rfl⟩ := H
    go_enter Try.func27, Try.ntmps27
    go_wp2_with (first | ((with_reducible refine gate_dst (N := 2) rfl ?_); refine wpList_plain rfl (fun K_ hK_ => ?_); refine op_box (S := S) (cs := #[.int .i64 a0_0, .slice A0_1 l0_1.length c0_1]) (t := 35) (HF.out.keep HK.out) HS.out (by first | (go_simp; done) | (go_simp; rfl)) ?_; intro g3000015 w2 hs_ hk_; refine hK_ _ _ ?_; clear hK_ K_; replace HS := Aside0.mk (hs_); replace HK := Aside0.mk (HK.out.trans hk_); have hb_ := SL.at_ HS.out; have hz3000015_0_1 := ((blk_cell hb_ 0).trans rfl : _ = some (.int .i64 a0_0)); have hz3000015_1_1 := ((blk_cell hb_ 1).trans rfl : _ = some (.slice A0_1 l0_1.length c0_1)); clear hb_; have hb_ := SL.at_ (SL.get1 HS.out); have hz0_0_1 := ((blk_cell hb_ 0).trans rfl : _ = some (.int .i64 s0_0)); have hz0_1_1 := ((blk_cell hb_ 1).trans rfl : _ = some (.int .i64 s0_1)); have hz0_2_1 := ((blk_cell hb_ 2).trans rfl : _ = some (.int .i64 s0_2)); have hz0_3_1 := ((blk_cell hb_ 3).trans rfl : _ = some (.int .i64 s0_3)); have hz0_4_1 := ((blk_cell hb_ 4).trans rfl : _ = some (.int .i64 s0_4)); have hz0_5_1 := ((blk_cell hb_ 5).trans rfl : _ = some (.int .i64 s0_5)); have hz0_6_1 := ((blk_cell hb_ 6).trans rfl : _ = some (.bool s0_6)); have hz0_7_1 := ((blk_cell hb_ 7).trans rfl : _ = some (.slice Ao0_7 lo0_7.length co0_7)); clear hb_))
    go_ret
    replace HS := Aside0.mk (SL.tail HS.out)
    unfold cool_Use_1_i1.Post
    exact ⟨by first | rfl | (simp; done) | (simp [*]; done) | (simp at c1b0 ⊢; first | exact c1b0 | (simp [c1b0]; done)), HS.out, HK.out⟩
  · rw [if_neg c1] at H
    have c1b0 : decide (s0_0 < a0_0) = false := decide_eq_false c1
    clear c1
    simp only [Option.some.injEq, Prod.mk.injEq] at H
    obtain ⟨rfl, rfl, rfl, rfl, rfl, rfl, rfl, rfl⟩ := H
    go_enter Try.func27, Try.ntmps27
    go_wp2_with (first | ((with_reducible refine gate_dst (N := 2) rfl ?_); refine wpList_plain rfl (fun K_ hK_ => ?_); refine op_box (S := S) (cs := #[.int .i64 a0_0, .slice A0_1 l0_1.length c0_1]) (t := 35) (HF.out.keep HK.out) HS.out (by first | (go_simp; done) | (go_simp; rfl)) ?_; intro g3000015 w3 hs_ hk_; refine hK_ _ _ ?_; clear hK_ K_; replace HS := Aside0.mk (hs_); replace HK := Aside0.mk (HK.out.trans hk_); have hb_ := SL.at_ HS.out; have hz3000015_0_1 := ((blk_cell hb_ 0).trans rfl : _ = some (.int .i64 a0_0)); have hz3000015_1_1 := ((blk_cell hb_ 1).trans rfl : _ = some (.slice A0_1 l0_1.length c0_1)); clear hb_; have hb_ := SL.at_ (SL.get1 HS.out); have hz0_0_1 := ((blk_cell hb_ 0).trans rfl : _ = some (.int .i64 s0_0)); have hz0_1_1 := ((blk_cell hb_ 1).trans rfl : _ = some (.int .i64 s0_1)); have hz0_2_1 := ((blk_cell hb_ 2).trans rfl : _ = some (.int .i64 s0_2)); have hz0_3_1 := ((blk_cell hb_ 3).trans rfl : _ = some (.int .i64 s0_3)); have hz0_4_1 := ((blk_cell hb_ 4).trans rfl : _ = some (.int .i64 s0_4)); have hz0_5_1 := ((blk_cell hb_ 5).trans rfl : _ = some (.int .i64 s0_5)); have hz0_6_1 := ((blk_cell hb_ 6).trans rfl : _ = some (.bool s0_6)); have hz0_7_1 := ((blk_cell hb_ 7).trans rfl : _ = some (.slice Ao0_7 lo0_7.length co0_7)); clear hb_))
    go_ret
    replace HS := Aside0.mk (SL.tail HS.out)
    unfold cool_Use_1_i1.Post
    exact ⟨by first | rfl | (simp; done) | (simp [*]; done) | (simp at c1b0 ⊢; first | exact c1b0 | (simp [c1b0]; done)), HS.out, HK.out⟩

/-! ### api_Cool_26_i3: function 26 -/
def api_Cool_26_i3.l0 : Nat → (List (S35)) → (List (S76)) → Int → Int → Int → Int → Int → Int → Int → Bool → Option (Int × Int × Int × Int × Int × Int × Int × Bool)
  | 0, _, _, _, _, _, _, _, _, _, _ => none
  | k + 1, l0, lo0_7, x8_0, x0_0_0, x0_1_0, x0_2_0, x0_3_0, x0_4_0, x0_5_0, x0_6_0 => if x8_0 < (l0.length : Int) then (if 0 ≤ x8_0 then ((cool_Use_1_i1.f ((rd_T35 l0 x8_0).f0) ((rd_T35 l0 x8_0).f1) x0_0_0 x0_1_0 x0_2_0 x0_3_0 x0_4_0 x0_5_0 x0_6_0 lo0_7).bind fun bt258 => (if bt258.1 = true then (some (x8_0, bt258.2.1, bt258.2.2.1, bt258.2.2.2.1, bt258.2.2.2.2.1, bt258.2.2.2.2.2.1, bt258.2.2.2.2.2.2.1, bt258.2.2.2.2.2.2.2)) else (api_Cool_26_i3.l0 k l0 lo0_7 (wrap64 (x8_0 + 1)) bt258.2.1 bt258.2.2.1 bt258.2.2.2.1 bt258.2.2.2.2.1 bt258.2.2.2.2.2.1 bt258.2.2.2.2.2.2.1 bt258.2.2.2.2.2.2.2))) else (none)) else (some ((-1), x0_0_0, x0_1_0, x0_2_0, x0_3_0, x0_4_0, x0_5_0, x0_6_0))
def api_Cool_26_i3.f (k : Nat) (l0 : List (S35)) (s0_0 : Int) (s0_1 : Int) (s0_2 : Int) (s0_3 : Int) (s0_4 : Int) (s0_5 : Int) (s0_6 : Bool) (lo0_7 : List (S76)) : Option (Int × Int × Int × Int × Int × Int × Int × Bool) := api_Cool_26_i3.l0 k l0 lo0_7 0 s0_0 s0_1 s0_2 s0_3 s0_4 s0_5 s0_6
theorem api_Cool_26_i3.mono_l : ∀ k, (∀ y0 y1 y2 y3 y4 y5 y6 y7 y8 y9, LeO (api_Cool_26_i3.l0 k y0 y1 y2 y3 y4 y5 y6 y7 y8 y9) (api_Cool_26_i3.l0 (k + 1) y0 y1 y2 y3 y4 y5 y6 y7 y8 y9))
  | 0 => fun _ _ _ _ _ _ _ _ _ _ r h => by simp [api_Cool_26_i3.l0] at h
  | k + 1 => by
    have ih0 := api_Cool_26_i3.mono_l k
    · intro y0 y1 y2 y3 y4 y5 y6 y7 y8 y9
      unfold api_Cool_26_i3.l0
      repeat' first
      | (with_reducible exact ih0 _ _ _ _ _ _ _ _ _ _)
      | (with_reducible exact LeO.refl _)
      | (with_reducible exact LeO.none _)
      | (with_reducible refine LeO.ite ?_ ?_)
      | (with_reducible refine everyOf_le (fun _ => ?_))
      | (with_reducible refine LeO.bind ?_ (fun _ => ?_))
      | exact ih0 _ _ _ _ _ _ _ _ _ _
      | exact LeO.none _
      | refine LeO.ite ?_ ?_
      | refine LeO.bind ?_ (fun _ => ?_)
theorem api_Cool_26_i3.mono : ∀ a0 a1 a2 a3 a4 a5 a6 a7 a8 k, LeO (api_Cool_26_i3.f k a0 a1 a2 a3 a4 a5 a6 a7 a8) (api_Cool_26_i3.f (k + 1) a0 a1 a2 a3 a4 a5 a6 a7 a8) := by
  intro a0 a1 a2 a3 a4 a5 a6 a7 a8 k
  have ih0 := api_Cool_26_i3.mono_l k
  unfold api_Cool_26_i3.f
  repeat' first
      | (with_reducible exact ih0 _ _ _ _ _ _ _ _ _ _)
      | (with_reducible exact LeO.refl _)
      | (with_reducible exact LeO.none _)
      | (with_reducible refine LeO.ite ?_ ?_)
      | (with_reducible refine everyOf_le (fun _ => ?_))
      | (with_reducible refine LeO.bind ?_ (fun _ => ?_))
      | exact ih0 _ _ _ _ _ _ _ _ _ _
      | exact LeO.none _
      | refine LeO.ite ?_ ?_
      | refine LeO.bind ?_ (fun _ => ?_)
def api_Cool_26_i3.Post (b0 : Nat) (Ao0_7 : Option Addr) (co0_7 : Nat) (lo0_7 : List (S76)) (r1 : Int) (r2 : Int) (r3 : Int) (r4 : Int) (r5 : Int) (r6 : Int) (r7 : Int) (r8 : Bool) (S : Nat → Prop) (L : List Asr) (w : World) (e : Ending) (w' : World) : Prop := e = .returned (.int .i64 r1) ∧ SL (cells b0 25 [.int .i64 r2, .int .i64 r3, .int .i64 r4, .int .i64 r5, .int .i64 r6, .int .i64 r7, .bool r8, .slice Ao0_7 lo0_7.length co0_7].toArray :: L) w' S ∧ Keep S w w'
set_option maxHeartbeats 8000000 in
set_option maxRecDepth 100000 in
theorem api_Cool_26_i3.slcalls (k : Nat) (A0 : Option Addr) (c0 : Nat) (l0 : List (S35)) (b0 : Nat) (s0_0 : Int) (s0_1 : Int) (s0_2 : Int) (s0_3 : Int) (s0_4 : Int) (s0_5 : Int) (s0_6 : Bool) (Ao0_7 : Option Addr) (co0_7 : Nat) (lo0_7 : List (S76)) (r1 : Int) (r2 : Int) (r3 : Int) (r4 : Int) (r5 : Int) (r6 : Int) (r7 : Int) (r8 : Bool) (S : Nat → Prop) (L : List Asr) (w : World) (hf : Fresh S w) (hs : SL (cells b0 25 [.int .i64 s0_0, .int .i64 s0_1, .int .i64 s0_2, .int .i64 s0_3, .int .i64 s0_4, .int .i64 s0_5, .bool s0_6, .slice Ao0_7 lo0_7.length co0_7].toArray :: L) w S) (hr0 : RO S w (fun w_ => Kd.C k35 w_ A0 l0.length l0)) (hc0 : l0.length ≤ c0) (hro0_7 : RO S w (fun w_ => Kd.C k76 w_ Ao0_7 lo0_7.length lo0_7)) (hco0_7 : lo0_7.length ≤ co0_7) (h : api_Cool_26_i3.f k l0 s0_0 s0_1 s0_2 s0_3 s0_4 s0_5 s0_6 lo0_7 = some (r1, r2, r3, r4, r5, r6, r7, r8)) :
    Calls Try.prog 26 #[.slice A0 l0.length c0, .func (.func 27) #[] #[.pointer (some ⟨b0, 0, none⟩)]] w (api_Cool_26_i3.Post b0 Ao0_7 co0_7 lo0_7 r1 r2 r3 r4 r5 r6 r7 r8 S L w) := by
  have HR0 := Aside0.mk hr0
  have HC0 := Aside0.mk hc0
  clear hr0 hc0
  have HRo0_7 := Aside0.mk hro0_7
  have HCo0_7 := Aside0.mk hco0_7
  clear hro0_7 hco0_7
  have HF := Aside0.mk hf
  have HS := Aside0.mk hs
  have HK := Aside0.mk (Keep.refl S w)
  clear hf hs
  have hu35 := Try.underlying35
  have H : (api_Cool_26_i3.l0 k l0 lo0_7 0 s0_0 s0_1 s0_2 s0_3 s0_4 s0_5 s0_6) = some (r1, r2, r3, r4, r5, r6, r7, r8) := h
  clear h
  have H' := Aside0.mk H
  clear H
  go_enter Try.func26, Try.ntmps26
  go_wp2
  go_loopg [8] k (fun kq v8 w' => ∃ (x0_0_0 : Int) (x0_1_0 : Int) (x0_2_0 : Int) (x0_3_0 : Int) (x0_4_0 : Int) (x0_5_0 : Int) (x0_6_0 : Bool) (x8_0 : Int), v8 = .int .i64 x8_0 ∧ Aside0 (api_Cool_26_i3.l0 kq l0 lo0_7 x8_0 x0_0_0 x0_1_0 x0_2_0 x0_3_0 x0_4_0 x0_5_0 x0_6_0 = some (r1, r2, r3, r4, r5, r6, r7, r8)) ∧ Aside0 (kq ≤ k) ∧ Aside0 (SL (cells b0 25 [.int .i64 x0_0_0, .int .i64 x0_1_0, .int .i64 x0_2_0, .int .i64 x0_3_0, .int .i64 x0_4_0, .int .i64 x0_5_0, .bool x0_6_0, .slice Ao0_7 lo0_7.length co0_7].toArray :: L) w' S) ∧ Aside0 (Keep S w w'))
  case atStart => exact ⟨(s0_0), (s0_1), (s0_2), (s0_3), (s0_4), (s0_5), (s0_6), (0), (by first | rfl | (simp; done) | (simp [*]; done)), H', ⟨Nat.le_refl _⟩, HS, HK⟩
  case round =>
    clear H' HS HK
    obtain ⟨x0_0_0, x0_1_0, x0_2_0, x0_3_0, x0_4_0, x0_5_0, x0_6_0, x8_0, rfl, HA, HQ1, HS, HK⟩ := hrel
    cases gk with
    | zero => exact absurd HA.out (by simp [api_Cool_26_i3.l0])
    | succ k1 =>
      have H := HA.out
      clear HA
      simp only [api_Cool_26_i3.l0] at H
      by_cases c1 : x8_0 < (l0.length : Int)
      · rw [if_pos c1] at H
        have c1b0 : decide (x8_0 < (l0.length : Int)) = true := decide_eq_true c1
        clear c1
        by_cases c2 : 0 ≤ x8_0
        · rw [if_pos c2] at H
          have c2b0 : decide (0 ≤ x8_0) = true := decide_eq_true c2
          clear c2
          replace H := Option.bind_eq_some_iff.1 H
          obtain ⟨⟨t258, t259, t260, t261, t262, t263, t264, t265⟩, Hc30, H⟩ := H
          try dsimp only at H
          have Hc3 := Aside0.mk Hc30
          clear Hc30
          by_cases c4 : t258 = true
          · subst c4
            rw [if_pos rfl] at H
            simp only [Option.some.injEq, Prod.mk.injEq] at H
            obtain ⟨rfl, rfl, rfl, rfl, rfl, rfl, rfl, rfl⟩ := H
            have pq257 : 0 ≤ (x8_0 : Int) := of_decide_eq_true (by first | (with_reducible assumption) | assumption)
            have qq257 : x8_0 < ((l0.length : Int) : Int) := of_decide_eq_true (by first | (with_reducible assumption) | assumption)
            obtain ⟨adq257, Aq257_1, cq257_1, eq257, hxxq257_0, hxxq257_1, hiq257, hlq257⟩ := ro_at_T35 HR0.out x8_0 pq257 qq257
            have hxq257_0 := hxxq257_0 _ HK.out
            have hxq257_1 := hxxq257_1 _ HK.out
            clear hxxq257_0 hxxq257_1
            have HRq257_1 := Aside0.mk hiq257
            have HCq257_1 := Aside0.mk hlq257
            clear hiq257 hlq257
            cases eq257
            replace pq257 := eq_true pq257
            replace qq257 := eq_true qq257
            go_wp2_with (first | ((with_reducible refine gate_dst (N := 16) rfl ?_); refine goesLc_ (some 16) rfl (by with_unfolding_all rfl) rfl Try.func27 (by kernel_rfl) rfl #[.agg #[.int .i64 ((rd_T35 l0 x8_0).f0), .slice Aq257_1 ((rd_T35 l0 x8_0).f1).length cq257_1], .pointer (some ⟨b0, 0, none⟩)] rfl (by (try simp only [List.map_toArray, List.map_cons, List.map_nil]); first | done | rfl | (simp; done)) ?_; have hs0_ := HS.out; (with_reducible refine (cool_Use_1_i1.slcalls _ _ _ _ _ _ _ _ _ _ _ _ _ _ _ _ _ _ _ _ _ _ _ _ _ _ (HF.out.keep HK.out) hs0_ (HRq257_1.out.keep HK.out) HCq257_1.out (HRo0_7.out.keep HK.out) HCo0_7.out Hc3.out).mono ?_); rintro e_ w5 ⟨rfl, hsr_, hkr_⟩; refine ⟨_, rfl, ?_⟩; replace HS := Aside0.mk (hsr_); replace HK := Aside0.mk (HK.out.trans hkr_)))
            go_ret
            unfold api_Cool_26_i3.Post
            exact ⟨by first | rfl | (simp; done) | (simp [*]; done) | (simp at c2b0 ⊢; first | exact c2b0 | (simp [c2b0]; done)), HS.out, HK.out⟩
          · replace c4 := Bool.eq_false_iff.mpr c4
            subst c4
            rw [if_neg (show ¬ (false = true) by decide)] at H
            have H' := Aside0.mk H
            clear H
            have pq257 : 0 ≤ (x8_0 : Int) := of_decide_eq_true (by first | (with_reducible assumption) | assumption)
            have qq257 : x8_0 < ((l0.length : Int) : Int) := of_decide_eq_true (by first | (with_reducible assumption) | assumption)
            obtain ⟨adq257, Aq257_1, cq257_1, eq257, hxxq257_0, hxxq257_1, hiq257, hlq257⟩ := ro_at_T35 HR0.out x8_0 pq257 qq257
            have hxq257_0 := hxxq257_0 _ HK.out
            have hxq257_1 := hxxq257_1 _ HK.out
            clear hxxq257_0 hxxq257_1
            have HRq257_1 := Aside0.mk hiq257
            have HCq257_1 := Aside0.mk hlq257
            clear hiq257 hlq257
            cases eq257
            replace pq257 := eq_true pq257
            replace qq257 := eq_true qq257
            go_wp2_with (first | ((with_reducible refine gate_dst (N := 16) rfl ?_); refine goesLc_ (some 16) rfl (by with_unfolding_all rfl) rfl Try.func27 (by kernel_rfl) rfl #[.agg #[.int .i64 ((rd_T35 l0 x8_0).f0), .slice Aq257_1 ((rd_T35 l0 x8_0).f1).length cq257_1], .pointer (some ⟨b0, 0, none⟩)] rfl (by (try simp only [List.map_toArray, List.map_cons, List.map_nil]); first | done | rfl | (simp; done)) ?_; have hs0_ := HS.out; (with_reducible refine (cool_Use_1_i1.slcalls _ _ _ _ _ _ _ _ _ _ _ _ _ _ _ _ _ _ _ _ _ _ _ _ _ _ (HF.out.keep HK.out) hs0_ (HRq257_1.out.keep HK.out) HCq257_1.out (HRo0_7.out.keep HK.out) HCo0_7.out Hc3.out).mono ?_); rintro e_ w6 ⟨rfl, hsr_, hkr_⟩; refine ⟨_, rfl, ?_⟩; replace HS := Aside0.mk (hsr_); replace HK := Aside0.mk (HK.out.trans hkr_)))
            go_roundg k1
            case measure => have := HQ1.out; omega
            case rel => exact ⟨(t259), (t260), (t261), (t262), (t263), (t264), (t265), (wrap64 (x8_0 + 1)), (by first | rfl | (simp; done) | (simp [*]; done)), H', ⟨by have := HQ1.out; omega⟩, HS, HK⟩
        · rw [if_neg c2] at H
          exact absurd H (by simp)
      · rw [if_neg c1] at H
        have c1b0 : decide (x8_0 < (l0.length : Int)) = false := decide_eq_false c1
        clear c1
        simp only [Option.some.injEq, Prod.mk.injEq] at H
        obtain ⟨rfl, rfl, rfl, rfl, rfl, rfl, rfl, rfl⟩ := H
        go_wp2
        go_ret
        unfold api_Cool_26_i3.Post
        exact ⟨by first | rfl | (simp; done) | (simp [*]; done) | (simp at c1b0 ⊢; first | exact c1b0 | (simp [c1b0]; done)), HS.out, HK.out⟩

end Go.Proofs.Ytbhgohomgfjjfaa.XCO
