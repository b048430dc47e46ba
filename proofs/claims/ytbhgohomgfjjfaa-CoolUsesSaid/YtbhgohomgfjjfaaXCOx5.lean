-- Written by xprint.py (a program of this session) for this claim
import Derived.Test.YtbhgohomgfjjfaaSL12
import Derived.Deep.RegionLaw
import Derived.Test.YtbhgohomgfjjfaaXCOx0
import Derived.Test.YtbhgohomgfjjfaaXCOx1
namespace Go.Proofs.Ytbhgohomgfjjfaa.XCO
open Go.Proofs.YtbhgohomgfjjfaaV Go.Proofs.YtbhgohomgfjjfaaS
open Go.RowKit Go.Proofs.YtbhgohomgfjjfaaW.PrintWords Go.Proofs.YtbhgohomgfjjfaaW.PrintLast Go.Proofs.YtbhgohomgfjjfaaW.PrintMore
attribute [local go_sem] max2_int min2_int max_two min_two max_three min_three max_four min_four   -- for this text's walks alone
set_option linter.unusedVariables false
set_option linter.unusedSimpArgs false

/-! ### slices_Insert: function 28, by hand -/
def insC.f (l0 : List (List Value)) (a1 : Int) (l2 : List (List Value)) : Option (List (List Value) × List (List Value)) := if 0 ≤ a1 ∧ a1 ≤ (l0.length : Int) ∧ l2.length = 1 ∧ l0.length < 100000 then some (l0.take a1.toNat ++ l2 ++ l0.drop a1.toNat, l2) else none
def insC.Post (A2 : Option Addr) (c2 : Nat) (l2 : List (List Value)) (r1 : List (List Value)) (r2 : List (List Value)) (S : Nat → Prop) (L : List Asr) (w : World) (e : Ending) (w' : World) : Prop := ∃ (Ar1 : Option Addr) (cr1 : Nat), e = .returned (.slice Ar1 r1.length cr1) ∧ SL (row (raw 2) 35 (.slice A2 l2.length c2) r2 :: row (raw 2) 35 (.slice Ar1 r1.length cr1) r1 :: L) w' S ∧ Keep S w w'
/-- At the end. -/
theorem insC.end_ (A0 : Option Addr) (c0 : Nat) (l0 : List (List Value)) (A2 : Option Addr) (c2 : Nat) (x : (List Value)) (S : Nat → Prop) (L : List Asr) (w : World) (hf : Fresh S w) (hs : SL (row (raw 2) 35 (.slice A0 l0.length c0) l0 :: row (raw 2) 35 (.slice A2 1 c2) [x] :: L) w S) (hn : l0.length < 100000) :
    Calls Try.prog 28 #[.slice A0 l0.length c0, .int .i64 (l0.length : Int), .slice A2 1 c2] w (insC.Post A2 c2 [x] (l0 ++ [x]) [x] S L w) := by
  have HF := Aside0.mk hf
  have HS := Aside0.mk hs
  have HN := Aside0.mk hn
  have hc := (SL.row_c hs).2.1
  obtain ⟨n, hl⟩ : ∃ n : Nat, l0.length = n := ⟨_, rfl⟩
  have HL := Aside0.mk hl
  obtain ⟨i0, hi0, hi1⟩ := Option.map_eq_some_iff.1 info35
  simp only [Prod.mk.injEq] at hi1
  have v1 : ∃ X, ∀ W : World, (Instr.slice 22 (.slice A0 n c0) (some (.int .i64 (n : Int))) none none).run Try.prog W = .ok X W := ⟨_, fun W => Go.Proofs.YtbhgohomgfjjfaaW.PrintWords.cut_from (P := Try.prog) 22 35 .i64 Try.underlying22 hi0 2 hi1.2.1 A0 n c0 (n : Int) (by omega) (by omega) W⟩
  obtain ⟨X1, v1⟩ := v1
  rw [hl]
  have q1 : ((n : Int) = (n : Int)) = True := eq_true rfl
  clear hf hs hn hl hi0 hi1
  go_enter Try.func28, Try.ntmps28
  go_wp2_with (first | ((with_reducible refine gate_dst (N := 25) rfl ?_); refine wpList_plain rfl (fun K_ hK_ => ?_); refine op_appendF (S := S) (d := (raw 2)) (flat_raw 2) (.tmp 23) (.tmp 24) 22 35 (.agg #[(.int .i64 0), (.slice none 0 0)]) 32 rfl Try.underlying22 info35 rfl (by decide) (by decide) (.slice A0 n c0) rfl rfl (HF.out) (HL.out ▸ HS.out) (SL.row_c (SL.get1 HS.out)).2.2 (by have h1_ := HN.out; omega) (l0 ++ [x]) rfl ?_; intro An cn w2 hs_ hk_; refine hK_ _ _ ?_; clear hK_ K_; have HS2 := Aside0.mk hs_; have HK := Aside0.mk hk_; clear hs_ hk_))
  go_ret
  exact ⟨An, cn, by rw [show (l0 ++ [x]).length = l0.length + 1 by simp]; rfl, SL.swap HS2.out, HK.out⟩
/-- There is room. -/
theorem insC.room_ (A0 : Option Addr) (c0 : Nat) (l0 : List (List Value)) (i : Nat) (A2 : Option Addr) (c2 : Nat) (x : (List Value)) (S : Nat → Prop) (L : List Asr) (w : World) (hf : Fresh S w) (hs : SL (row (raw 2) 35 (.slice A0 l0.length c0) l0 :: row (raw 2) 35 (.slice A2 1 c2) [x] :: L) w S) (hn : l0.length < 100000) (hi : i < l0.length) (hroom : l0.length + 1 ≤ c0) :
    Calls Try.prog 28 #[.slice A0 l0.length c0, .int .i64 (i : Int), .slice A2 1 c2] w (insC.Post A2 c2 [x] (l0.take i ++ [x] ++ l0.drop i) [x] S L w) := by
  obtain ⟨n, hl⟩ : ∃ n : Nat, l0.length = n := ⟨_, rfl⟩
  rw [hl] at hn hi hroom hs ⊢
  have hw1 : wrap64 ((n : Int) + 1) = (n : Int) + 1 := ins_wrap _ (by omega) (by omega)
  have hw2 : wrap64 ((i : Int) + 1) = (i : Int) + 1 := ins_wrap _ (by omega) (by omega)
  have hw3 : IntKind.i64.wrap ((n : Int) + 1) = (n : Int) + 1 := by rw [IntKind.wrap_i64]; omega
  have hw4 : IntKind.i64.wrap ((i : Int) + 1) = (i : Int) + 1 := by rw [IntKind.wrap_i64]; omega
  have mixed : Try.prog.follows .mixedOrders = true := by kernel_rfl
  have q1 : ((i : Int) = (n : Int)) = False := eq_false (by omega)
  have q2 : ((i : Int) == (n : Int)) = false := by rw [beq_eq_false_iff_ne]; omega
  have q3 : decide ((c0 : Int) < (n : Int) + 1) = false := decide_eq_false (by omega)
  have q4 : ((c0 : Int) < (n : Int) + 1) = False := eq_false (by omega)
  obtain ⟨T, U, s1, s2, s3, hq, s5⟩ := SL.bound hs
  obtain ⟨T2, U2, t1, t2, t3, hq2, t5⟩ := id s5
  obtain ⟨g, of, c', cur, inner, hA0, hnl0, hnc, hcc, hm, hg, hcs, hinl, htake, hT, hr⟩ := qs_raw hq (by omega)
  obtain ⟨vb, vof, vc', vcur, xc, hA2, hn2, hnc2, hcc2, hm2, hg2, hcs2, hxl, hxt, hT2, hr2⟩ := qs_raw hq2 (by omega)
  have hsz : ((raw 2) : Kd (List Value)).sz = 2 := rfl
  rw [hsz] at hA0 hcs hinl htake hA2 hcs2 hxl hxt
  have hvb : vb ≠ g := fun e => s3 g hT (t1 g (e ▸ hT2))
  have hone := reps_one hr
  have hone2 := reps_one hr2
  obtain ⟨o, ho⟩ : ∃ o, o = of * 2 := ⟨_, rfl⟩
  obtain ⟨vo, hvo⟩ : ∃ vo, vo = vof * 2 := ⟨_, rfl⟩
  rw [← ho] at hA0 htake
  rw [← hvo] at hA2 hxt
  have hcsz : cur.size = o + c' * 2 := by rw [hcs, Nat.add_mul, ← ho]
  have hcsz2 : vcur.size = vo + vc' * 2 := by rw [hcs2, Nat.add_mul, ← hvo]
  have hxl' : xc.length = 2 := by rw [hxl]
  obtain ⟨news, hnews⟩ : ∃ news, news = inner.drop (i * 2) := ⟨_, rfl⟩
  have hnl : news.length = (n - i) * 2 := by rw [hnews, List.length_drop, hinl, Nat.sub_mul]
  -- what is there
  have hcellv : ∀ j v, xc[j]? = some v → w.cell? ⟨vb, vo + j, none⟩ = some v := fun j v hj => by
    rw [cell_of_row w vb _ vcur 35 (0, 0) hg2]
    have h9 := congrArg (·[j]?) hxt
    have hjl : j < 2 := by have := (List.getElem?_eq_some_iff.1 hj).1; omega
    simp only [List.getElem?_take, List.getElem?_drop] at h9
    rw [if_pos (by omega), Array.getElem?_toList, hj] at h9
    exact h9
  have hcelln : ∀ j v, news[j]? = some v → w.drew.cell? ⟨g, o + i * 2 + j, none⟩ = some v := fun j v hj => by
    rw [cell_of_row w.drew g _ cur 35 (0, 0) (show w.drew.heap[g]? = _ from hg)]
    have hjl : j < (n - i) * 2 := by have := (List.getElem?_eq_some_iff.1 hj).1; omega
    rw [hnews, List.getElem?_drop] at hj
    have h9 := congrArg (·[i * 2 + j]?) htake
    simp only [List.getElem?_take, List.getElem?_drop] at h9
    rw [if_pos (by omega), Array.getElem?_toList, hj] at h9
    rw [Nat.add_assoc]
    exact h9
  have hd : w.drew.heap[g]? = some (.cells cur 35 (0, 0)) := hg
  obtain ⟨W1, hW1⟩ : ∃ W1, W1 = w.drew.setCells g (o + (i + 1) * 2) news := ⟨_, rfl⟩
  obtain ⟨cur1, b1, b2, b3⟩ := setCells_row news (o + (i + 1) * 2) w.drew cur hd (by omega)
  rw [← hW1] at b1
  obtain ⟨cur2, d1, d2, d3⟩ := setCells_row xc (o + i * 2) W1 cur1 b1 (by omega)
  have hsome : ∀ (W : World) (cu : Array Value), W.heap[g]? = some (.cells cu 35 (0, 0)) → ∀ q, q < cu.size → (W.cell? ⟨g, q, none⟩).isSome = true := fun W cu hW q hq => by
    rw [cell_of_row W g q cu 35 (0, 0) hW, Array.getElem?_eq_getElem hq]; rfl
  have hsz1 : (Try.prog.info? 35).map (·.size) = some 2 := by kernel_rfl
  have hcp1 : ∀ ty dc sc, (Builtin.copy_ #[22, 22] ty #[.slice (some ⟨g, o + (i + 1) * 2, none⟩) (n + 1 - (i + 1)) dc, .slice (some ⟨g, o + i * 2, none⟩) (n + 1 - i) sc]).run Try.prog w.drew = .ok (.int .i64 ((n - i : Nat) : Int)) W1 := fun ty dc sc => by
    rw [hW1]
    exact run_copyK w.drew 22 22 ty 35 g (o + (i + 1) * 2) (n + 1 - (i + 1)) dc ⟨g, o + i * 2, none⟩ (n + 1 - i) sc (n - i) 2 news Try.underlying22 hsz1 (by simp only [Nat.min_def]; split <;> omega) hnl
      (fun j v hj => by rw [Addr.add_lit]; exact hcelln j v hj) (fun j hj => hsome _ cur hd _ (by omega)) (fun j hj => blk_frozen hd _) (fun v hv => hone v (by rw [hnews] at hv; exact List.mem_of_mem_drop hv))
  have hv1 : ∀ j v, xc[j]? = some v → W1.cell? ⟨vb, vo + j, none⟩ = some v := fun j v hj => by
    rw [hW1, World.cell?_setCells_out g news (o + (i + 1) * 2) w.drew ⟨vb, vo + j, none⟩ (fun h _ => absurd h hvb)]
    exact hcellv j v hj
  obtain ⟨W2, hW2⟩ : ∃ W2, W2 = W1.setCells g (o + i * 2) xc := ⟨_, rfl⟩
  have hcp2 : ∀ ty dc, (Builtin.copy_ #[22, 22] ty #[.slice (some ⟨g, o + i * 2, none⟩) (n + 1 - i) dc, .slice (some ⟨vb, vo, none⟩) 1 c2]).run Try.prog W1 = .ok (.int .i64 ((1 : Nat) : Int)) W2 := fun ty dc => by
    rw [hW2]
    exact run_copyK W1 22 22 ty 35 g (o + i * 2) (n + 1 - i) dc ⟨vb, vo, none⟩ 1 c2 1 2 xc Try.underlying22 hsz1 (by simp only [Nat.min_def]; split <;> omega) hxl
      (fun j v hj => by rw [Addr.add_lit]; exact hv1 j v hj) (fun j hj => hsome _ cur1 b1 _ (by omega)) (fun j hj => blk_frozen b1 _) hone2
  rw [← hW2] at d1
  have hov : ∀ lb cb, (callFunc 41 #[.slice (some ⟨vb, vo, none⟩) 1 c2, .slice (some ⟨g, o + (i + 1) * 2, none⟩) lb cb]).run Try.prog w = .ok (.value (.bool false)) w := fun lb cb => by
    rw [run_callFunc_extern Try.func41 (by kernel_rfl) (by kernel_rfl) (by kernel_rfl) (e := Extern.SlicesOverlaps.overlaps #[22, 22] #[4]) (by kernel_rfl),
      Lib.run_overlaps_apart w 22 4 35 Try.underlying22 2 Try.sizeOf35 ⟨vb, vo, none⟩ ⟨g, o + (i + 1) * 2, none⟩ 1 c2 lb cb hvb 35 35 vcur.size cur.size (by simp [World.shape?, hg2]) (by simp [World.shape?, hg]) (by omega) (blk_frozen hg2 _) (blk_frozen hg2 _)]
    rfl
  have hu : Try.prog.underlying 22 = some (.slice (Try.prog.elem 22)) := Try.underlying22
  have hel : Try.prog.elem 22 = 35 := rfl
  obtain ⟨i0, hi0, hi1⟩ := Option.map_eq_some_iff.1 info35
  simp only [Prod.mk.injEq] at hi1
  have v1 : ∃ X, ∀ W : World, (Instr.slice 22 (.slice A0 n c0) (some (.int .i64 (i : Int))) none none).run Try.prog W = .ok X W := ⟨_, fun W => Go.Proofs.YtbhgohomgfjjfaaW.PrintWords.cut_from (P := Try.prog) 22 35 .i64 Try.underlying22 hi0 2 hi1.2.1 A0 n c0 (i : Int) (by omega) (by omega) W⟩
  obtain ⟨X1, v1⟩ := v1
  have v2 : ∀ W : World, (Instr.slice 22 (.slice A0 n c0) none (some (.int .i64 ((n : Int) + 1))) none).run Try.prog W = .ok (.slice A0 (n + 1) c0) W := fun W => by
    rw [run_slice_h W 22 A0 n c0 hu .i64 ((n : Int) + 1) (by omega) (by omega), hel, Try.sizeOf35]
    simp only [Result.andThen, sliced, show ((n : Int) + 1).toNat = n + 1 by omega, Nat.sub_zero, Nat.zero_mul]
    rw [if_neg (by omega), hA0, Option.map_some, Addr.add_zero']
  have v3 : ∀ W : World, (Instr.slice 22 (.slice A0 (n + 1) c0) (some (.int .i64 ((i : Int) + 1))) none none).run Try.prog W = .ok (.slice (some ⟨g, o + (i + 1) * 2, none⟩) (n + 1 - (i + 1)) (c0 - (i + 1))) W := fun W => by
    rw [run_slice_l W 22 A0 (n + 1) c0 hu .i64 ((i : Int) + 1) (by omega) (by omega), hel, Try.sizeOf35]
    simp only [Result.andThen, sliced, show ((i : Int) + 1).toNat = i + 1 by omega]
    rw [if_neg (by omega), hA0, Option.map_some, Addr.add_lit]
  have v4 : ∀ W : World, (Instr.slice 22 (.slice A0 (n + 1) c0) (some (.int .i64 (i : Int))) none none).run Try.prog W = .ok (.slice (some ⟨g, o + i * 2, none⟩) (n + 1 - i) (c0 - i)) W := fun W => by
    rw [run_slice_l W 22 A0 (n + 1) c0 hu .i64 (i : Int) (by omega) (by omega), hel, Try.sizeOf35]
    simp only [Result.andThen, sliced, Int.toNat_natCast]
    rw [if_neg (by omega), hA0, Option.map_some, Addr.add_lit]
  obtain ⟨B1, hB1⟩ : ∃ B, (⟨g, o + (i + 1) * 2, none⟩ : Addr) = B := ⟨_, rfl⟩
  obtain ⟨B2, hB2⟩ : ∃ B, (⟨g, o + i * 2, none⟩ : Addr) = B := ⟨_, rfl⟩
  obtain ⟨n1, hn1⟩ : ∃ q, n + 1 - (i + 1) = q := ⟨_, rfl⟩
  obtain ⟨n2, hn2'⟩ : ∃ q, n + 1 - i = q := ⟨_, rfl⟩
  obtain ⟨c1', hc1'⟩ : ∃ q, c0 - (i + 1) = q := ⟨_, rfl⟩
  obtain ⟨c2', hc2'⟩ : ∃ q, c0 - i = q := ⟨_, rfl⟩
  rw [hB1, hn1, hc1'] at v3
  rw [hB2, hn2', hc2'] at v4
  rw [hB1, hB2, hn1, hn2'] at hcp1
  rw [hB2, hn2', ← hA2] at hcp2
  rw [hB1, ← hA2] at hov
  -- the end
  have keep : Keep T w W2 := ((Keep.drew (Keep.refl T w)).trans (hW1 ▸ setCells_keep hT news (o + (i + 1) * 2) w.drew)).trans (hW2 ▸ setCells_keep hT xc (o + i * 2) W1)
  have hil2 : (inner.take (i * 2) ++ xc ++ inner.drop (i * 2)).length = (n + 1) * ((raw 2) : Kd (List Value)).sz := by
    rw [hsz, List.length_append, List.length_append, List.length_take, List.length_drop, hinl, hxl]
    omega
  have hrk := Kd.reps_append (Kd.reps_append (Kd.reps_take hr (show i ≤ l0.length by omega)) hr2) (Kd.reps_drop (m := i) hr)
  rw [hsz] at hrk
  have hend : Qs (raw 2) 35 W2 0 T (.slice A0 (n + 1) c0) (l0.take i ++ [x] ++ l0.drop i) := by
    rw [hA0, ho]
    refine qs_mk (d := (raw 2)) (flat_raw 2) (w0 := w) (inner := inner.take (i * 2) ++ xc ++ inner.drop (i * 2)) (cur := cur2) (by simp [hl]; omega) hroom hcc hm d1 (by rw [d2, b2, hsz]; exact hcs) hil2 ?_ hT hrk
    rw [hsz]
    have hcl : cur.toList.length = cur.size := by simp
    have hcl1 : cur1.toList.length = cur1.size := by simp
    rw [d3, b3, ← ho, hnews]
    rw [Nat.add_mul i 1, Nat.add_mul n 1, Nat.one_mul]
    exact ins_cells cur.toList inner xc o (i * 2) (n * 2) 2 (Nat.mul_le_mul_right _ (by omega)) (by rw [hcl, hcsz]; omega) hxl' htake
  have hel : (l0.take i ++ [x] ++ l0.drop i).length = n + 1 := by simp [hl]; omega
  obtain ⟨zs, hzs⟩ : ∃ zs, zs = l0.take i ++ [x] ++ l0.drop i := ⟨_, rfl⟩
  rw [← hzs] at hend hel ⊢
  have HE := Aside0.mk hend
  have KP := Aside0.mk keep
  have FAR := Aside0.mk (SL.far s5 keep (fun k hk hk' => s3 k hk' hk))
  have H1 := Aside0.mk hcp1
  have H2 := Aside0.mk hcp2
  have HEL := Aside0.mk hel
  have S1 := Aside0.mk s1
  have S2 := Aside0.mk s2
  have S3 := Aside0.mk s3
  clear hnl0 hs hq hq2 hr hr2 hone hone2 hcellv hcelln hd b1 b2 b3 d1 d2 d3 hsome hv1 hend keep hil2 hrk s5 t1 t2 t3 t5 hf s1 s2 s3 hcp1 hcp2 hg hg2 hm hm2 hcs hcs2 hinl hxl htake hxt hW1 hW2 hu hel hzs hA0 hA2 hT hT2 hvb hnews hnl hcsz hcsz2 hxl' hB1 hB2 hn1 hn2' hc1' hc2' hsz ho hvo hsz1 hcc hcc2 hnc2 hn2
  go_enter Try.func28, Try.ntmps28
  go_wp2_with (simp only [hov])
  go_region_law_o (refine step_copy_runI rfl _ _ 22 22 rfl (.slice (some B1) n1 c1') (.slice (some B2) n2 c2') (by simp [Act.eval, Act.put]) (by simp [Act.eval, Act.put]) (H1.out 3 c1' c2') ?_)
  have hcq := H2.out 3 c2'
  go_wp2
  go_ret
  exact ⟨A0, c0, by rw [HEL.out]; rfl, SL.swap ⟨T, _, fun k hk => (S1.out k hk).1, fun k hk => (S2.out k hk).1, S3.out, (by show Qs _ _ _ _ _ (.slice A0 zs.length c0) _; rw [HEL.out]; exact HE.out), FAR.out⟩, KP.out.sub (fun k hk => (S1.out k hk).1)⟩
theorem grow_cells {α : Type} (inner xc z1 z2 : List α) (a m s : Nat) (ha : a ≤ m) (hil : inner.length = m) (hx : xc.length = s) (hz : z1.length = m - a + s) :
    (((((inner.take a ++ z1 ++ z2).take a ++ xc ++ (inner.take a ++ z1 ++ z2).drop (a + xc.length)).take (a + s) ++ inner.drop a ++ ((inner.take a ++ z1 ++ z2).take a ++ xc ++ (inner.take a ++ z1 ++ z2).drop (a + xc.length)).drop (a + s + (inner.drop a).length))).drop 0).take (m + s) = inner.take a ++ xc ++ inner.drop a := by
  have h0 : (inner.take a).length = a := by rw [List.length_take]; omega
  have h1 : (inner.take a ++ z1 ++ z2).take a = inner.take a := by rw [List.append_assoc, List.take_append_of_le_length (by omega), List.take_take, Nat.min_self]
  rw [h1]
  have h2 : (inner.take a ++ xc ++ (inner.take a ++ z1 ++ z2).drop (a + xc.length)).take (a + s) = inner.take a ++ xc := by
    rw [List.take_append_of_le_length (by rw [List.length_append]; omega), List.take_of_length_le (by rw [List.length_append]; omega)]
  rw [h2, List.drop_zero, List.take_append_of_le_length (by simp only [List.length_append, List.length_drop]; omega), List.take_of_length_le (by simp only [List.length_append, List.length_drop]; omega)]
theorem zeroCells_len (cs : Array Value) (k : Nat) : (Builtin.zeroCells cs k).size = k * cs.size := by
  simp [Builtin.zeroCells, Array.size_flatten]
/-- There is no room. -/
theorem insC.grow_ (A0 : Option Addr) (c0 : Nat) (l0 : List (List Value)) (i : Nat) (A2 : Option Addr) (c2 : Nat) (x : (List Value)) (S : Nat → Prop) (L : List Asr) (w : World) (hf : Fresh S w) (hs : SL (row (raw 2) 35 (.slice A0 l0.length c0) l0 :: row (raw 2) 35 (.slice A2 1 c2) [x] :: L) w S) (hn : l0.length < 100000) (hi : i < l0.length) (hroom : c0 < l0.length + 1) :
    Calls Try.prog 28 #[.slice A0 l0.length c0, .int .i64 (i : Int), .slice A2 1 c2] w (insC.Post A2 c2 [x] (l0.take i ++ [x] ++ l0.drop i) [x] S L w) := by
  obtain ⟨n, hl⟩ : ∃ n : Nat, l0.length = n := ⟨_, rfl⟩
  rw [hl] at hn hi hroom hs ⊢
  have hw1 : wrap64 ((n : Int) + 1) = (n : Int) + 1 := ins_wrap _ (by omega) (by omega)
  have hw2 : wrap64 ((i : Int) + 1) = (i : Int) + 1 := ins_wrap _ (by omega) (by omega)
  have hw3 : IntKind.i64.wrap ((n : Int) + 1) = (n : Int) + 1 := by rw [IntKind.wrap_i64]; omega
  have hw4 : IntKind.i64.wrap ((i : Int) + 1) = (i : Int) + 1 := by rw [IntKind.wrap_i64]; omega
  obtain ⟨k, hk⟩ : ∃ k : Nat, k = n + 1 - i := ⟨_, rfl⟩
  have hw5 : wrap64 ((n : Int) + 1 - (i : Int)) = (n : Int) + 1 - (i : Int) := ins_wrap _ (by omega) (by omega)
  have mixed : Try.prog.follows .mixedOrders = true := by kernel_rfl
  have q1 : ((i : Int) = (n : Int)) = False := eq_false (by omega)
  have q2 : ((i : Int) == (n : Int)) = false := by rw [beq_eq_false_iff_ne]; omega
  have q3 : decide ((c0 : Int) < (n : Int) + 1) = true := decide_eq_true (by omega)
  have q4 : ((c0 : Int) < (n : Int) + 1) = True := eq_true (by omega)
  have hL := SL.tail hs
  obtain ⟨T, U, s1, s2, s3, hq, s5⟩ := SL.bound hs
  obtain ⟨T2, U2, t1, t2, t3, hq2, t5⟩ := id s5
  obtain ⟨g, of, c', cur, inner, hA0, hnl0, hnc, hcc, hm, hg, hcs, hinl, htake, hT, hr⟩ := qs_raw hq (by omega)
  obtain ⟨vb, vof, vc', vcur, xc, hA2, hn2, hnc2, hcc2, hm2, hg2, hcs2, hxl, hxt, hT2, hr2⟩ := qs_raw hq2 (by omega)
  have hsz : ((raw 2) : Kd (List Value)).sz = 2 := rfl
  rw [hsz] at hA0 hcs hinl htake hA2 hcs2 hxl hxt
  have hgw : g < w.heap.size := (s1 g hT).2
  have hvw : vb < w.heap.size := (s2 vb (t1 vb hT2)).2
  have hone := reps_one hr
  have hone2 := reps_one hr2
  obtain ⟨o, ho⟩ : ∃ o, o = of * 2 := ⟨_, rfl⟩
  obtain ⟨vo, hvo⟩ : ∃ vo, vo = vof * 2 := ⟨_, rfl⟩
  rw [← ho] at hA0 htake
  rw [← hvo] at hA2 hxt
  have hcsz : cur.size = o + c' * 2 := by rw [hcs, Nat.add_mul, ← ho]
  have hxl' : xc.length = 2 := by rw [hxl]
  obtain ⟨news_, hnews⟩ : ∃ news_, news_ = inner.drop (i * 2) := ⟨_, rfl⟩
  have hnl : news_.length = (n - i) * 2 := by rw [hnews, List.length_drop, hinl, Nat.sub_mul]
  -- what is there
  have hcellv : ∀ j v, xc[j]? = some v → w.cell? ⟨vb, vo + j, none⟩ = some v := fun j v hj => by
    rw [cell_of_row w vb _ vcur 35 (0, 0) hg2]
    have h9 := congrArg (·[j]?) hxt
    have hjl : j < 2 := by have := (List.getElem?_eq_some_iff.1 hj).1; omega
    simp only [List.getElem?_take, List.getElem?_drop] at h9
    rw [if_pos (by omega), Array.getElem?_toList, hj] at h9
    exact h9
  have hcello : ∀ j v, inner[j]? = some v → w.cell? ⟨g, o + j, none⟩ = some v := fun j v hj => by
    rw [cell_of_row w g _ cur 35 (0, 0) hg]
    have hjl : j < n * 2 := by have := (List.getElem?_eq_some_iff.1 hj).1; omega
    have h9 := congrArg (·[j]?) htake
    simp only [List.getElem?_take, List.getElem?_drop] at h9
    rw [if_pos (by omega), Array.getElem?_toList, hj] at h9
    exact h9
  obtain ⟨i0, hi0, hi1⟩ := Option.map_eq_some_iff.1 info35
  simp only [Prod.mk.injEq] at hi1
  obtain ⟨G, hG⟩ : ∃ G, G = grownCap w (n + 1) c0 35 := ⟨_, rfl⟩
  have hGn : n + 1 ≤ G := by rw [hG]; exact grownCap_ge w _ _ _
  have hGm : G ≤ maxLen := by rw [hG]; exact grownCap_le_maxLen w (n + 1) c0 35 (by unfold maxLen; omega)
  obtain ⟨Zc, hZc⟩ : ∃ Zc : Array Value, Zc = ((.agg #[(.int .i64 0), (.slice none 0 0)]) : Value).cells := ⟨_, rfl⟩
  have hZs : Zc.size = 2 := by rw [hZc]; rfl
  obtain ⟨ROW, hROW⟩ : ∃ ROW : Array Value, ROW = (inner.take (i * 2)).toArray ++ Builtin.zeroCells Zc (n + 1 - i) ++ Builtin.zeroCells Zc (G - (n + 1)) := ⟨_, rfl⟩
  have htl : (inner.take (i * 2)).length = i * 2 := by rw [List.length_take, hinl]; omega
  have hRs : ROW.size = G * 2 := by
    rw [hROW, Array.size_append, Array.size_append, zeroCells_len, zeroCells_len, hZs, List.size_toArray, htl]
    omega
  obtain ⟨W0, hW0⟩ : ∃ W0, W0 = w.drew.alloc (.cells ROW 35) := ⟨_, rfl⟩
  have hrz : ∀ ty, (Builtin.append_ #[22, 3] ty #[.slice A0 i c0, .int .i64 ((n : Int) + 1 - (i : Int))]).run Try.prog w = .ok (.slice (some ⟨w.heap.size, 0, none⟩) (n + 1) G) W0 := fun ty => by
    have hold : (Builtin.firstCells i0.size i (.slice A0 i c0)).run Try.prog w.drew = .ok (inner.take (i * 2)).toArray w.drew := by
      rw [hi1.2.1, hA0]
      exact run_firstCells_some w.drew 2 i ⟨g, o, none⟩ i c0 (inner.take (i * 2)) htl (fun j v hj => by
        rw [Addr.add_lit]
        rw [List.getElem?_take] at hj
        split at hj
        · exact hcello j v hj
        · cases hj)
    have h := Lib.run_append_grow_zeros w 22 3 ty 35 i0 _ .i64 .i64 Try.underlying22 Try.underlying3 hi0 hi1.1 A0 i c0 (inner.take (i * 2)) hold (n + 1 - i) (by omega) (by omega) (by omega) (by omega) (by rw [hi1.2.2]; omega) (by rw [hi1.2.2, show i + (n + 1 - i) = n + 1 by omega]; exact growslice_fits (by omega) (by omega))
    rw [show i + (n + 1 - i) = n + 1 by omega, ← hG, ← hZc, ← hROW, ← hW0] at h
    rw [show (n : Int) + 1 - (i : Int) = ((n + 1 - i : Nat) : Int) by omega]
    exact h
  have hg0 : W0.heap[w.heap.size]? = some (.cells ROW 35 (0, 0)) := by rw [hW0]; exact blk_new w.drew _
  have hB0 : Below w.heap.size w W0 := by rw [hW0]; exact below_alloc (below_drew (Below.refl _ _)) _
  obtain ⟨H, hH⟩ : ∃ H, H = w.heap.size := ⟨_, rfl⟩
  rw [← hH] at hg0
  obtain ⟨W1, hW1⟩ : ∃ W1, W1 = W0.setCells H (i * 2) xc := ⟨_, rfl⟩
  have hik : (i + 1) * 2 = i * 2 + 2 := by rw [Nat.add_mul, Nat.one_mul]
  have hG2 : (n + 1) * 2 ≤ G * 2 := Nat.mul_le_mul_right _ hGn
  have hin : (i + 1) * 2 ≤ (n + 1) * 2 := Nat.mul_le_mul_right _ (by omega)
  obtain ⟨cur1, b1, b2, b3⟩ := setCells_row xc (i * 2) W0 ROW hg0 (by rw [hRs]; omega)
  rw [← hW1] at b1
  obtain ⟨W2, hW2⟩ : ∃ W2, W2 = W1.drew.setCells H ((i + 1) * 2) news_ := ⟨_, rfl⟩
  have b1' : W1.drew.heap[H]? = some (.cells cur1 35 (0, 0)) := b1
  have hnl2 : (i + 1) * 2 + news_.length = (n + 1) * 2 := by rw [hnl, ← Nat.add_mul]; congr 1; omega
  obtain ⟨cur2, d1, d2, d3⟩ := setCells_row news_ ((i + 1) * 2) W1.drew cur1 b1' (by rw [b2, hRs]; omega)
  rw [← hW2] at d1
  have keep : Keep (news w) w W2 := ((Keep.drew ((Keep.below hB0).trans (hW1 ▸ setCells_keep (S := news w) (by unfold news; omega) xc (i * 2) W0)))).trans (hW2 ▸ setCells_keep (S := news w) (by unfold news; omega) news_ ((i + 1) * 2) W1.drew)
  have hsome : ∀ (W : World) (cu : Array Value), W.heap[H]? = some (.cells cu 35 (0, 0)) → ∀ q, q < cu.size → (W.cell? ⟨H, q, none⟩).isSome = true := fun W cu hW q hq => by
    rw [cell_of_row W H q cu 35 (0, 0) hW, Array.getElem?_eq_getElem hq]; rfl
  have hsz1 : (Try.prog.info? 35).map (·.size) = some 2 := by kernel_rfl
  have hv0 : ∀ j v, xc[j]? = some v → W0.cell? ⟨vb, vo + j, none⟩ = some v := fun j v hj => by
    have h := hcellv j v hj
    rw [cell_of_row w vb _ vcur 35 (0, 0) hg2] at h
    rw [cell_of_row W0 vb _ vcur 35 (0, 0) ((hB0.block vb hvw).trans hg2)]
    exact h
  have hcp1 : ∀ ty dc, (Builtin.copy_ #[22, 22] ty #[.slice (some ⟨H, i * 2, none⟩) (n + 1 - i) dc, .slice (some ⟨vb, vo, none⟩) 1 c2]).run Try.prog W0 = .ok (.int .i64 ((1 : Nat) : Int)) W1 := fun ty dc => by
    rw [hW1]
    exact run_copyK W0 22 22 ty 35 H (i * 2) (n + 1 - i) dc ⟨vb, vo, none⟩ 1 c2 1 2 xc Try.underlying22 hsz1 (by simp only [Nat.min_def]; split <;> omega) hxl
      (fun j v hj => by rw [Addr.add_lit]; exact hv0 j v hj) (fun j hj => hsome _ ROW hg0 _ (by rw [hRs]; omega)) (fun j hj => blk_frozen hg0 _) hone2
  have hgH : g ≠ H := by omega
  have ho1 : ∀ j v, inner[j]? = some v → W1.drew.cell? ⟨g, o + j, none⟩ = some v := fun j v hj => by
    have h := hcello j v hj
    rw [cell_of_row w g _ cur 35 (0, 0) hg] at h
    have hgk : W1.heap[g]? = some (.cells cur 35 (0, 0)) := by
      rw [hW1]
      exact (setCells_far xc (i * 2) g hgH).trans ((hB0.block g hgw).trans hg)
    rw [cell_of_row W1.drew g _ cur 35 (0, 0) hgk]
    exact h
  have hcp2 : ∀ ty dc sc, (Builtin.copy_ #[22, 22] ty #[.slice (some ⟨H, (i + 1) * 2, none⟩) (n + 1 - (i + 1)) dc, .slice (some ⟨g, o + i * 2, none⟩) (n - i) sc]).run Try.prog W1.drew = .ok (.int .i64 ((n - i : Nat) : Int)) W2 := fun ty dc sc => by
    rw [hW2]
    exact run_copyK W1.drew 22 22 ty 35 H ((i + 1) * 2) (n + 1 - (i + 1)) dc ⟨g, o + i * 2, none⟩ (n - i) sc (n - i) 2 news_ Try.underlying22 hsz1 (by simp only [Nat.min_def]; split <;> omega) hnl
      (fun j v hj => by rw [Addr.add_lit, Nat.add_assoc]; exact ho1 _ v (by rwa [hnews, List.getElem?_drop] at hj)) (fun j hj => hsome _ cur1 b1' _ (by rw [b2, hRs]; omega)) (fun j hj => blk_frozen b1' _) (fun v hv => hone v (by rw [hnews] at hv; exact List.mem_of_mem_drop hv))
  have hu : Try.prog.underlying 22 = some (.slice (Try.prog.elem 22)) := Try.underlying22
  have hel : Try.prog.elem 22 = 35 := rfl
  have v1' : ∀ W : World, (Instr.slice 22 (.slice A0 n c0) (some (.int .i64 (i : Int))) none none).run Try.prog W = .ok (.slice (some ⟨g, o + i * 2, none⟩) (n - i) (c0 - i)) W := fun W => by
    rw [run_slice_l W 22 A0 n c0 hu .i64 (i : Int) (by omega) (by omega), hel, Try.sizeOf35]
    simp only [Result.andThen, sliced, Int.toNat_natCast]
    rw [if_neg (by omega), hA0, Option.map_some, Addr.add_lit]
  have v2 : ∀ W : World, (Instr.slice 22 (.slice A0 n c0) none (some (.int .i64 (i : Int))) none).run Try.prog W = .ok (.slice A0 i c0) W := fun W => by
    rw [run_slice_h W 22 A0 n c0 hu .i64 (i : Int) (by omega) (by omega), hel, Try.sizeOf35]
    simp only [Result.andThen, sliced, Int.toNat_natCast, Nat.sub_zero, Nat.zero_mul]
    rw [if_neg (by omega), hA0, Option.map_some, Addr.add_zero']
  have v3 : ∀ W : World, (Instr.slice 22 (.slice (some ⟨H, 0, none⟩) (n + 1) G) (some (.int .i64 ((i : Int) + 1))) none none).run Try.prog W = .ok (.slice (some ⟨H, (i + 1) * 2, none⟩) (n + 1 - (i + 1)) (G - (i + 1))) W := fun W => by
    rw [run_slice_l W 22 _ (n + 1) G hu .i64 ((i : Int) + 1) (by omega) (by omega), hel, Try.sizeOf35]
    simp only [Result.andThen, sliced, show ((i : Int) + 1).toNat = i + 1 by omega]
    rw [if_neg (by omega), Option.map_some, Addr.add_lit, Nat.zero_add]
  have v4 : ∀ W : World, (Instr.slice 22 (.slice (some ⟨H, 0, none⟩) (n + 1) G) (some (.int .i64 (i : Int))) none none).run Try.prog W = .ok (.slice (some ⟨H, i * 2, none⟩) (n + 1 - i) (G - i)) W := fun W => by
    rw [run_slice_l W 22 _ (n + 1) G hu .i64 (i : Int) (by omega) (by omega), hel, Try.sizeOf35]
    simp only [Result.andThen, sliced, Int.toNat_natCast]
    rw [if_neg (by omega), Option.map_some, Addr.add_lit, Nat.zero_add]
  -- the end
  have hil2 : (inner.take (i * 2) ++ xc ++ inner.drop (i * 2)).length = (n + 1) * ((raw 2) : Kd (List Value)).sz := by
    rw [hsz, List.length_append, List.length_append, List.length_take, List.length_drop, hinl, hxl']
    omega
  have hrk := Kd.reps_append (Kd.reps_append (Kd.reps_take hr (show i ≤ l0.length by omega)) hr2) (Kd.reps_drop (m := i) hr)
  rw [hsz] at hrk
  have hend : Qs (raw 2) 35 W2 0 (news w) (.slice (some ⟨H, 0 * ((raw 2) : Kd (List Value)).sz, none⟩) (n + 1) G) (l0.take i ++ [x] ++ l0.drop i) := by
    refine qs_mk (d := (raw 2)) (flat_raw 2) (w0 := w) (inner := inner.take (i * 2) ++ xc ++ inner.drop (i * 2)) (cur := cur2) (by simp [hl]; omega) hGn (Nat.le_refl _) (by omega) d1 (by rw [d2, b2, hsz, Nat.zero_add]; exact hRs) hil2 ?_ (by unfold news; omega) hrk
    rw [hsz, Nat.zero_mul]
    rw [d3, b3, hnews, hROW]
    have e1 : (n + 1) * 2 = n * 2 + 2 := by rw [Nat.add_mul, Nat.one_mul]
    rw [hik, e1]
    simp only [Array.toList_append]
    exact grow_cells inner xc _ _ (i * 2) (n * 2) 2 (Nat.mul_le_mul_right _ (by omega)) hinl hxl' (by rw [Array.length_toList, zeroCells_len, hZs]; omega)
  rw [Nat.zero_mul] at hend
  have hel2 : (l0.take i ++ [x] ++ l0.drop i).length = n + 1 := by simp [hl]; omega
  obtain ⟨zs, hzs⟩ : ∃ zs, zs = l0.take i ++ [x] ++ l0.drop i := ⟨_, rfl⟩
  rw [← hzs] at hend hel2 ⊢
  obtain ⟨B0, hB0'⟩ : ∃ B, (⟨H, 0, none⟩ : Addr) = B := ⟨_, rfl⟩
  obtain ⟨B1, hB1⟩ : ∃ B, (⟨H, (i + 1) * 2, none⟩ : Addr) = B := ⟨_, rfl⟩
  obtain ⟨B2, hB2⟩ : ∃ B, (⟨H, i * 2, none⟩ : Addr) = B := ⟨_, rfl⟩
  obtain ⟨B3, hB3⟩ : ∃ B, (⟨g, o + i * 2, none⟩ : Addr) = B := ⟨_, rfl⟩
  obtain ⟨n1, hn1⟩ : ∃ q, n + 1 - (i + 1) = q := ⟨_, rfl⟩
  obtain ⟨n2, hn2'⟩ : ∃ q, n + 1 - i = q := ⟨_, rfl⟩
  obtain ⟨n3, hn3⟩ : ∃ q, n - i = q := ⟨_, rfl⟩
  obtain ⟨c1', hc1'⟩ : ∃ q, G - (i + 1) = q := ⟨_, rfl⟩
  obtain ⟨c2', hc2'⟩ : ∃ q, G - i = q := ⟨_, rfl⟩
  obtain ⟨c3', hc3'⟩ : ∃ q, c0 - i = q := ⟨_, rfl⟩
  rw [← hH, hB0'] at hrz
  rw [hB0', hB1, hn1, hc1'] at v3
  rw [hB0', hB2, hn2', hc2'] at v4
  rw [hB3, hn3, hc3'] at v1'
  rw [hB2, hn2', ← hA2] at hcp1
  rw [hB1, hB3, hn1, hn3] at hcp2
  rw [hB0'] at hend
  have SN := Aside0.mk (SL.new (A := row (raw 2) 35 (.slice (some B0) (n + 1) G) zs) hf hL keep.to_below hend)
  have H2 := Aside0.mk hcp2
  have HEL := Aside0.mk hel2
  have hca := hrz 22
  have hcb := hcp1 3 c2'
  clear hnl0 hs hq hq2 hr hr2 hone hone2 hcellv hcello hsome b1 b2 b3 d1 d2 d3 b1' hend keep hil2 hrk s5 t1 t2 t3 t5 hf s1 s2 s3 hcp1 hcp2 hg hg2 hm hm2 hcs hcs2 hinl hxl htake hxt hW0 hW1 hW2 hu hel hel2 hzs hA0 hA2 hT hT2 hnews hnl hcsz hxl' hB0' hB1 hB2 hB3 hn1 hn2' hn3 hc1' hc2' hc3' hsz ho hvo hsz1 hcc hcc2 hnc2 hn2 hL hgw hvw hk hG hGn hGm hZc hZs hROW htl hRs hrz hg0 hB0 hH hik hG2 hin hnl2 hv0 ho1 hgH hw2
  go_enter Try.func28, Try.ntmps28
  go_wp2_with (at_builtin; refine Lib.wpList_append_run _ rfl _ _ _ _ rfl _ _ rfl rfl _ _ hca ?_)
  go_region_law_o (refine step_copy_runI rfl _ _ 22 22 rfl (.slice (some B1) n1 c1') (.slice (some B3) n3 c3') (by simp [Act.eval, Act.put]) (by simp [Act.eval, Act.put]) (H2.out 3 c1' c3') ?_)
  go_wp2
  go_ret
  exact ⟨_, _, by rw [HEL.out]; rfl, SL.swap (by rw [HEL.out]; exact SN.out.1), SN.out.2⟩
/-- The three roads in one. -/
theorem insC.raw_ (A0 : Option Addr) (c0 : Nat) (l0 : List (List Value)) (a1 : Int) (A2 : Option Addr) (c2 : Nat) (x : (List Value)) (S : Nat → Prop) (L : List Asr) (w : World) (hf : Fresh S w) (hs : SL (row (raw 2) 35 (.slice A0 l0.length c0) l0 :: row (raw 2) 35 (.slice A2 1 c2) [x] :: L) w S) (hn : l0.length < 100000) (h0 : 0 ≤ a1) (h1 : a1 ≤ (l0.length : Int)) :
    Calls Try.prog 28 #[.slice A0 l0.length c0, .int .i64 a1, .slice A2 1 c2] w (insC.Post A2 c2 [x] (l0.take a1.toNat ++ [x] ++ l0.drop a1.toNat) [x] S L w) := by
  obtain ⟨i, rfl⟩ := Int.eq_ofNat_of_zero_le h0
  rw [Int.toNat_natCast]
  rcases Nat.lt_or_ge i l0.length with hi | hi
  · rcases Nat.lt_or_ge c0 (l0.length + 1) with hc | hc
    · exact insC.grow_ A0 c0 l0 i A2 c2 x S L w hf hs hn hi hc
    · exact insC.room_ A0 c0 l0 i A2 c2 x S L w hf hs hn hi hc
  · have : i = l0.length := by omega
    subst this
    rw [List.take_length, List.drop_length, List.append_nil]
    exact insC.end_ A0 c0 l0 A2 c2 x S L w hf hs hn
def slices_Insert.f (l0 : List S35) (a1 : Int) (l2 : List S35) : Option (List S35) := if 0 ≤ a1 ∧ a1 ≤ (l0.length : Int) ∧ l2.length = 1 ∧ l0.length < 100000 then some (l0.take a1.toNat ++ l2 ++ l0.drop a1.toNat) else none
def slices_Insert.Post (r : List S35) (S : Nat → Prop) (L : List Asr) (w : World) (e : Ending) (w' : World) : Prop := ∃ (Ar1 : Option Addr) (cr1 : Nat), e = .returned (.slice Ar1 r.length cr1) ∧ SL (rows inn35 2 35 (.slice Ar1 r.length cr1) r :: L) w' S ∧ Keep S w w'
theorem slices_Insert.slcalls (A0 : Option Addr) (c0 : Nat) (l0 : List S35) (a1 : Int) (A2 : Option Addr) (c2 : Nat) (l2 : List S35) (r : List S35) (S : Nat → Prop) (L : List Asr) (w : World) (hf : Fresh S w) (hs : SL (rows inn35 2 35 (.slice A0 l0.length c0) l0 :: rows inn35 2 35 (.slice A2 l2.length c2) l2 :: L) w S) (h : slices_Insert.f l0 a1 l2 = some r) :
    Calls Try.prog 28 #[.slice A0 l0.length c0, .int .i64 a1, .slice A2 l2.length c2] w (slices_Insert.Post r S L w) := by
  unfold slices_Insert.f at h
  split at h
  · rename_i hh
    obtain rfl := Option.some.inj h
    obtain ⟨h0, h1, h2, hn⟩ := hh
    obtain ⟨x, rfl⟩ := List.length_eq_one_iff.1 h2
    obtain ⟨css, hc, hs⟩ := rows_open hs
    have hs := SL.perm (List.perm_middle (l₁ := row (raw 2) 35 (.slice A0 l0.length c0) css :: List.zipWith inn35 l0 css)) hs
    obtain ⟨cxs, hcx, hs⟩ := rows_open hs
    obtain ⟨xc, rfl⟩ := List.length_eq_one_iff.1 hcx
    rw [← hc] at hs ⊢
    have hs : SL (row (raw 2) 35 (.slice A0 css.length c0) css :: row (raw 2) 35 (.slice A2 1 c2) [xc] :: (inn35 x xc :: (List.zipWith inn35 l0 css ++ L))) w S := SL.swap (SL.cons (fun _ _ => SL.swap) hs)
    refine (insC.raw_ A0 c0 css a1 A2 c2 xc S _ w hf hs (by omega) h0 (by omega)).mono ?_
    rintro e_ w1 ⟨Ar, cr, rfl, h3, h4⟩
    obtain ⟨i, hi⟩ : ∃ i, i = a1.toNat := ⟨_, rfl⟩
    rw [← hi] at h3 ⊢
    have hle : i ≤ l0.length := by omega
    have hlen : (css.take i ++ [xc] ++ css.drop i).length = (l0.take i ++ [x] ++ l0.drop i).length := by simp [hc]
    refine ⟨Ar, cr, by rw [hlen], rows_close hlen ?_, h4⟩
    rw [← hlen]
    refine SL.cons (fun _ _ => SL.perm ?_) (SL.tail h3)
    rw [List.append_assoc, List.append_assoc, List.zipWith_append (by simp [hc]), List.zipWith_append (by simp)]
    have e1 : List.zipWith inn35 l0 css = List.zipWith inn35 (l0.take i) (css.take i) ++ List.zipWith inn35 (l0.drop i) (css.drop i) := by
      rw [← List.zipWith_append (by simp [hc]), List.take_append_drop, List.take_append_drop]
    rw [e1]
    simp only [List.append_assoc]
    exact (List.perm_middle (l₁ := List.zipWith inn35 (l0.take i) (css.take i))).symm
  · cases h

end Go.Proofs.Ytbhgohomgfjjfaa.XCO
