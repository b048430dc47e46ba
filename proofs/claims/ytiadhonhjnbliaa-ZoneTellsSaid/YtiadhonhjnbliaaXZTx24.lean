-- Written by xprint.py (a program of this session) for this claim
import Derived.Test.YtiadhonhjnbliaaSq
import Derived.Test.YtiadhonhjnbliaaSL8
import Derived.Test.YtiadhonhjnbliaaSL5
import Derived.Test.YtiadhonhjnbliaaXZTx0
import Derived.Test.YtiadhonhjnbliaaXZTx11
import Derived.Test.YtiadhonhjnbliaaXZTx13
import Derived.Test.YtiadhonhjnbliaaXZTx15
namespace Go.Proofs.Ytiadhonhjnbliaa.XZT
open Go.Proofs.YtiadhonhjnbliaaV Go.Proofs.YtiadhonhjnbliaaS
open Go.RowKit Go.Proofs.YtiadhonhjnbliaaW.PrintWords Go.Proofs.YtiadhonhjnbliaaW.PrintLast Go.Proofs.YtiadhonhjnbliaaW.PrintMore
attribute [local go_sem] max2_int min2_int max_two min_two max_three min_three max_four min_four   -- for this text's walks alone
set_option linter.unusedVariables false
set_option linter.unusedSimpArgs false

-- NOT PRINTED: function 34 (api_Zone_34)

/-! ### slices_Delete: function 34, by hand -/
def slices_Delete.f (l0 : List S37) (a1 a2 : Int) : Option (List S37) := if 0 ≤ a1 ∧ a1 < (l0.length : Int) ∧ a2 = a1 + 1 then some (l0.eraseIdx a1.toNat) else none
def slices_Delete.Post (r : List S37) (S : Nat → Prop) (L : List Asr) (w : World) (e : Ending) (w' : World) : Prop := ∃ (Ar1 : Option Addr) (cr1 : Nat), e = .returned (.slice Ar1 r.length cr1) ∧ SL (row k37 37 (.slice Ar1 r.length cr1) r :: L) w' S ∧ Keep S w w'
set_option maxHeartbeats 8000000 in
set_option maxRecDepth 100000 in
theorem slices_Delete.slcalls (A0 : Option Addr) (c0 : Nat) (l0 : List S37) (a1 a2 : Int) (r : List S37) (S : Nat → Prop) (L : List Asr) (w : World) (hf : Fresh S w) (hs : SL (row k37 37 (.slice A0 l0.length c0) l0 :: L) w S) (h : slices_Delete.f l0 a1 a2 = some r) :
  Calls Try.prog 34 #[.slice A0 l0.length c0, .int .i64 a1, .int .i64 a2] w (slices_Delete.Post r S L w) := by
 unfold slices_Delete.f at h
 split at h
 rotate_left
 ·cases h
 rename_i hcond
 obtain ⟨h0, h1, h2⟩ := hcond
 obtain rfl := Option.some.inj h
 obtain ⟨i, rfl⟩ : ∃ i : Nat, a1 = i := ⟨a1.toNat, by omega⟩
 rw [Int.toNat_natCast]
 have hil : i < l0.length := by omega
 obtain ⟨n, hn⟩ : ∃ n, n = l0.length := ⟨_, rfl⟩
 rw [← hn]
 rw [← hn] at hs
 have hsz : k37.sz = 16 := rfl
 obtain ⟨T, U, s1, s2, s3, hq, s5⟩ := hs
 obtain ⟨g, of, c', cur, inner, hA0, hnl0, hnc, hcc, hm, hg, hcs, hinl, htake, hT, hr⟩ := qs_raw hq (by omega)
 have hone := reps_one hr
 obtain ⟨news, hnews⟩ : ∃ news, news = inner.drop ((i + 1) * k37.sz) := ⟨_, rfl⟩
 have hnl : news.length = (n - (i + 1)) * 16 := by rw [hnews, List.length_drop, hinl, hsz, Nat.sub_mul]
 obtain ⟨o, ho⟩ : ∃ o, o = of * k37.sz := ⟨_, rfl⟩
 rw [← ho] at hA0
 have hcsz : cur.size = o + c' * 16 := by rw [hcs, Nat.add_mul, ← ho, hsz]
 have hcell : ∀ q, q < cur.size → ∃ u, w.drew.cell? ⟨g, q, none⟩ = some u := fun q hq => by
  refine ⟨cur[q], ?_⟩
  have : w.drew.heap[g]? = some (.cells cur 37 (0, 0)) := hg
  rw [cell_of_row w.drew g q cur 37 (0, 0) this, Array.getElem?_eq_getElem hq]
 obtain ⟨A, hA, hsrc⟩ : ∃ A : Addr, (if c0 = i + 1 then some (⟨g, o, none⟩ : Addr) else some ⟨g, o + (i + 1) * 16, none⟩) = some A ∧ Aside0 (∀ t u, news[t]? = some u → w.drew.cell? (A.add t) = some u) := by
  by_cases hc : c0 = i + 1
  ·refine ⟨⟨g, o, none⟩, by simp [hc], ⟨fun t u hu => ?_⟩⟩
   have h0 : news = [] := List.eq_nil_of_length_eq_zero (by rw [hnl]; omega)
   rw [h0] at hu
   simp at hu
  ·refine ⟨⟨g, o + (i + 1) * 16, none⟩, by simp [hc], ⟨fun t u hu => ?_⟩⟩
   have ht : t < news.length := (List.getElem?_eq_some_iff.1 hu).1
   have hd : w.drew.heap[g]? = some (.cells cur 37 (0, 0)) := hg
   rw [Addr.add_lit, cell_of_row w.drew g _ cur 37 (0, 0) hd, ← Array.getElem?_toList]
   rw [hnews, List.getElem?_drop, ← htake, List.getElem?_take, if_pos (by rw [hsz]; omega), List.getElem?_drop, ← ho, hsz] at hu
   rw [← hu]
   congr 1
   omega
 have s1' : Aside0 (news.length = (n - (i + 1)) * 16) := ⟨hnl⟩
 have s2' : Aside0 (∀ u ∈ news, u.oneCell' = true) := ⟨fun u hu => hone u (by rw [hnews] at hu; exact List.mem_of_mem_drop hu)⟩
 have hd : w.drew.heap[g]? = some (.cells cur 37 (0, 0)) := hg
 have s3' : Aside0 (∀ t, t < news.length → (w.drew.cell? ⟨g, o + i * 16 + t, none⟩).isSome = true ∧ w.drew.frozen? ⟨g, o + i * 16 + t, none⟩ = false) := ⟨fun t ht => by
  obtain ⟨u, hu⟩ := hcell (o + i * 16 + t) (by omega)
  exact ⟨by rw [hu]; rfl, blk_frozen hd _⟩⟩
 obtain ⟨m, hmn⟩ : ∃ m, i + (n - (i + 1)) = m := ⟨_, rfl⟩
 have hm1 : m = n - 1 := by omega
 obtain ⟨i0, hi0, hi1⟩ := Option.map_eq_some_iff.1 info37
 simp only [Prod.mk.injEq] at hi1
 obtain ⟨W1, hW1⟩ : ∃ W1, W1 = w.drew.setCells g (o + i * 16) news := ⟨_, rfl⟩
 obtain ⟨cur1, b1, b2, b3⟩ := setCells_row news (o + i * 16) w.drew cur hd (by omega)
 rw [← hW1] at b1
 obtain ⟨zs, hzs⟩ : ∃ zs : List Value, zs = List.replicate 16 (Value.int .i64 0) := ⟨_, rfl⟩
 have hcl : ∀ ty, (Builtin.clear_ #[22] ty #[.slice (some ⟨g, o + (n - 1) * 16, none⟩) 1 (c0 - (n - 1))]).run Try.prog W1 = .ok (.tuple #[]) (W1.setCells g (o + (n - 1) * 16) zs) :=
  fun ty => run_clear_cells W1 22 37 ty _ Try.underlying22 Try.zeroValue37 g (o + (n - 1) * 16) 1 _ (by omega) zs (by rw [hzs]; kernel_rfl) (by rw [hzs]; intro u hu; rw [List.eq_of_mem_replicate hu]; rfl)
   (fun j hj => by
    have hj16 : j < 16 := by rw [hzs] at hj; simpa using hj
    rw [cell_of_row W1 g _ cur1 37 (0, 0) b1, Array.getElem?_eq_getElem (by omega)]; rfl) (fun j hj => blk_frozen b1 _)
 have hend := qs_del (d := k37) ⟨fun h_ => h_⟩ (k := i) (zs := zs) (ho ▸ hA0 ▸ hq) (by omega) hnc hcc hm hg hcs hinl htake hT hr (by omega) (by rw [hzs]; rfl)
 rw [← hnews, ← ho, hsz, ← hW1, ← hA0] at hend
 have HE := Aside0.mk hend
 have e1 : ((i : Int) == a2) = false := by rw [beq_eq_false_iff_ne]; omega
 have e2 : ((i : Int) = a2) = False := eq_false (by omega)
 have hu : Try.prog.underlying 22 = some (.slice (Try.prog.elem 22)) := Try.underlying22
 have hel : Try.prog.elem 22 = 37 := rfl
 have v1 : ∀ W : World, (Instr.slice 22 (.slice A0 n c0) (some (.int .i64 i)) (some (.int .i64 a2)) (some (.int .i64 n))).run Try.prog W = .ok (sliced A0 i (i + 1) n 16) W := fun W => by
  rw [run_slice_lhm W 22 A0 n c0 hu .i64 .i64 .i64 i a2 n (by omega) (by omega) (by omega) (by omega), hel, Try.sizeOf37]
  simp only [Result.andThen, Int.toNat_natCast, show a2.toNat = i + 1 by omega]
 have v2 : ∀ W : World, (Instr.slice 22 (.slice A0 n c0) none (some (.int .i64 i)) none).run Try.prog W = .ok (.slice A0 i c0) W := fun W => by
  have := Go.Proofs.YtiadhonhjnbliaaW.PrintWords.cut_to (P := Try.prog) 22 37 .i64 Try.underlying22 hi0 A0 n c0 i (by omega) (by omega) hnc W
  rwa [Int.toNat_natCast] at this
 have v3 : ∀ W : World, (Instr.slice 22 (.slice A0 n c0) (some (.int .i64 a2)) none none).run Try.prog W = .ok (.slice (some A) (n - (i + 1)) (c0 - (i + 1))) W := fun W => by
  have := Go.Proofs.YtiadhonhjnbliaaW.PrintWords.cut_from (P := Try.prog) 22 37 .i64 Try.underlying22 hi0 16 hi1.2.1 A0 n c0 a2 (by omega) (by omega) W
  rw [show a2.toNat = i + 1 by omega, hA0, Option.map_some, Addr.add_lit, hA, ← hA0] at this
  exact this
 obtain ⟨B, hB⟩ : ∃ B, some (⟨g, o + m * 16, none⟩ : Addr) = B := ⟨_, rfl⟩
 have v4 : ∀ W : World, (Instr.slice 22 (.slice A0 m c0) (some (.int .i64 m)) (some (.int .i64 n)) none).run Try.prog W = .ok (.slice B 1 (c0 - m)) W := fun W => by
  rw [run_slice_lh W 22 A0 m c0 hu .i64 .i64 m n (by omega) (by omega) (by omega), hel, Try.sizeOf37]
  simp only [Result.andThen, Int.toNat_natCast, sliced]
  rw [if_neg (by omega), hA0, Option.map_some, Addr.add_lit, show n - m = 1 by omega, hB]
 rw [← hm1] at hcl HE
 rw [hB] at hcl
 have HA0 := Aside0.mk hA0
 have keep : Keep T w (W1.setCells g (o + m * 16) zs) := ((Keep.drew (Keep.refl T w)).trans (hW1 ▸ setCells_keep hT news (o + i * 16) w.drew)).trans (setCells_keep hT zs (o + m * 16) W1)
 have KP := Aside0.mk keep
 have hW : Aside0 (W1 = w.drew.setCells g (o + i * 16) news) := ⟨hW1⟩
 have hM : Aside0 (i + (n - (i + 1)) = m) := ⟨hmn⟩
 have hel2 : (l0.eraseIdx i).length = m := by rw [List.length_eraseIdx_of_lt hil]; omega
 have FAR := Aside0.mk (SL.far (SL.bound s5) keep (fun k hk hk' => s3 k hk' hk.1))
 have hroom : i + (n - (i + 1)) ≤ c0 := by omega
 clear hA0 hB hnl0
 clear hW1 hq hg hcs hinl htake hr hone hnl hcsz hcell hA hend b1 b2 b3 hd s5 keep hnews hmn
 have HI0 := Aside0.mk hi0
 have HI1 := Aside0.mk hi1.2.1
 have HROOM := Aside0.mk hroom
 have f1 : (i ≤ c0) = True := eq_true (by omega)
 have f2 : (i ≤ n) = True := eq_true (by omega)
 have f3 : (n ≤ c0) = True := eq_true (by omega)
 have f4 : ((0 : Int) ≤ a2) = True := eq_true (by omega)
 have f5 : (a2 ≤ (n : Int)) = True := eq_true (by omega)
 have f6 : (a2 ≤ (c0 : Int)) = True := eq_true (by omega)
 have f7 : ((i : Int) ≤ a2) = True := eq_true (by omega)
 have f8 : (m ≤ n) = True := eq_true (by omega)
 have f9 : (m ≤ c0) = True := eq_true (by omega)
 have g1 : (n = i) = False := eq_false (by omega)
 have g2 : (c0 = m) = False := eq_false (by omega)
 clear hu hel hm hcc h0 h1 h2 hsz hn hil hm1 hi0 hi1 hroom hnc hzs ho hT hf
 go_enter Try.func34, Try.ntmps34
 go_wp2_with fail
 refine start_ (n := 8) (S := fun _ => True) (ds := []) #[O,O,O,O,O,O,O,O] (by kernel_rfl) rfl rfl trivial ?_
 intro hHeld
 refine pure_ (i := 0) (N := some 20) (v := ?_) (a' := ?_) #[I,O,O,O,O,O,O,O] rfl rfl (by kernel_rfl) (fun _ _ _ h => h) (Or.inl ⟨by rfl, ?_⟩) ?_ ?_; rotate_left; · (intro w'; go_simp; with_reducible rfl)
 rotate_left; · (simp only [Act.put, List.setIfInBounds_toArray, List.set_cons_zero, List.set_cons_succ]; rfl)
 refine pure_ (i := 1) (N := some 21) (v := ?_) (a' := ?_) #[I,I,O,O,O,O,O,O] rfl rfl (by kernel_rfl) (fun _ _ _ h => h) (Or.inl ⟨by rfl, ?_⟩) ?_ ?_; rotate_left; · (intro w'; go_simp; with_reducible rfl)
 rotate_left; · (simp only [Act.put, List.setIfInBounds_toArray, List.set_cons_zero, List.set_cons_succ]; rfl)
 refine pure_ (i := 2) (N := some 22) (v := ?_) (a' := ?_) #[I,I,I,O,O,O,O,O] rfl rfl (by kernel_rfl) (fun _ _ _ h => h) (Or.inl ⟨by rfl, ?_⟩) ?_ ?_; rotate_left; · (intro w'; go_simp; with_reducible rfl)
 rotate_left; · (simp only [Act.put, List.setIfInBounds_toArray, List.set_cons_zero, List.set_cons_succ]; rfl)
 refine pure_ (i := 3) (N := some 23) (v := ?_) (a' := ?_) #[I,I,I,I,O,O,O,O] rfl rfl (by kernel_rfl) (fun _ _ _ h => h) (Or.inl ⟨by rfl, ?_⟩) ?_ ?_; rotate_left; · (intro w'; go_simp; with_reducible rfl)
 rotate_left; · (simp only [Act.put, List.setIfInBounds_toArray, List.set_cons_zero, List.set_cons_succ]; rfl)
 refine pure_ (i := 4) (N := some 24) (v := ?_) (a' := ?_) #[I,I,I,I,I,O,O,O] rfl rfl (by kernel_rfl) (fun _ _ _ h => h) (Or.inl ⟨by rfl, ?_⟩) ?_ ?_; rotate_left; · (intro w'; go_simp; with_reducible rfl)
 rotate_left; · (simp only [Act.put, List.setIfInBounds_toArray, List.set_cons_zero, List.set_cons_succ]; rfl)
 refine pure_ (i := 5) (N := some 25) (v := ?_) (a' := ?_) #[I,I,I,I,I,I,O,O] rfl rfl (by kernel_rfl) (fun _ _ _ h => h) (Or.inl ⟨by rfl, ?_⟩) ?_ ?_; rotate_left; · (intro w'; go_simp; with_reducible rfl)
 rotate_left; · (simp only [Act.put, List.setIfInBounds_toArray, List.set_cons_zero, List.set_cons_succ]; rfl)
 refine one_ (i := 6) (N := some 26) #[I,I,I,I,I,I,I,O] rfl rfl (by kernel_rfl) (by decide) (fun K hK => ?_)
 refine step_append_room rfl (.tmp 22) (.tmp 25) 22 rfl 37 i0 16 Try.underlying22 HI0.out HI1.out g o i c0 (by simp [Act.eval, Act.put, HA0.out]) A (n - (i + 1)) (c0 - (i + 1)) news (by simp [Act.eval, Act.put]) s1'.out hsrc.out s2'.out HROOM.out s3'.out ?_
 rw [← hW.out, hM.out, ← HA0.out]
 refine hK.out _ _ trivial (fun hHeld => ?_)
 clear hK K
 refine norm_ (a' := ?_) ?_ ?_; rotate_left
 ·show Act.put _ (some 26) _ = _
  simp only [Act.put, List.setIfInBounds_toArray, List.set_cons_zero, List.set_cons_succ]
  rfl
 refine pure_ (i := 7) (N := some 0) (v := ?_) (a' := ?_) #[I,I,I,I,I,I,I,I] rfl rfl (by kernel_rfl) (fun _ _ _ h => h) (Or.inl ⟨by rfl, ?_⟩) ?_ ?_; rotate_left; · (intro w'; go_simp; with_reducible rfl)
 rotate_left; · (simp only [Act.put, List.setIfInBounds_toArray, List.set_cons_zero, List.set_cons_succ]; rfl)
 refine done_ (by kernel_rfl) ?_
 go_wp2
 go_ret
 unfold slices_Delete.Post
 exact ⟨A0, c0, by rw [hel2]; rfl, ⟨T, _, s1, fun k hk => s2 k hk.1, fun k hk hk' => s3 k hk hk'.1, (by show Qs _ _ _ _ _ (.slice A0 (l0.eraseIdx i).length c0) _; rw [hel2]; exact HE.out), FAR.out⟩, KP.out.sub s1⟩

/-! ### zone_Drop: function 16 -/
def zone_Drop.f (k : Nat) (l0 : List (S37)) (a1 : Int) : Option ((List (S37)) × Bool) := (api_Zone_30.f l0).bind fun t573 => ((zone_find.f k t573 a1).bind fun t574 => (if t574 < 0 then (some (t573, false)) else ((slices_Delete.f t573 t574 (wrap64 (t574 + 1))).bind fun t575 => (some (t575, true)))))
theorem zone_Drop.mono : ∀ a0 a1 k, LeO (zone_Drop.f k a0 a1) (zone_Drop.f (k + 1) a0 a1) := by
 intro a0 a1 k
 unfold zone_Drop.f
 repeat' first
   | (with_reducible exact zone_find.mono _ _ _)
   | (with_reducible exact LeO.refl _)
   | (with_reducible exact LeO.none _)
   | (with_reducible refine LeO.ite ?_ ?_)
   | (with_reducible refine everyOf_le (fun _ => ?_))
   | (with_reducible refine LeO.bind ?_ (fun _ => ?_))
   | exact zone_find.mono _ _ _
   | exact LeO.none _
   | refine LeO.ite ?_ ?_
   | refine LeO.bind ?_ (fun _ => ?_)
def zone_Drop.Post (r1 : List (S37)) (r2 : Bool) (S : Nat → Prop) (L : List Asr) (w : World) (e : Ending) (w' : World) : Prop := ∃ (Ar1 : Option Addr) (cr1 : Nat), e = .returned (.tuple #[.slice Ar1 r1.length cr1, .bool r2]) ∧ SL (row k37 37 (.slice Ar1 r1.length cr1) r1 :: L) w' S ∧ Keep S w w'
set_option maxHeartbeats 8000000 in
set_option maxRecDepth 100000 in
theorem zone_Drop.slcalls (k : Nat) (A0 : Option Addr) (c0 : Nat) (l0 : List (S37)) (a1 : Int) (r1 : List (S37)) (r2 : Bool) (S : Nat → Prop) (L : List Asr) (w : World) (hf : Fresh S w) (hs : SL (L) w S) (hr0 : RO S w (fun w_ => Kd.C k37 w_ A0 l0.length l0)) (hc0 : l0.length ≤ c0) (h : zone_Drop.f k l0 a1 = some (r1, r2)) :
  Calls Try.prog 16 #[.slice A0 l0.length c0, .int .i64 a1] w (zone_Drop.Post r1 r2 S L w) := by
 have HR0 := Aside0.mk hr0
 have HC0 := Aside0.mk hc0
 clear hr0 hc0
 have HF := Aside0.mk hf
 have HS := Aside0.mk hs
 have HK := Aside0.mk (Keep.refl S w)
 clear hf hs
 have H : ((api_Zone_30.f l0).bind fun t573 => ((zone_find.f k t573 a1).bind fun t574 => (if t574 < 0 then (some (t573, false)) else ((slices_Delete.f t573 t574 (wrap64 (t574 + 1))).bind fun t575 => (some (t575, true)))))) = some (r1, r2) := h
 clear h
 replace H := Option.bind_eq_some_iff.1 H
 obtain ⟨t573, Hc10, H⟩ := H
 try dsimp only at H
 have Hc1 := Aside0.mk Hc10
 clear Hc10
 replace H := Option.bind_eq_some_iff.1 H
 obtain ⟨t574, Hc20, H⟩ := H
 try dsimp only at H
 have Hc2 := Aside0.mk Hc20
 clear Hc20
 by_cases c3 : t574 < 0
 ·rw [if_pos c3] at H
  have c3b0 : decide (t574 < 0) = true := decide_eq_true c3
  clear c3
  simp only [Option.some.injEq, Prod.mk.injEq] at H
  obtain ⟨rfl, rfl⟩ := H
  go_enter Try.func16, Try.ntmps16
  go_wp2_with (first | ((with_reducible refine gate_dst (N := 9) rfl ?_); refine goesL_ (some 9) rfl rfl Try.func30 (by kernel_rfl) rfl #[.slice A0 l0.length c0] rfl (by (try simp only [List.map_toArray, List.map_cons, List.map_nil]); first | done | rfl | (simp; done)) ?_; (with_reducible refine (api_Zone_30.calls _ _ _ _ _ (RO.at_ HR0.out HK.out) HC0.out Hc1.out).mono ?_); rintro e_ w4 ⟨v3000069_, rfl, ho3000069_, hb_⟩; refine ⟨_, rfl, ?_⟩; have hs_ := (SL.new (HF.out.keep HK.out) HS.out hb_ (row_of_R ho3000069_)).1; obtain ⟨Az3000069, cz3000069, e2_, _, _⟩ := SL.row_reads hs_; subst e2_; replace HS := Aside0.mk (hs_); replace HK := Aside0.mk (HK.out.trans (Keep.below hb_))) | ((with_reducible refine gate_dst (N := 12) rfl ?_); refine goesL_ (some 12) rfl rfl Try.func33 (by kernel_rfl) rfl #[.slice Az3000069 t573.length cz3000069, .int .i64 a1] rfl (by (try simp only [List.map_toArray, List.map_cons, List.map_nil]); first | done | rfl | (simp; done)) ?_; (with_reducible refine (zone_find.calls k _ _ _ _ _ _ (SL.row_c HS.out).2.2 (SL.row_c HS.out).2.1 Hc2.out).mono ?_); rintro e_ w5 ⟨rfl, hb_⟩; refine ⟨_, rfl, ?_⟩; replace HS := Aside0.mk (HS.out.below hb_); replace HK := Aside0.mk (HK.out.trans (Keep.below hb_))))
  go_ret2
  unfold zone_Drop.Post
  exact ⟨Az3000069, cz3000069, by first | rfl | (simp; done) | (simp [*]; done) | (simp at c3b0 ⊢; first | exact c3b0 | (simp [c3b0]; done)), HS.out, HK.out⟩
 ·rw [if_neg c3] at H
  have c3b0 : decide (t574 < 0) = false := decide_eq_false c3
  clear c3
  replace H := Option.bind_eq_some_iff.1 H
  obtain ⟨t575, Hc60, H⟩ := H
  try dsimp only at H
  have Hc6 := Aside0.mk Hc60
  clear Hc60
  simp only [Option.some.injEq, Prod.mk.injEq] at H
  obtain ⟨rfl, rfl⟩ := H
  go_enter Try.func16, Try.ntmps16
  go_wp2_with (first | ((with_reducible refine gate_dst (N := 9) rfl ?_); refine goesL_ (some 9) rfl rfl Try.func30 (by kernel_rfl) rfl #[.slice A0 l0.length c0] rfl (by (try simp only [List.map_toArray, List.map_cons, List.map_nil]); first | done | rfl | (simp; done)) ?_; (with_reducible refine (api_Zone_30.calls _ _ _ _ _ (RO.at_ HR0.out HK.out) HC0.out Hc1.out).mono ?_); rintro e_ w7 ⟨v3000069_, rfl, ho3000069_, hb_⟩; refine ⟨_, rfl, ?_⟩; have hs_ := (SL.new (HF.out.keep HK.out) HS.out hb_ (row_of_R ho3000069_)).1; obtain ⟨Az3000069, cz3000069, e2_, _, _⟩ := SL.row_reads hs_; subst e2_; replace HS := Aside0.mk (hs_); replace HK := Aside0.mk (HK.out.trans (Keep.below hb_))) | ((with_reducible refine gate_dst (N := 12) rfl ?_); refine goesL_ (some 12) rfl rfl Try.func33 (by kernel_rfl) rfl #[.slice Az3000069 t573.length cz3000069, .int .i64 a1] rfl (by (try simp only [List.map_toArray, List.map_cons, List.map_nil]); first | done | rfl | (simp; done)) ?_; (with_reducible refine (zone_find.calls k _ _ _ _ _ _ (SL.row_c HS.out).2.2 (SL.row_c HS.out).2.1 Hc2.out).mono ?_); rintro e_ w8 ⟨rfl, hb_⟩; refine ⟨_, rfl, ?_⟩; replace HS := Aside0.mk (HS.out.below hb_); replace HK := Aside0.mk (HK.out.trans (Keep.below hb_))) | ((with_reducible refine gate_dst (N := 20) rfl ?_); refine goesL_ (some 20) rfl rfl Try.func34 (by kernel_rfl) rfl #[.slice Az3000069 t573.length cz3000069, .int .i64 t574, .int .i64 (wrap64 (t574 + 1))] rfl (by (try simp only [List.map_toArray, List.map_cons, List.map_nil]); first | done | rfl | (simp; done)) ?_; have hs0_ := HS.out; (with_reducible refine (slices_Delete.slcalls _ _ _ _ _ _ _ _ _ (HF.out.keep HK.out) hs0_  Hc6.out).mono ?_); rintro e_ w9 ⟨Az3000070, cz3000070, rfl, hsr_, hkr_⟩; refine ⟨_, rfl, ?_⟩; replace HS := Aside0.mk (hsr_); replace HK := Aside0.mk (HK.out.trans hkr_)))
  go_ret2
  unfold zone_Drop.Post
  exact ⟨Az3000070, cz3000070, by first | rfl | (simp; done) | (simp [*]; done) | (simp at c3b0 ⊢; first | exact c3b0 | (simp [c3b0]; done)), HS.out, HK.out⟩

/-! ### barrowref33_find: function 35 -/
def barrowref33_find.l0 : Nat → List (S37) → Int → Int → Option (Int)
 | 0, _, _, _ => none
 | k + 1, x0, x1, x5 => if x5 < (x0.length : Int) then (if 0 ≤ x5 then (if ((rd_T37 x0 x5).f0) = x1 then (some x5) else (barrowref33_find.l0 k x0 x1 (wrap64 (x5 + 1)))) else (none)) else (some (-1))
def barrowref33_find.f (k : Nat) (l0 : List (S37)) (a1 : Int) : Option (Int) := barrowref33_find.l0 k l0 a1 0
theorem barrowref33_find.mono_l : ∀ k, (∀ y0 y1 y2, LeO (barrowref33_find.l0 k y0 y1 y2) (barrowref33_find.l0 (k + 1) y0 y1 y2))
 | 0 => fun _ _ _ r h => by simp [barrowref33_find.l0] at h
 | k + 1 => by
  have ih0 := barrowref33_find.mono_l k
  ·intro y0 y1 y2
   unfold barrowref33_find.l0
   repeat' first
   | (with_reducible exact ih0 _ _ _)
   | (with_reducible exact LeO.refl _)
   | (with_reducible exact LeO.none _)
   | (with_reducible refine LeO.ite ?_ ?_)
   | (with_reducible refine LeO.bind ?_ (fun _ => ?_))
   | exact ih0 _ _ _
   | exact LeO.none _
   | refine LeO.ite ?_ ?_
   | refine LeO.bind ?_ (fun _ => ?_)
theorem barrowref33_find.mono : ∀ a0 a1 k, LeO (barrowref33_find.f k a0 a1) (barrowref33_find.f (k + 1) a0 a1) := by
 intro a0 a1 k
 have ih0 := barrowref33_find.mono_l k
 unfold barrowref33_find.f
 repeat' first
   | (with_reducible exact ih0 _ _ _)
   | (with_reducible exact LeO.refl _)
   | (with_reducible exact LeO.none _)
   | (with_reducible refine LeO.ite ?_ ?_)
   | (with_reducible refine LeO.bind ?_ (fun _ => ?_))
   | exact ih0 _ _ _
   | exact LeO.none _
   | refine LeO.ite ?_ ?_
   | refine LeO.bind ?_ (fun _ => ?_)
set_option maxHeartbeats 8000000 in
set_option maxRecDepth 100000 in
theorem barrowref33_find.calls (k : Nat) (A0 : Option Addr) (c0 : Nat) (l0 : List (S37)) (a1 : Int) (r : Int) (w : World) (hr0 : Kd.C k37 w A0 l0.length l0) (hc0 : l0.length ≤ c0) (h : barrowref33_find.f k l0 a1 = some r) :
  Calls Try.prog 35 #[.slice A0 l0.length c0, .int .i64 a1] w fun e w' => e = .returned (.int .i64 r) ∧ Drawn0 w w' := by
 have HR0 := Aside0.mk hr0
 have HC0 := Aside0.mk hc0
 clear hr0 hc0
 have H : (barrowref33_find.l0 k l0 a1 0) = some r := h
 clear h
 have H' := Aside0.mk H
 clear H
 go_enter Try.func35, Try.ntmps35
 go_wp2
 go_loopg [5] k (fun kq v5 w' => ∃ (x5_1 : Int), v5 = .int .i64 x5_1 ∧ Aside0 (barrowref33_find.l0 kq l0 a1 x5_1 = some r) ∧ Aside0 (kq ≤ k) ∧ Drawn0 w w')
 case atStart => exact ⟨(0), (by first | rfl | (simp; done) | (simp [*]; done)), H', ⟨Nat.le_refl _⟩, by repeat (first | exact Drawn0.refl _ | apply Drawn0.step)⟩
 case round =>
  clear H'
  try clear p2
  obtain ⟨x5_1, rfl, HA, HK1, ⟨m1, rfl⟩⟩ := hrel
  cases gk with
  | zero => exact absurd HA.out (by simp [barrowref33_find.l0])
  | succ k1 =>
   have H := HA.out
   clear HA
   simp only [barrowref33_find.l0] at H
   by_cases c3 : x5_1 < (l0.length : Int)
   ·rw [if_pos c3] at H
    have c3b0 : decide (x5_1 < (l0.length : Int)) = true := decide_eq_true c3
    clear c3
    by_cases c4 : 0 ≤ x5_1
    ·rw [if_pos c4] at H
     have c4b0 : decide (0 ≤ x5_1) = true := decide_eq_true c4
     clear c4
     by_cases c5 : ((rd_T37 l0 x5_1).f0) = a1
     ·rw [if_pos c5] at H
      have c5b0 : (((rd_T37 l0 x5_1).f0) == a1) = true := beq_iff_eq.mpr c5
      have c5b1 : (((rd_T37 l0 x5_1).f0) != a1) = false := bne_eq_false_iff_eq.mpr c5
      clear c5
      obtain rfl := Option.some.inj H
      have p576 : 0 ≤ (x5_1 : Int) := of_decide_eq_true (by first | (with_reducible assumption) | assumption)
      have q576 : x5_1 < (l0.length : Int) := of_decide_eq_true (by first | (with_reducible assumption) | assumption)
      obtain ⟨ad576, e576, hx576_0, hx576_1, hx576_2, hx576_3, hx576_4, hx576_5, hx576_6, hx576_7, hx576_8, hx576_9, hx576_10, hx576_11, hx576_12, hx576_13, hx576_14, hx576_15⟩ := at_T37 HR0.out x5_1 p576 q576
      cases e576
      replace p576 := eq_true p576
      replace q576 := eq_true q576
      go_wp2
      go_ret
      exact ⟨by first | rfl | (simp; done) | (simp [*]; done), by repeat (first | exact Drawn0.refl _ | apply Drawn0.step)⟩
     ·rw [if_neg c5] at H
      have c5b0 : (((rd_T37 l0 x5_1).f0) == a1) = false := beq_eq_false_iff_ne.mpr c5
      have c5b1 : (((rd_T37 l0 x5_1).f0) != a1) = true := bne_iff_ne.mpr c5
      have H' := Aside0.mk H
      clear H
      have p576 : 0 ≤ (x5_1 : Int) := of_decide_eq_true (by first | (with_reducible assumption) | assumption)
      have q576 : x5_1 < (l0.length : Int) := of_decide_eq_true (by first | (with_reducible assumption) | assumption)
      obtain ⟨ad576, e576, hx576_0, hx576_1, hx576_2, hx576_3, hx576_4, hx576_5, hx576_6, hx576_7, hx576_8, hx576_9, hx576_10, hx576_11, hx576_12, hx576_13, hx576_14, hx576_15⟩ := at_T37 HR0.out x5_1 p576 q576
      cases e576
      replace p576 := eq_true p576
      replace q576 := eq_true q576
      go_wp2
      go_roundg k1
      case measure => have := HK1.out; omega
      case rel => exact ⟨(wrap64 (x5_1 + 1)), (by first | rfl | (simp; done) | (simp [*]; done)), H', ⟨by have := HK1.out; omega⟩, by repeat (first | exact Drawn0.refl _ | apply Drawn0.step)⟩
    ·rw [if_neg c4] at H
     exact absurd H (by simp)
   ·rw [if_neg c3] at H
    have c3b0 : decide (x5_1 < (l0.length : Int)) = false := decide_eq_false c3
    clear c3
    obtain rfl := Option.some.inj H
    go_wp2
    go_ret
    exact ⟨by first | rfl | (simp; done) | (simp [*]; done), by repeat (first | exact Drawn0.refl _ | apply Drawn0.step)⟩

/-! ### barrowref33_Drop: function 17 -/
def barrowref33_Drop.f (k : Nat) (l0 : List (S37)) (a1 : Int) : Option ((List (S37)) × Bool) := (barrowref33_find.f k l0 a1).bind fun t578 => (if t578 < 0 then ((barrowref33_Copy.f l0).bind fun t579 => (some (t579, false))) else (if 0 ≤ t578 then (if t578 ≤ (l0.length : Int) then ((some (l0.take (t578).toNat : List (S37))).bind fun y580 => ((barrowref33_Copy.f y580).bind fun t584 => ((some (wrap64 (t578 + 1) : Int)).bind fun j585 => (if 0 ≤ j585 then (if j585 ≤ (l0.length : Int) then ((some (l0.drop (j585).toNat : List (S37))).bind fun y586 => (if t584.length + y586.length < 1099511627776 then ((some (t584 ++ y586 : List (S37))).bind fun y590 => (some (y590, true))) else (none))) else (none)) else (none))))) else (none)) else (none)))
theorem barrowref33_Drop.mono : ∀ a0 a1 k, LeO (barrowref33_Drop.f k a0 a1) (barrowref33_Drop.f (k + 1) a0 a1) := by
 intro a0 a1 k
 unfold barrowref33_Drop.f
 repeat' first
   | (with_reducible exact barrowref33_find.mono _ _ _)
   | (with_reducible exact LeO.refl _)
   | (with_reducible exact LeO.none _)
   | (with_reducible refine LeO.ite ?_ ?_)
   | (with_reducible refine everyOf_le (fun _ => ?_))
   | (with_reducible refine LeO.bind ?_ (fun _ => ?_))
   | exact barrowref33_find.mono _ _ _
   | exact LeO.none _
   | refine LeO.ite ?_ ?_
   | refine LeO.bind ?_ (fun _ => ?_)
def barrowref33_Drop.T4 : Bool × List (List Nat × List Nat) := (true, [([], []), ([], []), ([0, 1], [0, 1]), ([2], [2]), ([], []), ([], []), ([5], [5]), ([4, 6], [4, 6]), ([3, 7, 3], [3, 7]), ([8, 8, 0, 1, 2, 3, 4, 5, 6, 7, 8], [8]), ([9, 0, 1, 2, 3, 4, 5, 6, 7, 8, 9], [])])
def barrowref33_Drop.B4 : List Nat := [0, 0, 3, 7, 0, 0, 32, 112, 255, 511, 1023]
theorem barrowref33_Drop.tab4 : rtab .any (opsOf Try.f17 4) = barrowref33_Drop.T4 := by kernel_rfl
theorem barrowref33_Drop.bits4 : waitsOk barrowref33_Drop.T4.2 barrowref33_Drop.B4 = true := by kernel_rfl
def barrowref33_Drop.Post (r1 : List (S37)) (r2 : Bool) (S : Nat → Prop) (L : List Asr) (w : World) (e : Ending) (w' : World) : Prop := ∃ (Ar1 : Option Addr) (cr1 : Nat), e = .returned (.tuple #[.slice Ar1 r1.length cr1, .bool r2]) ∧ SL (row k37 37 (.slice Ar1 r1.length cr1) r1 :: L) w' S ∧ Keep S w w'
set_option maxHeartbeats 8000000 in
set_option maxRecDepth 100000 in
theorem barrowref33_Drop.slcalls (k : Nat) (A0 : Option Addr) (c0 : Nat) (l0 : List (S37)) (a1 : Int) (r1 : List (S37)) (r2 : Bool) (S : Nat → Prop) (L : List Asr) (w : World) (hf : Fresh S w) (hs : SL (L) w S) (hr0 : RO S w (fun w_ => Kd.C k37 w_ A0 l0.length l0)) (hc0 : l0.length ≤ c0) (h : barrowref33_Drop.f k l0 a1 = some (r1, r2)) :
  Calls Try.prog 17 #[.slice A0 l0.length c0, .int .i64 a1] w (barrowref33_Drop.Post r1 r2 S L w) := by
 have HR0 := Aside0.mk hr0
 have HC0 := Aside0.mk hc0
 clear hr0 hc0
 have HF := Aside0.mk hf
 have HS := Aside0.mk hs
 have HK := Aside0.mk (Keep.refl S w)
 clear hf hs
 have H : ((barrowref33_find.f k l0 a1).bind fun t578 => (if t578 < 0 then ((barrowref33_Copy.f l0).bind fun t579 => (some (t579, false))) else (if 0 ≤ t578 then (if t578 ≤ (l0.length : Int) then ((some (l0.take (t578).toNat : List (S37))).bind fun y580 => ((barrowref33_Copy.f y580).bind fun t584 => ((some (wrap64 (t578 + 1) : Int)).bind fun j585 => (if 0 ≤ j585 then (if j585 ≤ (l0.length : Int) then ((some (l0.drop (j585).toNat : List (S37))).bind fun y586 => (if t584.length + y586.length < 1099511627776 then ((some (t584 ++ y586 : List (S37))).bind fun y590 => (some (y590, true))) else (none))) else (none)) else (none))))) else (none)) else (none)))) = some (r1, r2) := h
 clear h
 replace H := Option.bind_eq_some_iff.1 H
 obtain ⟨t578, Hc10, H⟩ := H
 try dsimp only at H
 have Hc1 := Aside0.mk Hc10
 clear Hc10
 by_cases c2 : t578 < 0
 ·rw [if_pos c2] at H
  have c2b0 : decide (t578 < 0) = true := decide_eq_true c2
  clear c2
  replace H := Option.bind_eq_some_iff.1 H
  obtain ⟨t579, Hc30, H⟩ := H
  try dsimp only at H
  have Hc3 := Aside0.mk Hc30
  clear Hc30
  simp only [Option.some.injEq, Prod.mk.injEq] at H
  obtain ⟨rfl, rfl⟩ := H
  go_enter Try.func17, Try.ntmps17
  go_wp2_with (first | ((with_reducible refine gate_dst (N := 9) rfl ?_); refine goesL_ (some 9) rfl rfl Try.func35 (by kernel_rfl) rfl #[.slice A0 l0.length c0, .int .i64 a1] rfl (by (try simp only [List.map_toArray, List.map_cons, List.map_nil]); first | done | rfl | (simp; done)) ?_; (with_reducible refine (barrowref33_find.calls k _ _ _ _ _ _ (RO.at_ HR0.out HK.out) HC0.out Hc1.out).mono ?_); rintro e_ w4 ⟨rfl, hb_⟩; refine ⟨_, rfl, ?_⟩; replace hb_ := Drawn0.below hb_; replace HS := Aside0.mk (HS.out.below hb_); replace HK := Aside0.mk (HK.out.trans (Keep.below hb_))) | ((with_reducible refine gate_dst (N := 13) rfl ?_); refine goesL_ (some 13) rfl rfl Try.func32 (by kernel_rfl) rfl #[.slice A0 l0.length c0] rfl (by (try simp only [List.map_toArray, List.map_cons, List.map_nil]); first | done | rfl | (simp; done)) ?_; have hs0_ := HS.out; (with_reducible refine (barrowref33_Copy.slcalls _ _ _ _ _ _ _ (HF.out.keep HK.out) hs0_ (HR0.out.keep HK.out) HC0.out Hc3.out).mono ?_); rintro e_ w5 ⟨Az3000071, cz3000071, rfl, hsr_, hkr_⟩; refine ⟨_, rfl, ?_⟩; replace HS := Aside0.mk (hsr_); replace HK := Aside0.mk (HK.out.trans hkr_)))
  go_ret2
  unfold barrowref33_Drop.Post
  exact ⟨Az3000071, cz3000071, by first | rfl | (simp; done) | (simp [*]; done) | (simp at c2b0 ⊢; first | exact c2b0 | (simp [c2b0]; done)), HS.out, HK.out⟩
 ·rw [if_neg c2] at H
  have c2b0 : decide (t578 < 0) = false := decide_eq_false c2
  clear c2
  by_cases c6 : 0 ≤ t578
  ·rw [if_pos c6] at H
   have c6b0 := eq_true c6
   have c6b1 : decide (0 ≤ t578) = true := decide_eq_true c6
   clear c6
   by_cases c7 : t578 ≤ (l0.length : Int)
   ·rw [if_pos c7] at H
    have c7b0 := eq_true c7
    have c7b1 : decide (t578 ≤ (l0.length : Int)) = true := decide_eq_true c7
    clear c7
    replace H := Option.bind_eq_some_iff.1 H
    obtain ⟨y580, hy5800, H⟩ := H
    try dsimp only at H
    have hy580 := Option.some.inj hy5800
    clear hy5800
    have Ny580 := Aside0.mk hy580
    clear hy580
    replace H := Option.bind_eq_some_iff.1 H
    obtain ⟨t584, Hc80, H⟩ := H
    try dsimp only at H
    have Hc8 := Aside0.mk Hc80
    clear Hc80
    replace H := Option.bind_eq_some_iff.1 H
    obtain ⟨j585, hj5850, H⟩ := H
    try dsimp only at H
    have hj585 := Option.some.inj hj5850
    clear hj5850
    have hj585w : (IntKind.i64.wrap (t578 + 1)) = j585 := (i64_w _).trans hj585
    by_cases c9 : 0 ≤ j585
    ·rw [if_pos c9] at H
     have c9b0 := eq_true c9
     have c9b1 : decide (0 ≤ j585) = true := decide_eq_true c9
     clear c9
     by_cases c10 : j585 ≤ (l0.length : Int)
     ·rw [if_pos c10] at H
      have c10b0 := eq_true c10
      have c10b1 : decide (j585 ≤ (l0.length : Int)) = true := decide_eq_true c10
      clear c10
      replace H := Option.bind_eq_some_iff.1 H
      obtain ⟨y586, hy5860, H⟩ := H
      try dsimp only at H
      have hy586 := Option.some.inj hy5860
      clear hy5860
      have Ny586 := Aside0.mk hy586
      clear hy586
      by_cases c11 : t584.length + y586.length < 1099511627776
      ·rw [if_pos c11] at H
       have LMc11 := Aside0.mk c11
       clear c11
       replace H := Option.bind_eq_some_iff.1 H
       obtain ⟨y590, hy5900, H⟩ := H
       try dsimp only at H
       have hy590 := Option.some.inj hy5900
       clear hy5900
       have Ny590 := Aside0.mk hy590
       clear hy590
       simp only [Option.some.injEq, Prod.mk.injEq] at H
       obtain ⟨rfl, rfl⟩ := H
       go_enter Try.func17, Try.ntmps17
       try go_wp2_with (first | ((with_reducible refine gate_dst (N := 9) rfl ?_); refine goesL_ (some 9) rfl rfl Try.func35 (by kernel_rfl) rfl #[.slice A0 l0.length c0, .int .i64 a1] rfl (by (try simp only [List.map_toArray, List.map_cons, List.map_nil]); first | done | rfl | (simp; done)) ?_; (with_reducible refine (barrowref33_find.calls k _ _ _ _ _ _ (RO.at_ HR0.out HK.out) HC0.out Hc1.out).mono ?_); rintro e_ w12 ⟨rfl, hb_⟩; refine ⟨_, rfl, ?_⟩; replace hb_ := Drawn0.below hb_; replace HS := Aside0.mk (HS.out.below hb_); replace HK := Aside0.mk (HK.out.trans (Keep.below hb_))))
       have hv_ := cut_upto (P := Try.prog) k37 22 37 .i64 .i64 Try.underlying22 (by kernel_rfl) rfl A0 l0.length c0 l0 rfl HC0.out t578 (of_decide_eq_true (by first | (with_reducible assumption) | assumption) : (0 : Int) ≤ (t578 : Int)) (of_decide_eq_true (by first | (with_reducible assumption) | assumption) : (t578 : Int) ≤ ((l0.length : Int) : Int)) y580 Ny580.out
       obtain ⟨hcvq583, hcs_, hcc_, hcl_⟩ := hv_
       have HRq583 := Aside0.mk (RO.imp HR0.out hcc_)
       have HCq583 := Aside0.mk hcl_
       clear hcs_ hcc_ hcl_
       obtain ⟨A587, c588, hcvq589, hcs_, hcc_, hcl_⟩ := cut_of (P := Try.prog) k37 22 37 .i64 .i64 Try.underlying22 (by kernel_rfl) rfl A0 l0.length c0 l0 rfl HC0.out j585 (of_decide_eq_true (by first | (with_reducible assumption) | assumption) : (0 : Int) ≤ (j585 : Int)) (of_decide_eq_true (by first | (with_reducible assumption) | assumption) : (j585 : Int) ≤ ((l0.length : Int) : Int)) y586 Ny586.out
       have HRq589 := Aside0.mk (RO.imp HR0.out hcc_)
       have HCq589 := Aside0.mk hcl_
       clear hcs_ hcc_ hcl_
       refine start_ (n := 11) (S := fun w' => True) (ds := []) #[O,O,O,O,O,O,O,O,O,O,O] (by kernel_rfl) rfl rfl trivial (fun hHeld => ?_); refine with_tabW barrowref33_Drop.tab4 barrowref33_Drop.bits4 (fun HT_ HW_ => ?_)
       replace HK := Aside0.mk (Keep.drew HK.out)
       replace HS := Aside0.mk (SL.drew HS.out)
       refine pure_ (i := 0) (N := some 14) (v := ?_) (a' := ?_) #[I,O,O,O,O,O,O,O,O,O,O] rfl rfl (any_of HT_.out (by kernel_rfl)) (fun _ _ _ h => h) (Or.inl ⟨by rfl, ?_⟩) ?_ ?_; rotate_left; · (intro w'; go_simp; with_reducible rfl)
       rotate_left; · (simp only [Act.put, sT, sZ, sS, i64_w, i32_w]; rfl)
       refine pure_ (i := 1) (N := some 15) (v := ?_) (a' := ?_) #[I,I,O,O,O,O,O,O,O,O,O] rfl rfl (any_of HT_.out (by kernel_rfl)) (fun _ _ _ h => h) (Or.inl ⟨by rfl, ?_⟩) ?_ ?_; rotate_left; · (intro w'; go_simp; with_reducible rfl)
       rotate_left; · (simp only [Act.put, sT, sZ, sS, i64_w, i32_w]; rfl)
       refine pure_ (i := 2) (N := some 16) (v := ?_) (a' := ?_) #[I,I,I,O,O,O,O,O,O,O,O] rfl rfl (any_of HT_.out (by kernel_rfl)) (fun _ _ _ h => h) (Or.inl ⟨by rfl, ?_⟩) ?_ ?_; rotate_left; · (intro w'; go_simp; with_reducible rfl)
       rotate_left; · (simp only [Act.put, sT, sZ, sS, i64_w, i32_w]; rfl)
       refine pure_ (i := 4) (N := some 18) (v := ?_) (a' := ?_) #[I,I,I,O,I,O,O,O,O,O,O] rfl rfl (any_of HT_.out (by kernel_rfl)) (fun _ _ _ h => h) (Or.inl ⟨by rfl, ?_⟩) ?_ ?_; rotate_left; · (intro w'; go_simp; with_reducible rfl)
       rotate_left; · (simp only [Act.put, sT, sZ, sS, i64_w, i32_w]; rfl)
       refine pure_ (i := 5) (N := some 19) (v := ?_) (a' := ?_) #[I,I,I,O,I,I,O,O,O,O,O] rfl rfl (any_of HT_.out (by kernel_rfl)) (fun _ _ _ h => h) (Or.inl ⟨by rfl, ?_⟩) ?_ ?_; rotate_left; · (intro w'; go_simp; with_reducible rfl)
       rotate_left; · (simp only [Act.put, sT, sZ, sS, i64_w, i32_w]; rfl)
       refine pure_ (i := 6) (N := some 20) (v := ?_) (a' := ?_) #[I,I,I,O,I,I,I,O,O,O,O] rfl rfl (any_of HT_.out (by kernel_rfl)) (fun _ _ _ h => h) (Or.inl ⟨by rfl, ?_⟩) ?_ ?_; rotate_left; · (intro w'; go_simp; with_reducible rfl)
       rotate_left; · (simp only [Act.put, sT, sZ, sS, i64_w, i32_w]; rfl)
       refine pure_ (i := 7) (N := some 21) (v := ?_) (a' := ?_) #[I,I,I,O,I,I,I,I,O,O,O] rfl rfl (any_of HT_.out (by kernel_rfl)) (fun _ _ _ h => h) (Or.inl ⟨by rfl, ?_⟩) ?_ ?_; rotate_left; · (intro w'; go_simp; with_reducible rfl)
       rotate_left; · (simp only [Act.put, sT, sZ, sS, i64_w, i32_w]; rfl)
       refine one_ (i := 3) (N := some 17) #[I,I,I,I,I,I,I,I,O,O,O] rfl rfl (one_of HT_.out (by kernel_rfl)) (by decide) (fun K hK => ?_)
       refine goes_ Try.func32 (by kernel_rfl) rfl #[.slice A0 y580.length c0] (by rfl) rfl rfl (by (try simp only [List.map_toArray, List.map_cons, List.map_nil]); first | done | rfl | (simp; done)) ?_
       have hs0_ := HS.out
       (with_reducible refine (barrowref33_Copy.slcalls _ _ _ _ _ _ _ (HF.out.keep HK.out) hs0_ (HRq583.out.keep HK.out) HCq583.out Hc8.out).mono ?_)
       rintro e_ w13 ⟨Az3000072, cz3000072, rfl, hsr_, hkr_⟩
       refine ⟨_, rfl, ?_⟩
       replace HS := Aside0.mk (hsr_)
       replace HK := Aside0.mk (HK.out.trans hkr_)
       refine hK.out _ _ trivial (fun hHeld => ?_)
       clear hK K
       refine norm_ (a' := ?_) ?_ ?_; rotate_left
       ·show Act.put _ (some 17) _ = _
        simp only [Act.put, sT, sZ, sS, i64_w, i32_w]
        rfl
       refine one_ (i := 8) (N := some 22) #[I,I,I,I,I,I,I,I,I,O,O] rfl rfl (one_of HT_.out (by kernel_rfl)) (by decide) (fun K hK => ?_)
       refine st_of (by rfl) ?_
       refine op_appendF (S := S) (d := k37) ⟨fun h_ => h_⟩ (.tmp 17) (.tmp 21) 22 37 (.agg #[(.int .i64 0), (.int .i64 0), (.int .i64 0), (.int .i64 0), (.int .i64 0), (.int .i64 0), (.int .i64 0), (.int .i64 0), (.int .i64 0), (.int .i64 0), (.int .i64 0), (.int .i64 0), (.int .i64 0), (.int .i64 0), (.int .i64 0), (.int .i64 0)]) 128 rfl Try.underlying22 info37 rfl (by decide) (by decide) (.slice Az3000072 t584.length cz3000072) rfl rfl (HF.out.keep HK.out) HS.out (RO.at_ HRq589.out HK.out) (by have := LMc11.out; omega) y590 Ny590.out ?_
       intro A591 c592 w14 hs_ hk_
       replace HS := Aside0.mk ((show SL (row k37 37 (.slice A591 y590.length c592) y590 :: _) _ _ from hs_))
       replace HK := Aside0.mk (HK.out.trans hk_)
       refine hK.out _ _ trivial (fun hHeld => ?_)
       clear hK K
       refine norm_ (a' := ?_) ?_ ?_; rotate_left
       ·show Act.put _ (some 22) _ = _
        simp only [Act.put, sT, sZ, sS, i64_w, i32_w]
        rfl
       refine pure_ (i := 9) (N := some 4) (v := ?_) (a' := ?_) #[I,I,I,I,I,I,I,I,I,I,O] rfl rfl (any_of HT_.out (by kernel_rfl)) (fun _ _ _ h => h) (Or.inl ⟨by rfl, ?_⟩) ?_ ?_; rotate_left; · (intro w'; go_simp; with_reducible rfl)
       rotate_left; · (simp only [Act.put, sT, sZ, sS, i64_w, i32_w]; rfl)
       refine pure_ (i := 10) (N := some 5) (v := ?_) (a' := ?_) #[I,I,I,I,I,I,I,I,I,I,I] rfl rfl (any_of HT_.out (by kernel_rfl)) (fun _ _ _ h => h) (Or.inl ⟨by rfl, ?_⟩) ?_ ?_; rotate_left; · (intro w'; go_simp; with_reducible rfl)
       rotate_left; · (simp only [Act.put, sT, sZ, sS, i64_w, i32_w]; rfl)
       refine done_ (done_of HT_.out (by kernel_rfl)) ?_
       try go_wp2
       go_ret2
       unfold barrowref33_Drop.Post
       exact ⟨A591, c592, by first | rfl | (simp; done) | (simp [*]; done) | (simp at c11b0 ⊢; first | exact c11b0 | (simp [c11b0]; done)), HS.out, HK.out⟩
      ·rw [if_neg c11] at H
       exact absurd H (by simp)
     ·rw [if_neg c10] at H
      exact absurd H (by simp)
    ·rw [if_neg c9] at H
     exact absurd H (by simp)
   ·rw [if_neg c7] at H
    exact absurd H (by simp)
  ·rw [if_neg c6] at H
   exact absurd H (by simp)

/-! ### barrowref01_Sub: function 38 -/
def barrowref01_Sub.j0 : Nat → Int → Int → Bool → Option (Int)
 | 0, _, _, _ => none
 | k + 1, x0, x1, x12 => if x12 = true then (some 9223372036854775807) else (if x1 > 0 then (if x0 < (wrap64 ((-9223372036854775808) + x1)) then (some (-9223372036854775808)) else (some (wrap64 (x0 - x1)))) else (some (wrap64 (x0 - x1))))
def barrowref01_Sub.f (k : Nat) (a0 : Int) (a1 : Int) : Option (Int) := if a1 < 0 then (barrowref01_Sub.j0 k a0 a1 (decide (a0 > (wrap64 (9223372036854775807 + a1))))) else (barrowref01_Sub.j0 k a0 a1 false)
theorem barrowref01_Sub.mono_l : ∀ k, (∀ y0 y1 y2, LeO (barrowref01_Sub.j0 k y0 y1 y2) (barrowref01_Sub.j0 (k + 1) y0 y1 y2))
 | 0 => fun _ _ _ r h => by simp [barrowref01_Sub.j0] at h
 | k + 1 => by
  have ih0 := barrowref01_Sub.mono_l k
  ·intro y0 y1 y2
   unfold barrowref01_Sub.j0
   repeat' first
   | (with_reducible exact ih0 _ _ _)
   | (with_reducible exact LeO.refl _)
   | (with_reducible exact LeO.none _)
   | (with_reducible refine LeO.ite ?_ ?_)
   | (with_reducible refine LeO.bind ?_ (fun _ => ?_))
   | exact ih0 _ _ _
   | exact LeO.none _
   | refine LeO.ite ?_ ?_
   | refine LeO.bind ?_ (fun _ => ?_)
theorem barrowref01_Sub.mono : ∀ a0 a1 k, LeO (barrowref01_Sub.f k a0 a1) (barrowref01_Sub.f (k + 1) a0 a1) := by
 intro a0 a1 k
 have ih0 := barrowref01_Sub.mono_l k
 unfold barrowref01_Sub.f
 repeat' first
   | (with_reducible exact ih0 _ _ _)
   | (with_reducible exact LeO.refl _)
   | (with_reducible exact LeO.none _)
   | (with_reducible refine LeO.ite ?_ ?_)
   | (with_reducible refine LeO.bind ?_ (fun _ => ?_))
   | exact ih0 _ _ _
   | exact LeO.none _
   | refine LeO.ite ?_ ?_
   | refine LeO.bind ?_ (fun _ => ?_)
set_option maxHeartbeats 8000000 in
set_option maxRecDepth 100000 in
theorem barrowref01_Sub.calls (k : Nat) (a0 : Int) (a1 : Int) (r : Int) (w : World) (h : barrowref01_Sub.f k a0 a1 = some r) :
  Calls Try.prog 38 #[.int .i64 a0, .int .i64 a1] w fun e w' => e = .returned (.int .i64 r) ∧ Drawn0 w w' := by
 have H : (if a1 < 0 then (barrowref01_Sub.j0 k a0 a1 (decide (a0 > (wrap64 (9223372036854775807 + a1))))) else (barrowref01_Sub.j0 k a0 a1 false)) = some r := h
 clear h
 have HC3 := Aside0.mk H
 clear H
 go_enter Try.func38, Try.ntmps38
 go_upto_region 1 with (fail)
 go_cut [12] (fun v12 wc => ∃ (kq : Nat) (x12_2 : Bool), v12 = .bool x12_2 ∧ Aside0 (barrowref01_Sub.j0 kq a0 a1 x12_2 = some r) ∧ Aside0 (kq ≤ k) ∧ Drawn0 w wc)
 case first =>
  have H := HC3.out
  clear HC3
  by_cases c4 : a1 < 0
  ·rw [if_pos c4] at H
   have c4b0 : decide (a1 < 0) = true := decide_eq_true c4
   clear c4
   (first | rw [c4b0] | (simp only [i64_w, i32_w]; rw [c4b0]) | skip)
   have H' := Aside0.mk H
   clear H
   go_wp2
   go_meet
   case rel => exact ⟨_, (decide (a0 > (wrap64 (9223372036854775807 + a1)))), (by first | rfl | (simp; done) | (simp [*]; done)), H', ⟨by first | omega | exact Nat.le_refl _⟩, by repeat (first | exact Drawn0.refl _ | apply Drawn0.step)⟩
  ·rw [if_neg c4] at H
   have c4b0 : decide (a1 < 0) = false := decide_eq_false c4
   clear c4
   (first | rw [c4b0] | (simp only [i64_w, i32_w]; rw [c4b0]) | skip)
   have H' := Aside0.mk H
   clear H
   go_wp2
   go_meet
   case rel => exact ⟨_, (false), (by first | rfl | (simp; done) | (simp [*]; done)), H', ⟨by first | omega | exact Nat.le_refl _⟩, by repeat (first | exact Drawn0.refl _ | apply Drawn0.step)⟩
 case rest =>
  clear HC3
  try clear p2
  try clear c3
  try clear c4
  try clear c4b0
  obtain ⟨kq, x12_2, rfl, HA, HJ2, ⟨mc2, rfl⟩⟩ := hcut
  cases kq with
  | zero => exact absurd HA.out (by simp [barrowref01_Sub.j0])
  | succ kj2 =>
   have H := HA.out
   clear HA
   simp only [barrowref01_Sub.j0] at H
   by_cases c5 : x12_2 = true
   ·subst c5
    have H1 : (some 9223372036854775807) = some r := by rw [if_pos rfl] at H; exact H
    clear H
    have H := H1
    clear H1
    obtain rfl := Option.some.inj H
    go_wp2
    go_ret
    exact ⟨by first | rfl | (simp; done) | (simp [*]; done), by repeat (first | exact Drawn0.refl _ | apply Drawn0.step)⟩
   ·replace c5 := Bool.eq_false_iff.mpr c5
    subst c5
    have H1 : (if a1 > 0 then (if a0 < (wrap64 ((-9223372036854775808) + a1)) then (some (-9223372036854775808)) else (some (wrap64 (a0 - a1)))) else (some (wrap64 (a0 - a1)))) = some r := by rw [if_neg (show ¬ (false = true) by decide)] at H; exact H
    clear H
    have H := H1
    clear H1
    by_cases c6 : a1 > 0
    ·rw [if_pos c6] at H
     have c6b0 : decide (0 < a1) = true := decide_eq_true c6
     clear c6
     by_cases c7 : a0 < (wrap64 ((-9223372036854775808) + a1))
     ·rw [if_pos c7] at H
      have c7b0 : decide (a0 < (wrap64 ((-9223372036854775808) + a1))) = true := decide_eq_true c7
      clear c7
      obtain rfl := Option.some.inj H
      go_wp2
      go_ret
      exact ⟨by first | rfl | (simp; done) | (simp [*]; done), by repeat (first | exact Drawn0.refl _ | apply Drawn0.step)⟩
     ·rw [if_neg c7] at H
      have c7b0 : decide (a0 < (wrap64 ((-9223372036854775808) + a1))) = false := decide_eq_false c7
      clear c7
      obtain rfl := Option.some.inj H
      go_wp2
      go_ret
      exact ⟨by first | rfl | (simp; done) | (simp [*]; done), by repeat (first | exact Drawn0.refl _ | apply Drawn0.step)⟩
    ·rw [if_neg c6] at H
     have c6b0 : decide (0 < a1) = false := decide_eq_false c6
     clear c6
     obtain rfl := Option.some.inj H
     go_wp2
     go_ret
     exact ⟨by first | rfl | (simp; done) | (simp [*]; done), by repeat (first | exact Drawn0.refl _ | apply Drawn0.step)⟩

end Go.Proofs.Ytiadhonhjnbliaa.XZT
