/- Loads that were wrapped come out, wherever the bytes are cut. -/
import Derived.Test.YtdlpijeceigbnaaFrE
set_option linter.unusedSimpArgs false
set_option linter.unusedVariables false
namespace Go.Proofs.Ytdlpijeceigbnaa.Pure
open Go.RowKit Go.Proofs.Ytdlpijeceigbnaa.XFR Go.Proofs.YtdlpijeceigbnaaW.PrintWords Go.Proofs.YtdlpijeceigbnaaW.PrintLast Go.Proofs.YtdlpijeceigbnaaW.PrintMore

/-- Loads, wrapped one behind another. -/
def frames (ls : List (List Int)) : List Int := ls.flatMap (fun l => enc l.length ++ l)
theorem frames_cons (x : List Int) (l : List (List Int)) : frames (x :: l) = enc x.length ++ (x ++ frames l) := by simp [frames]
theorem enc_bytes (n : Nat) (h : n < 18446744073709551616) : Bytes (enc n) := fun x hx => enc_range 9 n (Nat.lt_of_lt_of_le h pow10) x hx
theorem frames_bytes : ∀ ls : List (List Int), (∀ x ∈ ls, Bytes x ∧ x.length ≤ 4096) → Bytes (frames ls)
  | [], _ => by intro x hx; simp [frames] at hx
  | l :: ls, h => by
    rw [frames_cons]
    have h1 := h l List.mem_cons_self
    exact bytes_append (enc_bytes _ (by omega)) (bytes_append h1.1 (frames_bytes ls fun x hx => h x (List.mem_cons_of_mem _ hx)))
theorem frames_len : ∀ ls : List (List Int), (∀ x ∈ ls, x.length ≤ 4096) → (frames ls).length ≤ total ls + 10 * ls.length
  | [], _ => by simp [frames, total]
  | l :: ls, h => by
    rw [frames_cons, List.length_append, List.length_append]
    have h1 := h l List.mem_cons_self
    have h2 := enc_len 9 l.length (by have := pow10; omega)
    have := frames_len ls fun x hx => h x (List.mem_cons_of_mem _ hx)
    simp only [total, List.map_cons, List.sum_cons, List.length_cons] at this ⊢
    omega
theorem frames_snoc (ls : List (List Int)) (x : List Int) : frames (ls ++ [x]) = frames ls ++ (enc x.length ++ x) := by simp [frames]
theorem frS_frames : ∀ (ls : List (List Int)) (n : Nat), (∀ x ∈ ls, Bytes x ∧ x.length ≤ 4096) → (frames ls).length < n → frS n (frames ls) = (ls, 0, [])
  | _, 0, _, h => by omega
  | [], n + 1, _, _ => by
    have : uintS [] 0 = (0, 0, 2) := by decide +kernel
    rw [show frames [] = [] from rfl, frS, this]
    simp [opn, lows]
  | l :: ls, n + 1, h, hn => by
    have h1 := h l List.mem_cons_self
    have hu := uintS_enc [] (l ++ frames ls) l.length (by omega)
    simp only [List.nil_append, List.length_nil] at hu
    rw [show ((0 : Nat) : Int) = 0 from rfl] at hu
    have hl2 : (frames (l :: ls)).length = (enc l.length).length + (l.length + (frames ls).length) := by rw [frames_cons, List.length_append, List.length_append]
    rw [frS, frames_cons, hu]
    simp only [if_true]
    rw [if_neg (by omega), if_neg (by rw [List.length_append, List.length_append]; omega)]
    have e1 : (enc l.length ++ (l ++ frames ls)).drop ((((enc l.length).length : Int) + (l.length : Int)).toNat) = frames ls := by
      rw [show ((((enc l.length).length : Int) + (l.length : Int)).toNat) = (enc l.length).length + l.length by omega, ← List.append_assoc]
      exact List.drop_left' (by rw [List.length_append])
    have e2 : ((enc l.length ++ (l ++ frames ls)).drop (((enc l.length).length : Int)).toNat).take ((l.length : Int)).toNat = l := by
      rw [Int.toNat_natCast, Int.toNat_natCast, List.drop_left' rfl]
      exact List.take_left' rfl
    rw [e1, e2, frS_frames ls n (fun x hx => h x (List.mem_cons_of_mem _ hx)) (by have := enc_len_pos l.length; omega)]
theorem fr_frames (ls : List (List Int)) (h : ∀ x ∈ ls, Bytes x ∧ x.length ≤ 4096) : fr (frames ls) = (ls, 0, []) := frS_frames ls _ h (Nat.lt_succ_self _)
theorem back_l0 (ps : List (List Int)) (cut : Int) (hc : In64 cut) (hps : ps.length ≤ 60) (hb : ∀ x ∈ ps, Bytes x) (htot : total ps ≤ 16384) :
    ∀ (m i : Nat), i + m = ps.length → (∀ x ∈ ps.take i, x.length ≤ 4096) → Ev (fun k => barrowlaw04_FrameBack.l0 k ps cut true [] false (frames (ps.take i)) i = some true) := by
  intro m
  induction m with
  | zero =>
    intro i hi hl
    obtain rfl : i = ps.length := by omega
    rw [List.take_length] at hl ⊢
    have hbl : ∀ x ∈ ps, Bytes x ∧ x.length ≤ 4096 := fun x hx => ⟨hb x hx, hl x hx⟩
    have hB := frames_bytes ps hbl
    have hL := frames_len ps hl
    have hF := fr_frames ps hbl
    obtain ⟨j, hj⟩ : ∃ j : Nat, mn (mx cut 0) ((frames ps).length : Int) = (j : Int) ∧ j ≤ (frames ps).length := by
      refine ⟨(mn (mx cut 0) ((frames ps).length : Int)).toNat, ?_, ?_⟩ <;> unfold mn mx <;> (repeat' split) <;> omega
    obtain ⟨hj, hjl⟩ := hj
    have hsp := List.take_append_drop j (frames ps)
    have hBs : Bytes ((frames ps).take j ++ (frames ps).drop j) := by rw [hsp]; exact hB
    have happ := fr_append _ _ hBs
    rw [hsp, hF] at happ
    have ht := bytes_take hB j
    obtain ⟨f1, f2, f3, f4⟩ := fr_facts ht
    have hlt : ((frames ps).take j).length ≤ (frames ps).length := by rw [List.length_take]; omega
    have hld : ((frames ps).drop j).length ≤ (frames ps).length := by rw [List.length_drop]; omega
    by_cases h0 : (fr ((frames ps).take j)).2.1 = 0
    · rw [if_pos h0] at happ
      simp only [Prod.mk.injEq] at happ
      obtain ⟨a1, a2⟩ := happ
      have hb3 : Bytes ((fr ((frames ps).take j)).2.2 ++ (frames ps).drop j) := bytes_append f2 (bytes_drop hB j)
      have hlen3 : ((fr ((frames ps).take j)).2.2 ++ (frames ps).drop j).length = (fr ((frames ps).take j)).2.2.length + ((frames ps).drop j).length := List.length_append
      obtain ⟨g1, g2, g3, g4⟩ := fr_facts hb3
      refine ((same_ev ps (by omega)).and (Ev.ge 200000)).step fun k hk => ?_
      obtain ⟨k1, k2⟩ := hk
      rw [barrowlaw04_FrameBack.l0, if_neg (by omega)]
      simp only [Option.bind_some]
      rw [hj, if_pos (by omega), if_pos (by omega), Int.toNat_natCast, push_eq k [] _ false (by simpa using ht) (by simp; omega) (by simp; omega), pushS_fr]
      simp only [Option.bind_some, List.nil_append]
      rw [if_pos h0, push_eq k _ _ false hb3 (by omega) (by omega), pushS_fr]
      simp only [Option.bind_some, if_true]
      rw [if_pos h0, ← a2]
      simp only [if_true]
      rw [if_pos (by omega), ← a1, k1]
      simp [frame_Feed_Waits.f, frame_Feed_Dead.f]
    · rw [if_neg h0] at happ
      rw [← happ] at h0
      exact absurd rfl h0
  | succ m ih =>
    intro i hi hl
    have hlt : i < ps.length := by omega
    have h1 := total_take_succ hlt
    have h2 := total_mono (l := ps) (i := i + 1)
    by_cases h4 : (rd_L1 ps i).length > 4096
    · refine (wrap_eq (rd_L1 ps i)).step fun k k1 => ?_
      rw [barrowlaw04_FrameBack.l0, if_pos (by omega), if_pos (by omega)]
      simp only [Option.bind_some]
      rw [k1]
      simp only [wrapS, if_pos h4, Option.bind_some]
      rw [if_neg (by decide)]
      simp only [if_true]
      rw [if_pos (show ((rd_L1 ps i).length : Int) > 4096 by omega)]
      rfl
    · have hl2 : ∀ x ∈ ps.take (i + 1), x.length ≤ 4096 := by
        intro x hx
        rw [List.take_succ_eq_append_getElem hlt, List.mem_append, List.mem_singleton] at hx
        rcases hx with hx | rfl
        · exact hl x hx
        · rw [← rdL_get]; omega
      have hnext := ih (i + 1) (by omega) hl2
      rw [List.take_succ_eq_append_getElem hlt, frames_snoc, ← rdL_get hlt] at hnext
      have hL := frames_len (ps.take i) hl
      have hi2 : (ps.take i).length ≤ 60 := by rw [List.length_take]; omega
      have he := enc_len 9 (rd_L1 ps i).length (by have := pow10; omega)
      refine (hnext.and (wrap_eq (rd_L1 ps i))).step fun k hk => ?_
      obtain ⟨k1, k2⟩ := hk
      rw [barrowlaw04_FrameBack.l0, if_pos (by omega), if_pos (by omega)]
      simp only [Option.bind_some]
      rw [k2]
      simp only [wrapS, if_neg h4, Option.bind_some, if_true]
      rw [if_pos (by rw [List.length_append]; omega), w64 (by omega) (by omega)]
      exact k1
theorem FrameBack : barrowlaw04_FrameBack.Pure := by
  intro l cut hl hcut
  have hb : ∀ x ∈ l, Bytes x := fun x hx y hy => u8_of ((hl.2.2 x hx).2.2 y hy)
  obtain ⟨t, ht, hp⟩ := few_eq l (by have := hl.2.1; omega) (fun x hx => by have := (hl.2.2 x hx).2.1; omega)
  by_cases h : t = true
  · subst h
    obtain ⟨p1, p2⟩ := hp rfl
    have h0 := back_l0 l cut (i64_of hcut) p1 hb p2 l.length 0 (by omega) (by simp)
    refine ((small_ev.and ht).and h0).get.imp fun k hk => ?_
    obtain ⟨⟨k1, k2⟩, k3⟩ := hk
    unfold barrowlaw04_FrameBack.f
    rw [k1, k2]
    simp only [Option.bind_some, frame_New.f, if_true]
    exact k3
  · obtain rfl : t = false := by cases t <;> simp_all
    refine (small_ev.and ht).get.imp fun k hk => ?_
    obtain ⟨k1, k2⟩ := hk
    unfold barrowlaw04_FrameBack.f
    rw [k1, k2]
    simp [frame_New.f]
end Go.Proofs.Ytdlpijeceigbnaa.Pure
