/- What waits is never more than a frame, less one byte, and a dead feed stays so. -/
import Derived.Test.YtdlpijeceigbnaaFrD
set_option linter.unusedSimpArgs false
set_option linter.unusedVariables false
namespace Go.Proofs.Ytdlpijeceigbnaa.Pure
open Go.RowKit Go.Proofs.Ytdlpijeceigbnaa.XFR Go.Proofs.YtdlpijeceigbnaaW.PrintWords Go.Proofs.YtdlpijeceigbnaaW.PrintLast Go.Proofs.YtdlpijeceigbnaaW.PrintMore

theorem waits_l1 (ps A : List (List Int)) (i : Nat) (rest : List Int) (dead : Bool) (hps : ps.length ≤ 60) (hi : i < ps.length) (hA : A.length < 140737488355328) (hAx : ∀ x ∈ A, x.length ≤ 4096)
    (h : Ev (fun k => barrowlaw04_FrameWaits.l0 k ps true ((i + 1 : Nat) : Int) true rest dead = some true)) :
    ∀ (m j : Nat), j + m = A.length → Ev (fun k => barrowlaw04_FrameWaits.l1 k ps i j true rest dead A = some true) := by
  intro m
  induction m with
  | zero =>
    intro j hj
    refine h.step fun k hk => ?_
    rw [barrowlaw04_FrameWaits.l1, if_neg (by omega), w64 (by omega) (by omega)]
    exact hk
  | succ m ih =>
    intro j hj
    refine (ih (j + 1) (by omega)).step fun k hk => ?_
    rw [barrowlaw04_FrameWaits.l1, if_pos (by omega), if_pos (by omega)]
    simp only [Option.bind_some]
    have := hAx _ (List.getElem_mem (show j < A.length by omega))
    rw [← rdL_get] at this
    rw [if_neg (by omega), w64 (by omega) (by omega)]
    exact hk
theorem waits_l101 (ps A : List (List Int)) (i : Nat) (rest : List Int) (dead : Bool) (hps : ps.length ≤ 60) (hi : i < ps.length) (hA : A.length < 140737488355328) (hAx : ∀ x ∈ A, x.length ≤ 4096)
    (h : Ev (fun k => barrowlaw04_FrameWaits.l0 k ps false ((i + 1 : Nat) : Int) true rest dead = some true)) :
    ∀ (m j : Nat), j + m = A.length → Ev (fun k => barrowlaw04_FrameWaits.l101 k ps i true rest dead j A = some true) := by
  intro m
  induction m with
  | zero =>
    intro j hj
    refine h.step fun k hk => ?_
    rw [barrowlaw04_FrameWaits.l101, if_neg (by omega), w64 (by omega) (by omega)]
    exact hk
  | succ m ih =>
    intro j hj
    refine (ih (j + 1) (by omega)).step fun k hk => ?_
    rw [barrowlaw04_FrameWaits.l101, if_pos (by omega), if_pos (by omega)]
    simp only [Option.bind_some]
    have := hAx _ (List.getElem_mem (show j < A.length by omega))
    rw [← rdL_get] at this
    rw [if_neg (by omega), w64 (by omega) (by omega)]
    exact hk
theorem waits_l0 (ps : List (List Int)) (hps : ps.length ≤ 60) (hb : ∀ x ∈ ps, Bytes x) (htot : total ps ≤ 16384) :
    ∀ (m i : Nat) (rest : List Int) (dead : Bool), i + m = ps.length → Bytes rest → rest.length ≤ total (ps.take i) → (dead = true → rest = []) → Ev (fun k => barrowlaw04_FrameWaits.l0 k ps dead i true rest dead = some true) := by
  intro m
  induction m with
  | zero =>
    intro i rest dead hi hr hl hd
    refine (Ev.ge 0).step fun k _ => ?_
    rw [barrowlaw04_FrameWaits.l0, if_neg (by omega)]
  | succ m ih =>
    intro i rest dead hi hr hl hd
    have hlt : i < ps.length := by omega
    have hp : Bytes (rd_L1 ps i) := by rw [rdL_get hlt]; exact hb _ (List.getElem_mem hlt)
    have hb2 : Bytes (rest ++ rd_L1 ps i) := bytes_append hr hp
    have h1 := total_take_succ hlt
    have h2 := total_mono (l := ps) (i := i + 1)
    have hlen : (rest ++ rd_L1 ps i).length ≤ total (ps.take (i + 1)) := by rw [List.length_append]; omega
    cases dead with
    | true =>
      obtain rfl := hd rfl
      have hnext := waits_l1 ps [] i [] true hps hlt (by simp) (by simp) (ih (i + 1) [] true (by omega) bytes_nil (by simp) (fun _ => rfl)) 0 0 rfl
      refine (hnext.and (Ev.ge 100000)).step fun k hk => ?_
      obtain ⟨k1, k2⟩ := hk
      rw [barrowlaw04_FrameWaits.l0, if_pos (by omega), if_pos (by omega)]
      simp only [Option.bind_some]
      rw [push_eq k [] (rd_L1 ps i) true hb2 (by omega) (by omega)]
      simp only [pushS, if_true, Option.bind_some, frame_Feed_Dead.f, frame_Feed_Waits.f]
      simpa using k1
    | false =>
      obtain ⟨hc, hx⟩ := frS_codes _ _ hb2 (Nat.lt_succ_self (rest ++ rd_L1 ps i).length)
      have hbr := frS_bytes ((rest ++ rd_L1 ps i).length + 1) _ hb2
      have hlr := (frS_rest ((rest ++ rd_L1 ps i).length + 1) _ hb2).2
      have hlo := frS_len ((rest ++ rd_L1 ps i).length + 1) _ hb2
      have hpe := fun k (hk : 100000 ≤ k) => push_eq k rest (rd_L1 ps i) false hb2 (by omega) (by omega)
      simp only [pushS] at hpe
      generalize hF : frS ((rest ++ rd_L1 ps i).length + 1) (rest ++ rd_L1 ps i) = F at *
      obtain ⟨o, c, r⟩ := F
      simp only [] at hc hx hbr hlr hlo hpe
      rcases hc with ⟨c0, cl⟩ | ⟨c0, cl⟩
      · subst c0
        have hnext := waits_l101 ps o i r false hps hlt (by omega) hx (ih (i + 1) r false (by omega) hbr (by omega) (fun h => by cases h)) o.length 0 (by omega)
        refine (hnext.and (Ev.ge 100000)).step fun k hk => ?_
        obtain ⟨k1, k2⟩ := hk
        rw [barrowlaw04_FrameWaits.l0, if_pos (by omega), if_pos (by omega)]
        simp only [Option.bind_some]
        rw [hpe k k2]
        simp only [Option.bind_some, frame_Feed_Dead.f, frame_Feed_Waits.f]
        simpa [show ¬ (r.length : Int) > 4104 by omega, show ¬ (4104 : Int) < r.length by omega] using k1
      · subst cl
        have hnext := waits_l1 ps o i [] true hps hlt (by omega) hx (ih (i + 1) [] true (by omega) bytes_nil (by simp) (fun _ => rfl)) o.length 0 (by omega)
        refine (hnext.and (Ev.ge 100000)).step fun k hk => ?_
        obtain ⟨k1, k2⟩ := hk
        rw [barrowlaw04_FrameWaits.l0, if_pos (by omega), if_pos (by omega)]
        simp only [Option.bind_some]
        rw [hpe k k2]
        simp only [Option.bind_some, frame_Feed_Dead.f, frame_Feed_Waits.f]
        rcases c0 with rfl | rfl <;> simpa using k1
theorem FrameWaits : barrowlaw04_FrameWaits.Pure := by
  intro l hl
  have hb : ∀ x ∈ l, Bytes x := fun x hx y hy => u8_of ((hl.2.2 x hx).2.2 y hy)
  obtain ⟨t, ht, hp⟩ := few_eq l (by have := hl.2.1; omega) (fun x hx => by have := (hl.2.2 x hx).2.1; omega)
  by_cases h : t = true
  · subst h
    obtain ⟨p1, p2⟩ := hp rfl
    refine ((small_ev.and ht).and (waits_l0 l p1 hb p2 l.length 0 [] false (by omega) bytes_nil (by simp) (fun h => by cases h))).get.imp fun k hk => ?_
    obtain ⟨⟨k1, k2⟩, k3⟩ := hk
    unfold barrowlaw04_FrameWaits.f
    rw [k1, k2]
    simp only [Option.bind_some, frame_New.f, if_true]
    exact k3
  · obtain rfl : t = false := by cases t <;> simp_all
    refine (small_ev.and ht).get.imp fun k hk => ?_
    obtain ⟨k1, k2⟩ := hk
    unfold barrowlaw04_FrameWaits.f
    rw [k1, k2]
    simp [frame_New.f]
end Go.Proofs.Ytdlpijeceigbnaa.Pure
