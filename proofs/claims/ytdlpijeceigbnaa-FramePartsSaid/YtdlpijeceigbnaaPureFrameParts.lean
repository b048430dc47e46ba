/- However bytes come in parts, the same loads come out, in the same order. -/
import Derived.Test.YtdlpijeceigbnaaFrE
set_option linter.unusedSimpArgs false
set_option linter.unusedVariables false
namespace Go.Proofs.Ytdlpijeceigbnaa.Pure
open Go.RowKit Go.Proofs.Ytdlpijeceigbnaa.XFR Go.Proofs.YtdlpijeceigbnaaW.PrintWords Go.Proofs.YtdlpijeceigbnaaW.PrintLast Go.Proofs.YtdlpijeceigbnaaW.PrintMore

theorem parts_l0 (ps : List (List Int)) (hps : ps.length ≤ 60) (hb : ∀ x ∈ ps, Bytes x) (htot : total ps ≤ 16384) :
    ∀ (m i : Nat) (all : List Int), i + m = ps.length → Bytes all → all.length = total (ps.take i) →
      Ev (fun k => barrowlaw04_FrameParts.l0 k ps true [] false all (fr all).1 (fr all).2.1 i (fr all).2.2 (if (fr all).2.1 = 0 then false else true) = some true) := by
  intro m
  induction m with
  | zero =>
    intro i all hi ha hl
    have h2 := total_mono (l := ps) (i := i)
    obtain ⟨f1, f2, f3, f4⟩ := fr_facts ha
    refine ((same_ev (fr all).1 (by omega)).and (Ev.ge 100000)).step fun k hk => ?_
    obtain ⟨k1, k2⟩ := hk
    rw [barrowlaw04_FrameParts.l0, if_neg (by omega), push_eq k [] all false (by simpa using ha) (by simp; omega) (by simp; omega), pushS_fr]
    simp only [Option.bind_some, List.nil_append, if_true]
    rw [k1]
    simp [frame_Feed_Waits.f, frame_Feed_Dead.f]
  | succ m ih =>
    intro i all hi ha hl
    have hlt : i < ps.length := by omega
    have hp : Bytes (rd_L1 ps i) := by rw [rdL_get hlt]; exact hb _ (List.getElem_mem hlt)
    have hb2 : Bytes (all ++ rd_L1 ps i) := bytes_append ha hp
    have h1 := total_take_succ hlt
    have h2 := total_mono (l := ps) (i := i + 1)
    obtain ⟨f1, f2, f3, f4⟩ := fr_facts ha
    have hnext := ih (i + 1) (all ++ rd_L1 ps i) (by omega) hb2 (by rw [List.length_append]; omega)
    have happ := fr_append all (rd_L1 ps i) hb2
    have hb3 : Bytes ((fr all).2.2 ++ rd_L1 ps i) := bytes_append f2 hp
    obtain ⟨g1, g2, g3, g4⟩ := fr_facts hb3
    have hlen3 : ((fr all).2.2 ++ rd_L1 ps i).length = (fr all).2.2.length + (rd_L1 ps i).length := List.length_append
    by_cases h0 : (fr all).2.1 = 0
    · rw [if_pos h0] at happ
      rw [happ] at hnext
      refine (hnext.and (Ev.ge 100000)).step fun k hk => ?_
      obtain ⟨k1, k2⟩ := hk
      rw [barrowlaw04_FrameParts.l0, if_pos (by omega), if_pos (by omega)]
      simp only [Option.bind_some]
      rw [if_pos h0, push_eq k _ (rd_L1 ps i) false hb3 (by omega) (by omega), pushS_fr]
      simp only [Option.bind_some]
      have hne : ¬ (fr ((fr all).2.2 ++ rd_L1 ps i)).2.1 = 14 := by rcases g1 with g | ⟨g | g, _⟩ <;> omega
      rw [if_neg hne, if_pos h0, if_pos (by omega), if_pos (by omega), w64 (by omega) (by omega)]
      exact k1
    · rw [if_neg h0] at happ
      rw [happ] at hnext
      refine (hnext.and (Ev.ge 100000)).step fun k hk => ?_
      obtain ⟨k1, k2⟩ := hk
      rw [barrowlaw04_FrameParts.l0, if_pos (by omega), if_pos (by omega)]
      simp only [Option.bind_some]
      rw [if_neg h0, push_eq k _ (rd_L1 ps i) true hb3 (by omega) (by omega)]
      simp only [pushS, if_true, Option.bind_some]
      rw [if_neg h0, if_pos (by simp; omega), if_pos (by omega), w64 (by omega) (by omega)]
      simp only [List.append_nil]
      rw [if_neg h0] at k1
      exact k1
theorem FrameParts : barrowlaw04_FrameParts.Pure := by
  intro l hl
  have hb : ∀ x ∈ l, Bytes x := fun x hx y hy => u8_of ((hl.2.2 x hx).2.2 y hy)
  obtain ⟨t, ht, hp⟩ := few_eq l (by have := hl.2.1; omega) (fun x hx => by have := (hl.2.2 x hx).2.1; omega)
  by_cases h : t = true
  · subst h
    obtain ⟨p1, p2⟩ := hp rfl
    have hnil : fr [] = ([], 0, []) := by decide +kernel
    have h0 := parts_l0 l p1 hb p2 l.length 0 [] (by omega) bytes_nil (by simp [total])
    rw [hnil] at h0
    refine ((small_ev.and ht).and h0).get.imp fun k hk => ?_
    obtain ⟨⟨k1, k2⟩, k3⟩ := hk
    unfold barrowlaw04_FrameParts.f
    rw [k1, k2]
    simp only [Option.bind_some, frame_New.f, if_true]
    exact k3
  · obtain rfl : t = false := by cases t <;> simp_all
    refine (small_ev.and ht).get.imp fun k hk => ?_
    obtain ⟨k1, k2⟩ := hk
    unfold barrowlaw04_FrameParts.f
    rw [k1, k2]
    simp [frame_New.f]
end Go.Proofs.Ytdlpijeceigbnaa.Pure
