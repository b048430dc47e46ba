/- A feed, part by part: the program's feed is the document's. -/
import Derived.Test.YtdlpijeceigbnaaFrC
set_option linter.unusedSimpArgs false
set_option linter.unusedVariables false
set_option linter.unusedSectionVars false
namespace Go.Proofs.Ytdlpijeceigbnaa.Pure
open Go.RowKit Go.Proofs.Ytdlpijeceigbnaa.XFR Go.Proofs.YtdlpijeceigbnaaW.PrintWords Go.Proofs.YtdlpijeceigbnaaW.PrintLast Go.Proofs.YtdlpijeceigbnaaW.PrintMore

section
variable (ps : List (List Int)) (ld : List Int) (t : Bool) (hps : ps.length ≤ 60)
include hps
/-- The state of both feeds after i parts: it comes to true. -/
abbrev At (i : Nat) (rest : List Int) (dead : Bool) : Prop := Ev (fun k => barrowlaw04_FramePlays.l0 k ps ld i t rest rest dead dead = some true)
theorem plays_l2end (A : List (List Int)) (c : Int) (rest : List Int) (dead : Bool) (i : Nat) (hi : i < ps.length) (h : At ps ld t (i + 1) rest dead) (y : List (List Int)) :
    Ev (fun k => barrowlaw04_FramePlays.l2 k ps ld i (A.length : Int) y t A c rest dead c rest dead true = some true) := by
  refine h.step fun k hk => ?_
  rw [barrowlaw04_FramePlays.l2, if_neg (by omega), if_pos rfl, if_pos rfl]
  simp only [frame_Feed_Waits.f, frame_Feed_Dead.f, Option.bind_some, if_true, bne_self_eq_false, if_false]
  rw [w64 (by omega) (by omega)]
  simpa using hk
theorem plays_l3 (A : List (List Int)) (c : Int) (rest : List Int) (dead : Bool) (i n : Nat) (hn : n < A.length) (hA : A.length < 140737488355328)
    (h : ∀ y : List (List Int), y.map List.length = A.map List.length → Ev (fun k => barrowlaw04_FramePlays.l2 k ps ld i ((n + 1 : Nat) : Int) y t A c rest dead c rest dead true = some true)) :
    ∀ (m j : Nat) (y : List (List Int)), (rd_L1 y n).length < 140737488355328 → j + m = (rd_L1 y n).length → y.map List.length = A.map List.length → Ev (fun k => barrowlaw04_FramePlays.l3 k ps ld i n j y t A c rest dead c rest dead true = some true) := by
  intro m
  induction m with
  | zero =>
    intro j y hl hj hy
    refine (h y hy).step fun k hk => ?_
    rw [barrowlaw04_FramePlays.l3, if_pos (by omega), if_pos (by omega)]
    simp only [Option.bind_some]
    rw [if_neg (by omega), w64 (by omega) (by omega)]
    exact hk
  | succ m ih =>
    intro j y hl hj hy
    have hny : n < y.length := by have := congrArg List.length hy; simp at this; omega
    have hy2 : (y.set n ((rd_L1 y n).set j 98)).map List.length = A.map List.length := by
      rw [← hy]
      apply List.ext_getElem (by simp)
      intro q h1 h2
      simp only [List.getElem_map, List.getElem_set]
      split
      · rename_i e
        subst e
        rw [List.length_set, rdL_get hny]
      · rfl
    have hr : (rd_L1 (y.set n ((rd_L1 y n).set j 98)) n).length = (rd_L1 y n).length := by
      rw [rdL_get (by simpa using hny)]
      simp
    refine (ih (j + 1) (y.set n ((rd_L1 y n).set j 98)) (by omega) (by omega) hy2).step fun k hk => ?_
    rw [barrowlaw04_FramePlays.l3, if_pos (by omega), if_pos (by omega)]
    simp only [Option.bind_some]
    rw [if_pos (by omega), if_pos (by omega), w64 (by omega) (by omega)]
    exact hk
theorem plays_l2 (A : List (List Int)) (c : Int) (rest : List Int) (dead : Bool) (i : Nat) (hi : i < ps.length) (hA : A.length < 140737488355328) (hAx : ∀ x ∈ A, x.length < 140737488355328) (h : At ps ld t (i + 1) rest dead) :
    ∀ (m n : Nat) (y : List (List Int)), n + m = A.length → y.map List.length = A.map List.length → Ev (fun k => barrowlaw04_FramePlays.l2 k ps ld i n y t A c rest dead c rest dead true = some true) := by
  intro m
  induction m with
  | zero =>
    intro n y hn hy
    obtain rfl : n = A.length := by omega
    exact plays_l2end ps ld t hps A c rest dead i hi h y
  | succ m ih =>
    intro n y hn hy
    have hny : n < y.length := by have := congrArg List.length hy; simp at this; omega
    have hln : (rd_L1 y n).length = (A[n]'(by omega)).length := by
      rw [rdL_get hny]
      have := congrArg (fun z => z[n]?) hy
      simp only [List.getElem?_map, List.getElem?_eq_getElem hny, List.getElem?_eq_getElem (show n < A.length by omega), Option.map_some, Option.some.injEq] at this
      exact this
    have hlt := hAx _ (List.getElem_mem (show n < A.length by omega))
    refine (plays_l3 ps ld t hps A c rest dead i n (by omega) hA (fun y hy => ih (n + 1) y (by omega) hy) (rd_L1 y n).length 0 y (by omega) (by omega) hy).step fun k hk => ?_
    rw [barrowlaw04_FramePlays.l2, if_pos (by omega)]
    exact hk
theorem plays_l1 (A : List (List Int)) (c : Int) (rest p : List Int) (dead : Bool) (i : Nat) (hp : p.length < 140737488355328)
    (h : Ev (fun k => barrowlaw04_FramePlays.l2 k ps ld i 0 A t A c rest dead c rest dead true = some true)) :
    ∀ (m j : Nat) (y : List Int), j + m = p.length → Ev (fun k => barrowlaw04_FramePlays.l1 k ps ld i j y t p A c rest dead c rest dead true = some true) := by
  intro m
  induction m with
  | zero =>
    intro j y hj
    refine h.step fun k hk => ?_
    rw [barrowlaw04_FramePlays.l1, if_neg (by omega)]
    exact hk
  | succ m ih =>
    intro j y hj
    refine (ih (j + 1) (y.set j 99) (by omega)).step fun k hk => ?_
    rw [barrowlaw04_FramePlays.l1, if_pos (by omega), if_pos (by omega)]
    simp only [Option.bind_some]
    rw [w64 (by omega) (by omega)]
    exact hk
end
/-- The loads are parts of what came. -/
theorem frS_mem : ∀ (n : Nat) (b : List Int), Bytes b → ∀ x ∈ (frS n b).1, x.length ≤ b.length
  | 0, b, _ => by simp [frS]
  | n + 1, b, hb => by
    rw [frS]
    rcases uintS_facts hb 0 with h | ⟨v, nx, h, h1, h2, h3, h4, h5⟩
    · rw [h]
      simp only []
      rw [if_neg (show ¬ ((2 : Int) = 0) by decide)]
      cases opn b <;> simp
    · rw [h]
      simp only [if_true]
      split
      · simp
      · split
        · simp
        · have ih := frS_mem n (b.drop (nx + v).toNat) (bytes_drop hb _)
          intro x hx
          simp only [List.mem_cons] at hx
          rcases hx with rfl | hx
          · rw [List.length_take, List.length_drop]; omega
          · have := ih x hx
            rw [List.length_drop] at this
            omega
theorem pushS_mem {rest l : List Int} {dead : Bool} (hb : Bytes (rest ++ l)) : ∀ x ∈ (pushS rest dead l).1, x.length ≤ (rest ++ l).length := by
  unfold pushS
  cases dead with
  | true => rw [if_pos rfl]; intro x hx; cases hx
  | false => rw [if_neg (by decide)]; exact frS_mem _ _ hb
theorem plays_l0 (ps : List (List Int)) (ld : List Int) (hps : ps.length ≤ 60) (hb : ∀ x ∈ ps, Bytes x) (htot : total ps ≤ 16384) :
    ∀ (m i : Nat) (rest : List Int) (dead : Bool), i + m = ps.length → Bytes rest → rest.length ≤ total (ps.take i) → At ps ld true i rest dead := by
  intro m
  induction m with
  | zero =>
    intro i rest dead hi hr hl
    refine ((wrap_eq ld).and (refwrap_eq ld)).step fun k hk => ?_
    obtain ⟨h1, h2⟩ := hk
    rw [barrowlaw04_FramePlays.l0, if_neg (by omega), h1, h2]
    simp
  | succ m ih =>
    intro i rest dead hi hr hl
    have hlt : i < ps.length := by omega
    have hp : Bytes (rd_L1 ps i) := by rw [rdL_get hlt]; exact hb _ (List.getElem_mem hlt)
    have hb2 : Bytes (rest ++ rd_L1 ps i) := bytes_append hr hp
    have h1 := total_take_succ hlt
    have h2 := total_mono (l := ps) (i := i + 1)
    have hlen : (rest ++ rd_L1 ps i).length ≤ total (ps.take (i + 1)) := by rw [List.length_append]; omega
    obtain ⟨g1, g2, g3⟩ := pushS_bytes (dead := dead) hb2
    have hnext : At ps ld true (i + 1) (pushS rest dead (rd_L1 ps i)).2.2.1 (pushS rest dead (rd_L1 ps i)).2.2.2 := ih (i + 1) _ _ (by omega) g1 (by omega)
    have hl2 := plays_l2 ps ld true hps (pushS rest dead (rd_L1 ps i)).1 (pushS rest dead (rd_L1 ps i)).2.1 _ _ i hlt (by omega) (fun x hx => by have := pushS_mem hb2 x hx; omega) hnext (pushS rest dead (rd_L1 ps i)).1.length 0 _ (by omega) rfl
    have hl1 := plays_l1 ps ld true hps _ _ _ (rd_L1 ps i) _ i (by rw [List.length_append] at hlen; omega) hl2 (rd_L1 ps i).length 0 (rd_L1 ps i) (by omega)
    refine ((hl1.and (same_ev (pushS rest dead (rd_L1 ps i)).1 (by omega))).and (Ev.ge 100000)).step fun k hk => ?_
    obtain ⟨⟨k1, k2⟩, k3⟩ := hk
    rw [barrowlaw04_FramePlays.l0, if_pos (by omega)]
    simp only [Option.bind_some, List.nil_append, List.length_nil, Nat.zero_add]
    rw [if_pos (by omega), if_pos (by rw [List.length_append] at hlen; omega), push_eq k rest (rd_L1 ps i) dead hb2 (by omega) (by omega), refpush_eq k rest (rd_L1 ps i) dead hb2 (by omega) (by omega)]
    simp only [Option.bind_some]
    rw [k2]
    simp only [Option.bind_some]
    exact k1
theorem FramePlays : barrowlaw04_FramePlays.Pure := by
  intro l ld hl hld
  have hb : ∀ x ∈ l, Bytes x := fun x hx y hy => u8_of ((hl.2.2 x hx).2.2 y hy)
  obtain ⟨t, ht, hp⟩ := few_eq l (by have := hl.2.1; omega) (fun x hx => by have := (hl.2.2 x hx).2.1; omega)
  by_cases h : t = true
  · subst h
    obtain ⟨p1, p2⟩ := hp rfl
    refine ((small_ev.and ht).and (plays_l0 l ld p1 hb p2 l.length 0 [] false (by omega) bytes_nil (by simp))).get.imp fun k hk => ?_
    obtain ⟨⟨k1, k2⟩, k3⟩ := hk
    unfold barrowlaw04_FramePlays.f
    rw [k1, k2]
    simp only [Option.bind_some, frame_New.f, if_true]
    split
    · rfl
    · exact k3
  · obtain rfl : t = false := by cases t <;> simp_all
    refine (small_ev.and ht).get.imp fun k hk => ?_
    obtain ⟨k1, k2⟩ := hk
    unfold barrowlaw04_FramePlays.f
    rw [k1, k2]
    simp [frame_New.f]
end Go.Proofs.Ytdlpijeceigbnaa.Pure
