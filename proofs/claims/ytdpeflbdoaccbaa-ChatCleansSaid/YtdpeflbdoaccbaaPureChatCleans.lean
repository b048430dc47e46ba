/- ChatCleans, in plain Lean. -/
import Derived.Test.YtdpeflbdoaccbaaChH
import Derived.Test.YtdpeflbdoaccbaaXCLx11
set_option linter.unusedSimpArgs false
set_option linter.unusedVariables false
set_option maxRecDepth 100000
namespace Go.Proofs.Ytdpeflbdoaccbaa.Pure
open Go.RowKit Go.Proofs.Ytdpeflbdoaccbaa.XCL Go.Proofs.YtdpeflbdoaccbaaW.PrintWords Go.Proofs.YtdpeflbdoaccbaaW.PrintLast Go.Proofs.YtdpeflbdoaccbaaS
theorem toList_inj {a b : ByteArray} (h : a.toList = b.toList) : a = b := by
  rw [ByteArray.toList_eq, ByteArray.toList_eq] at h
  apply ByteArray.ext
  exact Array.toList_inj.1 h
theorem cl_l0 (s t : ByteArray) (l : List ByteArray) (hs : s.size ≤ 1024) (ht : t.size = s.size) (hb : ∀ i : Nat, i < s.size → bt t (i : Int) = bt s (i : Int) ∨ bt t (i : Int) = 42) :
    ∀ (n i k : Nat), i + n = s.size → 2 * n < k → ∃ k', k ≤ k' + 2 * n + 1 ∧ barrowlaw38_ChatCleans.l0 k s l true t i = barrowlaw38_ChatCleans.l1 k' s l true t false 0 := by
  intro n
  induction n with
  | zero =>
    intro i k hi hk
    obtain ⟨k, rfl⟩ : ∃ q, k = q + 1 := ⟨k - 1, by omega⟩
    refine ⟨k, by omega, ?_⟩
    rw [barrowlaw38_ChatCleans.l0, if_neg (by omega)]
  | succ n ih =>
    intro i k hi hk
    obtain ⟨k, rfl⟩ : ∃ q, k = q + 2 := ⟨k - 2, by omega⟩
    obtain ⟨k', h1, h2⟩ := ih (i + 1) k (by omega) (by omega)
    refine ⟨k', by omega, ?_⟩
    have go : barrowlaw38_ChatCleans.l199 (k + 1) s l true t i false = barrowlaw38_ChatCleans.l1 k' s l true t false 0 := by
      rw [barrowlaw38_ChatCleans.l199, if_neg (by decide), wrap64_in (by omega), succ_cast]
      exact h2
    rw [barrowlaw38_ChatCleans.l0, if_pos (by omega), if_pos (by omega), if_pos (by omega)]
    by_cases e : bt t (i : Int) = bt s (i : Int)
    · rw [if_pos e]; exact go
    · rw [if_neg e, (hb i (by omega)).resolve_left e]; exact go
theorem cl_l2 (s t : ByteArray) (l : List ByteArray) (j : Nat) (hj : j < l.length) (u : List ByteArray) (X : Bool) (hw : (rdOf ByteArray.empty l (j : Int)).size ≤ 100) :
    ∀ (n i k : Nat) (x : Bool), i + n = (rdOf ByteArray.empty l (j : Int)).size → n < k → ∃ k' x', k ≤ k' + n + 1 ∧ barrowlaw38_ChatCleans.l2 k s l true t j u X x i = barrowlaw38_ChatCleans.l3 k' s l true t j u X x' 0 ∧
      (x' = false → x = false ∧ ∀ q : Nat, i ≤ q → q < (rdOf ByteArray.empty l (j : Int)).size → bt (rdOf ByteArray.empty l (j : Int)) (q : Int) ≠ 42) := by
  intro n
  induction n with
  | zero =>
    intro i k x hi hk
    obtain ⟨k, rfl⟩ : ∃ q, k = q + 1 := ⟨k - 1, by omega⟩
    refine ⟨k, x, by omega, ?_, fun h => ⟨h, fun q h1 h2 => by omega⟩⟩
    rw [barrowlaw38_ChatCleans.l2, if_pos (by omega), if_pos (by omega), if_neg (by omega)]
  | succ n ih =>
    intro i k x hi hk
    obtain ⟨k, rfl⟩ : ∃ q, k = q + 1 := ⟨k - 1, by omega⟩
    rw [barrowlaw38_ChatCleans.l2, if_pos (by omega), if_pos (by omega), if_pos (by omega), wrap64_in (by omega), succ_cast]
    cases x with
    | true =>
      obtain ⟨k', x', h1, h2, h3⟩ := ih (i + 1) k true (by omega) (by omega)
      refine ⟨k', x', by omega, by rw [if_pos rfl]; exact h2, fun h => ?_⟩
      have := (h3 h).1
      cases this
    | false =>
      rw [if_neg (by decide), if_pos (by omega)]
      by_cases e : bt (rdOf ByteArray.empty l (j : Int)) (i : Int) = 42
      · rw [if_pos e]
        obtain ⟨k', x', h1, h2, h3⟩ := ih (i + 1) k true (by omega) (by omega)
        refine ⟨k', x', by omega, h2, fun h => ?_⟩
        have := (h3 h).1
        cases this
      · rw [if_neg e]
        obtain ⟨k', x', h1, h2, h3⟩ := ih (i + 1) k false (by omega) (by omega)
        refine ⟨k', x', by omega, h2, fun h => ⟨rfl, fun q q1 q2 => ?_⟩⟩
        by_cases c : q = i
        · subst c; exact e
        · exact (h3 h).2 q (by omega) q2
theorem cl_l3 (s : ByteArray) (l : List ByteArray) (C : List Int) (hs : s.size ≤ 1024) (hC1 : C.length = s.size) (hC2 : Cin s l C) (hC3 : By C) (j : Nat) (hj : j < l.length) (hl : l.length ≤ 100) (u : List ByteArray) (X x : Bool) (hw : (rdOf ByteArray.empty l (j : Int)).size ≤ 100)
    (hX : X = true → 0 < u.length ∧ 0 < (rdOf ByteArray.empty l (j : Int)).size ∧ rdOf ByteArray.empty u 0 = lws (rdOf ByteArray.empty l (j : Int)) ∧ ∀ q : Nat, q < (rdOf ByteArray.empty l (j : Int)).size → bt (rdOf ByteArray.empty l (j : Int)) (q : Int) ≠ 42) :
    ∀ (n i k : Nat), i + n = s.size + 1 → 2 * n + 10002 < k → ∃ k', k ≤ k' + 2 * n + 1 ∧ barrowlaw38_ChatCleans.l3 k s l true (strOfNums C) j u X x i = barrowlaw38_ChatCleans.l1 k' s l true (strOfNums C) x (j + 1 : Nat) := by
  have hsz : (strOfNums C).size = s.size := by rw [str_size, hC1]
  have hmem := rdB_mem hj
  intro n
  induction n with
  | zero =>
    intro i k hi hk
    obtain ⟨k, rfl⟩ : ∃ q, k = q + 1 := ⟨k - 1, by omega⟩
    refine ⟨k, by omega, ?_⟩
    rw [barrowlaw38_ChatCleans.l3, if_pos (by omega), if_pos (by omega), wrap64_in (x := (i : Int) + _) (by omega), if_neg (by omega), wrap64_in (by omega), succ_cast]
  | succ n ih =>
    intro i k hi hk
    obtain ⟨k, rfl⟩ : ∃ q, k = q + 2 := ⟨k - 2, by omega⟩
    rw [barrowlaw38_ChatCleans.l3, if_pos (by omega), if_pos (by omega), wrap64_in (x := (i : Int) + _) (by omega)]
    by_cases c : (i : Int) + ((rdOf ByteArray.empty l (j : Int)).size : Int) ≤ ((strOfNums C).size : Int)
    rotate_left
    · refine ⟨k + 1, by omega, ?_⟩
      rw [if_neg c, wrap64_in (by omega), succ_cast]
    rw [if_pos c]
    cases X with
    | false =>
      refine ⟨k + 1, by omega, ?_⟩
      rw [if_neg (by decide), wrap64_in (by omega), succ_cast]
    | true =>
      obtain ⟨u0, w0, ue, hst⟩ := hX rfl
      obtain ⟨k', g1, g2⟩ := ih (i + 1) k (by omega) (by omega)
      refine ⟨k', by omega, ?_⟩
      have go : barrowlaw38_ChatCleans.l399 (k + 1) s l true (strOfNums C) j u true x i false = barrowlaw38_ChatCleans.l1 k' s l true (strOfNums C) x (j + 1 : Nat) := by
        rw [barrowlaw38_ChatCleans.l399, if_neg (by decide), wrap64_in (by omega), succ_cast]
        exact g2
      have et : ((i : Int) + ((rdOf ByteArray.empty l (j : Int)).size : Int)).toNat = i + (rdOf ByteArray.empty l (j : Int)).size := by omega
      have esub : (strOfNums C).extract i (i + (rdOf ByteArray.empty l (j : Int)).size) = strOfNums ((C.drop i).take (rdOf ByteArray.empty l (j : Int)).size) := by
        rw [str_extract]; congr 2; omega
      rw [if_pos rfl, if_pos (by omega), if_pos (by omega), et, Int.toNat_natCast, esub]
      have hlen : (strOfNums ((C.drop i).take (rdOf ByteArray.empty l (j : Int)).size)).size = (rdOf ByteArray.empty l (j : Int)).size := by
        rw [str_size, List.length_take, List.length_drop]; omega
      obtain ⟨v, v1, v2, v3⟩ := words_val (strOfNums ((C.drop i).take (rdOf ByteArray.empty l (j : Int)).size)) (by omega)
      rw [v3 (k + 1) (by omega), Option.bind_some]
      by_cases c1 : (v.length : Int) = 1
      rotate_left
      · rw [if_neg c1]; exact go
      rw [if_pos c1, if_pos (by omega), if_pos (by omega)]
      have hf : ((rdOf ByteArray.empty v 0).toList == (rdOf ByteArray.empty u 0).toList) = false := by
        rw [beq_eq_false_iff_ne]
        intro e
        have e := toList_inj e
        have hv := rdB_mem (l := v) (i := 0) (by omega)
        rw [Int.ofNat_zero] at hv
        have hBy : By ((C.drop i).take (rdOf ByteArray.empty l (j : Int)).size) := fun z hz => hC3 z (List.drop_subset _ _ (List.take_subset _ _ hz))
        obtain ⟨-, y2, -⟩ := v2 _ hv (by rw [e, ue, lws_size, hlen])
        rw [e, ue] at y2
        unfold lws at y2
        rw [bytes_str hBy] at y2
        have y3 := (str_inj (lw_by (bytes_by _)) (lw_by hBy)).1 (by rw [y2])
        refine no_word hC1 hC2 hmem w0 hst (p := i) (by omega) ?_
        rw [y3, List.map_take, List.map_drop]
      rw [hf]
      exact go
theorem cl_l1 (s : ByteArray) (l : List ByteArray) (C : List Int) (hs : s.size ≤ 1024) (hC1 : C.length = s.size) (hC2 : Cin s l C) (hC3 : By C) (hl : l.length ≤ 40) (hw : ∀ w ∈ l, w.size ≤ 100) :
    ∀ (n j k : Nat) (x : Bool), j + n = l.length → 7100000 + 4000 * n < k → (x = false → ∀ w ∈ l.take j, ∀ q : Nat, q < w.size → bt w (q : Int) ≠ 42) → barrowlaw38_ChatCleans.l1 k s l true (strOfNums C) x j = some true := by
  have hsz : (strOfNums C).size = s.size := by rw [str_size, hC1]
  intro n
  induction n with
  | zero =>
    intro j k x hj hk hx
    obtain ⟨k, rfl⟩ : ∃ q, k = q + 1 := ⟨k - 1, by omega⟩
    have z1 := clean_id s (by omega) [] (by simp) (fun w h => by cases h) (fun _ => rfl) (k := k) (by omega)
    rw [barrowlaw38_ChatCleans.l1, if_neg (by omega), if_pos rfl, z1]
    cases x with
    | true => rw [if_pos rfl, Option.bind_some, if_pos rfl]
    | false =>
      have hst := hx rfl
      rw [List.take_of_length_le (by omega)] at hst
      have z2 := clean_id (strOfNums C) (by omega) l (by omega) (fun w h => by have := hw w h; omega) (fun q => by
        refine lgo_zero _ _ _ (fun w hwl hsv => ?_)
        rcases Nat.eq_zero_or_pos w.size with e | e
        · exact e
        · exfalso
          obtain ⟨q1, q2⟩ := of_decide_eq_true hsv
          rw [bytes_str hC3] at q2
          exact no_word hC1 hC2 hwl e (hst w hwl) (by omega) q2) (k := k) (by omega)
      rw [if_neg (by decide), z2, Option.bind_some, if_pos rfl, Option.bind_some, if_pos rfl]
  | succ n ih =>
    intro j k x hj hk hx
    obtain ⟨k, rfl⟩ : ∃ q, k = q + 2 := ⟨k - 2, by omega⟩
    have hjl : j < l.length := by omega
    have hmem := rdB_mem hjl
    have hws := hw _ hmem
    have htk : l.take (j + 1) = l.take j ++ [rdOf ByteArray.empty l (j : Int)] := by
      rw [List.take_add_one, ← List.head?_drop, rdB_drop hjl]; rfl
    obtain ⟨v, v1, v2, v3⟩ := words_val (rdOf ByteArray.empty l (j : Int)) (by omega)
    have go : ∀ X : Bool, (X = true → 0 < v.length ∧ (rdOf ByteArray.empty v 0).size = (rdOf ByteArray.empty l (j : Int)).size) → barrowlaw38_ChatCleans.l299 (k + 1) s l true (strOfNums C) x j v X = some true := by
      intro X hX
      rw [barrowlaw38_ChatCleans.l299]
      obtain ⟨k1, x1, a1, a2, a3⟩ := cl_l2 s (strOfNums C) l j hjl v X hws (rdOf ByteArray.empty l (j : Int)).size 0 k x (by omega) (by omega)
      obtain ⟨k2, b1, b2⟩ := cl_l3 s l C hs hC1 hC2 hC3 j hjl (by omega) v X x1 hws (fun h => by
        obtain ⟨q1, q2⟩ := hX h
        have hv := rdB_mem (l := v) (i := 0) q1
        obtain ⟨y1, y2, y3⟩ := v2 _ hv q2
        exact ⟨q1, y1, y2, y3⟩) (s.size + 1) 0 k1 (by omega) (by omega)
      refine a2.trans (b2.trans (ih (j + 1) k2 x1 (by omega) (by omega) (fun h => ?_)))
      obtain ⟨q1, q2⟩ := a3 h
      intro w hwm
      rw [htk] at hwm
      rcases List.mem_append.1 hwm with hwm | hwm
      · exact hx q1 w hwm
      · rw [List.mem_singleton] at hwm
        subst hwm
        exact fun q hq => q2 q (by omega) hq
    rw [barrowlaw38_ChatCleans.l1, if_pos (by omega), if_pos (by omega), v3 (k + 1) (by omega), Option.bind_some]
    by_cases c1 : (v.length : Int) = 1
    · rw [if_pos c1, if_pos (by omega)]
      refine go _ (fun h => ⟨by omega, ?_⟩)
      have := beq_iff_eq.1 h
      omega
    · rw [if_neg c1]
      exact go false (fun h => by cases h)
theorem ChatCleans : barrowlaw38_ChatCleans.Pure := by
  intro s l h1 h2
  obtain ⟨k, hk, hs⟩ := ((Ev.ge (9000000 + 2 * l.length)).and small_ev).get
  refine ⟨k, ?_⟩
  have hlen : l.length ≤ 140737488351232 := by have := h2.2.1; omega
  obtain ⟨f, hf, hfew⟩ := few_eq l s (by omega) (k := k) (by omega)
  unfold barrowlaw38_ChatCleans.f
  rw [hs, hf, Option.bind_some, Option.bind_some]
  cases f with
  | false => simp
  | true =>
    obtain ⟨q1, q2, q3⟩ := hfew rfl
    obtain ⟨C, g1, g2, g3, g4, h⟩ := clean_val s (by omega) l (by omega) (fun w hw => by have := q3 w hw; omega)
    have hsz : (strOfNums C).size = s.size := by rw [str_size, g1]
    rw [if_pos rfl, h k (by omega), Option.bind_some, if_pos (by omega)]
    have hbt : ∀ i : Nat, i < s.size → C[i]? = some (bt (strOfNums C) (i : Int)) := by
      intro i hi
      rw [← bytes_rd (strOfNums C) i (by omega), bytes_str g3]
      unfold rd
      rw [Int.toNat_natCast, List.getD_eq_getElem?_getD, List.getElem?_eq_getElem (by omega)]
      rfl
    obtain ⟨k', a1, a2⟩ := cl_l0 s (strOfNums C) l q2 hsz (fun i hi => by
      by_cases e : bt (strOfNums C) (i : Int) = 42
      · exact .inr e
      · exact .inl (g2 i _ (hbt i hi) e).1) s.size 0 k (by omega) (by omega)
    refine a2.trans (cl_l1 s l C q2 g1 g2 g3 q1 q3 l.length 0 k' false (by omega) (by omega) (fun _ w hw => ?_))
    simp at hw
end Go.Proofs.Ytdpeflbdoaccbaa.Pure
