/- Sight: a line is the same from both its ends; how many tiles it has. -/
import Derived.Test.YtljmecjciifceaaSi
import Derived.Test.YtljmecjciifceaaXSGx23
set_option linter.unusedSimpArgs false
set_option linter.unusedVariables false
namespace Go.Proofs.Ytljmecjciifceaa.Pure
open Go.RowKit Go.Proofs.Ytljmecjciifceaa.XSG Go.Proofs.YtljmecjciifceaaW.PrintWords Go.Proofs.YtljmecjciifceaaW.PrintLast

theorem nn_swap (ax ay bx by_ x y : Int) : nn bx by_ ax ay x y = -nn ax ay bx by_ x y := by unfold nn; grind
theorem lenv_swap (ax ay bx by_ : Int) : lenv bx by_ ax ay = lenv ax ay bx by_ := by unfold lenv; omega
theorem TP_swap (ax ay bx by_ x y : Int) : TP bx by_ ax ay x y ↔ TP ax ay bx by_ x y := by unfold TP; rw [nn_swap, lenv_swap]; omega
theorem nn_turn (ax ay bx by_ x y : Int) : nn ay ax by_ bx y x = -nn ax ay bx by_ x y := by unfold nn; grind
theorem TP_turn (ax ay bx by_ x y : Int) : TP ay ax by_ bx y x ↔ TP ax ay bx by_ x y := by
  have : lenv ay ax by_ bx = lenv ax ay bx by_ := by unfold lenv; omega
  unfold TP; rw [nn_turn, this]; omega
theorem rowL_swap (ax ay bx by_ y : Int) : ∀ (m : Nat) (x : Int), rowL bx by_ ax ay y m x = rowL ax ay bx by_ y m x
  | 0, _ => rfl
  | m + 1, x => by unfold rowL; rw [rowL_swap ax ay bx by_ y m (x + 1)]; simp only [TP_swap ax ay bx by_]
theorem lineL_swap (ax ay bx by_ : Int) (W : Nat) (x0 : Int) : ∀ (r : Nat) (y : Int), lineL bx by_ ax ay W x0 r y = lineL ax ay bx by_ W x0 r y
  | 0, _ => rfl
  | r + 1, y => by unfold lineL; rw [lineL_swap ax ay bx by_ W x0 r (y + 1), rowL_swap]
theorem linev_swap (ax ay bx by_ : Int) : linev bx by_ ax ay = linev ax ay bx by_ := by
  unfold linev
  rw [Int.max_comm bx, Int.max_comm by_, Int.min_comm bx, Int.min_comm by_, lineL_swap]
theorem foundv_swap (w : Int) (l : List Bool) (ax ay bx by_ : Int) : foundv w l bx by_ ax ay = foundv w l ax ay bx by_ := by
  unfold foundv
  rw [linev_swap]
  congr 1
  funext p
  unfold wb
  cases (p.1 == ax && p.2 == ay) <;> cases (p.1 == bx && p.2 == by_) <;> rfl
theorem has_l0 (L : List (Int × Int)) (x y : Int) (hl : L.length ≤ 65536) : ∀ (n i k : Nat), i + n = L.length → n < k → barrowlaw07_has.l0 k (L.map toS) i x y = some (decide ((x, y) ∈ L.drop i)) := by
  intro n
  induction n with
  | zero =>
    intro i k hn hk
    obtain ⟨k, rfl⟩ : ∃ q, k = q + 1 := ⟨k - 1, by omega⟩
    rw [barrowlaw07_has.l0, List.length_map, if_neg (by omega), List.drop_eq_nil_of_le (by omega)]
    simp
  | succ n ih =>
    intro i k hn hk
    obtain ⟨k, rfl⟩ : ∃ q, k = q + 1 := ⟨k - 1, by omega⟩
    have hg : L[i]? = some L[i] := List.getElem?_eq_getElem (by omega)
    rw [barrowlaw07_has.l0, List.length_map, if_pos (by omega), if_pos (by omega), rd_map L i _ hg, List.drop_eq_getElem_cons (by omega : i < L.length)]
    have := ih (i + 1) k (by omega) (by omega)
    rw [wrap64_in (by omega)]
    by_cases h : (toS L[i]).f0 = x ∧ (toS L[i]).f1 = y
    · have e : (x, y) = L[i] := by rw [← h.1, ← h.2]; rfl
      rw [if_pos (by simp [h.1, h.2]), ← e]
      simp
    · rw [if_neg (by simpa using h), show ((i : Int) + 1) = ((i + 1 : Nat) : Int) by omega, this]
      congr 1
      rw [decide_eq_decide, List.mem_cons]
      constructor
      · exact .inr
      · rintro (h' | h')
        · exact absurd ⟨by rw [← h']; rfl, by rw [← h']; rfl⟩ h
        · exact h'
theorem has_eq (L : List (Int × Int)) (x y : Int) (hl : L.length ≤ 65536) (k : Nat) (hk : 70000 ≤ k) : barrowlaw07_has.f k (L.map toS) x y = some (decide ((x, y) ∈ L)) := by
  unfold barrowlaw07_has.f
  have := has_l0 L x y hl L.length 0 k (by omega) (by omega)
  simpa using this
section
variable (P : Int → Prop) [DecidablePred P]
/-- How many of some numbers in a row are such. -/
def cnt : Nat → Int → Nat
  | 0, _ => 0
  | n + 1, y => (if P y then 1 else 0) + cnt n (y + 1)
variable {P}
theorem cnt_max {M : Int} : ∀ (n : Nat) (y : Int), (∀ z, y ≤ z → z < y + n → P z → z ≤ M) → (cnt P n y : Int) ≤ max 0 (M + 1 - y)
  | 0, _, _ => by unfold cnt; omega
  | n + 1, y, h => by
    have ih := cnt_max (M := M) n (y + 1) (fun z h1 h2 h3 => h z (by omega) (by omega) h3)
    unfold cnt
    by_cases hp : P y
    · have := h y (by omega) (by omega) hp
      rw [if_pos hp]; omega
    · rw [if_neg hp]; omega
theorem cnt_dist {d : Nat} : ∀ (n : Nat) (y : Int), (∀ z z', y ≤ z → z ≤ z' → z' < y + n → P z → P z' → z' ≤ z + d) → cnt P n y ≤ d + 1
  | 0, _, _ => by unfold cnt; omega
  | n + 1, y, h => by
    unfold cnt
    by_cases hp : P y
    · have := cnt_max (P := P) (M := y + d) n (y + 1) (fun z h1 h2 h3 => h y z (by omega) (by omega) (by omega) hp h3)
      rw [if_pos hp]; omega
    · have ih := cnt_dist (d := d) n (y + 1) (fun z z' h1 h2 h3 => h z z' (by omega) (by omega) (by omega))
      rw [if_neg hp]; omega
theorem cnt_pos {z : Int} (hz : P z) : ∀ (n : Nat) (y : Int), y ≤ z → z < y + n → 1 ≤ cnt P n y
  | 0, _, h1, h2 => by omega
  | n + 1, y, h1, h2 => by
    unfold cnt
    by_cases he : y = z
    · rw [if_pos (he ▸ hz)]; omega
    · have := cnt_pos hz n (y + 1) (by omega) (by omega)
      omega
end
section
variable (P : Int → Int → Prop) [∀ x y, Decidable (P x y)]
def cnt2 (W : Nat) (x0 : Int) : Nat → Int → Nat
  | 0, _ => 0
  | r + 1, y => cnt (fun x => P x y) W x0 + cnt2 W x0 r (y + 1)
variable {P}
theorem cnt2_none (x0 : Int) : ∀ (r : Nat) (y : Int), cnt2 P 0 x0 r y = 0
  | 0, _ => rfl
  | r + 1, y => by unfold cnt2; rw [cnt2_none]; rfl
theorem cnt2_col (W : Nat) (x0 : Int) : ∀ (r : Nat) (y : Int), cnt2 P (W + 1) x0 r y = cnt (fun y => P x0 y) r y + cnt2 P W (x0 + 1) r y
  | 0, _ => rfl
  | r + 1, y => by
    rw [cnt2, cnt2, cnt2_col W x0 r (y + 1), cnt, cnt]
    omega
theorem cnt2_turn (r : Nat) (y : Int) : ∀ (W : Nat) (x0 : Int), cnt2 P W x0 r y = cnt2 (fun y x => P x y) r y W x0
  | 0, x0 => cnt2_none x0 r y
  | W + 1, x0 => by rw [cnt2_col, cnt2_turn r y W (x0 + 1), cnt2]
theorem cnt2_ge (W : Nat) (x0 : Int) : ∀ (r : Nat) (y : Int), (∀ z, y ≤ z → z < y + r → 1 ≤ cnt (fun x => P x z) W x0) → r ≤ cnt2 P W x0 r y
  | 0, _, _ => by omega
  | r + 1, y, h => by
    have h1 := h y (by omega) (by omega)
    have h2 := cnt2_ge W x0 r (y + 1) (fun z h1 h2 => h z (by omega) (by omega))
    unfold cnt2
    omega
theorem cnt2_le (W : Nat) (x0 : Int) : ∀ (r : Nat) (y : Int), (∀ z, y ≤ z → z < y + (r + 1 : Nat) → cnt (fun x => P x z) W x0 ≤ 3) → cnt (fun x => P x (y + r)) W x0 ≤ 2 → cnt2 P W x0 (r + 1) y ≤ 3 * r + 2
  | 0, y, h, h' => by
    rw [show y + (0 : Nat) = y by omega] at h'
    unfold cnt2 cnt2
    omega
  | r + 1, y, h, h' => by
    have h1 := h y (by omega) (by omega)
    have h2 := cnt2_le W x0 r (y + 1) (fun z h1 h2 => h z (by omega) (by omega)) (by rwa [show y + 1 + (r : Int) = y + (r + 1 : Nat) by omega])
    rw [cnt2]
    omega
end
theorem rowL_cnt (ax ay bx by_ y : Int) : ∀ (m : Nat) (x : Int), (rowL ax ay bx by_ y m x).length = cnt (fun x => TP ax ay bx by_ x y) m x
  | 0, _ => rfl
  | m + 1, x => by
    unfold rowL cnt
    by_cases h : TP ax ay bx by_ x y
    · rw [if_pos h, if_pos h, List.length_cons, rowL_cnt ax ay bx by_ y m (x + 1)]; omega
    · rw [if_neg h, if_neg h, rowL_cnt ax ay bx by_ y m (x + 1)]; omega
theorem lineL_cnt (ax ay bx by_ : Int) (W : Nat) (x0 : Int) : ∀ (r : Nat) (y : Int), (lineL ax ay bx by_ W x0 r y).length = cnt2 (TP ax ay bx by_) W x0 r y
  | 0, _ => rfl
  | r + 1, y => by rw [lineL, cnt2, List.length_append, rowL_cnt, lineL_cnt ax ay bx by_ W x0 r (y + 1)]
/-- A line along its longer way, from the lesser end: in each rank one tile at least, three at most, at the ends two. -/
theorem long_cnt {ax ay bx by_ : Int} (hD : ay < by_) (hd1 : bx - ax ≤ by_ - ay) (hd2 : ax - bx ≤ by_ - ay) :
    by_ - ay + 1 ≤ (cnt2 (TP ax ay bx by_) (max ax bx + 1 - min ax bx).toNat (min ax bx) (by_ + 1 - ay).toNat ay : Int) ∧
      (cnt2 (TP ax ay bx by_) (max ax bx + 1 - min ax bx).toNat (min ax bx) (by_ + 1 - ay).toNat ay : Int) ≤ 3 * (by_ - ay) + 1 := by
  have hup : ∀ x x' y, TP ax ay bx by_ x y → TP ax ay bx by_ x' y → x' ≤ x + 2 := by
    intro x x' y h h'
    apply Int.not_lt.mp
    intro hc
    have m := Int.mul_le_mul_of_nonneg_left (show (3 : Int) ≤ (x' - ax) - (x - ax) by omega) (show 0 ≤ by_ - ay by omega)
    rw [Int.mul_sub (by_ - ay)] at m
    unfold TP nn lenv at h h'
    omega
  have hrow : ∀ y, cnt (fun x => TP ax ay bx by_ x y) (max ax bx + 1 - min ax bx).toNat (min ax bx) ≤ 3 := fun y =>
    cnt_dist (d := 2) _ _ (fun z z' _ _ _ h h' => hup z z' y h h')
  have hend : ∀ y, (y = ay ∨ y = by_) → cnt (fun x => TP ax ay bx by_ x y) (max ax bx + 1 - min ax bx).toNat (min ax bx) ≤ 2 := by
    intro y hy
    refine cnt_dist (d := 1) _ _ (fun z z' h1 h2 h3 h h' => ?_)
    have key : ∀ e : Int, (y = ay ∧ e = 0 ∨ y = by_ ∧ e = bx - ax) → ∀ x, TP ax ay bx by_ x y → x - ax - e ≤ 1 ∧ e - (x - ax) ≤ 1 := by
      intro e he x hx
      have hn : nn ax ay bx by_ x y = (by_ - ay) * (e - (x - ax)) := by
        unfold nn
        rcases he with ⟨rfl, rfl⟩ | ⟨rfl, rfl⟩ <;> grind
      unfold TP lenv at hx
      rw [hn] at hx
      constructor
      · apply Int.not_lt.mp
        intro hc
        have m := Int.mul_le_mul_of_nonneg_left (show e - (x - ax) ≤ -2 by omega) (show 0 ≤ by_ - ay by omega)
        omega
      · apply Int.not_lt.mp
        intro hc
        have m := Int.mul_le_mul_of_nonneg_left (show 2 ≤ e - (x - ax) by omega) (show 0 ≤ by_ - ay by omega)
        omega
    rcases hy with hy | hy
    · have k1 := key 0 (.inl ⟨hy, rfl⟩) z h
      have k2 := key 0 (.inl ⟨hy, rfl⟩) z' h'
      omega
    · have k1 := key (bx - ax) (.inr ⟨hy, rfl⟩) z h
      have k2 := key (bx - ax) (.inr ⟨hy, rfl⟩) z' h'
      omega
  have hlow : ∀ y, ay ≤ y → y ≤ by_ → 1 ≤ cnt (fun x => TP ax ay bx by_ x y) (max ax bx + 1 - min ax bx).toNat (min ax bx) := by
    intro y hy1 hy2
    have hq := Int.mul_ediv_add_emod (2 * ((bx - ax) * (y - ay)) + (by_ - ay)) (2 * (by_ - ay))
    have hr1 := Int.emod_nonneg (2 * ((bx - ax) * (y - ay)) + (by_ - ay)) (show 2 * (by_ - ay) ≠ 0 by omega)
    have hr2 := Int.emod_lt_of_pos (2 * ((bx - ax) * (y - ay)) + (by_ - ay)) (show 0 < 2 * (by_ - ay) by omega)
    rw [Int.mul_assoc] at hq
    generalize (2 * ((bx - ax) * (y - ay)) + (by_ - ay)) / (2 * (by_ - ay)) = q at hq
    generalize (2 * ((bx - ax) * (y - ay)) + (by_ - ay)) % (2 * (by_ - ay)) = r at hq hr1 hr2
    have hbox : min 0 (bx - ax) ≤ q ∧ q ≤ max 0 (bx - ax) := by
      have low : ∀ c : Int, q ≤ c → (by_ - ay) * q ≤ (by_ - ay) * c := fun c hc => Int.mul_le_mul_of_nonneg_left hc (by omega)
      have high : ∀ c : Int, c ≤ q → (by_ - ay) * c ≤ (by_ - ay) * q := fun c hc => Int.mul_le_mul_of_nonneg_left hc (by omega)
      rcases Int.lt_or_le (bx - ax) 0 with hn | hn
      · have e1 := Int.mul_le_mul_of_nonpos_left (show bx - ax ≤ 0 by omega) (show y - ay ≤ by_ - ay by omega)
        have e2 := Int.mul_nonneg (show 0 ≤ -(bx - ax) by omega) (show 0 ≤ y - ay by omega)
        rw [Int.neg_mul] at e2
        rw [Int.mul_comm (bx - ax) (by_ - ay)] at e1
        constructor
        · apply Int.not_lt.mp
          intro hc
          have m := low (bx - ax - 1) (by omega)
          rw [Int.mul_sub] at m
          omega
        · apply Int.not_lt.mp
          intro hc
          have m := high 1 (by omega)
          omega
      · have e1 := Int.mul_le_mul_of_nonneg_left (show y - ay ≤ by_ - ay by omega) hn
        have e2 := Int.mul_nonneg hn (show 0 ≤ y - ay by omega)
        rw [Int.mul_comm (bx - ax) (by_ - ay)] at e1
        constructor
        · apply Int.not_lt.mp
          intro hc
          have m := low (-1) (by omega)
          omega
        · apply Int.not_lt.mp
          intro hc
          have m := high (bx - ax + 1) (by omega)
          rw [Int.mul_add] at m
          omega
    refine cnt_pos (z := ax + q) ?_ _ _ (by omega) (by omega)
    unfold TP nn lenv
    rw [show ax + q - ax = q by omega]
    omega
  obtain ⟨r, hr⟩ : ∃ r : Nat, (by_ - ay) = r + 1 := ⟨(by_ - ay - 1).toNat, by omega⟩
  rw [show (by_ + 1 - ay).toNat = r + 1 + 1 by omega]
  constructor
  · have := cnt2_ge (P := TP ax ay bx by_) (max ax bx + 1 - min ax bx).toNat (min ax bx) (r + 1 + 1) ay (fun z h1 h2 => hlow z h1 (by omega))
    omega
  · have h1 := hend ay (.inl rfl)
    have h2 := cnt2_le (P := TP ax ay bx by_) (max ax bx + 1 - min ax bx).toNat (min ax bx) r (ay + 1) (fun z _ _ => hrow z) (hend _ (.inr (by omega)))
    rw [cnt2]
    omega
theorem linev_one (ax ay : Int) : (linev ax ay ax ay).length = 1 := by
  unfold linev
  rw [show (max ax ax + 1 - min ax ax).toNat = 1 by omega, show (max ay ay + 1 - min ay ay).toNat = 1 by omega, show min ax ax = ax by omega, show min ay ay = ay by omega]
  have : TP ax ay ax ay ax ay := by unfold TP nn lenv; simp
  simp [lineL, rowL, this]
theorem linev_count (ax ay bx by_ : Int) : max (max ax bx - min ax bx) (max ay by_ - min ay by_) + 1 ≤ ((linev ax ay bx by_).length : Int) ∧ ((linev ax ay bx by_).length : Int) ≤ 3 * max (max ax bx - min ax bx) (max ay by_ - min ay by_) + 1 := by
  have hy : ∀ ax ay bx by_ : Int, ay < by_ → bx - ax ≤ by_ - ay → ax - bx ≤ by_ - ay → by_ - ay + 1 ≤ ((linev ax ay bx by_).length : Int) ∧ ((linev ax ay bx by_).length : Int) ≤ 3 * (by_ - ay) + 1 := by
    intro ax ay bx by_ h1 h2 h3
    have := long_cnt h1 h2 h3
    unfold linev
    rw [lineL_cnt, show max ay by_ = by_ by omega, show min ay by_ = ay by omega]
    exact this
  have hx : ∀ ax ay bx by_ : Int, ax < bx → by_ - ay ≤ bx - ax → ay - by_ ≤ bx - ax → bx - ax + 1 ≤ ((linev ax ay bx by_).length : Int) ∧ ((linev ax ay bx by_).length : Int) ≤ 3 * (bx - ax) + 1 := by
    intro ax ay bx by_ h1 h2 h3
    have := long_cnt (ax := ay) (ay := ax) (bx := by_) (by_ := bx) h1 h2 h3
    unfold linev
    rw [lineL_cnt, show max ax bx = bx by omega, show min ax bx = ax by omega, cnt2_turn]
    have e : (fun y x => TP ax ay bx by_ x y) = TP ay ax by_ bx := by
      funext y x
      exact propext (TP_turn ax ay bx by_ x y).symm
    have c : ∀ (Q Q' : Int → Int → Prop) [i : ∀ x y, Decidable (Q x y)] [i' : ∀ x y, Decidable (Q' x y)], Q = Q' → ∀ W x0 r y, cnt2 Q W x0 r y = cnt2 Q' W x0 r y := by
      intro Q Q' i i' hq W x0 r y
      subst hq
      congr 1
    rw [c _ _ e]
    exact this
  rcases Int.lt_or_le (max ax bx - min ax bx) (max ay by_ - min ay by_) with h | h
  · rcases Int.lt_or_le ay by_ with h' | h'
    · have := hy ax ay bx by_ h' (by omega) (by omega)
      omega
    · have := hy bx by_ ax ay (by omega) (by omega) (by omega)
      rw [linev_swap] at this
      omega
  · rcases Int.lt_trichotomy ax bx with h' | h' | h'
    · have := hx ax ay bx by_ h' (by omega) (by omega)
      omega
    · have h2 : ay = by_ := by omega
      subst h' h2
      rw [linev_one]
      omega
    · have := hx bx by_ ax ay (by omega) (by omega) (by omega)
      rw [linev_swap] at this
      omega
end Go.Proofs.Ytljmecjciifceaa.Pure
