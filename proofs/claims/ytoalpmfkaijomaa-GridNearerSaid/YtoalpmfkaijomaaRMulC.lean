/- What the document's product comes to: the walk. -/
import Derived.Test.YtoalpmfkaijomaaRMulB
set_option linter.unusedVariables false
set_option linter.unusedSimpArgs false
namespace Go.Proofs.Ytoalpmfkaijomaa.RMul
open Go.RowKit Go.Proofs.YtoalpmfkaijomaaW.PrintWords Go.Proofs.YtoalpmfkaijomaaW.PrintLast Go.Proofs.YtoalpmfkaijomaaW.PrintMore Go.Proofs.YtoalpmfkaijomaaV

set_option maxHeartbeats 2000000 in
set_option maxRecDepth 100000 in
theorem mul_calls (a b : Int) (ha : -9223372036854775808 ≤ a ∧ a ≤ 9223372036854775807) (hb : -9223372036854775808 ≤ b ∧ b ≤ 9223372036854775807) (w : World) :
    Calls Try.prog 25 #[.int .i64 a, .int .i64 b] w fun e w' => e = .returned (.int .i64 (mulv (a * b))) ∧ Below w.heap.size w w' := by
  have Ca := fun W => big_calls a ha W
  have Cb := fun W => big_calls b hb W
  obtain ⟨x0, x1, x2, x3, hx⟩ : ∃ x0 x1 x2 x3, dgs a = [x0, x1, x2, x3, 0] := ⟨_, _, _, _, rfl⟩
  obtain ⟨y0, y1, y2, y3, hy⟩ : ∃ y0 y1 y2 y3, dgs b = [y0, y1, y2, y3, 0] := ⟨_, _, _, _, rfl⟩
  simp only [hx, hy, List.map_cons, List.map_nil] at Ca Cb
  have HX := Aside0.mk hx
  have HY := Aside0.mk hy
  have HA := Aside0.mk ha
  have HBb := Aside0.mk hb
  clear hx hy ha hb
  have HCa := Aside0.mk Ca
  have HCb := Aside0.mk Cb
  clear Ca Cb
  have hu47 := Try.underlying47
  go_enter Try.func25, Try.ntmps25
  go_wp2_with (first | (go_at_call 40; (with_reducible refine (HCa.out _).mono ?_); rintro e w1 ⟨rfl, hb1⟩; have HB1 := Aside0.mk hb1; have hsz1 := hb1.size; clear hb1) | (go_at_call 40; (with_reducible refine (HCb.out _).mono ?_); rintro e w2 ⟨rfl, hb2⟩; have HB2 := Aside0.mk hb2; have hsz2 := hb2.size; clear hb2))
  obtain ⟨gx, hgx⟩ : ∃ g, w1.heap.size = g := ⟨_, rfl⟩
  obtain ⟨gy, hgy⟩ : ∃ g, w2.heap.size = g := ⟨_, rfl⟩
  obtain ⟨gz, hgz⟩ : ∃ g, gy + 1 = g := ⟨_, rfl⟩
  have X0 := blk_new w1 (.cells #[.int .i64 x0, .int .i64 x1, .int .i64 x2, .int .i64 x3, .int .i64 0] 47)
  have X1 := blk_alloc (blk_alloc (blk_below X0 HB2.out) (.cells #[.int .i64 y0, .int .i64 y1, .int .i64 y2, .int .i64 y3, .int .i64 0] 47)) (.cells #[.int .i64 0, .int .i64 0, .int .i64 0, .int .i64 0, .int .i64 0, .int .i64 0, .int .i64 0, .int .i64 0, .int .i64 0, .int .i64 0] 49)
  have Y1 := blk_alloc (blk_new w2 (.cells #[.int .i64 y0, .int .i64 y1, .int .i64 y2, .int .i64 y3, .int .i64 0] 47)) (.cells #[.int .i64 0, .int .i64 0, .int .i64 0, .int .i64 0, .int .i64 0, .int .i64 0, .int .i64 0, .int .i64 0, .int .i64 0, .int .i64 0] 49)
  have Z1 := blk_new (w2.alloc (.cells #[.int .i64 y0, .int .i64 y1, .int .i64 y2, .int .i64 y3, .int .i64 0] 47)) (.cells #[.int .i64 0, .int .i64 0, .int .i64 0, .int .i64 0, .int .i64 0, .int .i64 0, .int .i64 0, .int .i64 0, .int .i64 0, .int .i64 0] 49)
  have B2 : Below w.heap.size w w2 := by
    have h0 := HB1.out
    have h2 := HB2.out
    exact (h0.alloc h0.size _).trans (h2.mono (by have := h0.size; simp; omega))
  have B1 : Below w.heap.size w ((w2.alloc (.cells #[.int .i64 y0, .int .i64 y1, .int .i64 y2, .int .i64 y3, .int .i64 0] 47)).alloc (.cells #[.int .i64 0, .int .i64 0, .int .i64 0, .int .i64 0, .int .i64 0, .int .i64 0, .int .i64 0, .int .i64 0, .int .i64 0, .int .i64 0] 49)) :=
    (B2.alloc B2.size _).alloc (by have := B2.size; simp; omega) _
  rw [show (w2.alloc (Obj.cells #[Value.int IntKind.i64 y0, Value.int IntKind.i64 y1, Value.int IntKind.i64 y2, Value.int IntKind.i64 y3, Value.int IntKind.i64 0] 47)).heap.size = w2.heap.size + 1 by simp] at Z1
  rw [hgx] at X1 ⊢
  rw [hgy] at Y1 Z1 ⊢
  rw [hgz] at Z1 ⊢
  have hzs : w.heap.size ≤ gz := by have := B2.size; omega
  have hxz : gx ≠ gz := by
    have := blk_lt X0
    have := HB2.out.size
    simp at *
    omega
  have hyz : gy ≠ gz := by omega
  obtain ⟨wz, hwz⟩ : ∃ z, ((w2.alloc (Obj.cells #[Value.int IntKind.i64 y0, Value.int IntKind.i64 y1, Value.int IntKind.i64 y2, Value.int IntKind.i64 y3, Value.int IntKind.i64 0] 47)).alloc (Obj.cells #[Value.int IntKind.i64 0, Value.int IntKind.i64 0, Value.int IntKind.i64 0, Value.int IntKind.i64 0, Value.int IntKind.i64 0, Value.int IntKind.i64 0, Value.int IntKind.i64 0, Value.int IntKind.i64 0, Value.int IntKind.i64 0, Value.int IntKind.i64 0] 49)) = z := ⟨_, rfl⟩
  rw [hwz] at X1 Y1 Z1 B1 ⊢
  have AX := Aside0.mk (show ArrAt wz gx 47 [x0, x1, x2, x3, 0] from X1)
  have AY := Aside0.mk (show ArrAt wz gy 47 [y0, y1, y2, y3, 0] from Y1)
  have AZ := Aside0.mk (show ArrAt wz gz 49 [0, 0, 0, 0, 0, 0, 0, 0, 0, 0] from Z1)
  have AB := Aside0.mk B1
  clear X0 X1 Y1 Z1 B1 B2 hwz HB1 HB2 hsz1 hsz2 hgx hgy hgz HCa HCb
  obtain ⟨lx, hlx⟩ : ∃ l, [x0, x1, x2, x3, 0] = l := ⟨_, rfl⟩
  obtain ⟨ly, hly⟩ : ∃ l, [y0, y1, y2, y3, 0] = l := ⟨_, rfl⟩
  rw [hlx] at HX AX
  rw [hly] at HY AY
  have LX : Aside0 (lx.length = 5) := ⟨by rw [← hlx]; rfl⟩
  have LY : Aside0 (ly.length = 5) := ⟨by rw [← hly]; rfl⟩
  clear hlx hly
  have DX : Aside0 (digs lx) := ⟨HX.out ▸ dgs_digs a⟩
  have DY : Aside0 (digs ly) := ⟨HY.out ▸ dgs_digs b⟩
  have NXZ := Aside0.mk hxz
  have NYZ := Aside0.mk hyz
  have NZS := Aside0.mk hzs
  clear hxz hyz hzs hu47
  go_loopg [8] 5 (fun kq v8 w' => ∃ (i : Nat) (lz : List Int), v8 = .int .i64 (i : Int) ∧ i ≤ 4 ∧ Aside0 (kq + i = 5) ∧ Aside0 (ArrAt w' gx 47 lx) ∧ Aside0 (ArrAt w' gy 47 ly) ∧ Aside0 (ArrAt w' gz 49 lz) ∧ Aside0 (lz.length = 10) ∧ Aside0 (digs lz) ∧ Aside0 (∀ j, i + 5 ≤ j → lz.getD j 0 = 0) ∧ Aside0 (val lz = val (lx.take i) * val ly) ∧ Aside0 (Below w.heap.size w w'))
  case atStart => exact ⟨0, _, rfl, by omega, ⟨rfl⟩, AX, AY, AZ, ⟨rfl⟩, ⟨zeros_digs⟩, ⟨fun j _ => zeros_get j⟩, ⟨by simp [val]⟩, AB⟩
  case round =>
    obtain ⟨i, lz, rfl, hi, HK, AX, AY, AZ, LZ, DZ, ZZ, VZ, AB⟩ := hrel
    by_cases hlt : i < 4
    · cases gk with
      | zero => exact absurd HK.out (by omega)
      | succ gk1 =>
        go_wp2
        obtain ⟨wo, hwo⟩ : ∃ wo, wr = wo := ⟨_, rfl⟩
        go_loopg [9, 10] 6 (fun kq v9 v10 w' => ∃ (k : Nat) (c : Int) (lz' : List Int), v9 = .int .i64 c ∧ v10 = .int .i64 (k : Int) ∧ k ≤ 5 ∧ 0 ≤ c ∧ c ≤ 65535 ∧ Aside0 (kq + k = 6) ∧ Aside0 (ArrAt w' gx 47 lx) ∧ Aside0 (ArrAt w' gy 47 ly) ∧ Aside0 (ArrAt w' gz 49 lz') ∧ Aside0 (lz'.length = 10) ∧ Aside0 (digs lz') ∧ Aside0 (∀ j, i + 5 ≤ j → lz'.getD j 0 = 0) ∧ Aside0 (val lz' + c * 65536 ^ (i + k) = val lz + lx.getD i 0 * val (ly.take k) * 65536 ^ i) ∧ Aside0 (Below w.heap.size w w'))
        case atStart => exact ⟨0, 0, lz, rfl, rfl, by omega, by omega, by omega, ⟨rfl⟩, AX, AY, AZ, LZ, DZ, ZZ, ⟨by simp [val]⟩, AB⟩
        case round =>
          clear AX AY AZ AB
          obtain ⟨k, c, lz', rfl, rfl, hk, hc0, hc1, HK2, AX, AY, AZ, LZ', DZ', ZZ', VZ', AB⟩ := hrel
          by_cases hlt2 : k < 5
          · cases gk with
            | zero => exact absurd HK2.out (by omega)
            | succ gk =>
              have e0 : ((i : Int) + (k : Int)).toNat = i + k := by omega
              have cz := AZ.out.cell (i + k) (by have := LZ'.out; omega)
              have cx := AX.out.cell i (by have := LX.out; omega)
              have cy := AY.out.cell k (by have := LY.out; omega)
              have fz := AZ.out.frozen (i + k)
              have zb := DZ'.out (i + k)
              have xb := DX.out i
              have yb := DY.out k
              obtain ⟨z, hz⟩ : ∃ z, lz'.getD (i + k) 0 = z := ⟨_, rfl⟩
              obtain ⟨x, hx⟩ : ∃ z, lx.getD i 0 = z := ⟨_, rfl⟩
              obtain ⟨y, hy⟩ : ∃ z, ly.getD k 0 = z := ⟨_, rfl⟩
              rw [hz] at cz zb
              rw [hx] at cx xb
              rw [hy] at cy yb
              have GZ := Aside0.mk hz
              have GX := Aside0.mk hx
              have GY := Aside0.mk hy
              clear hz hx hy
              have pb : 0 ≤ x * y ∧ x * y ≤ 4294836225 := ⟨Int.mul_nonneg xb.1 yb.1, by have := Int.mul_le_mul xb.2 yb.2 yb.1 (by decide : (0 : Int) ≤ 65535); omega⟩
              have w1e : wrap64 (x * y) = x * y := by have := pb.1; have := pb.2; unfold wrap64; omega
              obtain ⟨n, hn⟩ : ∃ n, z + x * y + c = n := ⟨_, rfl⟩
              have nb0 : 0 ≤ n := by have := pb.1; omega
              have nb1 : n ≤ 4294967295 := by have := pb.2; omega
              have w2e : wrap64 (z + x * y) = z + x * y := by have := pb.1; have := pb.2; unfold wrap64; omega
              have w3e : wrap64 n = n := by unfold wrap64; omega
              have GN := Aside0.mk hn
              have PB := Aside0.mk pb
              have ZB := Aside0.mk zb
              clear pb zb xb yb
              clear e0 hn
              have hik : (i : Int) + (k : Int) < 10 := by omega
              go_wp2
              go_quiet (fail)
              rw [show wrap64 (z + x * y + c) = n by rw [GN.out, w3e]]
              clear w1e w2e w3e cx cy
              go_wp2
              go_roundg gk
              case measure => omega
              case rel =>
                have hnn := GN.out
                refine ⟨k + 1, n / 65536, lz'.set (i + k) (n % 65536), rfl, by go_num, by omega, by omega, by omega, ⟨by have := HK2.out; omega⟩, ⟨(AX.out.drewN nq).far NXZ.out _ _⟩, ⟨(AY.out.drewN nq).far NYZ.out _ _⟩, ⟨(AZ.out.drewN nq).set _ _⟩, ⟨by rw [List.length_set]; exact LZ'.out⟩, ⟨digs_set DZ'.out _ _ (by omega)⟩, ⟨fun j hj => by rw [getD_set_ne (by omega)]; exact ZZ'.out j hj⟩, ⟨?_⟩, ⟨below_set (pw_below_drewN AB.out nq) NZS.out⟩⟩
                have h1 := step_val (val lz') (val lz) x y z c (65536 ^ (i + k)) (val (ly.take k)) (65536 ^ i) n hnn.symm (by have := VZ'.out; rw [GX.out] at this; exact this)
                rw [val_set lz' (i + k) _ (by have := LZ'.out; omega), GZ.out, val_take_succ ly k (by have := LY.out; omega), GX.out, GY.out]
                rw [show i + (k + 1) = i + k + 1 by omega, Int.pow_succ]
                rw [h1, Int.mul_add, Int.add_mul]
                rw [show x * (y * 65536 ^ k) * 65536 ^ i = x * y * 65536 ^ (i + k) by rw [Int.pow_add, Int.mul_comm (65536 ^ i) (65536 ^ k), ← Int.mul_assoc, ← Int.mul_assoc]]
                omega
          · have hk5 : k = 5 := by omega
            subst hk5
            have e5 : ((i : Int) + 5).toNat = i + 5 := by omega
            have cz := AZ.out.cell (i + 5) (by have := LZ'.out; omega)
            have fz := AZ.out.frozen (i + 5)
            rw [ZZ'.out (i + 5) (by omega)] at cz
            clear e5
            have hi9 : (i : Int) + 5 < 10 := by omega
            go_wp2
            go_roundg gk1
            case measure => omega
            case rel =>
              have hv := VZ'.out
              rw [List.take_of_length_le (by have := LY.out; omega)] at hv
              refine ⟨i + 1, lz'.set (i + 5) c, by go_num, by omega, ⟨by have := HK.out; omega⟩, ⟨AX.out.far NXZ.out _ _⟩, ⟨AY.out.far NYZ.out _ _⟩, ⟨AZ.out.set _ _⟩, ⟨by rw [List.length_set]; exact LZ'.out⟩, ⟨digs_set DZ'.out _ _ (by omega)⟩, ⟨fun j hj => by rw [getD_set_ne (by omega)]; exact ZZ'.out j (by omega)⟩, ⟨?_⟩, ⟨below_set AB.out NZS.out⟩⟩
              rw [val_set lz' (i + 5) _ (by have := LZ'.out; omega), ZZ'.out (i + 5) (by omega), val_take_succ lx i (by have := LX.out; omega), Int.add_mul, ← VZ.out, Int.sub_zero, hv]
              rw [Int.mul_assoc, Int.mul_assoc, Int.mul_comm (val ly)]
    · have hi4 : i = 4 := by omega
      subst hi4
      have VV : Aside0 (val lz = absv a * absv b) := ⟨by
        rw [VZ.out, ← HX.out, ← HY.out, (val_dgs a HA.out).1, (val_dgs b HBb.out).2]⟩
      clear AX AY ZZ VZ HK LX LY DX DY HX HY NXZ NYZ
      go_wp2
      go_loopg [12, 13] 7 (fun kq v12 v13 w' => ∃ (o : Bool) (j : Nat), v12 = .bool o ∧ v13 = .int .i64 (j : Int) ∧ 4 ≤ j ∧ j ≤ 10 ∧ Aside0 (kq + j = 11) ∧ Aside0 (ArrAt w' gz 49 lz) ∧ Aside0 (o = true ↔ ∃ m, 4 ≤ m ∧ m < j ∧ lz.getD m 0 ≠ 0) ∧ Aside0 (Below w.heap.size w w'))
      case atStart => exact ⟨false, 4, rfl, rfl, by omega, by omega, ⟨rfl⟩, AZ, ⟨⟨fun h => by simp at h, fun ⟨m, h1, h2, _⟩ => by omega⟩⟩, AB⟩
      case round =>
        clear AZ AB
        obtain ⟨o, j, rfl, rfl, hj4, hj10, HK, AZ, HO, AB⟩ := hrel
        by_cases hlt : j < 10
        · cases gk with
          | zero => exact absurd HK.out (by omega)
          | succ gk2 =>
            cases o with
            | true =>
              go_wp2
              go_roundg gk2
              case measure => omega
              case rel =>
                refine ⟨true, j + 1, rfl, by go_num, by omega, by omega, ⟨by have := HK.out; omega⟩, AZ, ⟨⟨fun _ => ?_, fun _ => rfl⟩⟩, AB⟩
                obtain ⟨m, h1, h2, h3⟩ := HO.out.1 (by simp)
                exact ⟨m, h1, by omega, h3⟩
            | false =>
              have cz := AZ.out.cell j (by have := LZ.out; omega)
              obtain ⟨z, hz⟩ : ∃ z, lz.getD j 0 = z := ⟨_, rfl⟩
              rw [hz] at cz
              have GZ := Aside0.mk hz
              clear hz
              go_wp2
              go_roundg gk2
              case measure => omega
              case rel =>
                refine ⟨z != 0, j + 1, rfl, by go_num, by omega, by omega, ⟨by have := HK.out; omega⟩, AZ, ⟨⟨fun h => ⟨j, by omega, by omega, ?_⟩, fun ⟨m, h1, h2, h3⟩ => ?_⟩⟩, AB⟩
                · rw [GZ.out]; simpa using h
                · rcases Nat.decEq m j with hne | rfl
                  · have := HO.out.2 ⟨m, h1, by omega, h3⟩
                    simp at this
                  · rw [GZ.out] at h3; simpa using h3
        · have hj : j = 10 := by omega
          subst hj
          have HO2 : Aside0 ((o = true → 9223372036854775808 < val lz) ∧ (o = false → ∀ j, 4 ≤ j → lz.getD j 0 = 0)) := ⟨by
            constructor
            · intro h
              obtain ⟨m, h1, h2, h3⟩ := HO.out.1 h
              have h4 := val_digs_le lz DZ.out m (by have := LZ.out; omega) h3
              have h5 : (65536 : Int) ^ 4 ≤ 65536 ^ m := pow_mono h1
              have h6 : (65536 : Int) ^ 4 = 18446744073709551616 := by decide
              omega
            · intro h m hm
              by_cases h3 : m < 10
              · exact Classical.byContradiction fun h4 => by
                  have := HO.out.2 ⟨m, hm, h3, h4⟩
                  rw [h] at this; simp at this
              · rw [List.getD_eq_getElem?_getD, List.getElem?_eq_none (by have := LZ.out; omega)]; rfl⟩
          clear HO HK hlt hj4 hj10
          go_wp2
          obtain ⟨sg, hsg⟩ : ∃ s, (!(decide (a < 0) == decide (b < 0))) = s := ⟨_, rfl⟩
          rw [hsg]
          have SG := Aside0.mk hsg
          clear hsg
          go_loopg [12, 15, 16] 6 (fun kq v12 v15 v16 w' => ∃ (o : Bool) (v : Int) (m : Nat), v12 = .bool o ∧ v15 = .int .i64 v ∧ v16 = .int .i64 (3 - (m : Int)) ∧ m ≤ 4 ∧ Aside0 (kq + m = 6) ∧ Aside0 (ArrAt w' gz 49 lz) ∧ Aside0 ((o = true → 9223372036854775808 < val lz) ∧ (o = false → v = -tops lz m ∧ tops lz m ≤ 9223372036854775808 ∧ ∀ j, 4 ≤ j → lz.getD j 0 = 0)) ∧ Aside0 (Below w.heap.size w w'))
          case atStart => exact ⟨o, 0, 0, rfl, rfl, rfl, by omega, ⟨rfl⟩, AZ, ⟨⟨HO2.out.1, fun h => ⟨by rw [tops_zero lz LZ.out]; rfl, by rw [tops_zero lz LZ.out]; decide, HO2.out.2 h⟩⟩⟩, AB⟩
          case round =>
            clear AZ AB HO2
            obtain ⟨o, v, m, rfl, rfl, rfl, hm, HK, AZ, HO, AB⟩ := hrel
            cases o with
            | true =>
              have V1 := HO.out.1 rfl
              have hp : 0 ≤ absv a * absv b := by rw [← VV.out]; exact val_nonneg lz DZ.out
              have fin : mulv (a * b) = if sg = true then -9223372036854775808 else 9223372036854775807 := mul_over a b sg SG.out (by rw [← VV.out]; exact V1)
              clear hp
              have FIN := Aside0.mk fin
              clear fin
              by_cases hm3 : m ≤ 3
              · have g1 : decide (0 ≤ 3 - (m : Int)) = true := by simp; omega
                cases sg <;> (go_wp2; go_ret; exact ⟨by rw [FIN.out]; rfl, AB.out⟩)
              · have g1 : decide (0 ≤ 3 - (m : Int)) = false := by simp; omega
                cases sg <;> (go_wp2; go_ret; exact ⟨by rw [FIN.out]; rfl, AB.out⟩)
            | false =>
              obtain ⟨hv, ht, hhi⟩ := HO.out.2 rfl
              have ht0 := tops_mono lz LZ.out DZ.out m hm
              obtain ⟨t, hte⟩ : ∃ t, tops lz m = t := ⟨_, rfl⟩
              rw [hte] at hv ht ht0
              have HT := Aside0.mk hte
              have HHI := Aside0.mk hhi
              clear hte hhi
              by_cases hm3 : m ≤ 3
              · cases gk with
                | zero => exact absurd HK.out (by omega)
                | succ gk3 =>
                  have cz := AZ.out.cell (3 - m) (by have := LZ.out; omega)
                  have zb := DZ.out (3 - m)
                  obtain ⟨z, hz⟩ : ∃ z, lz.getD (3 - m) 0 = z := ⟨_, rfl⟩
                  rw [hz] at cz zb
                  have GZ := Aside0.mk hz
                  have hs := tops_succ lz LZ.out m (by omega)
                  rw [hz, HT.out] at hs
                  have HS := Aside0.mk hs
                  clear hz hs
                  have g1 : decide (0 ≤ 3 - (m : Int)) = true := by simp; omega
                  have g2 : 0 ≤ 3 - (m : Int) := by omega
                  have g3 : 3 - (m : Int) < 10 := by omega
                  have hq : Int.tdiv (-9223372036854775808 + z) 65536 = -((9223372036854775808 - z) / 65536) := by
                    rw [tdiv_neg (by omega)]; congr 2; omega
                  obtain ⟨q, hqe⟩ : ∃ q, Int.tdiv (-9223372036854775808 + z) 65536 = q := ⟨_, rfl⟩
                  have HQ : Aside0 (q = -((9223372036854775808 - z) / 65536)) := ⟨by rw [← hqe]; exact hq⟩
                  clear hq
                  have q1 : -140737488355328 ≤ q := by have := HQ.out; omega
                  have q2 : q ≤ 0 := by have := HQ.out; omega
                  have HQE := Aside0.mk hqe
                  have zb1 := zb.1
                  have zb2 := zb.2
                  have HV := Aside0.mk hv
                  have hvb1 : -9223372036854775808 ≤ v := by omega
                  have hvb2 : v ≤ 0 := by omega
                  clear zb hv ht ht0
                  have key := HS.out
                  have hmono := tops_mono lz LZ.out DZ.out (m + 1) (by omega)
                  have KEY := Aside0.mk key
                  have MONO := Aside0.mk hmono
                  clear key hmono
                  by_cases hlt : v < q
                  · have g4 : decide (v < q) = true := decide_eq_true hlt
                    go_wp2
                    go_roundg gk3
                    case measure => omega
                    case rel =>
                      refine ⟨true, v, m + 1, rfl, rfl, by go_num, by omega, ⟨by have := HK.out; omega⟩, AZ, ⟨⟨fun _ => ?_, fun h => by simp at h⟩⟩, AB⟩
                      have h1 := KEY.out
                      have h2 := MONO.out
                      have h3 := HQ.out
                      have h4 := HV.out
                      omega
                  · have g4 : decide (v < q) = false := decide_eq_false hlt
                    have wv : wrap64 (65536 * v - z) = 65536 * v - z := by
                      have h1 := KEY.out
                      have h3 := HQ.out
                      have h4 := HV.out
                      unfold wrap64
                      omega
                    go_wp2
                    go_roundg gk3
                    case measure => omega
                    case rel =>
                      refine ⟨false, 65536 * v - z, m + 1, rfl, by first | rfl | rw [wv], by go_num, by omega, ⟨by have := HK.out; omega⟩, AZ, ⟨⟨fun h => by simp at h, fun _ => ⟨?_, ?_, HHI.out⟩⟩⟩, AB⟩
                      · have h1 := KEY.out
                        have h4 := HV.out
                        omega
                      · have h1 := KEY.out
                        have h3 := HQ.out
                        have h4 := HV.out
                        omega
              · have hm4 : m = 4 := by omega
                subst hm4
                have hall := tops_all lz LZ.out DZ.out HHI.out
                rw [HT.out, VV.out] at hall
                have hsig := mul_sign a b sg SG.out
                rw [hall] at hsig
                have FIN : Aside0 (mulv (a * b) = if sg = true then v else if v = -9223372036854775808 then 9223372036854775807 else -v) := ⟨by
                  rw [hsig]
                  unfold mulv
                  cases sg
                  · simp only [Bool.false_eq_true, if_false]
                    by_cases hv0 : v = -9223372036854775808
                    · rw [if_pos hv0, if_pos (by omega)]
                    · rw [if_neg hv0, if_neg (by omega), if_neg (by omega)]; omega
                  · simp only [if_true]
                    rw [if_neg (by omega), if_neg (by omega)]; omega⟩
                have hvb1 : -9223372036854775808 ≤ v := by omega
                have hvb2 : v ≤ 0 := by omega
                clear hall hsig hv ht ht0
                by_cases hv0 : v = -9223372036854775808
                · have g5 : (v == -9223372036854775808) = true := by simpa using hv0
                  have FIN2 : Aside0 (mulv (a * b) = if sg = true then v else 9223372036854775807) := ⟨by rw [FIN.out, if_pos hv0]⟩
                  clear hv0 FIN
                  cases sg <;> (go_wp2; go_ret; exact ⟨by rw [FIN2.out]; rfl, AB.out⟩)
                · have g5 : (v == -9223372036854775808) = false := by simpa using hv0
                  have FIN2 : Aside0 (mulv (a * b) = if sg = true then v else -v) := ⟨by rw [FIN.out, if_neg hv0]⟩
                  have wn : wrap64 (-v) = -v := by unfold wrap64; omega
                  clear hv0 FIN
                  cases sg <;> (go_wp2; go_ret; exact ⟨by rw [FIN2.out]; first | rfl | (rw [wn]; rfl), AB.out⟩)
end Go.Proofs.Ytoalpmfkaijomaa.RMul
