/-
  The walk of DecimalDigits.
-/
import Derived.Test.YthbeeeclgbpopaaGreatDoorFa8
import Derived.Test.YthbeeeclgbpopaaGreatDoorRa1
import Derived.Test.YthbeeeclgbpopaaGreatDoorGa2
import Derived.Test.YthbeeeclgbpopaaGreatDoorDc17
namespace Go.Proofs.YthbeeeclgbpopaaGreatDoor
open Go.RowKit
set_option linter.unusedSimpArgs false
set_option linter.unusedVariables false
set_option maxHeartbeats 8000000
set_option maxRecDepth 100000

theorem wf_range {a : Int} (h : (Lit.int .i64 a).wf = true) : -9223372036854775808 ≤ a ∧ a ≤ 9223372036854775807 := by simp [Lit.wf, IntKind.min, IntKind.max, IntKind.bits, IntKind.signed] at h; omega
theorem wf_word {a : Int} (h : (Lit.int .u64 a).wf = true) : ∃ b : Nat, a = (b : Int) ∧ b < 18446744073709551616 := by
  simp [Lit.wf, IntKind.min, IntKind.max, IntKind.bits, IntKind.signed] at h
  exact ⟨a.toNat, by omega, by omega⟩
theorem place30 (w : World) (a : Int) (ha : -9223372036854775808 ≤ a ∧ a ≤ 9223372036854775807) :
    Calls Tryz.prog 18 #[.int .i64 a, .int .i64 30] w fun e w' => ∃ k : Nat, e = .returned (.int .i64 (k : Int)) ∧ k < 30 ∧ Fr [] w w' := by
  have H := Hp.start [] w
  have hb : 0 ≤ a % 18446744073709551616 % 30 ∧ a % 18446744073709551616 % 30 < 30 := by omega
  go_enter Tryz.func18, Tryz.ntmps18
  go_wp2_with (first | refine x_q H ?_ | refine x_cm (fun h => ?_) (fun h => ?_) | (revert H; (first | (refine x_g ?_; intro g w1 hg hf H) | (refine x_s ?_; intro w1 hf H)); (first | replace hf := hf.kp | clear hf)))
  go_ret
  refine ⟨(a % 18446744073709551616 % 30).toNat, ?_, by omega, H.fr⟩
  rw [Int.toNat_of_nonneg hb.1]
  rfl
theorem fin_of {b : Nat} (hb : b < 18446744073709551616) (hk : kindF b = 1) : 0 < b % 9223372036854775808 ∧ b % 9223372036854775808 < 9218868437227405312 ∧ kindF (b % 9223372036854775808) = 1 := by
  have e : b % 9223372036854775808 / 4503599627370496 % 2048 = b / 4503599627370496 % 2048 := by omega
  have e2 : b % 9223372036854775808 % 4503599627370496 = b % 4503599627370496 := by omega
  have hk2 : kindF (b % 9223372036854775808) = 1 := by unfold kindF at hk ⊢; rw [e, e2]; exact hk
  refine ⟨?_, ?_, hk2⟩
  · apply Nat.pos_of_ne_zero
    intro h
    rw [h] at hk2
    exact absurd hk2 (by decide +kernel)
  · unfold kindF at hk
    split at hk
    · split at hk <;> exact absurd hk (by decide)
    · omega
theorem digitsZ_any (w : World) {b z : Nat} {n : Nat} {y : Int} (hy : y = (n : Int)) (hb : b < 18446744073709551616) (hk : kindF b = 1) (hz : Hid (b % 9223372036854775808 = z)) (h0 : 0 < z) (hz1 : z < 9218868437227405312) (hn1 : 1 ≤ n) (hn2 : n ≤ 800) (hT : La w) :
    Calls Tryz.prog 19 #[.int .u64 (b : Int), .int .i64 y] w fun r w' => ∃ ds x, r = .returned (.tuple #[strV ds, .int .i64 x, .int .i64 0]) ∧ Fr [] w w' ∧ Dgs z n ds x := by
  subst hy
  exact digits_any w hb hk hz h0 hz1 hn1 hn2 hT
theorem digs_all {z n : Nat} {ds : List UInt8} {x : Int} (h : Dgs z n ds x) (h0 : 0 < z) (hz : z < 9218868437227405312) (hn : 1 ≤ n) (hn2 : n ≤ 30) :
    ∃ (k G X1 Y1 U1 V s : Int) (a b d T S : Nat) (c : UInt8), x - n + 1 = k ∧ -1000 ≤ k ∧ k ≤ 1000 ∧ (-1000 ≤ x ∧ x ≤ 1000) ∧ max (-k) 0 = (a : Int) ∧ max k 0 = (b : Int) ∧ a ≤ 1000 ∧ b ≤ 1000 ∧ 10 ^ a = S ∧ 10 ^ b = T ∧
      pz ds = ((d : Int), 0) ∧ ds.length = n ∧ ds[0]? = some c ∧ (c.toNat : Int) ≠ 48 ∧ (-1100 ≤ expoF z ∧ expoF z ≤ 1000) ∧ (-1100 ≤ G ∧ G ≤ 0 ∧ G ≤ expoF z + 0) ∧
      (manF z : Int) * S * 2 ^ (expoF z + 0 - G).toNat = X1 ∧ (d : Int) * T * 2 ^ (0 - G).toNat = Y1 ∧ (T : Int) * 2 ^ (0 - G).toNat = U1 ∧ ((X1 - Y1).natAbs : Int) = V ∧ cmpZ (V * 2) U1 = s ∧ s ≤ 0 ∧
      bl S ≤ 5000 ∧ bl T ≤ 5000 ∧ bl (manF z : Int).natAbs ≤ 60 ∧ bl (S : Int).natAbs ≤ 5000 ∧ bl (T : Int).natAbs ≤ 5000 ∧ bl ((d : Int) * T).natAbs ≤ 6000 ∧ bl X1.natAbs ≤ 9000 ∧ bl Y1.natAbs ≤ 9000 ∧ bl U1.natAbs ≤ 9000 ∧ bl V.natAbs ≤ 18001 ∧ bl (V * 2).natAbs ≤ 18003 ∧ bl (X1 - Y1).natAbs ≤ 18001 := by
  obtain ⟨j, b1, b2, hl, hd, hq, hx, _⟩ := h.val h0 hn
  obtain ⟨k1, k2⟩ := k_bounds h0 hz b1 b2
  obtain ⟨m1, m2, m3⟩ := man_bounds hz
  obtain ⟨c, r, rfl, hc⟩ := first_ne hl hn hd hq
  have hne : (c :: r) ≠ [] := by simp
  have hpz := pz_dig hd hne (by omega)
  have hlt := num_lt _ hd
  generalize hds : c :: r = ds at *
  obtain ⟨k, hk⟩ : ∃ k, x - n + 1 = k := ⟨_, rfl⟩
  obtain ⟨g1, g2⟩ := dgs_half h hn hk
  obtain ⟨d, hdd⟩ : ∃ d, num ds = d := ⟨_, rfl⟩
  rw [hdd] at hpz g1 g2 hlt
  have ea : max (-k) 0 = (((-k).toNat : Nat) : Int) := by omega
  have eb : max k 0 = ((k.toNat : Nat) : Int) := by omega
  have la : (-k).toNat ≤ 1000 := by omega
  have lb : k.toNat ≤ 1000 := by omega
  generalize (-k).toNat = a at *
  generalize k.toNat = b at *
  obtain ⟨S, hS⟩ : ∃ S, 10 ^ a = S := ⟨_, rfl⟩
  obtain ⟨T, hT⟩ : ∃ S, 10 ^ b = S := ⟨_, rfl⟩
  have bS : bl S ≤ 4 * a + 1 := by rw [← hS]; exact bl_ten a
  have bT : bl T ≤ 4 * b + 1 := by rw [← hT]; exact bl_ten b
  have bM : bl (manF z) ≤ 53 := bl_le (by omega)
  have bD : bl d ≤ 4 * n + 1 := by rw [hl] at hlt; exact bl_num hlt
  obtain ⟨G, hG⟩ : ∃ G, min (expoF z) 0 = G := ⟨_, rfl⟩
  have e1 : (expoF z + 0 - G).toNat = (expoF z).toNat := by omega
  have e2 : (0 - G).toNat = (-expoF z).toNat := by omega
  rw [hS, hT] at g1 g2
  unfold nF dF at g1 g2
  rw [← e1, ← e2] at g1 g2
  obtain ⟨p, hp⟩ : ∃ p, (expoF z + 0 - G).toNat = p := ⟨_, rfl⟩
  obtain ⟨q, hq2⟩ : ∃ p, (0 - G).toNat = p := ⟨_, rfl⟩
  have lp : p ≤ 1000 := by omega
  have lq : q ≤ 1100 := by omega
  rw [hp, hq2] at g1 g2
  have x1 : (manF z : Int) * S * 2 ^ p = ((manF z * S * 2 ^ p : Nat) : Int) := by push_cast; rfl
  have y1 : (d : Int) * T * 2 ^ q = ((d * T * 2 ^ q : Nat) : Int) := by push_cast; rfl
  have u1 : (T : Int) * 2 ^ q = ((T * 2 ^ q : Nat) : Int) := by push_cast; rfl
  have dT : (d : Int) * T = ((d * T : Nat) : Int) := by push_cast; rfl
  have g1' : 2 * (manF z * S * 2 ^ p) ≤ 2 * (d * T * 2 ^ q) + T * 2 ^ q := by
    rw [Nat.mul_right_comm (manF z) S, Nat.mul_assoc d T, Nat.mul_comm T]; exact g1
  have g2' : 2 * (d * T * 2 ^ q) ≤ 2 * (manF z * S * 2 ^ p) + T * 2 ^ q := by
    rw [Nat.mul_right_comm (manF z) S, Nat.mul_assoc d T, Nat.mul_comm T]; exact g2
  have bX : bl (manF z * S * 2 ^ p) ≤ 9000 := by
    have := bl_prod (manF z * S) (2 ^ p)
    have := bl_prod (manF z) S
    have := bl_two p
    omega
  have bdT : bl (d * T) ≤ 6000 := by
    have := bl_prod d T
    omega
  have bY : bl (d * T * 2 ^ q) ≤ 9000 := by
    have := bl_prod (d * T) (2 ^ q)
    have := bl_prod d T
    have := bl_two q
    omega
  have bU : bl (T * 2 ^ q) ≤ 9000 := by
    have := bl_prod T (2 ^ q)
    have := bl_two q
    omega
  generalize hX : manF z * S * 2 ^ p = X at *
  generalize hY : d * T * 2 ^ q = Y at *
  generalize hU : T * 2 ^ q = U at *
  have bV : bl ((X : Int) - (Y : Int)).natAbs ≤ 18001 := by
    have := bl_sum (X : Int) (-(Y : Int))
    rw [← Int.sub_eq_add_neg, Int.natAbs_neg, Int.natAbs_natCast, Int.natAbs_natCast] at this
    omega
  refine ⟨k, G, _, _, _, _, _, a, b, d, T, S, c, hk, by omega, by omega, by omega, ea, eb, la, lb, hS, hT, hpz, hl, by rw [← hds]; rfl, hc, by omega, by omega, rfl, rfl, rfl, rfl, rfl, ?_, by omega, by omega, ?_, ?_, ?_, ?_, ?_, ?_, ?_, ?_, ?_, ?_⟩
  · rw [hp, hq2, x1, y1, u1]
    unfold cmpZ
    split
    · decide
    · split
      · omega
      · decide
  · rw [Int.natAbs_natCast]; omega
  · rw [Int.natAbs_natCast]; omega
  · rw [Int.natAbs_natCast]; omega
  · rw [dT, Int.natAbs_natCast]; exact bdT
  · rw [hp, x1, Int.natAbs_natCast]; exact bX
  · rw [hq2, y1, Int.natAbs_natCast]; exact bY
  · rw [hq2, u1, Int.natAbs_natCast]; exact bU
  · rw [hp, hq2, x1, y1, Int.natAbs_natCast]; exact bV
  · rw [hp, hq2, x1, y1]
    have := bl_prod ((X : Int) - (Y : Int)).natAbs 2
    rw [Int.natAbs_mul, Int.natAbs_natCast]
    have e3 : bl 2 = 2 := by decide
    exact Nat.le_trans this (by omega)
  · rw [hp, hq2, x1, y1]; exact bV
theorem ev_maxH {P : Program} {w : World} {a : Act} {o : Oper} {x y : Operand} {t t' : TypeId} (ho : o.op = .call { callee := .builtin .max, args := #[x, y], argTypes := #[t, t'] }) {m n z : Int} (hx : a.eval x = .int .i64 m) (hy : a.eval y = .int .i64 n) (hz : Hid (max m n = z)) : (execOp a.eval o).run P w = .ok (.value (.int .i64 z)) w := ev_max ho hx hy hz.out
theorem parseK_any (w : World) {s : List UInt8} {d : Int} (hs : s.length ≤ 1000000) (h : Hid (pz s = (d, 0))) :
    Calls Tryz.prog 29 #[strV s] w fun e w' => ∃ v1, e = .returned (.tuple #[v1, .int .i64 0]) ∧ Fr [] w w' ∧ Bv w' v1 d 1024 := by
  have := parse_any w s hs
  rw [h.out] at this
  exact this
set_option maxHeartbeats 32000000 in
theorem decimalDigits_walk (W : World) (hL : laidMetH Tryz.prog laid7 W) (a0 : Int) (w0 : (Lit.int .u64 a0).wf = true) (a1 : Int) (w1 : (Lit.int .i64 a1).wf = true) :
    Calls Tryz.prog 10 #[.int .u64 a0, .int .i64 a1] W fun e w' => e = .returned (.bool true) ∧ Fr [] W w' := by
  obtain ⟨b, rfl, hb⟩ := wf_word w0
  have ha := wf_range w1
  have HT := hid (la_of hL)
  clear w0 w1 hL
  have H := Hp.start [] W
  have hkr := kindF_range b
  obtain ⟨k, hk⟩ : ∃ k, kindF b = k := ⟨_, rfl⟩
  have HK := hid hk
  rw [hk] at hkr
  by_cases h1 : k = 1
  · subst h1
    obtain ⟨z0, z1, z2⟩ := fin_of hb hk
    obtain ⟨z, hz⟩ : ∃ z, b % 9223372036854775808 = z := ⟨_, rfl⟩
    rw [hz] at z0 z1 z2
    have HZ := hid hz
    have HK3 : Hid (kindF b ≠ 3) := hid (by rw [hk]; decide)
    clear hk hz z2
    go_enter Tryz.func10, Tryz.ntmps10
    go_wp2_with (first | refine x_q H ?_ | refine x_cm (fun h => ?_) (fun h => ?_) | (revert H; (first | (refine x_g ?_; intro g w1 hg hf H) | (refine x_s ?_; intro w1 hf H)); (first | replace hf := hf.kp | clear hf)))
    (refine x_c H (rkind_any _ hb HK) ?_; clear H; rintro e w1 ⟨rfl, hF⟩ H; replace hF := hF.kp; skip)
    go_wp2_with (first | refine x_q H ?_ | refine x_cm (fun h => ?_) (fun h => ?_) | (revert H; (first | (refine x_g ?_; intro g w1 hg hf H) | (refine x_s ?_; intro w1 hf H)); (first | replace hf := hf.kp | clear hf)))
    (refine x_c H (place30 _ a1 ha) ?_; clear H; rintro e w1 ⟨n0, rfl, hn0, hF⟩ H; replace hF := hF.kp; skip)
    go_wp2_with (first | refine x_q H ?_ | refine x_cm (fun h => ?_) (fun h => ?_) | (revert H; (first | (refine x_g ?_; intro g w1 hg hf H) | (refine x_s ?_; intro w1 hf H)); (first | replace hf := hf.kp | clear hf)))
    (refine x_c H (digitsZ_any _ (n := n0 + 1) (by omega) hb HK.out HZ z0 z1 (by omega) (by omega) (HT.out.fr H.fr)) ?_; clear H; rintro e w1 ⟨ds, x, rfl, hF, hdg⟩ H; replace hF := hF.kp; skip)
    obtain ⟨kk, G, X1, Y1, U1, V, s, aa, bb, d, T, S, c, hkk, hk1, hk2, hx1, hma, hmb, haa, hbb, hSS, hTT, hpz, hdl, hc0, hc1, heb, hg, hX1, hY1, hU1, hV, hcm, hs, hbS, hbT, hbM, hbS2, hbT2, hbdT, hbX, hbY, hbU, hbV, hbV2, hbXY⟩ := digs_all hdg z0 z1 (by omega) (by omega)
    have HCI : ds[(0 : Int).toNat]? = some c := hc0
    have HPZ := hid hpz
    have HSS := hid hSS
    have HTT := hid hTT
    have HX1 := hid hX1
    have HY1 := hid hY1
    have HU1 := hid hU1
    have HV := hid hV
    have HCM := hid hcm
    have HMB : Hid (max (x - (1 + (n0 : Int)) + 1) 0 = (bb : Int)) := hid (by omega)
    have HMA : Hid (max (-(x - (1 + (n0 : Int)) + 1)) 0 = (aa : Int)) := hid (by omega)
    have hdl1 : ds.length ≤ n0 + 1 := by omega
    have hdl2 : n0 + 1 ≤ ds.length := by omega
    clear hdg hkk hma hmb hSS hTT hpz hdl hc0 hX1 hY1 hU1 hV hcm hk1 hk2
    go_wp2_with (first | refine x_e (ev_strIdx rfl rfl rfl (by omega) HCI) ?_ | refine x_q H ?_ | refine x_cm (fun h => ?_) (fun h => ?_) | refine x_e (ev_strLen rfl rfl) ?_)
    (refine x_c H (parseK_any _ (by omega) HPZ) ?_; clear H; rintro e w1 ⟨v3, rfl, hF, hB⟩ H; replace hF := hF.kp; obtain ⟨b3, p3, m3, c3, rfl⟩ := hB.form; have HB3 := hid hB; clear hB)
    go_wp2_with (first | refine x_q H ?_ | refine x_cm (fun h => ?_) (fun h => ?_) | refine x_l H ?_ | refine x_e (ev_dyad rfl rfl rfl) ?_ | (revert H; refine x_sF ?_; intro w1 hf H hk; clear hf; change Kp _ _ at hk) | (revert H; (first | (refine x_g ?_; intro g w1 hg hf H) | (refine x_s ?_; intro w1 hf H)); (first | replace hf := hf.kp | clear hf)))
    go_cut [10, 11, 12] (fun s10 s11 s12 wx => ∃ (g11 g12 : Nat) (b4 b7 : Bool) (p4 p7 : Option Addr) (n4 c4 n7 c7 : Nat) (e4 e7 : Int), s10 = .int .i64 (x - (1 + (n0 : Int)) + 1) ∧ s11 = .pointer (some ⟨g11, 0, none⟩) ∧ s12 = .pointer (some ⟨g12, 0, none⟩) ∧ Hp [] W wx [.blk g12 [.bool false, .bool b7, .slice p7 n7 c7, .int .i64 e7] 54, .blk g11 [.bool false, .bool b4, .slice p4 n4 c4, .int .i64 e4] 54] ∧ Hid (Dn wx (.agg #[.bool false, .bool b4, .slice p4 n4 c4, .int .i64 e4]) (manF z) (expoF z)) ∧ Hid (Dn wx (.agg #[.bool false, .bool b7, .slice p7 n7 c7, .int .i64 e7]) Y1 G))
    case first =>
      (revert H; refine w_pF 12 (.st 0 (.st 3 (.st 4 (.st 5 (.ld3 1 (.ld3 2 (.ld3 6 (.ld3 7 (.ld3 8 (.ld2 9 (.ld 10 (.ld 11 (.ld 12 .done))) 10 (.ld 9 (.ld 11 (.ld 12 .done)))) 9 (.ld2 8 (.ld 10 (.ld 11 (.ld 12 .done))) 10 (.ld 8 (.ld 11 (.ld 12 .done)))) 10 (.ld2 8 (.ld 9 (.ld 11 (.ld 12 .done))) 9 (.ld 8 (.ld 11 (.ld 12 .done))))) 9 (.ld2 7 (.ld2 8 (.ld 10 (.ld 11 (.ld 12 .done))) 10 (.ld 8 (.ld 11 (.ld 12 .done)))) 10 (.ld 7 (.ld 8 (.ld 11 (.ld 12 .done))))) 10 (.ld2 7 (.ld2 8 (.ld 9 (.ld 11 (.ld 12 .done))) 9 (.ld 8 (.ld 11 (.ld 12 .done)))) 9 (.ld 7 (.ld 8 (.ld 11 (.ld 12 .done)))))) 9 (.ld2 6 (.ld2 7 (.ld2 8 (.ld 10 (.ld 11 (.ld 12 .done))) 10 (.ld 8 (.ld 11 (.ld 12 .done)))) 10 (.ld 7 (.ld 8 (.ld 11 (.ld 12 .done))))) 10 (.ld 6 (.ld 7 (.ld 8 (.ld 11 (.ld 12 .done)))))) 10 (.ld2 6 (.ld2 7 (.ld2 8 (.ld 9 (.ld 11 (.ld 12 .done))) 9 (.ld 8 (.ld 11 (.ld 12 .done)))) 9 (.ld 7 (.ld 8 (.ld 11 (.ld 12 .done))))) 9 (.ld 6 (.ld 7 (.ld 8 (.ld 11 (.ld 12 .done))))))) 9 (.ld2 2 (.ld2 6 (.ld2 7 (.ld2 8 (.ld 10 (.ld 11 (.ld 12 .done))) 10 (.ld 8 (.ld 11 (.ld 12 .done)))) 10 (.ld 7 (.ld 8 (.ld 11 (.ld 12 .done))))) 10 (.ld 6 (.ld 7 (.ld 8 (.ld 11 (.ld 12 .done)))))) 10 (.ld 2 (.ld 6 (.ld 7 (.ld 8 (.ld 11 (.ld 12 .done))))))) 10 (.ld2 2 (.ld2 6 (.ld2 7 (.ld2 8 (.ld 9 (.ld 11 (.ld 12 .done))) 9 (.ld 8 (.ld 11 (.ld 12 .done)))) 9 (.ld 7 (.ld 8 (.ld 11 (.ld 12 .done))))) 9 (.ld 6 (.ld 7 (.ld 8 (.ld 11 (.ld 12 .done)))))) 9 (.ld 2 (.ld 6 (.ld 7 (.ld 8 (.ld 11 (.ld 12 .done)))))))) 9 (.ld2 1 (.ld2 2 (.ld2 6 (.ld2 7 (.ld2 8 (.ld 10 (.ld 11 (.ld 12 .done))) 10 (.ld 8 (.ld 11 (.ld 12 .done)))) 10 (.ld 7 (.ld 8 (.ld 11 (.ld 12 .done))))) 10 (.ld 6 (.ld 7 (.ld 8 (.ld 11 (.ld 12 .done)))))) 10 (.ld 2 (.ld 6 (.ld 7 (.ld 8 (.ld 11 (.ld 12 .done))))))) 10 (.ld 1 (.ld 2 (.ld 6 (.ld 7 (.ld 8 (.ld 11 (.ld 12 .done)))))))) 10 (.ld2 1 (.ld2 2 (.ld2 6 (.ld2 7 (.ld2 8 (.ld 9 (.ld 11 (.ld 12 .done))) 9 (.ld 8 (.ld 11 (.ld 12 .done)))) 9 (.ld 7 (.ld 8 (.ld 11 (.ld 12 .done))))) 9 (.ld 6 (.ld 7 (.ld 8 (.ld 11 (.ld 12 .done)))))) 9 (.ld 2 (.ld 6 (.ld 7 (.ld 8 (.ld 11 (.ld 12 .done))))))) 9 (.ld 1 (.ld 2 (.ld 6 (.ld 7 (.ld 8 (.ld 11 (.ld 12 .done))))))))))))) ?_; intro w1 hf H; (first | replace hf := hf.kp | clear hf))
      refine p_q ?_
      (refine p_l ?_)
      refine p_q ?_
      (refine p_e rfl (fun w H => ev_maxH rfl rfl rfl HMB) ?_)
      (refine pl_ld3 ?_ ?_ ?_)
      ((refine p_c H rfl rfl Tryz.func31 (absF_any _ hb HK3.out HZ) ?_; clear H; rintro e w1 ⟨rfl, hF⟩ H; refine p_r ?_; replace hF := hF.kp); skip)
      (refine pl_ld3 ?_ ?_ ?_)
      ((refine p_c H rfl rfl Tryz.func30 (ofA_any _ z1 (HT.out.fr H.fr)) ?_; clear H; rintro e w1 ⟨v4, rfl, hF, hD⟩ H; refine p_r ?_; replace hF := hF.kp); have HD4 := hid hD; obtain ⟨m4, e4, b4, p4, n4, c4, rfl, hN, hB⟩ := hD; have HN4 := hid hN; have HB4 := hid hB; clear hN hB)
      (refine pl_ld3 ?_ ?_ ?_)
      ((refine p_c H rfl rfl Tryz.func34 (tenTo_any _ bb rfl (by omega)) ?_; clear H; rintro e w1 ⟨v5, rfl, hF, hB⟩ H; refine p_r ?_; replace hF := hF.kp); rw [HTT.out] at hB; obtain ⟨b5, p5, m5, c5, rfl⟩ := hB.form; have HB5 := hid hB; clear hB)
      (refine pl_ld3 ?_ ?_ ?_)
      ((refine p_c H rfl rfl Tryz.func33 (mul_ar (bv HB3).ar (bv HB5).ar (by omega) (by omega)) ?_; clear H; rintro e w1 ⟨v6, rfl, hF, hB⟩ H; refine p_r ?_; replace hF := hF.kp); obtain ⟨b6, p6, m6, c6, rfl⟩ := hB.form; have HB6 := hid hB; clear hB)
      (refine pl_ld3 ?_ ?_ ?_)
      ((refine p_c H rfl rfl Tryz.func32 (fromBig_any (bv HB6).ar (by omega) (by omega) (HT.out.fr H.fr)) ?_; clear H; rintro e w1 ⟨v7, rfl, hF, hD⟩ H; refine p_r ?_; replace hF := hF.kp); replace hD := hD.low (g := G) (by omega); rw [HY1.out] at hD; have HD7 := hid hD; obtain ⟨m7, e7, b7, p7, n7, c7, rfl, hN, hB⟩ := hD; have HN7 := hid hN; have HB7 := hid hB; clear hN hB)
      (refine pl_ld2 ?_ ?_)
      (revert H; refine p_g ?_; intro g w1 hg hf H; (first | replace hf := hf.kp | clear hf))
      (revert H; refine p_g ?_; intro g w1 hg hf H; (first | replace hf := hf.kp | clear hf))
      (revert H; refine p_sF ?_; intro w1 hf H hk; clear hf; change Kp _ _ at hk)
      (revert H; refine p_sF ?_; intro w1 hf H hk; clear hf; change Kp _ _ at hk)
      (refine pl_done ?_)
      rotate_left
      (revert H; refine p_g ?_; intro g w1 hg hf H; (first | replace hf := hf.kp | clear hf))
      (revert H; refine p_g ?_; intro g w1 hg hf H; (first | replace hf := hf.kp | clear hf))
      (revert H; refine p_sF ?_; intro w1 hf H hk; clear hf; change Kp _ _ at hk)
      (revert H; refine p_sF ?_; intro w1 hf H hk; clear hf; change Kp _ _ at hk)
      (refine pl_done ?_)
      rotate_left
      (revert H; refine p_g ?_; intro g w1 hg hf H; (first | replace hf := hf.kp | clear hf))
      (refine pl_ld2 ?_ ?_)
      ((refine p_c H rfl rfl Tryz.func32 (fromBig_any (bv HB6).ar (by omega) (by omega) (HT.out.fr H.fr)) ?_; clear H; rintro e w1 ⟨v7, rfl, hF, hD⟩ H; refine p_r ?_; replace hF := hF.kp); replace hD := hD.low (g := G) (by omega); rw [HY1.out] at hD; have HD7 := hid hD; obtain ⟨m7, e7, b7, p7, n7, c7, rfl, hN, hB⟩ := hD; have HN7 := hid hN; have HB7 := hid hB; clear hN hB)
      (revert H; refine p_g ?_; intro g w1 hg hf H; (first | replace hf := hf.kp | clear hf))
      (revert H; refine p_sF ?_; intro w1 hf H hk; clear hf; change Kp _ _ at hk)
      (revert H; refine p_sF ?_; intro w1 hf H hk; clear hf; change Kp _ _ at hk)
      (refine pl_done ?_)
      rotate_left
      (revert H; refine p_g ?_; intro g w1 hg hf H; (first | replace hf := hf.kp | clear hf))
      ((refine p_c H rfl rfl Tryz.func32 (fromBig_any (bv HB6).ar (by omega) (by omega) (HT.out.fr H.fr)) ?_; clear H; rintro e w1 ⟨v7, rfl, hF, hD⟩ H; refine p_r ?_; replace hF := hF.kp); replace hD := hD.low (g := G) (by omega); rw [HY1.out] at hD; have HD7 := hid hD; obtain ⟨m7, e7, b7, p7, n7, c7, rfl, hN, hB⟩ := hD; have HN7 := hid hN; have HB7 := hid hB; clear hN hB)
      (revert H; refine p_sF ?_; intro w1 hf H hk; clear hf; change Kp _ _ at hk)
      (revert H; refine p_sF ?_; intro w1 hf H hk; clear hf; change Kp _ _ at hk)
      (refine pl_done ?_)
      rotate_left
      (revert H; refine p_g ?_; intro g w1 hg hf H; (first | replace hf := hf.kp | clear hf))
      (refine pl_ld2 ?_ ?_)
      ((refine p_c H rfl rfl Tryz.func32 (fromBig_any (bv HB6).ar (by omega) (by omega) (HT.out.fr H.fr)) ?_; clear H; rintro e w1 ⟨v7, rfl, hF, hD⟩ H; refine p_r ?_; replace hF := hF.kp); replace hD := hD.low (g := G) (by omega); rw [HY1.out] at hD; have HD7 := hid hD; obtain ⟨m7, e7, b7, p7, n7, c7, rfl, hN, hB⟩ := hD; have HN7 := hid hN; have HB7 := hid hB; clear hN hB)
      (revert H; refine p_g ?_; intro g w1 hg hf H; (first | replace hf := hf.kp | clear hf))
      (revert H; refine p_sF ?_; intro w1 hf H hk; clear hf; change Kp _ _ at hk)
      (revert H; refine p_sF ?_; intro w1 hf H hk; clear hf; change Kp _ _ at hk)
      (refine pl_done ?_)
      rotate_left
      (revert H; refine p_g ?_; intro g w1 hg hf H; (first | replace hf := hf.kp | clear hf))
      ((refine p_c H rfl rfl Tryz.func32 (fromBig_any (bv HB6).ar (by omega) (by omega) (HT.out.fr H.fr)) ?_; clear H; rintro e w1 ⟨v7, rfl, hF, hD⟩ H; refine p_r ?_; replace hF := hF.kp); replace hD := hD.low (g := G) (by omega); rw [HY1.out] at hD; have HD7 := hid hD; obtain ⟨m7, e7, b7, p7, n7, c7, rfl, hN, hB⟩ := hD; have HN7 := hid hN; have HB7 := hid hB; clear hN hB)
      (revert H; refine p_sF ?_; intro w1 hf H hk; clear hf; change Kp _ _ at hk)
      (revert H; refine p_sF ?_; intro w1 hf H hk; clear hf; change Kp _ _ at hk)
      (refine pl_done ?_)
      rotate_left
      (revert H; refine p_g ?_; intro g w1 hg hf H; (first | replace hf := hf.kp | clear hf))
      (refine pl_ld2 ?_ ?_)
      ((refine p_c H rfl rfl Tryz.func33 (mul_ar (bv HB3).ar (bv HB5).ar (by omega) (by omega)) ?_; clear H; rintro e w1 ⟨v6, rfl, hF, hB⟩ H; refine p_r ?_; replace hF := hF.kp); obtain ⟨b6, p6, m6, c6, rfl⟩ := hB.form; have HB6 := hid hB; clear hB)
      (refine pl_ld2 ?_ ?_)
      ((refine p_c H rfl rfl Tryz.func32 (fromBig_any (bv HB6).ar (by omega) (by omega) (HT.out.fr H.fr)) ?_; clear H; rintro e w1 ⟨v7, rfl, hF, hD⟩ H; refine p_r ?_; replace hF := hF.kp); replace hD := hD.low (g := G) (by omega); rw [HY1.out] at hD; have HD7 := hid hD; obtain ⟨m7, e7, b7, p7, n7, c7, rfl, hN, hB⟩ := hD; have HN7 := hid hN; have HB7 := hid hB; clear hN hB)
      (revert H; refine p_g ?_; intro g w1 hg hf H; (first | replace hf := hf.kp | clear hf))
      (revert H; refine p_sF ?_; intro w1 hf H hk; clear hf; change Kp _ _ at hk)
      (revert H; refine p_sF ?_; intro w1 hf H hk; clear hf; change Kp _ _ at hk)
      (refine pl_done ?_)
      rotate_left
      (revert H; refine p_g ?_; intro g w1 hg hf H; (first | replace hf := hf.kp | clear hf))
      ((refine p_c H rfl rfl Tryz.func32 (fromBig_any (bv HB6).ar (by omega) (by omega) (HT.out.fr H.fr)) ?_; clear H; rintro e w1 ⟨v7, rfl, hF, hD⟩ H; refine p_r ?_; replace hF := hF.kp); replace hD := hD.low (g := G) (by omega); rw [HY1.out] at hD; have HD7 := hid hD; obtain ⟨m7, e7, b7, p7, n7, c7, rfl, hN, hB⟩ := hD; have HN7 := hid hN; have HB7 := hid hB; clear hN hB)
      (revert H; refine p_sF ?_; intro w1 hf H hk; clear hf; change Kp _ _ at hk)
      (revert H; refine p_sF ?_; intro w1 hf H hk; clear hf; change Kp _ _ at hk)
      (refine pl_done ?_)
      rotate_left
      (revert H; refine p_g ?_; intro g w1 hg hf H; (first | replace hf := hf.kp | clear hf))
      ((refine p_c H rfl rfl Tryz.func33 (mul_ar (bv HB3).ar (bv HB5).ar (by omega) (by omega)) ?_; clear H; rintro e w1 ⟨v6, rfl, hF, hB⟩ H; refine p_r ?_; replace hF := hF.kp); obtain ⟨b6, p6, m6, c6, rfl⟩ := hB.form; have HB6 := hid hB; clear hB)
      ((refine p_c H rfl rfl Tryz.func32 (fromBig_any (bv HB6).ar (by omega) (by omega) (HT.out.fr H.fr)) ?_; clear H; rintro e w1 ⟨v7, rfl, hF, hD⟩ H; refine p_r ?_; replace hF := hF.kp); replace hD := hD.low (g := G) (by omega); rw [HY1.out] at hD; have HD7 := hid hD; obtain ⟨m7, e7, b7, p7, n7, c7, rfl, hN, hB⟩ := hD; have HN7 := hid hN; have HB7 := hid hB; clear hN hB)
      (revert H; refine p_sF ?_; intro w1 hf H hk; clear hf; change Kp _ _ at hk)
      (revert H; refine p_sF ?_; intro w1 hf H hk; clear hf; change Kp _ _ at hk)
      (refine pl_done ?_)
      rotate_left
      (revert H; refine p_g ?_; intro g w1 hg hf H; (first | replace hf := hf.kp | clear hf))
      (refine pl_ld2 ?_ ?_)
      ((refine p_c H rfl rfl Tryz.func33 (mul_ar (bv HB3).ar (bv HB5).ar (by omega) (by omega)) ?_; clear H; rintro e w1 ⟨v6, rfl, hF, hB⟩ H; refine p_r ?_; replace hF := hF.kp); obtain ⟨b6, p6, m6, c6, rfl⟩ := hB.form; have HB6 := hid hB; clear hB)
      (refine pl_ld2 ?_ ?_)
      ((refine p_c H rfl rfl Tryz.func32 (fromBig_any (bv HB6).ar (by omega) (by omega) (HT.out.fr H.fr)) ?_; clear H; rintro e w1 ⟨v7, rfl, hF, hD⟩ H; refine p_r ?_; replace hF := hF.kp); replace hD := hD.low (g := G) (by omega); rw [HY1.out] at hD; have HD7 := hid hD; obtain ⟨m7, e7, b7, p7, n7, c7, rfl, hN, hB⟩ := hD; have HN7 := hid hN; have HB7 := hid hB; clear hN hB)
      (revert H; refine p_g ?_; intro g w1 hg hf H; (first | replace hf := hf.kp | clear hf))
      (revert H; refine p_sF ?_; intro w1 hf H hk; clear hf; change Kp _ _ at hk)
      (revert H; refine p_sF ?_; intro w1 hf H hk; clear hf; change Kp _ _ at hk)
      (refine pl_done ?_)
      rotate_left
      (revert H; refine p_g ?_; intro g w1 hg hf H; (first | replace hf := hf.kp | clear hf))
      ((refine p_c H rfl rfl Tryz.func32 (fromBig_any (bv HB6).ar (by omega) (by omega) (HT.out.fr H.fr)) ?_; clear H; rintro e w1 ⟨v7, rfl, hF, hD⟩ H; refine p_r ?_; replace hF := hF.kp); replace hD := hD.low (g := G) (by omega); rw [HY1.out] at hD; have HD7 := hid hD; obtain ⟨m7, e7, b7, p7, n7, c7, rfl, hN, hB⟩ := hD; have HN7 := hid hN; have HB7 := hid hB; clear hN hB)
      (revert H; refine p_sF ?_; intro w1 hf H hk; clear hf; change Kp _ _ at hk)
      (revert H; refine p_sF ?_; intro w1 hf H hk; clear hf; change Kp _ _ at hk)
      (refine pl_done ?_)
      rotate_left
      (revert H; refine p_g ?_; intro g w1 hg hf H; (first | replace hf := hf.kp | clear hf))
      ((refine p_c H rfl rfl Tryz.func33 (mul_ar (bv HB3).ar (bv HB5).ar (by omega) (by omega)) ?_; clear H; rintro e w1 ⟨v6, rfl, hF, hB⟩ H; refine p_r ?_; replace hF := hF.kp); obtain ⟨b6, p6, m6, c6, rfl⟩ := hB.form; have HB6 := hid hB; clear hB)
      ((refine p_c H rfl rfl Tryz.func32 (fromBig_any (bv HB6).ar (by omega) (by omega) (HT.out.fr H.fr)) ?_; clear H; rintro e w1 ⟨v7, rfl, hF, hD⟩ H; refine p_r ?_; replace hF := hF.kp); replace hD := hD.low (g := G) (by omega); rw [HY1.out] at hD; have HD7 := hid hD; obtain ⟨m7, e7, b7, p7, n7, c7, rfl, hN, hB⟩ := hD; have HN7 := hid hN; have HB7 := hid hB; clear hN hB)
      (revert H; refine p_sF ?_; intro w1 hf H hk; clear hf; change Kp _ _ at hk)
      (revert H; refine p_sF ?_; intro w1 hf H hk; clear hf; change Kp _ _ at hk)
      (refine pl_done ?_)
      rotate_left
      (revert H; refine p_g ?_; intro g w1 hg hf H; (first | replace hf := hf.kp | clear hf))
      (refine pl_ld2 ?_ ?_)
      ((refine p_c H rfl rfl Tryz.func34 (tenTo_any _ bb rfl (by omega)) ?_; clear H; rintro e w1 ⟨v5, rfl, hF, hB⟩ H; refine p_r ?_; replace hF := hF.kp); rw [HTT.out] at hB; obtain ⟨b5, p5, m5, c5, rfl⟩ := hB.form; have HB5 := hid hB; clear hB)
      (refine pl_ld2 ?_ ?_)
      ((refine p_c H rfl rfl Tryz.func33 (mul_ar (bv HB3).ar (bv HB5).ar (by omega) (by omega)) ?_; clear H; rintro e w1 ⟨v6, rfl, hF, hB⟩ H; refine p_r ?_; replace hF := hF.kp); obtain ⟨b6, p6, m6, c6, rfl⟩ := hB.form; have HB6 := hid hB; clear hB)
      (refine pl_ld2 ?_ ?_)
      ((refine p_c H rfl rfl Tryz.func32 (fromBig_any (bv HB6).ar (by omega) (by omega) (HT.out.fr H.fr)) ?_; clear H; rintro e w1 ⟨v7, rfl, hF, hD⟩ H; refine p_r ?_; replace hF := hF.kp); replace hD := hD.low (g := G) (by omega); rw [HY1.out] at hD; have HD7 := hid hD; obtain ⟨m7, e7, b7, p7, n7, c7, rfl, hN, hB⟩ := hD; have HN7 := hid hN; have HB7 := hid hB; clear hN hB)
      (revert H; refine p_g ?_; intro g w1 hg hf H; (first | replace hf := hf.kp | clear hf))
      (revert H; refine p_sF ?_; intro w1 hf H hk; clear hf; change Kp _ _ at hk)
      (revert H; refine p_sF ?_; intro w1 hf H hk; clear hf; change Kp _ _ at hk)
      (refine pl_done ?_)
      rotate_left
      (revert H; refine p_g ?_; intro g w1 hg hf H; (first | replace hf := hf.kp | clear hf))
      ((refine p_c H rfl rfl Tryz.func32 (fromBig_any (bv HB6).ar (by omega) (by omega) (HT.out.fr H.fr)) ?_; clear H; rintro e w1 ⟨v7, rfl, hF, hD⟩ H; refine p_r ?_; replace hF := hF.kp); replace hD := hD.low (g := G) (by omega); rw [HY1.out] at hD; have HD7 := hid hD; obtain ⟨m7, e7, b7, p7, n7, c7, rfl, hN, hB⟩ := hD; have HN7 := hid hN; have HB7 := hid hB; clear hN hB)
      (revert H; refine p_sF ?_; intro w1 hf H hk; clear hf; change Kp _ _ at hk)
      (revert H; refine p_sF ?_; intro w1 hf H hk; clear hf; change Kp _ _ at hk)
      (refine pl_done ?_)
      rotate_left
      (revert H; refine p_g ?_; intro g w1 hg hf H; (first | replace hf := hf.kp | clear hf))
      ((refine p_c H rfl rfl Tryz.func33 (mul_ar (bv HB3).ar (bv HB5).ar (by omega) (by omega)) ?_; clear H; rintro e w1 ⟨v6, rfl, hF, hB⟩ H; refine p_r ?_; replace hF := hF.kp); obtain ⟨b6, p6, m6, c6, rfl⟩ := hB.form; have HB6 := hid hB; clear hB)
      ((refine p_c H rfl rfl Tryz.func32 (fromBig_any (bv HB6).ar (by omega) (by omega) (HT.out.fr H.fr)) ?_; clear H; rintro e w1 ⟨v7, rfl, hF, hD⟩ H; refine p_r ?_; replace hF := hF.kp); replace hD := hD.low (g := G) (by omega); rw [HY1.out] at hD; have HD7 := hid hD; obtain ⟨m7, e7, b7, p7, n7, c7, rfl, hN, hB⟩ := hD; have HN7 := hid hN; have HB7 := hid hB; clear hN hB)
      (revert H; refine p_sF ?_; intro w1 hf H hk; clear hf; change Kp _ _ at hk)
      (revert H; refine p_sF ?_; intro w1 hf H hk; clear hf; change Kp _ _ at hk)
      (refine pl_done ?_)
      rotate_left
      (revert H; refine p_g ?_; intro g w1 hg hf H; (first | replace hf := hf.kp | clear hf))
      ((refine p_c H rfl rfl Tryz.func34 (tenTo_any _ bb rfl (by omega)) ?_; clear H; rintro e w1 ⟨v5, rfl, hF, hB⟩ H; refine p_r ?_; replace hF := hF.kp); rw [HTT.out] at hB; obtain ⟨b5, p5, m5, c5, rfl⟩ := hB.form; have HB5 := hid hB; clear hB)
      ((refine p_c H rfl rfl Tryz.func33 (mul_ar (bv HB3).ar (bv HB5).ar (by omega) (by omega)) ?_; clear H; rintro e w1 ⟨v6, rfl, hF, hB⟩ H; refine p_r ?_; replace hF := hF.kp); obtain ⟨b6, p6, m6, c6, rfl⟩ := hB.form; have HB6 := hid hB; clear hB)
      ((refine p_c H rfl rfl Tryz.func32 (fromBig_any (bv HB6).ar (by omega) (by omega) (HT.out.fr H.fr)) ?_; clear H; rintro e w1 ⟨v7, rfl, hF, hD⟩ H; refine p_r ?_; replace hF := hF.kp); replace hD := hD.low (g := G) (by omega); rw [HY1.out] at hD; have HD7 := hid hD; obtain ⟨m7, e7, b7, p7, n7, c7, rfl, hN, hB⟩ := hD; have HN7 := hid hN; have HB7 := hid hB; clear hN hB)
      (revert H; refine p_sF ?_; intro w1 hf H hk; clear hf; change Kp _ _ at hk)
      (revert H; refine p_sF ?_; intro w1 hf H hk; clear hf; change Kp _ _ at hk)
      (refine pl_done ?_)
      rotate_left
      (revert H; refine p_g ?_; intro g w1 hg hf H; (first | replace hf := hf.kp | clear hf))
      (refine pl_ld2 ?_ ?_)
      ((refine p_c H rfl rfl Tryz.func34 (tenTo_any _ bb rfl (by omega)) ?_; clear H; rintro e w1 ⟨v5, rfl, hF, hB⟩ H; refine p_r ?_; replace hF := hF.kp); rw [HTT.out] at hB; obtain ⟨b5, p5, m5, c5, rfl⟩ := hB.form; have HB5 := hid hB; clear hB)
      (refine pl_ld2 ?_ ?_)
      ((refine p_c H rfl rfl Tryz.func33 (mul_ar (bv HB3).ar (bv HB5).ar (by omega) (by omega)) ?_; clear H; rintro e w1 ⟨v6, rfl, hF, hB⟩ H; refine p_r ?_; replace hF := hF.kp); obtain ⟨b6, p6, m6, c6, rfl⟩ := hB.form; have HB6 := hid hB; clear hB)
      (refine pl_ld2 ?_ ?_)
      ((refine p_c H rfl rfl Tryz.func32 (fromBig_any (bv HB6).ar (by omega) (by omega) (HT.out.fr H.fr)) ?_; clear H; rintro e w1 ⟨v7, rfl, hF, hD⟩ H; refine p_r ?_; replace hF := hF.kp); replace hD := hD.low (g := G) (by omega); rw [HY1.out] at hD; have HD7 := hid hD; obtain ⟨m7, e7, b7, p7, n7, c7, rfl, hN, hB⟩ := hD; have HN7 := hid hN; have HB7 := hid hB; clear hN hB)
      (revert H; refine p_g ?_; intro g w1 hg hf H; (first | replace hf := hf.kp | clear hf))
      (revert H; refine p_sF ?_; intro w1 hf H hk; clear hf; change Kp _ _ at hk)
      (revert H; refine p_sF ?_; intro w1 hf H hk; clear hf; change Kp _ _ at hk)
      (refine pl_done ?_)
      rotate_left
      (revert H; refine p_g ?_; intro g w1 hg hf H; (first | replace hf := hf.kp | clear hf))
      ((refine p_c H rfl rfl Tryz.func32 (fromBig_any (bv HB6).ar (by omega) (by omega) (HT.out.fr H.fr)) ?_; clear H; rintro e w1 ⟨v7, rfl, hF, hD⟩ H; refine p_r ?_; replace hF := hF.kp); replace hD := hD.low (g := G) (by omega); rw [HY1.out] at hD; have HD7 := hid hD; obtain ⟨m7, e7, b7, p7, n7, c7, rfl, hN, hB⟩ := hD; have HN7 := hid hN; have HB7 := hid hB; clear hN hB)
      (revert H; refine p_sF ?_; intro w1 hf H hk; clear hf; change Kp _ _ at hk)
      (revert H; refine p_sF ?_; intro w1 hf H hk; clear hf; change Kp _ _ at hk)
      (refine pl_done ?_)
      rotate_left
      (revert H; refine p_g ?_; intro g w1 hg hf H; (first | replace hf := hf.kp | clear hf))
      ((refine p_c H rfl rfl Tryz.func33 (mul_ar (bv HB3).ar (bv HB5).ar (by omega) (by omega)) ?_; clear H; rintro e w1 ⟨v6, rfl, hF, hB⟩ H; refine p_r ?_; replace hF := hF.kp); obtain ⟨b6, p6, m6, c6, rfl⟩ := hB.form; have HB6 := hid hB; clear hB)
      ((refine p_c H rfl rfl Tryz.func32 (fromBig_any (bv HB6).ar (by omega) (by omega) (HT.out.fr H.fr)) ?_; clear H; rintro e w1 ⟨v7, rfl, hF, hD⟩ H; refine p_r ?_; replace hF := hF.kp); replace hD := hD.low (g := G) (by omega); rw [HY1.out] at hD; have HD7 := hid hD; obtain ⟨m7, e7, b7, p7, n7, c7, rfl, hN, hB⟩ := hD; have HN7 := hid hN; have HB7 := hid hB; clear hN hB)
      (revert H; refine p_sF ?_; intro w1 hf H hk; clear hf; change Kp _ _ at hk)
      (revert H; refine p_sF ?_; intro w1 hf H hk; clear hf; change Kp _ _ at hk)
      (refine pl_done ?_)
      rotate_left
      (revert H; refine p_g ?_; intro g w1 hg hf H; (first | replace hf := hf.kp | clear hf))
      ((refine p_c H rfl rfl Tryz.func34 (tenTo_any _ bb rfl (by omega)) ?_; clear H; rintro e w1 ⟨v5, rfl, hF, hB⟩ H; refine p_r ?_; replace hF := hF.kp); rw [HTT.out] at hB; obtain ⟨b5, p5, m5, c5, rfl⟩ := hB.form; have HB5 := hid hB; clear hB)
      ((refine p_c H rfl rfl Tryz.func33 (mul_ar (bv HB3).ar (bv HB5).ar (by omega) (by omega)) ?_; clear H; rintro e w1 ⟨v6, rfl, hF, hB⟩ H; refine p_r ?_; replace hF := hF.kp); obtain ⟨b6, p6, m6, c6, rfl⟩ := hB.form; have HB6 := hid hB; clear hB)
      ((refine p_c H rfl rfl Tryz.func32 (fromBig_any (bv HB6).ar (by omega) (by omega) (HT.out.fr H.fr)) ?_; clear H; rintro e w1 ⟨v7, rfl, hF, hD⟩ H; refine p_r ?_; replace hF := hF.kp); replace hD := hD.low (g := G) (by omega); rw [HY1.out] at hD; have HD7 := hid hD; obtain ⟨m7, e7, b7, p7, n7, c7, rfl, hN, hB⟩ := hD; have HN7 := hid hN; have HB7 := hid hB; clear hN hB)
      (revert H; refine p_sF ?_; intro w1 hf H hk; clear hf; change Kp _ _ at hk)
      (revert H; refine p_sF ?_; intro w1 hf H hk; clear hf; change Kp _ _ at hk)
      (refine pl_done ?_)
      rotate_left
      (revert H; refine p_g ?_; intro g w1 hg hf H; (first | replace hf := hf.kp | clear hf))
      (refine pl_ld2 ?_ ?_)
      ((refine p_c H rfl rfl Tryz.func30 (ofA_any _ z1 (HT.out.fr H.fr)) ?_; clear H; rintro e w1 ⟨v4, rfl, hF, hD⟩ H; refine p_r ?_; replace hF := hF.kp); have HD4 := hid hD; obtain ⟨m4, e4, b4, p4, n4, c4, rfl, hN, hB⟩ := hD; have HN4 := hid hN; have HB4 := hid hB; clear hN hB)
      (refine pl_ld2 ?_ ?_)
      ((refine p_c H rfl rfl Tryz.func34 (tenTo_any _ bb rfl (by omega)) ?_; clear H; rintro e w1 ⟨v5, rfl, hF, hB⟩ H; refine p_r ?_; replace hF := hF.kp); rw [HTT.out] at hB; obtain ⟨b5, p5, m5, c5, rfl⟩ := hB.form; have HB5 := hid hB; clear hB)
      (refine pl_ld2 ?_ ?_)
      ((refine p_c H rfl rfl Tryz.func33 (mul_ar (bv HB3).ar (bv HB5).ar (by omega) (by omega)) ?_; clear H; rintro e w1 ⟨v6, rfl, hF, hB⟩ H; refine p_r ?_; replace hF := hF.kp); obtain ⟨b6, p6, m6, c6, rfl⟩ := hB.form; have HB6 := hid hB; clear hB)
      (refine pl_ld2 ?_ ?_)
      ((refine p_c H rfl rfl Tryz.func32 (fromBig_any (bv HB6).ar (by omega) (by omega) (HT.out.fr H.fr)) ?_; clear H; rintro e w1 ⟨v7, rfl, hF, hD⟩ H; refine p_r ?_; replace hF := hF.kp); replace hD := hD.low (g := G) (by omega); rw [HY1.out] at hD; have HD7 := hid hD; obtain ⟨m7, e7, b7, p7, n7, c7, rfl, hN, hB⟩ := hD; have HN7 := hid hN; have HB7 := hid hB; clear hN hB)
      (revert H; refine p_g ?_; intro g w1 hg hf H; (first | replace hf := hf.kp | clear hf))
      (revert H; refine p_sF ?_; intro w1 hf H hk; clear hf; change Kp _ _ at hk)
      (revert H; refine p_sF ?_; intro w1 hf H hk; clear hf; change Kp _ _ at hk)
      (refine pl_done ?_)
      rotate_left
      (revert H; refine p_g ?_; intro g w1 hg hf H; (first | replace hf := hf.kp | clear hf))
      ((refine p_c H rfl rfl Tryz.func32 (fromBig_any (bv HB6).ar (by omega) (by omega) (HT.out.fr H.fr)) ?_; clear H; rintro e w1 ⟨v7, rfl, hF, hD⟩ H; refine p_r ?_; replace hF := hF.kp); replace hD := hD.low (g := G) (by omega); rw [HY1.out] at hD; have HD7 := hid hD; obtain ⟨m7, e7, b7, p7, n7, c7, rfl, hN, hB⟩ := hD; have HN7 := hid hN; have HB7 := hid hB; clear hN hB)
      (revert H; refine p_sF ?_; intro w1 hf H hk; clear hf; change Kp _ _ at hk)
      (revert H; refine p_sF ?_; intro w1 hf H hk; clear hf; change Kp _ _ at hk)
      (refine pl_done ?_)
      rotate_left
      (revert H; refine p_g ?_; intro g w1 hg hf H; (first | replace hf := hf.kp | clear hf))
      ((refine p_c H rfl rfl Tryz.func33 (mul_ar (bv HB3).ar (bv HB5).ar (by omega) (by omega)) ?_; clear H; rintro e w1 ⟨v6, rfl, hF, hB⟩ H; refine p_r ?_; replace hF := hF.kp); obtain ⟨b6, p6, m6, c6, rfl⟩ := hB.form; have HB6 := hid hB; clear hB)
      ((refine p_c H rfl rfl Tryz.func32 (fromBig_any (bv HB6).ar (by omega) (by omega) (HT.out.fr H.fr)) ?_; clear H; rintro e w1 ⟨v7, rfl, hF, hD⟩ H; refine p_r ?_; replace hF := hF.kp); replace hD := hD.low (g := G) (by omega); rw [HY1.out] at hD; have HD7 := hid hD; obtain ⟨m7, e7, b7, p7, n7, c7, rfl, hN, hB⟩ := hD; have HN7 := hid hN; have HB7 := hid hB; clear hN hB)
      (revert H; refine p_sF ?_; intro w1 hf H hk; clear hf; change Kp _ _ at hk)
      (revert H; refine p_sF ?_; intro w1 hf H hk; clear hf; change Kp _ _ at hk)
      (refine pl_done ?_)
      rotate_left
      (revert H; refine p_g ?_; intro g w1 hg hf H; (first | replace hf := hf.kp | clear hf))
      ((refine p_c H rfl rfl Tryz.func34 (tenTo_any _ bb rfl (by omega)) ?_; clear H; rintro e w1 ⟨v5, rfl, hF, hB⟩ H; refine p_r ?_; replace hF := hF.kp); rw [HTT.out] at hB; obtain ⟨b5, p5, m5, c5, rfl⟩ := hB.form; have HB5 := hid hB; clear hB)
      ((refine p_c H rfl rfl Tryz.func33 (mul_ar (bv HB3).ar (bv HB5).ar (by omega) (by omega)) ?_; clear H; rintro e w1 ⟨v6, rfl, hF, hB⟩ H; refine p_r ?_; replace hF := hF.kp); obtain ⟨b6, p6, m6, c6, rfl⟩ := hB.form; have HB6 := hid hB; clear hB)
      ((refine p_c H rfl rfl Tryz.func32 (fromBig_any (bv HB6).ar (by omega) (by omega) (HT.out.fr H.fr)) ?_; clear H; rintro e w1 ⟨v7, rfl, hF, hD⟩ H; refine p_r ?_; replace hF := hF.kp); replace hD := hD.low (g := G) (by omega); rw [HY1.out] at hD; have HD7 := hid hD; obtain ⟨m7, e7, b7, p7, n7, c7, rfl, hN, hB⟩ := hD; have HN7 := hid hN; have HB7 := hid hB; clear hN hB)
      (revert H; refine p_sF ?_; intro w1 hf H hk; clear hf; change Kp _ _ at hk)
      (revert H; refine p_sF ?_; intro w1 hf H hk; clear hf; change Kp _ _ at hk)
      (refine pl_done ?_)
      rotate_left
      (revert H; refine p_g ?_; intro g w1 hg hf H; (first | replace hf := hf.kp | clear hf))
      ((refine p_c H rfl rfl Tryz.func30 (ofA_any _ z1 (HT.out.fr H.fr)) ?_; clear H; rintro e w1 ⟨v4, rfl, hF, hD⟩ H; refine p_r ?_; replace hF := hF.kp); have HD4 := hid hD; obtain ⟨m4, e4, b4, p4, n4, c4, rfl, hN, hB⟩ := hD; have HN4 := hid hN; have HB4 := hid hB; clear hN hB)
      ((refine p_c H rfl rfl Tryz.func34 (tenTo_any _ bb rfl (by omega)) ?_; clear H; rintro e w1 ⟨v5, rfl, hF, hB⟩ H; refine p_r ?_; replace hF := hF.kp); rw [HTT.out] at hB; obtain ⟨b5, p5, m5, c5, rfl⟩ := hB.form; have HB5 := hid hB; clear hB)
      ((refine p_c H rfl rfl Tryz.func33 (mul_ar (bv HB3).ar (bv HB5).ar (by omega) (by omega)) ?_; clear H; rintro e w1 ⟨v6, rfl, hF, hB⟩ H; refine p_r ?_; replace hF := hF.kp); obtain ⟨b6, p6, m6, c6, rfl⟩ := hB.form; have HB6 := hid hB; clear hB)
      ((refine p_c H rfl rfl Tryz.func32 (fromBig_any (bv HB6).ar (by omega) (by omega) (HT.out.fr H.fr)) ?_; clear H; rintro e w1 ⟨v7, rfl, hF, hD⟩ H; refine p_r ?_; replace hF := hF.kp); replace hD := hD.low (g := G) (by omega); rw [HY1.out] at hD; have HD7 := hid hD; obtain ⟨m7, e7, b7, p7, n7, c7, rfl, hN, hB⟩ := hD; have HN7 := hid hN; have HB7 := hid hB; clear hN hB)
      (revert H; refine p_sF ?_; intro w1 hf H hk; clear hf; change Kp _ _ at hk)
      (revert H; refine p_sF ?_; intro w1 hf H hk; clear hf; change Kp _ _ at hk)
      (refine pl_done ?_)
      rotate_left
      (revert H; refine p_g ?_; intro g w1 hg hf H; (first | replace hf := hf.kp | clear hf))
      (refine pl_ld2 ?_ ?_)
      ((refine p_c H rfl rfl Tryz.func30 (ofA_any _ z1 (HT.out.fr H.fr)) ?_; clear H; rintro e w1 ⟨v4, rfl, hF, hD⟩ H; refine p_r ?_; replace hF := hF.kp); have HD4 := hid hD; obtain ⟨m4, e4, b4, p4, n4, c4, rfl, hN, hB⟩ := hD; have HN4 := hid hN; have HB4 := hid hB; clear hN hB)
      (refine pl_ld2 ?_ ?_)
      ((refine p_c H rfl rfl Tryz.func34 (tenTo_any _ bb rfl (by omega)) ?_; clear H; rintro e w1 ⟨v5, rfl, hF, hB⟩ H; refine p_r ?_; replace hF := hF.kp); rw [HTT.out] at hB; obtain ⟨b5, p5, m5, c5, rfl⟩ := hB.form; have HB5 := hid hB; clear hB)
      (refine pl_ld2 ?_ ?_)
      ((refine p_c H rfl rfl Tryz.func33 (mul_ar (bv HB3).ar (bv HB5).ar (by omega) (by omega)) ?_; clear H; rintro e w1 ⟨v6, rfl, hF, hB⟩ H; refine p_r ?_; replace hF := hF.kp); obtain ⟨b6, p6, m6, c6, rfl⟩ := hB.form; have HB6 := hid hB; clear hB)
      (refine pl_ld2 ?_ ?_)
      ((refine p_c H rfl rfl Tryz.func32 (fromBig_any (bv HB6).ar (by omega) (by omega) (HT.out.fr H.fr)) ?_; clear H; rintro e w1 ⟨v7, rfl, hF, hD⟩ H; refine p_r ?_; replace hF := hF.kp); replace hD := hD.low (g := G) (by omega); rw [HY1.out] at hD; have HD7 := hid hD; obtain ⟨m7, e7, b7, p7, n7, c7, rfl, hN, hB⟩ := hD; have HN7 := hid hN; have HB7 := hid hB; clear hN hB)
      (revert H; refine p_g ?_; intro g w1 hg hf H; (first | replace hf := hf.kp | clear hf))
      (revert H; refine p_sF ?_; intro w1 hf H hk; clear hf; change Kp _ _ at hk)
      (revert H; refine p_sF ?_; intro w1 hf H hk; clear hf; change Kp _ _ at hk)
      (refine pl_done ?_)
      rotate_left
      (revert H; refine p_g ?_; intro g w1 hg hf H; (first | replace hf := hf.kp | clear hf))
      ((refine p_c H rfl rfl Tryz.func32 (fromBig_any (bv HB6).ar (by omega) (by omega) (HT.out.fr H.fr)) ?_; clear H; rintro e w1 ⟨v7, rfl, hF, hD⟩ H; refine p_r ?_; replace hF := hF.kp); replace hD := hD.low (g := G) (by omega); rw [HY1.out] at hD; have HD7 := hid hD; obtain ⟨m7, e7, b7, p7, n7, c7, rfl, hN, hB⟩ := hD; have HN7 := hid hN; have HB7 := hid hB; clear hN hB)
      (revert H; refine p_sF ?_; intro w1 hf H hk; clear hf; change Kp _ _ at hk)
      (revert H; refine p_sF ?_; intro w1 hf H hk; clear hf; change Kp _ _ at hk)
      (refine pl_done ?_)
      rotate_left
      (revert H; refine p_g ?_; intro g w1 hg hf H; (first | replace hf := hf.kp | clear hf))
      ((refine p_c H rfl rfl Tryz.func33 (mul_ar (bv HB3).ar (bv HB5).ar (by omega) (by omega)) ?_; clear H; rintro e w1 ⟨v6, rfl, hF, hB⟩ H; refine p_r ?_; replace hF := hF.kp); obtain ⟨b6, p6, m6, c6, rfl⟩ := hB.form; have HB6 := hid hB; clear hB)
      ((refine p_c H rfl rfl Tryz.func32 (fromBig_any (bv HB6).ar (by omega) (by omega) (HT.out.fr H.fr)) ?_; clear H; rintro e w1 ⟨v7, rfl, hF, hD⟩ H; refine p_r ?_; replace hF := hF.kp); replace hD := hD.low (g := G) (by omega); rw [HY1.out] at hD; have HD7 := hid hD; obtain ⟨m7, e7, b7, p7, n7, c7, rfl, hN, hB⟩ := hD; have HN7 := hid hN; have HB7 := hid hB; clear hN hB)
      (revert H; refine p_sF ?_; intro w1 hf H hk; clear hf; change Kp _ _ at hk)
      (revert H; refine p_sF ?_; intro w1 hf H hk; clear hf; change Kp _ _ at hk)
      (refine pl_done ?_)
      rotate_left
      (revert H; refine p_g ?_; intro g w1 hg hf H; (first | replace hf := hf.kp | clear hf))
      ((refine p_c H rfl rfl Tryz.func34 (tenTo_any _ bb rfl (by omega)) ?_; clear H; rintro e w1 ⟨v5, rfl, hF, hB⟩ H; refine p_r ?_; replace hF := hF.kp); rw [HTT.out] at hB; obtain ⟨b5, p5, m5, c5, rfl⟩ := hB.form; have HB5 := hid hB; clear hB)
      ((refine p_c H rfl rfl Tryz.func33 (mul_ar (bv HB3).ar (bv HB5).ar (by omega) (by omega)) ?_; clear H; rintro e w1 ⟨v6, rfl, hF, hB⟩ H; refine p_r ?_; replace hF := hF.kp); obtain ⟨b6, p6, m6, c6, rfl⟩ := hB.form; have HB6 := hid hB; clear hB)
      ((refine p_c H rfl rfl Tryz.func32 (fromBig_any (bv HB6).ar (by omega) (by omega) (HT.out.fr H.fr)) ?_; clear H; rintro e w1 ⟨v7, rfl, hF, hD⟩ H; refine p_r ?_; replace hF := hF.kp); replace hD := hD.low (g := G) (by omega); rw [HY1.out] at hD; have HD7 := hid hD; obtain ⟨m7, e7, b7, p7, n7, c7, rfl, hN, hB⟩ := hD; have HN7 := hid hN; have HB7 := hid hB; clear hN hB)
      (revert H; refine p_sF ?_; intro w1 hf H hk; clear hf; change Kp _ _ at hk)
      (revert H; refine p_sF ?_; intro w1 hf H hk; clear hf; change Kp _ _ at hk)
      (refine pl_done ?_)
      rotate_left
      (revert H; refine p_g ?_; intro g w1 hg hf H; (first | replace hf := hf.kp | clear hf))
      ((refine p_c H rfl rfl Tryz.func30 (ofA_any _ z1 (HT.out.fr H.fr)) ?_; clear H; rintro e w1 ⟨v4, rfl, hF, hD⟩ H; refine p_r ?_; replace hF := hF.kp); have HD4 := hid hD; obtain ⟨m4, e4, b4, p4, n4, c4, rfl, hN, hB⟩ := hD; have HN4 := hid hN; have HB4 := hid hB; clear hN hB)
      ((refine p_c H rfl rfl Tryz.func34 (tenTo_any _ bb rfl (by omega)) ?_; clear H; rintro e w1 ⟨v5, rfl, hF, hB⟩ H; refine p_r ?_; replace hF := hF.kp); rw [HTT.out] at hB; obtain ⟨b5, p5, m5, c5, rfl⟩ := hB.form; have HB5 := hid hB; clear hB)
      ((refine p_c H rfl rfl Tryz.func33 (mul_ar (bv HB3).ar (bv HB5).ar (by omega) (by omega)) ?_; clear H; rintro e w1 ⟨v6, rfl, hF, hB⟩ H; refine p_r ?_; replace hF := hF.kp); obtain ⟨b6, p6, m6, c6, rfl⟩ := hB.form; have HB6 := hid hB; clear hB)
      ((refine p_c H rfl rfl Tryz.func32 (fromBig_any (bv HB6).ar (by omega) (by omega) (HT.out.fr H.fr)) ?_; clear H; rintro e w1 ⟨v7, rfl, hF, hD⟩ H; refine p_r ?_; replace hF := hF.kp); replace hD := hD.low (g := G) (by omega); rw [HY1.out] at hD; have HD7 := hid hD; obtain ⟨m7, e7, b7, p7, n7, c7, rfl, hN, hB⟩ := hD; have HN7 := hid hN; have HB7 := hid hB; clear hN hB)
      (revert H; refine p_sF ?_; intro w1 hf H hk; clear hf; change Kp _ _ at hk)
      (revert H; refine p_sF ?_; intro w1 hf H hk; clear hf; change Kp _ _ at hk)
      (refine pl_done ?_)
      rotate_left
      (revert H; refine p_g ?_; intro g w1 hg hf H; (first | replace hf := hf.kp | clear hf))
      (refine pl_ld2 ?_ ?_)
      ((refine p_c H rfl rfl Tryz.func31 (absF_any _ hb HK3.out HZ) ?_; clear H; rintro e w1 ⟨rfl, hF⟩ H; refine p_r ?_; replace hF := hF.kp); skip)
      (refine pl_ld2 ?_ ?_)
      ((refine p_c H rfl rfl Tryz.func30 (ofA_any _ z1 (HT.out.fr H.fr)) ?_; clear H; rintro e w1 ⟨v4, rfl, hF, hD⟩ H; refine p_r ?_; replace hF := hF.kp); have HD4 := hid hD; obtain ⟨m4, e4, b4, p4, n4, c4, rfl, hN, hB⟩ := hD; have HN4 := hid hN; have HB4 := hid hB; clear hN hB)
      (refine pl_ld2 ?_ ?_)
      ((refine p_c H rfl rfl Tryz.func34 (tenTo_any _ bb rfl (by omega)) ?_; clear H; rintro e w1 ⟨v5, rfl, hF, hB⟩ H; refine p_r ?_; replace hF := hF.kp); rw [HTT.out] at hB; obtain ⟨b5, p5, m5, c5, rfl⟩ := hB.form; have HB5 := hid hB; clear hB)
      (refine pl_ld2 ?_ ?_)
      ((refine p_c H rfl rfl Tryz.func33 (mul_ar (bv HB3).ar (bv HB5).ar (by omega) (by omega)) ?_; clear H; rintro e w1 ⟨v6, rfl, hF, hB⟩ H; refine p_r ?_; replace hF := hF.kp); obtain ⟨b6, p6, m6, c6, rfl⟩ := hB.form; have HB6 := hid hB; clear hB)
      (refine pl_ld2 ?_ ?_)
      ((refine p_c H rfl rfl Tryz.func32 (fromBig_any (bv HB6).ar (by omega) (by omega) (HT.out.fr H.fr)) ?_; clear H; rintro e w1 ⟨v7, rfl, hF, hD⟩ H; refine p_r ?_; replace hF := hF.kp); replace hD := hD.low (g := G) (by omega); rw [HY1.out] at hD; have HD7 := hid hD; obtain ⟨m7, e7, b7, p7, n7, c7, rfl, hN, hB⟩ := hD; have HN7 := hid hN; have HB7 := hid hB; clear hN hB)
      (revert H; refine p_g ?_; intro g w1 hg hf H; (first | replace hf := hf.kp | clear hf))
      (revert H; refine p_sF ?_; intro w1 hf H hk; clear hf; change Kp _ _ at hk)
      (revert H; refine p_sF ?_; intro w1 hf H hk; clear hf; change Kp _ _ at hk)
      (refine pl_done ?_)
      rotate_left
      (revert H; refine p_g ?_; intro g w1 hg hf H; (first | replace hf := hf.kp | clear hf))
      ((refine p_c H rfl rfl Tryz.func32 (fromBig_any (bv HB6).ar (by omega) (by omega) (HT.out.fr H.fr)) ?_; clear H; rintro e w1 ⟨v7, rfl, hF, hD⟩ H; refine p_r ?_; replace hF := hF.kp); replace hD := hD.low (g := G) (by omega); rw [HY1.out] at hD; have HD7 := hid hD; obtain ⟨m7, e7, b7, p7, n7, c7, rfl, hN, hB⟩ := hD; have HN7 := hid hN; have HB7 := hid hB; clear hN hB)
      (revert H; refine p_sF ?_; intro w1 hf H hk; clear hf; change Kp _ _ at hk)
      (revert H; refine p_sF ?_; intro w1 hf H hk; clear hf; change Kp _ _ at hk)
      (refine pl_done ?_)
      rotate_left
      (revert H; refine p_g ?_; intro g w1 hg hf H; (first | replace hf := hf.kp | clear hf))
      ((refine p_c H rfl rfl Tryz.func33 (mul_ar (bv HB3).ar (bv HB5).ar (by omega) (by omega)) ?_; clear H; rintro e w1 ⟨v6, rfl, hF, hB⟩ H; refine p_r ?_; replace hF := hF.kp); obtain ⟨b6, p6, m6, c6, rfl⟩ := hB.form; have HB6 := hid hB; clear hB)
      ((refine p_c H rfl rfl Tryz.func32 (fromBig_any (bv HB6).ar (by omega) (by omega) (HT.out.fr H.fr)) ?_; clear H; rintro e w1 ⟨v7, rfl, hF, hD⟩ H; refine p_r ?_; replace hF := hF.kp); replace hD := hD.low (g := G) (by omega); rw [HY1.out] at hD; have HD7 := hid hD; obtain ⟨m7, e7, b7, p7, n7, c7, rfl, hN, hB⟩ := hD; have HN7 := hid hN; have HB7 := hid hB; clear hN hB)
      (revert H; refine p_sF ?_; intro w1 hf H hk; clear hf; change Kp _ _ at hk)
      (revert H; refine p_sF ?_; intro w1 hf H hk; clear hf; change Kp _ _ at hk)
      (refine pl_done ?_)
      rotate_left
      (revert H; refine p_g ?_; intro g w1 hg hf H; (first | replace hf := hf.kp | clear hf))
      ((refine p_c H rfl rfl Tryz.func34 (tenTo_any _ bb rfl (by omega)) ?_; clear H; rintro e w1 ⟨v5, rfl, hF, hB⟩ H; refine p_r ?_; replace hF := hF.kp); rw [HTT.out] at hB; obtain ⟨b5, p5, m5, c5, rfl⟩ := hB.form; have HB5 := hid hB; clear hB)
      ((refine p_c H rfl rfl Tryz.func33 (mul_ar (bv HB3).ar (bv HB5).ar (by omega) (by omega)) ?_; clear H; rintro e w1 ⟨v6, rfl, hF, hB⟩ H; refine p_r ?_; replace hF := hF.kp); obtain ⟨b6, p6, m6, c6, rfl⟩ := hB.form; have HB6 := hid hB; clear hB)
      ((refine p_c H rfl rfl Tryz.func32 (fromBig_any (bv HB6).ar (by omega) (by omega) (HT.out.fr H.fr)) ?_; clear H; rintro e w1 ⟨v7, rfl, hF, hD⟩ H; refine p_r ?_; replace hF := hF.kp); replace hD := hD.low (g := G) (by omega); rw [HY1.out] at hD; have HD7 := hid hD; obtain ⟨m7, e7, b7, p7, n7, c7, rfl, hN, hB⟩ := hD; have HN7 := hid hN; have HB7 := hid hB; clear hN hB)
      (revert H; refine p_sF ?_; intro w1 hf H hk; clear hf; change Kp _ _ at hk)
      (revert H; refine p_sF ?_; intro w1 hf H hk; clear hf; change Kp _ _ at hk)
      (refine pl_done ?_)
      rotate_left
      (revert H; refine p_g ?_; intro g w1 hg hf H; (first | replace hf := hf.kp | clear hf))
      ((refine p_c H rfl rfl Tryz.func30 (ofA_any _ z1 (HT.out.fr H.fr)) ?_; clear H; rintro e w1 ⟨v4, rfl, hF, hD⟩ H; refine p_r ?_; replace hF := hF.kp); have HD4 := hid hD; obtain ⟨m4, e4, b4, p4, n4, c4, rfl, hN, hB⟩ := hD; have HN4 := hid hN; have HB4 := hid hB; clear hN hB)
      ((refine p_c H rfl rfl Tryz.func34 (tenTo_any _ bb rfl (by omega)) ?_; clear H; rintro e w1 ⟨v5, rfl, hF, hB⟩ H; refine p_r ?_; replace hF := hF.kp); rw [HTT.out] at hB; obtain ⟨b5, p5, m5, c5, rfl⟩ := hB.form; have HB5 := hid hB; clear hB)
      ((refine p_c H rfl rfl Tryz.func33 (mul_ar (bv HB3).ar (bv HB5).ar (by omega) (by omega)) ?_; clear H; rintro e w1 ⟨v6, rfl, hF, hB⟩ H; refine p_r ?_; replace hF := hF.kp); obtain ⟨b6, p6, m6, c6, rfl⟩ := hB.form; have HB6 := hid hB; clear hB)
      ((refine p_c H rfl rfl Tryz.func32 (fromBig_any (bv HB6).ar (by omega) (by omega) (HT.out.fr H.fr)) ?_; clear H; rintro e w1 ⟨v7, rfl, hF, hD⟩ H; refine p_r ?_; replace hF := hF.kp); replace hD := hD.low (g := G) (by omega); rw [HY1.out] at hD; have HD7 := hid hD; obtain ⟨m7, e7, b7, p7, n7, c7, rfl, hN, hB⟩ := hD; have HN7 := hid hN; have HB7 := hid hB; clear hN hB)
      (revert H; refine p_sF ?_; intro w1 hf H hk; clear hf; change Kp _ _ at hk)
      (revert H; refine p_sF ?_; intro w1 hf H hk; clear hf; change Kp _ _ at hk)
      (refine pl_done ?_)
      rotate_left
      (revert H; refine p_g ?_; intro g w1 hg hf H; (first | replace hf := hf.kp | clear hf))
      ((refine p_c H rfl rfl Tryz.func31 (absF_any _ hb HK3.out HZ) ?_; clear H; rintro e w1 ⟨rfl, hF⟩ H; refine p_r ?_; replace hF := hF.kp); skip)
      ((refine p_c H rfl rfl Tryz.func30 (ofA_any _ z1 (HT.out.fr H.fr)) ?_; clear H; rintro e w1 ⟨v4, rfl, hF, hD⟩ H; refine p_r ?_; replace hF := hF.kp); have HD4 := hid hD; obtain ⟨m4, e4, b4, p4, n4, c4, rfl, hN, hB⟩ := hD; have HN4 := hid hN; have HB4 := hid hB; clear hN hB)
      ((refine p_c H rfl rfl Tryz.func34 (tenTo_any _ bb rfl (by omega)) ?_; clear H; rintro e w1 ⟨v5, rfl, hF, hB⟩ H; refine p_r ?_; replace hF := hF.kp); rw [HTT.out] at hB; obtain ⟨b5, p5, m5, c5, rfl⟩ := hB.form; have HB5 := hid hB; clear hB)
      ((refine p_c H rfl rfl Tryz.func33 (mul_ar (bv HB3).ar (bv HB5).ar (by omega) (by omega)) ?_; clear H; rintro e w1 ⟨v6, rfl, hF, hB⟩ H; refine p_r ?_; replace hF := hF.kp); obtain ⟨b6, p6, m6, c6, rfl⟩ := hB.form; have HB6 := hid hB; clear hB)
      ((refine p_c H rfl rfl Tryz.func32 (fromBig_any (bv HB6).ar (by omega) (by omega) (HT.out.fr H.fr)) ?_; clear H; rintro e w1 ⟨v7, rfl, hF, hD⟩ H; refine p_r ?_; replace hF := hF.kp); replace hD := hD.low (g := G) (by omega); rw [HY1.out] at hD; have HD7 := hid hD; obtain ⟨m7, e7, b7, p7, n7, c7, rfl, hN, hB⟩ := hD; have HN7 := hid hN; have HB7 := hid hB; clear hN hB)
      (revert H; refine p_sF ?_; intro w1 hf H hk; clear hf; change Kp _ _ at hk)
      (revert H; refine p_sF ?_; intro w1 hf H hk; clear hf; change Kp _ _ at hk)
      (refine pl_done ?_)
      rotate_left
      (revert H; refine p_g ?_; intro g w1 hg hf H; (first | replace hf := hf.kp | clear hf))
      (refine pl_ld2 ?_ ?_)
      ((refine p_c H rfl rfl Tryz.func31 (absF_any _ hb HK3.out HZ) ?_; clear H; rintro e w1 ⟨rfl, hF⟩ H; refine p_r ?_; replace hF := hF.kp); skip)
      (refine pl_ld2 ?_ ?_)
      ((refine p_c H rfl rfl Tryz.func30 (ofA_any _ z1 (HT.out.fr H.fr)) ?_; clear H; rintro e w1 ⟨v4, rfl, hF, hD⟩ H; refine p_r ?_; replace hF := hF.kp); have HD4 := hid hD; obtain ⟨m4, e4, b4, p4, n4, c4, rfl, hN, hB⟩ := hD; have HN4 := hid hN; have HB4 := hid hB; clear hN hB)
      (refine pl_ld2 ?_ ?_)
      ((refine p_c H rfl rfl Tryz.func34 (tenTo_any _ bb rfl (by omega)) ?_; clear H; rintro e w1 ⟨v5, rfl, hF, hB⟩ H; refine p_r ?_; replace hF := hF.kp); rw [HTT.out] at hB; obtain ⟨b5, p5, m5, c5, rfl⟩ := hB.form; have HB5 := hid hB; clear hB)
      (refine pl_ld2 ?_ ?_)
      ((refine p_c H rfl rfl Tryz.func33 (mul_ar (bv HB3).ar (bv HB5).ar (by omega) (by omega)) ?_; clear H; rintro e w1 ⟨v6, rfl, hF, hB⟩ H; refine p_r ?_; replace hF := hF.kp); obtain ⟨b6, p6, m6, c6, rfl⟩ := hB.form; have HB6 := hid hB; clear hB)
      (refine pl_ld2 ?_ ?_)
      ((refine p_c H rfl rfl Tryz.func32 (fromBig_any (bv HB6).ar (by omega) (by omega) (HT.out.fr H.fr)) ?_; clear H; rintro e w1 ⟨v7, rfl, hF, hD⟩ H; refine p_r ?_; replace hF := hF.kp); replace hD := hD.low (g := G) (by omega); rw [HY1.out] at hD; have HD7 := hid hD; obtain ⟨m7, e7, b7, p7, n7, c7, rfl, hN, hB⟩ := hD; have HN7 := hid hN; have HB7 := hid hB; clear hN hB)
      (revert H; refine p_g ?_; intro g w1 hg hf H; (first | replace hf := hf.kp | clear hf))
      (revert H; refine p_sF ?_; intro w1 hf H hk; clear hf; change Kp _ _ at hk)
      (revert H; refine p_sF ?_; intro w1 hf H hk; clear hf; change Kp _ _ at hk)
      (refine pl_done ?_)
      rotate_left
      (revert H; refine p_g ?_; intro g w1 hg hf H; (first | replace hf := hf.kp | clear hf))
      ((refine p_c H rfl rfl Tryz.func32 (fromBig_any (bv HB6).ar (by omega) (by omega) (HT.out.fr H.fr)) ?_; clear H; rintro e w1 ⟨v7, rfl, hF, hD⟩ H; refine p_r ?_; replace hF := hF.kp); replace hD := hD.low (g := G) (by omega); rw [HY1.out] at hD; have HD7 := hid hD; obtain ⟨m7, e7, b7, p7, n7, c7, rfl, hN, hB⟩ := hD; have HN7 := hid hN; have HB7 := hid hB; clear hN hB)
      (revert H; refine p_sF ?_; intro w1 hf H hk; clear hf; change Kp _ _ at hk)
      (revert H; refine p_sF ?_; intro w1 hf H hk; clear hf; change Kp _ _ at hk)
      (refine pl_done ?_)
      rotate_left
      (revert H; refine p_g ?_; intro g w1 hg hf H; (first | replace hf := hf.kp | clear hf))
      ((refine p_c H rfl rfl Tryz.func33 (mul_ar (bv HB3).ar (bv HB5).ar (by omega) (by omega)) ?_; clear H; rintro e w1 ⟨v6, rfl, hF, hB⟩ H; refine p_r ?_; replace hF := hF.kp); obtain ⟨b6, p6, m6, c6, rfl⟩ := hB.form; have HB6 := hid hB; clear hB)
      ((refine p_c H rfl rfl Tryz.func32 (fromBig_any (bv HB6).ar (by omega) (by omega) (HT.out.fr H.fr)) ?_; clear H; rintro e w1 ⟨v7, rfl, hF, hD⟩ H; refine p_r ?_; replace hF := hF.kp); replace hD := hD.low (g := G) (by omega); rw [HY1.out] at hD; have HD7 := hid hD; obtain ⟨m7, e7, b7, p7, n7, c7, rfl, hN, hB⟩ := hD; have HN7 := hid hN; have HB7 := hid hB; clear hN hB)
      (revert H; refine p_sF ?_; intro w1 hf H hk; clear hf; change Kp _ _ at hk)
      (revert H; refine p_sF ?_; intro w1 hf H hk; clear hf; change Kp _ _ at hk)
      (refine pl_done ?_)
      rotate_left
      (revert H; refine p_g ?_; intro g w1 hg hf H; (first | replace hf := hf.kp | clear hf))
      ((refine p_c H rfl rfl Tryz.func34 (tenTo_any _ bb rfl (by omega)) ?_; clear H; rintro e w1 ⟨v5, rfl, hF, hB⟩ H; refine p_r ?_; replace hF := hF.kp); rw [HTT.out] at hB; obtain ⟨b5, p5, m5, c5, rfl⟩ := hB.form; have HB5 := hid hB; clear hB)
      ((refine p_c H rfl rfl Tryz.func33 (mul_ar (bv HB3).ar (bv HB5).ar (by omega) (by omega)) ?_; clear H; rintro e w1 ⟨v6, rfl, hF, hB⟩ H; refine p_r ?_; replace hF := hF.kp); obtain ⟨b6, p6, m6, c6, rfl⟩ := hB.form; have HB6 := hid hB; clear hB)
      ((refine p_c H rfl rfl Tryz.func32 (fromBig_any (bv HB6).ar (by omega) (by omega) (HT.out.fr H.fr)) ?_; clear H; rintro e w1 ⟨v7, rfl, hF, hD⟩ H; refine p_r ?_; replace hF := hF.kp); replace hD := hD.low (g := G) (by omega); rw [HY1.out] at hD; have HD7 := hid hD; obtain ⟨m7, e7, b7, p7, n7, c7, rfl, hN, hB⟩ := hD; have HN7 := hid hN; have HB7 := hid hB; clear hN hB)
      (revert H; refine p_sF ?_; intro w1 hf H hk; clear hf; change Kp _ _ at hk)
      (revert H; refine p_sF ?_; intro w1 hf H hk; clear hf; change Kp _ _ at hk)
      (refine pl_done ?_)
      rotate_left
      (revert H; refine p_g ?_; intro g w1 hg hf H; (first | replace hf := hf.kp | clear hf))
      ((refine p_c H rfl rfl Tryz.func30 (ofA_any _ z1 (HT.out.fr H.fr)) ?_; clear H; rintro e w1 ⟨v4, rfl, hF, hD⟩ H; refine p_r ?_; replace hF := hF.kp); have HD4 := hid hD; obtain ⟨m4, e4, b4, p4, n4, c4, rfl, hN, hB⟩ := hD; have HN4 := hid hN; have HB4 := hid hB; clear hN hB)
      ((refine p_c H rfl rfl Tryz.func34 (tenTo_any _ bb rfl (by omega)) ?_; clear H; rintro e w1 ⟨v5, rfl, hF, hB⟩ H; refine p_r ?_; replace hF := hF.kp); rw [HTT.out] at hB; obtain ⟨b5, p5, m5, c5, rfl⟩ := hB.form; have HB5 := hid hB; clear hB)
      ((refine p_c H rfl rfl Tryz.func33 (mul_ar (bv HB3).ar (bv HB5).ar (by omega) (by omega)) ?_; clear H; rintro e w1 ⟨v6, rfl, hF, hB⟩ H; refine p_r ?_; replace hF := hF.kp); obtain ⟨b6, p6, m6, c6, rfl⟩ := hB.form; have HB6 := hid hB; clear hB)
      ((refine p_c H rfl rfl Tryz.func32 (fromBig_any (bv HB6).ar (by omega) (by omega) (HT.out.fr H.fr)) ?_; clear H; rintro e w1 ⟨v7, rfl, hF, hD⟩ H; refine p_r ?_; replace hF := hF.kp); replace hD := hD.low (g := G) (by omega); rw [HY1.out] at hD; have HD7 := hid hD; obtain ⟨m7, e7, b7, p7, n7, c7, rfl, hN, hB⟩ := hD; have HN7 := hid hN; have HB7 := hid hB; clear hN hB)
      (revert H; refine p_sF ?_; intro w1 hf H hk; clear hf; change Kp _ _ at hk)
      (revert H; refine p_sF ?_; intro w1 hf H hk; clear hf; change Kp _ _ at hk)
      (refine pl_done ?_)
      rotate_left
      (revert H; refine p_g ?_; intro g w1 hg hf H; (first | replace hf := hf.kp | clear hf))
      ((refine p_c H rfl rfl Tryz.func31 (absF_any _ hb HK3.out HZ) ?_; clear H; rintro e w1 ⟨rfl, hF⟩ H; refine p_r ?_; replace hF := hF.kp); skip)
      ((refine p_c H rfl rfl Tryz.func30 (ofA_any _ z1 (HT.out.fr H.fr)) ?_; clear H; rintro e w1 ⟨v4, rfl, hF, hD⟩ H; refine p_r ?_; replace hF := hF.kp); have HD4 := hid hD; obtain ⟨m4, e4, b4, p4, n4, c4, rfl, hN, hB⟩ := hD; have HN4 := hid hN; have HB4 := hid hB; clear hN hB)
      ((refine p_c H rfl rfl Tryz.func34 (tenTo_any _ bb rfl (by omega)) ?_; clear H; rintro e w1 ⟨v5, rfl, hF, hB⟩ H; refine p_r ?_; replace hF := hF.kp); rw [HTT.out] at hB; obtain ⟨b5, p5, m5, c5, rfl⟩ := hB.form; have HB5 := hid hB; clear hB)
      ((refine p_c H rfl rfl Tryz.func33 (mul_ar (bv HB3).ar (bv HB5).ar (by omega) (by omega)) ?_; clear H; rintro e w1 ⟨v6, rfl, hF, hB⟩ H; refine p_r ?_; replace hF := hF.kp); obtain ⟨b6, p6, m6, c6, rfl⟩ := hB.form; have HB6 := hid hB; clear hB)
      ((refine p_c H rfl rfl Tryz.func32 (fromBig_any (bv HB6).ar (by omega) (by omega) (HT.out.fr H.fr)) ?_; clear H; rintro e w1 ⟨v7, rfl, hF, hD⟩ H; refine p_r ?_; replace hF := hF.kp); replace hD := hD.low (g := G) (by omega); rw [HY1.out] at hD; have HD7 := hid hD; obtain ⟨m7, e7, b7, p7, n7, c7, rfl, hN, hB⟩ := hD; have HN7 := hid hN; have HB7 := hid hB; clear hN hB)
      (revert H; refine p_sF ?_; intro w1 hf H hk; clear hf; change Kp _ _ at hk)
      (revert H; refine p_sF ?_; intro w1 hf H hk; clear hf; change Kp _ _ at hk)
      (refine pl_done ?_)
      rotate_left
      all_goals
        go_wp2_with (first | refine x_q H ?_ | refine x_cm (fun h => ?_) (fun h => ?_) | refine x_l H ?_ | refine x_e (ev_dyad rfl rfl rfl) ?_ | (revert H; refine x_sF ?_; intro w1 hf H hk; clear hf; change Kp _ _ at hk) | (revert H; (first | (refine x_g ?_; intro g w1 hg hf H) | (refine x_s ?_; intro w1 hf H)); (first | replace hf := hf.kp | clear hf)))
        go_meet
        case rel => exact ⟨_, _, _, _, _, _, _, _, _, _, _, _, rfl, rfl, rfl, by (refine Hp.arr H ?_; repeat (first | exact Pm.nil _ | (apply Pm.cons; · (repeat first | exact Rm.here _ | apply Rm.there)))), hid (dn HD4), hid (dn HD7)⟩
    case rest =>
      clear H HB3
      obtain ⟨g11, g12, b4, b7, p4, p7, n4, c4, n7, c7, e4, e7, rfl, rfl, rfl, H, HD4, HD7⟩ := hcut
      go_wp2_with (first | refine x_e (ev_maxH rfl rfl rfl HMB) ?_ | refine x_q H ?_)
      (refine x_c H (tenTo_any _ bb rfl (by omega)) ?_; clear H; rintro e w1 ⟨v5, rfl, hF, hB⟩ H; replace hF := hF.kp; rw [HTT.out] at hB; obtain ⟨b5, p5, m5, c5, rfl⟩ := hB.form; have HB5 := hid hB; clear hB)
      go_wp2_with (first | refine x_q H ?_ | refine x_cm (fun h => ?_) (fun h => ?_) | refine x_l H ?_ | refine x_e (ev_dyad rfl rfl rfl) ?_ | (revert H; refine x_sF ?_; intro w1 hf H hk; clear hf; change Kp _ _ at hk) | (revert H; (first | (refine x_g ?_; intro g w1 hg hf H) | (refine x_s ?_; intro w1 hf H)); (first | replace hf := hf.kp | clear hf)))
      (refine x_c H (fromBig_any (bv HB5).ar (by omega) (by omega) (HT.out.fr H.fr)) ?_; clear H; rintro e w1 ⟨v6, rfl, hF, hD⟩ H; replace hF := hF.kp; replace hD := hD.low (g := G) (by omega); rw [HU1.out] at hD; have HD6 := hid hD; obtain ⟨m6, e6, b6, p6, n6, c6, rfl, hN, hB⟩ := hD; have HN6 := hid hN; have HB6 := hid hB; clear hN hB)
      go_wp2_with (first | refine x_q H ?_ | refine x_cm (fun h => ?_) (fun h => ?_) | refine x_l H ?_ | refine x_e (ev_dyad rfl rfl rfl) ?_ | (revert H; refine x_sF ?_; intro w1 hf H hk; clear hf; change Kp _ _ at hk) | refine x_e (ev_negZ rfl rfl (by simp only [inr]; omega)) ?_ | refine x_e (ev_maxH rfl rfl rfl HMA) ?_ | (revert H; (first | (refine x_g ?_; intro g w1 hg hf H) | (refine x_s ?_; intro w1 hf H)); (first | replace hf := hf.kp | clear hf)))
      (refine x_c H (tenTo_any _ aa rfl (by omega)) ?_; clear H; rintro e w1 ⟨v8, rfl, hF, hB⟩ H; replace hF := hF.kp; rw [HSS.out] at hB; obtain ⟨b8, p8, m8, c8, rfl⟩ := hB.form; have HB8 := hid hB; clear hB)
      go_wp2_with (first | refine x_q H ?_ | refine x_cm (fun h => ?_) (fun h => ?_) | refine x_l H ?_ | refine x_e (ev_dyad rfl rfl rfl) ?_ | (revert H; refine x_sF ?_; intro w1 hf H hk; clear hf; change Kp _ _ at hk) | (revert H; (first | (refine x_g ?_; intro g w1 hg hf H) | (refine x_s ?_; intro w1 hf H)); (first | replace hf := hf.kp | clear hf)))
      (refine x_c H (fromBig_any (bv HB8).ar (by omega) (by omega) (HT.out.fr H.fr)) ?_; clear H; rintro e w1 ⟨v9, rfl, hF, hD⟩ H; replace hF := hF.kp; have HD9 := hid hD; obtain ⟨m9, e9, b9, p9, n9, c9, rfl, hN, hB⟩ := hD; have HN9 := hid hN; have HB9 := hid hB; clear hN hB)
      go_wp2_with (first | refine x_q H ?_ | refine x_cm (fun h => ?_) (fun h => ?_) | refine x_l H ?_ | refine x_e (ev_dyad rfl rfl rfl) ?_ | (revert H; refine x_sF ?_; intro w1 hf H hk; clear hf; change Kp _ _ at hk) | (revert H; (first | (refine x_g ?_; intro g w1 hg hf H) | (refine x_s ?_; intro w1 hf H)); (first | replace hf := hf.kp | clear hf)))
      (revert H; refine w_pF 14 (.st 0 (.st 1 (.st 3 (.st 7 (.ld 2 (.ld 4 (.ld 5 (.ld 6 (.ld 8 (.st 9 (.st 10 (.st 11 (.st 12 (.st 13 .done)))))))))))))) ?_; intro w1 hf H; (first | replace hf := hf.kp | clear hf))
      (refine p_l ?_)
      (refine p_l ?_)
      (refine p_l ?_)
      (refine p_l ?_)
      ((refine p_c H rfl rfl Tryz.func39 (mulD_any (dn HD4) (dn HD9) (by omega) (by omega) (by omega) (by omega) (HT.out.fr H.fr)) ?_; clear H; rintro e w1 ⟨v10, rfl, hF, hD⟩ H; refine p_r ?_; replace hF := hF.kp); replace hD := hD.low (g := G) (by omega); rw [HX1.out] at hD; have HD10 := hid hD; obtain ⟨m10, e10, b10, p10, n10, c10, rfl, hN, hB⟩ := hD; have HN10 := hid hN; have HB10 := hid hB; clear hN hB)
      ((refine p_c H rfl rfl Tryz.func38 (subD_any (dn HD10) (dn HD7) (by omega) (by omega) (by omega) (HT.out.fr H.fr)) ?_; clear H; rintro e w1 ⟨v11, rfl, hF, hD⟩ H; refine p_r ?_; replace hF := hF.kp); have HD11 := hid hD; obtain ⟨m11, e11, b11, p11, n11, c11, rfl, hN, hB⟩ := hD; have HN11 := hid hN; have HB11 := hid hB; clear hN hB)
      ((refine p_c H rfl rfl Tryz.func37 (absD_any (dn HD11) (by omega) (by omega) (HT.out.fr H.fr)) ?_; clear H; rintro e w1 ⟨v12, rfl, hF, hD⟩ H; refine p_r ?_; replace hF := hF.kp); rw [HV.out] at hD; have HD12 := hid hD; obtain ⟨m12, e12, b12, p12, n12, c12, rfl, hN, hB⟩ := hD; have HN12 := hid hN; have HB12 := hid hB; clear hN hB)
      ((refine p_c H rfl rfl Tryz.func36 (scaleD_any (dn HD12) (by omega) (by omega) (HT.out.fr H.fr)) ?_; clear H; rintro e w1 ⟨v13, rfl, hF, hD⟩ H; refine p_r ?_; replace hF := hF.kp); have HD13 := hid hD; obtain ⟨m13, e13, b13, p13, n13, c13, rfl, hN, hB⟩ := hD; have HN13 := hid hN; have HB13 := hid hB; clear hN hB)
      ((refine p_c H rfl rfl Tryz.func35 (cmpD_any (dn HD13) (dn HD6) (by omega) (by omega) (by omega) (HT.out.fr H.fr) HCM) ?_; clear H; rintro e w1 ⟨rfl, hF⟩ H; refine p_r ?_; replace hF := hF.kp); skip)
      iterate 5 refine p_q ?_
      (refine pl_done ?_)
      all_goals
        go_wp2_with (first | refine x_q H ?_ | refine x_cm (fun h => ?_) (fun h => ?_) | (revert H; (first | (refine x_g ?_; intro g w1 hg hf H) | (refine x_s ?_; intro w1 hf H)); (first | replace hf := hf.kp | clear hf)))
        (refine x_c H (awakeD_any _ (HT.out.fr H.fr)) ?_; clear H; rintro e w1 ⟨rfl, hF⟩ H; replace hF := hF.kp; skip)
        go_wp2_with (first | refine x_q H ?_ | refine x_cm (fun h => ?_) (fun h => ?_) | (revert H; (first | (refine x_g ?_; intro g w1 hg hf H) | (refine x_s ?_; intro w1 hf H)); (first | replace hf := hf.kp | clear hf)))
        go_ret
        exact ⟨rfl, H.fr⟩
  · go_enter Tryz.func10, Tryz.ntmps10
    go_wp2_with (first | refine x_q H ?_ | refine x_cm (fun h => ?_) (fun h => ?_) | (revert H; (first | (refine x_g ?_; intro g w1 hg hf H) | (refine x_s ?_; intro w1 hf H)); (first | replace hf := hf.kp | clear hf)))
    (refine x_c H (rkind_any _ hb HK) ?_; clear H; rintro e w1 ⟨rfl, hF⟩ H; replace hF := hF.kp; skip)
    go_wp2_with (first | refine x_q H ?_ | refine x_cm (fun h => ?_) (fun h => ?_) | (revert H; (first | (refine x_g ?_; intro g w1 hg hf H) | (refine x_s ?_; intro w1 hf H)); (first | replace hf := hf.kp | clear hf)))
    (refine x_c H (awakeD_any _ (HT.out.fr H.fr)) ?_; clear H; rintro e w1 ⟨rfl, hF⟩ H; replace hF := hF.kp; skip)
    go_wp2_with (first | refine x_q H ?_ | refine x_cm (fun h => ?_) (fun h => ?_) | (revert H; (first | (refine x_g ?_; intro g w1 hg hf H) | (refine x_s ?_; intro w1 hf H)); (first | replace hf := hf.kp | clear hf)))
    go_ret
    exact ⟨rfl, H.fr⟩
end Go.Proofs.YthbeeeclgbpopaaGreatDoor
