import Derived.Test.YthbeeeclgbpopaaGreatDoorYEa2
import Derived.Test.YthbeeeclgbpopaaGreatDoorYDc14
namespace Go.Proofs.YthbeeeclgbpopaaGreatDoor
open Go.RowKit
set_option linter.unusedSimpArgs false
set_option linter.unusedVariables false
set_option maxHeartbeats 8000000
set_option maxRecDepth 100000
theorem bl_ten (n : Nat) : bl (10 ^ n) ≤ 4 * n + 1 := bl_le (by
 have h1 : 10 ^ n ≤ 16 ^ n := Nat.pow_le_pow_left (by decide) n
 have h2 : (16 : Nat) ^ n = 2 ^ (4 * n) := by rw [Nat.pow_mul]
 rw [h2] at h1
 exact Nat.lt_of_le_of_lt h1 (Nat.pow_lt_pow_right (by decide) (by omega)))
theorem power_any (w : World) (n : Nat) (hn : n ≤ 5000) :
  Calls Tryz.prog 46 #[.int .i64 (n : Int)] w fun e w' => ∃ v1, e = .returned v1 ∧ Fr [] w w' ∧ Bv w' v1 ((10 ^ n : Nat) : Int) (bl (10 ^ n)) := by
 obtain ⟨P, hP⟩ : ∃ P, 10 ^ n = P := ⟨_, rfl⟩
 have hbP := bl_ten n
 have hP0 : 0 < P := by rw [← hP]; exact ten_pos n
 rw [hP] at hbP ⊢
 have HP := hid hP
 clear hP
 have H := Hp.start [] w
 go_enter Tryz.func46, Tryz.ntmps46
 go_wp2_with (revert H; refine x_g ?_; intro g w1 hg hf H; replace hf := hf.kp)
 (refine x_c H (fromInt_ar _ 1 (by simp only [inr]; omega)) ?_; clear H; rintro e w1 ⟨v3, rfl, hF, hB⟩ H; replace hF := hF.kp; obtain ⟨b3, p3, m3, c3, rfl⟩ := hB.form; have HB3 := hid hB; clear hB)
 go_wp2_with fail
 (refine x_c H (fromInt_ar _ 10 (by simp only [inr]; omega)) ?_; clear H; rintro e w1 ⟨v4, rfl, hF, hB⟩ H; replace hF := hF.kp; obtain ⟨b4, p4, m4, c4, rfl⟩ := hB.form; have HB4 := hid hB; clear hB)
 go_wp2_with (first | (revert H; refine xSF ?_; intro w1 H hk) | (revert H; refine x_g ?_; intro g w1 hg hf H; replace hf := hf.kp))
 rename_i g2 wa ha fa wb Fb wc g3 wd hd fd we wf kf xa xb
 go_loopw [0] (fun s0 wr => ∃ (k out ten : Nat) (b3 b4 : Bool) (p3 p4 : Option Addr) (m3 c3 m4 c4 : Nat), s0 = .int .i64 (k : Int) ∧ k ≤ 5000 ∧ Hid (out * ten ^ k = P) ∧ bl ten ≤ 100000 ∧ Hp [] w wr [.blk g [.bool b4, .slice p4 m4 c4] 50, .blk g3 [.bool b3, .slice p3 m3 c3] 50, .blk g2 [.bool false, .slice none 0 0] 50] ∧ Hid (Bv wr (.agg #[.bool b3, .slice p3 m3 c3]) (out : Int) (bl out)) ∧ Hid (Bv wr (.agg #[.bool b4, .slice p4 m4 c4]) (ten : Int) (bl ten))) (fun v _ => (intOf v).toNat)
 case atStart => exact ⟨n, 1, 10, _, _, _, _, _, _, _, _, rfl, hn, hid (by rw [Nat.one_mul]; exact HP.out), by decide, H, hid (bv HB3).c, hid (bv HB4).c⟩
 case round =>
  clear H HB3 HB4
  obtain ⟨k, out, ten, b3, b4, p3, p4, m3, c3, m4, c4, rfl, hk5, HO, hbt, H, HB3, HB4⟩ := hrel
  have hout : bl out ≤ bl P := bl_mono (by
   have h := HO.out
   rcases Nat.eq_zero_or_pos (ten ^ k) with h0 | h0
   ·rw [h0, Nat.mul_zero] at h; omega
   ·rw [← h]; exact Nat.le_mul_of_pos_right _ h0)
  by_cases hk : k = 0
  ·subst hk
   have HE : Hid (out = P) := hid (by have h := HO.out; rwa [Nat.pow_zero, Nat.mul_one] at h)
   clear HO
   go_wp2_with (first | refine x_q H ?_ | (revert H; refine xSF ?_; intro w1 H hk))
   refine c_post H rfl rfl rfl ?_
   exact ⟨_, rfl, H.fr, by rw [← HE.out]; exact bv HB3⟩
  ·have hten : bl ten ≤ bl P := bl_mono (by
    have h := HO.out
    obtain ⟨j, rfl⟩ : ∃ j, k = j + 1 := ⟨k - 1, by omega⟩
    rw [Nat.pow_succ, ← Nat.mul_assoc] at h
    rw [← h]
    exact Nat.le_mul_of_pos_left _ (Nat.pos_of_ne_zero (fun h0 => by rw [h0, Nat.zero_mul] at h; omega)))
   have htt := bl_prod ten ten
   have hot := bl_prod out ten
   have hkk : (k : Int).tdiv 2 = ((k / 2 : Nat) : Int) := by rw [Int.tdiv_eq_ediv_of_nonneg (by omega)]; omega
   have hk2 : k / 2 < k := by omega
   have hPR := hid (pow_round HO.out)
   clear HO
   have hmod : (k : Int).tmod 2 = ((k % 2 : Nat) : Int) := by rw [Int.tmod_eq_emod_of_nonneg (by omega)]; omega
   by_cases h1 : k % 2 = 1
   ·have HPR := hid (show out * ten * (ten * ten) ^ (k / 2) = P by have h := hPR.out; rwa [if_pos h1] at h)
    have hm1 : (k : Int).tmod 2 = 1 := by omega
    clear hPR
    go_wp2_with (refine x_q H ?_)
    (refine x_c H (mul_ar (bv HB3).ar (bv HB4).ar (by omega) (by omega)) ?_; clear H; rintro e w1 ⟨v5, rfl, hF, hB⟩ H; replace hF := hF.kp; replace hB := hB.c; rw [← Int.natCast_mul, Int.natAbs_natCast] at hB; obtain ⟨b5, p5, m5, c5, rfl⟩ := hB.form; have HB5 := hid hB; clear hB)
    go_wp2_with (first | refine x_q H ?_ | (revert H; refine xSF ?_; intro w1 H hk))
    (refine x_c H (mul_ar (bv HB4).ar (bv HB4).ar (by omega) (by omega)) ?_; clear H; rintro e w1 ⟨v6, rfl, hF, hB⟩ H; replace hF := hF.kp; replace hB := hB.c; rw [← Int.natCast_mul, Int.natAbs_natCast] at hB; obtain ⟨b6, p6, m6, c6, rfl⟩ := hB.form; have HB6 := hid hB; clear hB)
    go_wp2_with (first | refine x_q H ?_ | (revert H; refine xSF ?_; intro w1 H hk))
    go_roundw
    case rel => exact ⟨k / 2, out * ten, ten * ten, _, _, _, _, _, _, _, _, by first | rfl | rw [hkk], by omega, HPR, by omega, H, hid (bv HB5), hid (bv HB6)⟩
    case measure => (simp [intOf]; try omega)
   ·have HPR := hid (show out * (ten * ten) ^ (k / 2) = P by have h := hPR.out; rwa [if_neg h1] at h)
    have hm1 : (k : Int).tmod 2 = 0 := by omega
    clear hPR
    go_wp2_with (refine x_q H ?_)
    (refine x_c H (mul_ar (bv HB4).ar (bv HB4).ar (by omega) (by omega)) ?_; clear H; rintro e w1 ⟨v6, rfl, hF, hB⟩ H; replace hF := hF.kp; replace hB := hB.c; rw [← Int.natCast_mul, Int.natAbs_natCast] at hB; obtain ⟨b6, p6, m6, c6, rfl⟩ := hB.form; have HB6 := hid hB; clear hB)
    go_wp2_with (first | refine x_q H ?_ | (revert H; refine xSF ?_; intro w1 H hk))
    go_roundw
    case rel => exact ⟨k / 2, out, ten * ten, _, _, _, _, _, _, _, _, by first | rfl | rw [hkk], by omega, HPR, by omega, H, hid (bv HB3), hid (bv HB6)⟩
    case measure => (simp [intOf]; try omega)
theorem ev_m63I {P : Program} {w : World} {a : Act} {o : Oper} {t t' : TypeId} {x : Operand} (ho : o.op = .binOp .and t x (.const (.int .u64 9223372036854775808)) t') {m z : Nat} (hx : a.eval x = .int .u64 (m : Int)) (hz : Hid ((if 9223372036854775808 ≤ m then 9223372036854775808 else 0 : Nat) = z)) (hm : m < 18446744073709551616 := by omega) : (execOp a.eval o).run P w = .ok (.value (.int .u64 (z : Int))) w := by
 rw [← hz.out]; exact ev_m63 ho hx hm
theorem parts_any (w : World) (b : Nat) (hb : b < 18446744073709551616) :
  Calls Tryz.prog 85 #[.int .u64 (b : Int)] w fun r w' => r = .returned (.tuple #[.int .i64 ((b / 4503599627370496 % 2048 : Nat) : Int), .int .u64 ((b % 4503599627370496 : Nat) : Int)]) ∧ Fr [] w w' := by
 have H := Hp.start [] w
 go_enter Tryz.func85, Tryz.ntmps85
 go_wp2_with (first | refine x_q H ?_ | refine x_e (ev_m11 rfl rfl) ?_ | refine x_e (ev_m52 rfl rfl) ?_ | refine x_e (ev_s52 rfl rfl) ?_)
 refine bodyPost_ret (results_tmp2 rfl _ _ _) rfl ?_
 exact ⟨rfl, H.fr⟩
theorem partsI_any (w : World) {b x y : Nat} (hb : b < 18446744073709551616) (hx : Hid (b / 4503599627370496 % 2048 = x)) (hy : Hid (b % 4503599627370496 = y)) :
  Calls Tryz.prog 85 #[.int .u64 (b : Int)] w fun r w' => r = .returned (.tuple #[.int .i64 (x : Int), .int .u64 (y : Int)]) ∧ Fr [] w w' := by
 rw [← hx.out, ← hy.out]; exact parts_any w b hb
theorem kind_any (w : World) (b : Nat) (hb : b < 18446744073709551616) :
  Calls Tryz.prog 49 #[.int .u64 (b : Int)] w fun r w' => r = .returned (.int .i64 (kindF b)) ∧ Fr [] w w' := by
 have H := Hp.start [] w
 have HK : Hid (kindF b = if b / 4503599627370496 % 2048 = 2047 then (if b % 4503599627370496 = 0 then 2 else 3) else if b / 4503599627370496 % 2048 = 0 ∧ b % 4503599627370496 = 0 then 0 else 1) := hid rfl
 have hx : b / 4503599627370496 % 2048 < 2048 := Nat.mod_lt _ (by decide)
 obtain ⟨x, hX⟩ : ∃ x, b / 4503599627370496 % 2048 = x := ⟨_, rfl⟩
 obtain ⟨y, hY⟩ : ∃ x, b % 4503599627370496 = x := ⟨_, rfl⟩
 have hy : b % 4503599627370496 < 4503599627370496 := Nat.mod_lt _ (by decide)
 rw [hX, hY] at HK
 rw [hX] at hx
 rw [hY] at hy
 have HX := hid hX
 have HY := hid hY
 clear hX hY
 by_cases h1 : x = 2047
 ·by_cases h2 : y = 0
  ·have HV : Hid (kindF b = 2) := hid (HK.out.trans (by rw [if_pos h1, if_pos h2]))
   go_enter Tryz.func49, Tryz.ntmps49
   go_wp2_with fail
   (refine x_c H (partsI_any _ hb HX HY) ?_; clear H; rintro e w1 ⟨rfl, hF⟩ H; replace hF := hF.kp)
   go_wp2_with (refine x_q H ?_)
   go_ret
   exact ⟨by rw [HV.out]; rfl, H.fr⟩
  ·have HV : Hid (kindF b = 3) := hid (HK.out.trans (by rw [if_pos h1, if_neg h2]))
   go_enter Tryz.func49, Tryz.ntmps49
   go_wp2_with fail
   (refine x_c H (partsI_any _ hb HX HY) ?_; clear H; rintro e w1 ⟨rfl, hF⟩ H; replace hF := hF.kp)
   go_wp2_with (refine x_q H ?_)
   go_ret
   exact ⟨by rw [HV.out]; rfl, H.fr⟩
 ·by_cases h2 : x = 0
  ·by_cases h3 : y = 0
   ·have HV : Hid (kindF b = 0) := hid (HK.out.trans (by rw [if_neg h1, if_pos ⟨h2, h3⟩]))
    go_enter Tryz.func49, Tryz.ntmps49
    go_wp2_with fail
    (refine x_c H (partsI_any _ hb HX HY) ?_; clear H; rintro e w1 ⟨rfl, hF⟩ H; replace hF := hF.kp)
    go_wp2_with (refine x_q H ?_)
    go_ret
    exact ⟨by rw [HV.out]; rfl, H.fr⟩
   ·have HV : Hid (kindF b = 1) := hid (HK.out.trans (by rw [if_neg h1, if_neg (fun h => h3 h.2)]))
    go_enter Tryz.func49, Tryz.ntmps49
    go_wp2_with fail
    (refine x_c H (partsI_any _ hb HX HY) ?_; clear H; rintro e w1 ⟨rfl, hF⟩ H; replace hF := hF.kp)
    go_wp2_with (refine x_q H ?_)
    go_ret
    exact ⟨by rw [HV.out]; rfl, H.fr⟩
  ·have HV : Hid (kindF b = 1) := hid (HK.out.trans (by rw [if_neg h1, if_neg (fun h => h2 h.1)]))
   go_enter Tryz.func49, Tryz.ntmps49
   go_wp2_with fail
   (refine x_c H (partsI_any _ hb HX HY) ?_; clear H; rintro e w1 ⟨rfl, hF⟩ H; replace hF := hF.kp)
   go_wp2_with (refine x_q H ?_)
   go_ret
   exact ⟨by rw [HV.out]; rfl, H.fr⟩
theorem kindI_any (w : World) {b : Nat} {k : Int} (hb : b < 18446744073709551616) (hk : Hid (kindF b = k)) :
  Calls Tryz.prog 49 #[.int .u64 (b : Int)] w fun r w' => r = .returned (.int .i64 k) ∧ Fr [] w w' := by
 rw [← hk.out]; exact kind_any w b hb
theorem kindF_range (b : Nat) : 0 ≤ kindF b ∧ kindF b ≤ 3 := by unfold kindF; (repeat' split) <;> omega
theorem negative_any (w : World) (b : Nat) (hb : b < 18446744073709551616) :
  Calls Tryz.prog 58 #[.int .u64 (b : Int)] w fun r w' => r = .returned (.bool (decide (9223372036854775808 ≤ b))) ∧ Fr [] w w' := by
 have H := Hp.start [] w
 by_cases h : 9223372036854775808 ≤ b
 ·have HI := hid (show (if 9223372036854775808 ≤ b then 9223372036854775808 else 0 : Nat) = 9223372036854775808 from if_pos h)
  rw [decide_eq_true h]
  go_enter Tryz.func58, Tryz.ntmps58
  go_wp2_with (first | refine x_q H ?_ | refine x_e (ev_m63I rfl rfl HI) ?_)
  go_ret
  exact ⟨rfl, H.fr⟩
 ·have HI := hid (show (if 9223372036854775808 ≤ b then 9223372036854775808 else 0 : Nat) = 0 from if_neg h)
  rw [decide_eq_false h]
  go_enter Tryz.func58, Tryz.ntmps58
  go_wp2_with (first | refine x_q H ?_ | refine x_e (ev_m63I rfl rfl HI) ?_)
  go_ret
  exact ⟨rfl, H.fr⟩
theorem c_ldc {P : Program} {a : Act} {w : World} {o : Oper} {t : TypeId} {x : Operand} (ho : o.op = .load t x) {ad : Addr} {v : Value} (hx : a.eval x = .pointer (some ad)) [s : Sc P t] (hc : w.cell? ad = some v) : (execOp a.eval o).run P w = .ok (.value v) w := ev_load ho hx s.h hc
theorem nan1_any {w : World} {g c b : Nat} (hb : b < 18446744073709551616) (hc : w.cell? ⟨g, 0, none⟩ = some (.int .u64 (b : Int))) :
  Calls Tryz.prog 56 #[.slice (some ⟨g, 0, none⟩) 1 c] w fun r w' => r = .returned (.bool (decide (kindF b = 3))) ∧ Fr [] w w' := by
 have HC := hid hc
 obtain ⟨k, hk⟩ : ∃ k, kindF b = k := ⟨_, rfl⟩
 have HK := hid hk
 rw [hk]
 clear hc hk
 have H := Hp.start [] w
 go_enter Tryz.func56, Tryz.ntmps56
 go_wp2_with fail
 go_loopw [7] (fun s7 wr => ((s7 = .int .i64 0) ∨ (s7 = .int .i64 1 ∧ Hid (k ≠ 3))) ∧ Hp [] w wr []) (fun v _ => (2 - intOf v).toNat)
 case atStart => exact ⟨.inl rfl, H⟩
 case round =>
  clear H
  obtain ⟨hs, H⟩ := hrel
  rcases hs with rfl | ⟨rfl, HN⟩
  ·have HC2 := H.fr.cell HC.out (by simp)
   go_wp2_with (first | refine x_q H ?_ | refine x_e (c_ldc rfl rfl HC2) ?_)
   (refine x_c H (kindI_any _ hb HK) ?_; clear H; rintro e w1 ⟨rfl, hF⟩ H; replace hF := hF.kp)
   by_cases h3 : k = 3
   ·subst h3
    go_wp2_with (refine x_q H ?_)
    go_ret
    exact ⟨rfl, H.fr⟩
   ·have HN := hid h3
    go_wp2_with (refine x_q H ?_)
    go_roundw
    case rel => exact ⟨.inr ⟨rfl, HN⟩, H⟩
    case measure => (simp [intOf]; try omega)
  ·go_wp2_with (refine x_q H ?_)
   go_ret
   exact ⟨by rw [decide_eq_false HN.out]; rfl, H.fr⟩
theorem andNot_top {b : Nat} (hb : b < 18446744073709551616) : bits .andNot .u64 (b : Int) 9223372036854775808 = ((b % 9223372036854775808 : Nat) : Int) := by
 have hx : b % 9223372036854775808 < 2 ^ 64 := Nat.lt_of_lt_of_le (Nat.mod_lt _ (by decide)) (by decide)
 have h1 : (BitVec.ofInt 64 (b : Int)).toNat = b := by
  rw [BitVec.ofInt_natCast, BitVec.toNat_ofNat]; exact Nat.mod_eq_of_lt (by omega)
 have h2 : (~~~ (BitVec.ofInt 64 9223372036854775808)).toNat = 2 ^ 63 - 1 := by decide
 show IntKind.u64.wrap ((BitVec.ofInt 64 (b : Int) &&& ~~~ (BitVec.ofInt 64 9223372036854775808)).toNat : Int) = _
 rw [BitVec.toNat_and, h1, h2, Nat.and_two_pow_sub_one_eq_mod]
 exact wrap_inr (by simp only [inr]; omega)
theorem ev_an63 {P : Program} {w : World} {a : Act} {o : Oper} {t t' : TypeId} {x : Operand} (ho : o.op = .binOp .andNot t x (.const (.int .u64 9223372036854775808)) t') {m z : Nat} (hx : a.eval x = .int .u64 (m : Int)) (hz : Hid (m % 9223372036854775808 = z)) (hm : m < 18446744073709551616 := by omega) : (execOp a.eval o).run P w = .ok (.value (.int .u64 (z : Int))) w :=
 ev_bin ho hx rfl (fun w => by
  have e := andNot_top hm
  rw [hz.out] at e
  show (pure (Value.int .u64 (bits .andNot .u64 (m : Int) 9223372036854775808)) : Sem Value).run P w = _
  rw [e]; rfl)
theorem absF_any (w : World) {b z : Nat} (hb : b < 18446744073709551616) (hk : kindF b ≠ 3) (hz : Hid (b % 9223372036854775808 = z)) :
  Calls Tryz.prog 31 #[.int .u64 (b : Int)] w fun r w' => r = .returned (.int .u64 (z : Int)) ∧ Fr [] w w' := by
 have HK : Hid (decide (kindF b = 3) = false) := hid (decide_eq_false hk)
 clear hk
 have H := Hp.start [] w
 go_enter Tryz.func31, Tryz.ntmps31
 go_wp2_with (revert H; refine x_g ?_; intro g w1 hg hf H; replace hf := hf.kp)
 (refine x_c H (nan1_any hb (H.cell (p := 0) rfl)) ?_; clear H; rintro e w1 ⟨rfl, hF⟩ H; replace hF := hF.kp; rw [HK.out])
 go_wp2_with (refine x_e (ev_an63 rfl rfl hz) ?_)
 go_ret
 exact ⟨rfl, H.fr⟩
theorem ev_h52 {P : Program} {w : World} {a : Act} {o : Oper} {t t' : TypeId} {x : Operand} (ho : o.op = .binOp .or t x (.const (.int .u64 4503599627370496)) t') {m z : Nat} (hx : a.eval x = .int .u64 (m : Int)) (hz : Hid (m + 4503599627370496 = z)) (hm : m < 4503599627370496 := by omega) : (execOp a.eval o).run P w = .ok (.value (.int .u64 (z : Int))) w := by
 rw [← hz.out]
 exact ev_bits ho (.inr rfl) hx (n := 4503599627370496) rfl (by
  rw [or_nat _ _ (by omega) (by decide)]
  have h1 := Nat.two_pow_add_eq_or_of_lt (i := 52) (b := m) (by simpa using hm) 1
  have e : (2 : Nat) ^ 52 = 4503599627370496 := by decide
  rw [e] at h1
  have h2 : m ||| 4503599627370496 = m + 4503599627370496 := by rw [Nat.or_comm, Nat.add_comm]; simpa using h1.symm
  rw [h2])
theorem man_of {b : Nat} (hb : b < 18446744073709551616) : manF (b % 9223372036854775808) = (if b / 4503599627370496 % 2048 = 0 then b % 4503599627370496 else b % 4503599627370496 + 4503599627370496) ∧ expoF (b % 9223372036854775808) = (if b / 4503599627370496 % 2048 = 0 then -1074 else ((b / 4503599627370496 % 2048 : Nat) : Int) - 1075) := by
 have e : b % 9223372036854775808 / 4503599627370496 = b / 4503599627370496 % 2048 := by omega
 unfold manF expoF
 rw [e]
 constructor
 ·split <;> omega
 ·rfl
set_option maxHeartbeats 16000000 in
theorem ofF_any (w : World) {b : Nat} (hb : b < 18446744073709551616) (hk : b / 4503599627370496 % 2048 ≠ 2047) (hT : La w) :
  Calls Tryz.prog 30 #[.int .u64 (b : Int)] w fun r w' => ∃ v1, r = .returned v1 ∧ Fr [] w w' ∧ Dn w' v1 (sg (decide (9223372036854775808 ≤ b)) (manF (b % 9223372036854775808))) (expoF (b % 9223372036854775808)) := by
 obtain ⟨h1, h2⟩ := man_of hb
 rw [h1, h2]
 clear h1 h2
 have HT := hid hT
 have hx : b / 4503599627370496 % 2048 < 2048 := Nat.mod_lt _ (by decide)
 have hy : b % 4503599627370496 < 4503599627370496 := Nat.mod_lt _ (by decide)
 obtain ⟨x, hX⟩ : ∃ x, b / 4503599627370496 % 2048 = x := ⟨_, rfl⟩
 obtain ⟨y, hY⟩ : ∃ x, b % 4503599627370496 = x := ⟨_, rfl⟩
 rw [hX] at hx hk ⊢
 rw [hY] at hy ⊢
 have HX := hid hX
 have HY := hid hY
 obtain ⟨n, hn⟩ : ∃ n, decide (9223372036854775808 ≤ b) = n := ⟨_, rfl⟩
 rw [hn]
 have HN := hid hn
 clear hX hY hT hn
 have H := Hp.start [] w
 by_cases h0 : x = 0
 ·rw [if_pos h0, if_pos h0]
  subst h0
  have hbl : bl y ≤ 53 := bl_le (by omega)
  have HM : Hid (y + 4503599627370496 = y + 4503599627370496) := hid rfl
  go_enter Tryz.func30, Tryz.ntmps30
  go_wp2_with (revert H; refine x_g ?_; intro g w1 hg hf H; replace hf := hf.kp)
  (refine x_c H (partsI_any _ hb HX HY) ?_; clear H; rintro e w1 ⟨rfl, hF⟩ H; replace hF := hF.kp)
  go_wp2_with (refine x_q H ?_)
  (refine x_c H (fromInt_ar _ ((y : Nat) : Int) (by simp only [inr]; omega)) ?_; clear H; rintro e w1 ⟨v4, rfl, hF, hB⟩ H; replace hF := hF.kp; replace hB := hB.c; rw [Int.natAbs_natCast] at hB; obtain ⟨b4, p4, m4, c4, rfl⟩ := hB.form; have HB4 := hid hB; clear hB)
  go_wp2_with (first | (revert H; refine xSF ?_; intro w1 H hk) | (revert H; refine x_g ?_; intro g w1 hg hf H; replace hf := hf.kp))
  (refine x_c H (negative_any _ b hb) ?_; clear H; rintro e w1 ⟨rfl, hF⟩ H; replace hF := hF.kp; rw [HN.out])
  cases n
  ·go_wp2_with (refine x_q H ?_)
   (refine x_c H (make_any (bv HB4).ar (by omega) (by rw [Int.natAbs_natCast]; omega) (by omega) (HT.out.fr H.fr)) ?_; clear H; rintro e w1 ⟨v5, rfl, hF, hD⟩ H; replace hF := hF.kp; obtain ⟨m5, e5, b5, p5, n5, c5, rfl, hN, hB⟩ := hD; have HN5 := hid hN; have HB5 := hid hB; clear hN hB)
   go_wp2_with (revert H; refine xSF ?_; intro w1 H hk)
   refine c_post H rfl rfl rfl ?_
   exact ⟨_, rfl, H.fr, _, _, _, _, _, _, rfl, HN5.out, bv HB5⟩
  ·go_wp2_with (refine x_q H ?_)
   (refine x_c H (neg_ar (bv HB4).ar (by omega)) ?_; clear H; rintro e w1 ⟨v6, rfl, hF, hB⟩ H; replace hF := hF.kp; obtain ⟨b6, p6, m6, c6, rfl⟩ := hB.form; have HB6 := hid hB; clear hB)
   go_wp2_with (first | refine x_q H ?_ | (revert H; refine xSF ?_; intro w1 H hk))
   (refine x_c H (make_any (bv HB6).ar (by omega) (by rw [Int.natAbs_neg, Int.natAbs_natCast]; omega) (by omega) (HT.out.fr H.fr)) ?_; clear H; rintro e w1 ⟨v5, rfl, hF, hD⟩ H; replace hF := hF.kp; obtain ⟨m5, e5, b5, p5, n5, c5, rfl, hN, hB⟩ := hD; have HN5 := hid hN; have HB5 := hid hB; clear hN hB)
   go_wp2_with (revert H; refine xSF ?_; intro w1 H hk)
   refine c_post H rfl rfl rfl ?_
   exact ⟨_, rfl, H.fr, _, _, _, _, _, _, rfl, HN5.out, bv HB5⟩
 ·rw [if_neg h0, if_neg h0]
  obtain ⟨M, hM⟩ : ∃ M, y + 4503599627370496 = M := ⟨_, rfl⟩
  have HM := hid hM
  have hMb : M < 9007199254740992 := by omega
  rw [hM]
  have hbl : bl M ≤ 53 := bl_le (by omega)
  clear hM
  go_enter Tryz.func30, Tryz.ntmps30
  go_wp2_with (revert H; refine x_g ?_; intro g w1 hg hf H; replace hf := hf.kp)
  (refine x_c H (partsI_any _ hb HX HY) ?_; clear H; rintro e w1 ⟨rfl, hF⟩ H; replace hF := hF.kp)
  go_wp2_with (first | refine x_q H ?_ | refine x_e (ev_h52 rfl rfl HM) ?_)
  (refine x_c H (fromInt_ar _ ((M : Nat) : Int) (by simp only [inr]; omega)) ?_; clear H; rintro e w1 ⟨v4, rfl, hF, hB⟩ H; replace hF := hF.kp; replace hB := hB.c; rw [Int.natAbs_natCast] at hB; obtain ⟨b4, p4, m4, c4, rfl⟩ := hB.form; have HB4 := hid hB; clear hB)
  go_wp2_with (first | (revert H; refine xSF ?_; intro w1 H hk) | (revert H; refine x_g ?_; intro g w1 hg hf H; replace hf := hf.kp))
  (refine x_c H (negative_any _ b hb) ?_; clear H; rintro e w1 ⟨rfl, hF⟩ H; replace hF := hF.kp; rw [HN.out])
  cases n
  ·go_wp2_with (refine x_q H ?_)
   (refine x_c H (make_any (bv HB4).ar (by omega) (by rw [Int.natAbs_natCast]; omega) (by omega) (HT.out.fr H.fr)) ?_; clear H; rintro e w1 ⟨v5, rfl, hF, hD⟩ H; replace hF := hF.kp; obtain ⟨m5, e5, b5, p5, n5, c5, rfl, hN, hB⟩ := hD; have HN5 := hid hN; have HB5 := hid hB; clear hN hB)
   go_wp2_with (revert H; refine xSF ?_; intro w1 H hk)
   refine c_post H rfl rfl rfl ?_
   exact ⟨_, rfl, H.fr, _, _, _, _, _, _, rfl, HN5.out, bv HB5⟩
  ·go_wp2_with (refine x_q H ?_)
   (refine x_c H (neg_ar (bv HB4).ar (by omega)) ?_; clear H; rintro e w1 ⟨v6, rfl, hF, hB⟩ H; replace hF := hF.kp; obtain ⟨b6, p6, m6, c6, rfl⟩ := hB.form; have HB6 := hid hB; clear hB)
   go_wp2_with (first | refine x_q H ?_ | (revert H; refine xSF ?_; intro w1 H hk))
   (refine x_c H (make_any (bv HB6).ar (by omega) (by rw [Int.natAbs_neg, Int.natAbs_natCast]; omega) (by omega) (HT.out.fr H.fr)) ?_; clear H; rintro e w1 ⟨v5, rfl, hF, hD⟩ H; replace hF := hF.kp; obtain ⟨m5, e5, b5, p5, n5, c5, rfl, hN, hB⟩ := hD; have HN5 := hid hN; have HB5 := hid hB; clear hN hB)
   go_wp2_with (revert H; refine xSF ?_; intro w1 H hk)
   refine c_post H rfl rfl rfl ?_
   exact ⟨_, rfl, H.fr, _, _, _, _, _, _, rfl, HN5.out, bv HB5⟩
section
variable {P : Program} {Q : Exit → Act → World → Prop} {w w0 : World} {lo : List Oper} {o : Oper} {T : List Nat} {l : List Ent} {L : List Value} {ds : List Deferred} {S : World → Prop} {fi i : Nat} {k : Plan}
theorem p_ldq {v : Value} {L' : List Value} (h : k.wp P lo.toArray Q S fi ⟨L'.toArray, ds⟩ w) (hi : lo[i]? = some o := by rfl) (hw : Region.wanted o (yielded lo.toArray L.toArray) = true := by rfl)
  (he : Hp T w0 w l → (execOp (Act.mk L.toArray ds).eval o).run P w = .ok (.value v) w := by
   intro H
   refine g_ld rfl ?_
   first | exact c_ld H rfl rfl | exact c_ld0 H rfl rfl | exact c_ln H rfl rfl | exact c_lf H rfl rfl)
  (hs : putL L o.dst v = L' := by ((try simp only [nrm, putL_s, putL_n, ↓reduceIte, Nat.reduceAdd]); (try exact rfl)))
  (hS : i ≠ fi → Hp T w0 w l → S w := by intro hne H1; first | exact absurd rfl hne | exact trivial | exact H1.sub (by repeat first | exact List.Sublist.refl _ | exact List.nil_sublist _ | apply List.Sublist.cons_cons | apply List.Sublist.cons))
  (H : Hp T w0 w l) : Plan.wp P lo.toArray Q S fi (.ld i k) ⟨L.toArray, ds⟩ w :=
 pl_rw hi hw fun K hK => wp_of_run (he H) (hK _ _ (fun hne => hS hne H) (by rw [put_eq, hs]; exact h))
end
theorem ev_negZ {P : Program} {w : World} {a : Act} {o : Oper} {t : TypeId} {x : Operand} (ho : o.op = .unOp .neg t x) {n : Int} (hx : a.eval x = .int .i64 n) (hn : inr .i64 (-n) := by simp only [inr]; omega) : (execOp a.eval o).run P w = .ok (.value (.int .i64 (-n))) w := by
 have e : IntKind.i64.wrap (-n) = -n := wrap_inr hn
 unfold execOp
 simp [ho, hx, Op.unary, Op.intArith, e]
theorem nm_pos {X : Nat} {e m e' : Int} (h : Nm (X : Int) e m e') (hX : 0 < X) : ∃ M t : Nat, m = (M : Int) ∧ X = M * 2 ^ t ∧ e' = e + t ∧ 0 < M := by
 obtain ⟨t, h1, h2, _⟩ := h.abs (by omega)
 have hs : m.sign = 1 := h.sign.trans (Int.sign_eq_one_of_pos (by omega))
 have hm : 0 < m := Int.sign_eq_one_iff_pos.1 hs
 refine ⟨m.natAbs, t, by omega, ?_, h2, by omega⟩
 rw [Int.natAbs_natCast] at h1
 exact h1
theorem shiftN_any {w : World} {u : Value} {m : Nat} {z : Int} {n : Nat} (k : Nat) (hz : z = (k : Int)) (h : Av w u (m : Int) n) (hn : n ≤ 200000) (hk : k ≤ 1048576) :
  Calls Tryz.prog 71 #[u, .int .i64 z] w fun e w' => ∃ v1, e = .returned (.tuple #[v1, .int .i64 0]) ∧ Fr [] w w' ∧ Bv w' v1 ((m * 2 ^ k : Nat) : Int) (bl (m * 2 ^ k)) := by
 subst hz
 refine Calls.mono (shiftUp_ar k h hn hk) ?_
 rintro e w' ⟨v1, rfl, hF, hB⟩
 have e1 : (m : Int) * 2 ^ k = ((m * 2 ^ k : Nat) : Int) := by rw [Int.natCast_mul, Int.natCast_pow]; rfl
 have hB := hB.c
 rw [e1, Int.natAbs_natCast] at hB
 exact ⟨v1, rfl, hF, hB⟩
theorem ofA_any (w : World) {b : Nat} (hb : b < 9218868437227405312) (hT : La w) :
  Calls Tryz.prog 30 #[.int .u64 (b : Int)] w fun r w' => ∃ v1, r = .returned v1 ∧ Fr [] w w' ∧ Dn w' v1 (manF b : Int) (expoF b) := by
 have h := ofF_any w (b := b) (by omega) (by omega) hT
 rw [decide_eq_false (by omega), Nat.mod_eq_of_lt (show b < 9223372036854775808 by omega)] at h
 exact h
theorem frac_up {X M t k : Nat} {E : Int} (h : X = M * 2 ^ t) (hk : E + t = (k : Int)) : M * 2 ^ k * 2 ^ (-E).toNat = X * 2 ^ E.toNat * 1 := by
 rw [h, Nat.mul_one, Nat.mul_assoc, Nat.mul_assoc, ← Nat.pow_add, ← Nat.pow_add]
 congr 2; omega
theorem frac_dn {X M t k : Nat} {E : Int} (h : X = M * 2 ^ t) (hk : -(E + t) = (k : Int)) : M * 2 ^ (-E).toNat = X * 2 ^ E.toNat * 2 ^ k := by
 rw [h, Nat.mul_assoc, Nat.mul_assoc, ← Nat.pow_add, ← Nat.pow_add]
 congr 2; omega
theorem one_shift (k : Nat) : 1 * 2 ^ k = 2 ^ k := Nat.one_mul _
set_option maxHeartbeats 16000000 in
theorem fraction_any (w : World) {b z : Nat} (hb : b < 18446744073709551616) (hk : kindF b ≠ 3) (hz : Hid (b % 9223372036854775808 = z)) (h0 : 0 < z) (hz1 : z < 9218868437227405312) (hT : La w) :
  Calls Tryz.prog 50 #[.int .u64 (b : Int)] w fun r w' => ∃ v1 v2, r = .returned (.tuple #[v1, v2]) ∧ Fr [] w w' ∧ ∃ N D : Nat, Bv w' v1 (N : Int) (bl N) ∧ Bv w' v2 (D : Int) (bl D) ∧ 0 < N ∧ 0 < D ∧ N * dF z = nF z * D ∧ bl N ≤ 1100 ∧ bl D ≤ 1100 := by
 obtain ⟨hm1, hm2, hm3⟩ := man_bounds hz1
 have hmp := manF_pos h0
 have HT := hid hT
 have HK := hid hk
 have HND : Hid (dF z = 2 ^ (-expoF z).toNat ∧ nF z = manF z * 2 ^ (expoF z).toNat) := hid ⟨rfl, rfl⟩
 obtain ⟨X, hX⟩ : ∃ X, manF z = X := ⟨_, rfl⟩
 obtain ⟨E, hE⟩ : ∃ X, expoF z = X := ⟨_, rfl⟩
 rw [hX, hE] at HND
 rw [hX] at hm1 hmp
 rw [hE] at hm2 hm3
 have HX := hid hX
 have HE := hid hE
 clear hX hE hT hk
 have H := Hp.start [] w
 go_enter Tryz.func50, Tryz.ntmps50
 go_wp2_with (revert H; refine x_g ?_; intro g w1 hg hf H; replace hf := hf.kp)
 (refine x_c H (absF_any _ hb HK.out hz) ?_; clear H; rintro e w1 ⟨rfl, hF⟩ H; replace hF := hF.kp)
 go_wp2_with fail
 (refine x_c H (ofA_any _ hz1 (HT.out.fr H.fr)) ?_; clear H; rintro e w1 ⟨v3, rfl, hF, hD⟩ H; replace hF := hF.kp; rw [HX.out, HE.out] at hD; obtain ⟨m3, e3, b3, p3, n3, c3, rfl, hN, hB⟩ := hD; have HN3 := hid hN; have HB3 := hid hB; clear hN hB)
 have hle := HN3.out.le
 rw [Int.natAbs_natCast] at hle
 have hbX : bl X ≤ 53 := bl_le (by omega)
 obtain ⟨M, t, rfl, hXM, he', hM0⟩ := nm_pos HN3.out hmp
 rw [Int.natAbs_natCast] at hle HB3
 have hXM := hid hXM
 have HE' := hid he'
 have het : -1074 ≤ e3 ∧ e3 ≤ 1024 := by have := bl_pos (show M ≠ 0 by omega); omega
 have hbM : bl M ≤ 53 := by omega
 clear he' HN3 hle
 go_wp2_with (first | (revert H; refine xSF ?_; intro w1 H hk) | (revert H; refine x_g ?_; intro g w1 hg hf H; replace hf := hf.kp))
 (refine x_c H (fromInt_ar _ 1 (by simp only [inr]; omega)) ?_; clear H; rintro e w1 ⟨v4, rfl, hF, hB⟩ H; replace hF := hF.kp; obtain ⟨b4, p4, m4, c4, rfl⟩ := hB.form; have HB4 := hid hB; clear hB)
 by_cases hp : 0 ≤ e3
 ·obtain ⟨k, hk⟩ := Int.eq_ofNat_of_zero_le hp
  have HKK := hid hk
  have hk2 : k ≤ 1024 := by omega
  have hbs : bl (M * 2 ^ k) = bl M + k := bl_mul_pow (by omega) k
  have HR := hid (frac_up (k := k) hXM.out (by rw [← HE'.out]; exact hk))
  have hMk : 0 < M * 2 ^ k := Nat.mul_pos hM0 (pow2_pos k)
  clear hk
  go_wp2_with (first | refine x_q H ?_ | refine x_l H ?_ | (revert H; refine xSF ?_; intro w1 H hk) | (revert H; refine x_g ?_; intro g w1 hg hf H; replace hf := hf.kp))
  (refine x_c H (shiftN_any k HKK.out (bv HB3).ar (by omega) (by omega)) ?_; clear H; rintro e w1 ⟨v5, rfl, hF, hB⟩ H; replace hF := hF.kp; obtain ⟨b5, p5, m5, c5, rfl⟩ := hB.form; have HB5 := hid hB; clear hB)
  go_wp2_with (revert H; refine xSF ?_; intro w1 H hk)
  (revert H; refine w_pF 3 (.ld2 0 (.ld2 1 (.ld 2 (.ld 3 .done)) 2 (.ld 1 (.ld 3 .done))) 1 (.ld 0 (.ld 2 (.ld 3 .done)))) ?_ (hs := (List.nil_sublist _)); intro w1 hf H; (first | replace hf := hf.kp | clear hf))
  (refine pl_ld2 ?_ ?_)
  (refine p_ldq (H := H) ?_)
  (refine pl_ld2 ?_ ?_)
  (refine p_ldq (H := H) ?_)
  (revert H; refine pSF ?_; intro w1 H hk)
  (revert H; refine pSF ?_; intro w1 H hk)
  (refine pl_done ?_)
  rotate_left
  (revert H; refine pSF ?_; intro w1 H hk)
  (refine p_ldq (H := H) ?_)
  (revert H; refine pSF ?_; intro w1 H hk)
  (refine pl_done ?_)
  rotate_left
  (refine p_ldq (H := H) ?_)
  (refine p_ldq (H := H) ?_)
  (revert H; refine pSF ?_; intro w1 H hk)
  (revert H; refine pSF ?_; intro w1 H hk)
  (refine pl_done ?_)
  rotate_left
  all_goals
   go_wp2_with fail
   refine c_postCC H rfl rfl rfl rfl rfl ?_
   exact ⟨_, _, rfl, H.fr, M * 2 ^ k, 1, bv HB5, (bv HB4).c, hMk, by omega, by rw [HND.out.1, HND.out.2]; exact HR.out, by omega, by decide⟩
 ·obtain ⟨k, hk⟩ := Int.eq_ofNat_of_zero_le (show 0 ≤ -e3 by omega)
  have HKK := hid hk
  have hk2 : k ≤ 1074 := by omega
  have hbs : bl (2 ^ k) = k + 1 := bl_two k
  have HR := hid (frac_dn (k := k) hXM.out (by rw [← HE'.out]; exact hk))
  have hMk : 0 < 2 ^ k := pow2_pos k
  have HO := hid (one_shift k)
  clear hk
  go_wp2_with (first | refine x_q H ?_ | (revert H; refine xSF ?_; intro w1 H hk) | (revert H; refine x_g ?_; intro g w1 hg hf H; replace hf := hf.kp))
  (refine x_c H (shiftN_any (m := 1) k HKK.out (bv HB4).ar (by omega) (by omega)) ?_; clear H; rintro e w1 ⟨v5, rfl, hF, hB⟩ H; replace hF := hF.kp; rw [HO.out] at hB; obtain ⟨b5, p5, m5, c5, rfl⟩ := hB.form; have HB5 := hid hB; clear hB)
  go_wp2_with (revert H; refine xSF ?_; intro w1 H hk)
  (revert H; refine w_pF 4 (.st 0 (.ld2 1 (.ld2 2 (.ld 3 (.ld 4 .done)) 3 (.ld 2 (.ld 4 .done))) 2 (.ld 1 (.ld 3 (.ld 4 .done))))) ?_ (hs := (List.nil_sublist _)); intro w1 hf H; (first | replace hf := hf.kp | clear hf))
  refine p_q ?_
  (refine pl_ld2 ?_ ?_)
  (refine p_ldq (H := H) ?_)
  (refine pl_ld2 ?_ ?_)
  (refine p_ldq (H := H) ?_)
  (revert H; refine pSF ?_; intro w1 H hk)
  (revert H; refine pSF ?_; intro w1 H hk)
  (refine pl_done ?_)
  rotate_left
  (revert H; refine pSF ?_; intro w1 H hk)
  (refine p_ldq (H := H) ?_)
  (revert H; refine pSF ?_; intro w1 H hk)
  (refine pl_done ?_)
  rotate_left
  (refine p_ldq (H := H) ?_)
  (refine p_ldq (H := H) ?_)
  (revert H; refine pSF ?_; intro w1 H hk)
  (revert H; refine pSF ?_; intro w1 H hk)
  (refine pl_done ?_)
  rotate_left
  all_goals
   go_wp2_with fail
   refine c_postCC H rfl rfl rfl rfl rfl ?_
   exact ⟨_, _, rfl, H.fr, M, 2 ^ k, bv HB3, bv HB5, hM0, hMk, by rw [HND.out.1, HND.out.2]; exact HR.out, by omega, by omega⟩
theorem up_pos (N k : Nat) : upN N (k : Int) = N * 10 ^ k := by unfold upN; rw [Int.toNat_natCast]
theorem dn_pos (D k : Nat) : dnD D (k : Int) = D := by unfold dnD; rw [show (-(k : Int)).toNat = 0 by omega]; simp
theorem up_neg {N k : Nat} {n : Int} (h : -n = (k : Int)) : upN N n = N := by unfold upN; rw [show n.toNat = 0 by omega]; simp
theorem dn_neg {D k : Nat} {n : Int} (h : -n = (k : Int)) : dnD D n = D * 10 ^ k := by unfold dnD; rw [h, Int.toNat_natCast]
theorem powerY_any (w : World) {z : Int} (n : Nat) (hz : z = (n : Int)) (hn : n ≤ 5000) :
  Calls Tryz.prog 46 #[.int .i64 z] w fun e w' => ∃ v1, e = .returned v1 ∧ Fr [] w w' ∧ Bv w' v1 ((10 ^ n : Nat) : Int) (bl (10 ^ n)) := by
 subst hz
 exact power_any w n hn
set_option maxHeartbeats 16000000 in
theorem scaled_any {w : World} {u v : Value} {N D : Nat} (n : Int) (hu : Bv w u (N : Int) (bl N)) (hv : Bv w v (D : Int) (bl D)) (hN : bl N ≤ 10000) (hD : bl D ≤ 10000) (hn : -3000 ≤ n ∧ n ≤ 3000) :
  Calls Tryz.prog 54 #[u, v, .int .i64 n] w fun r w' => ∃ v1 v2, r = .returned (.tuple #[v1, v2]) ∧ Fr [] w w' ∧ Bv w' v1 ((upN N n : Nat) : Int) (bl (upN N n)) ∧ Bv w' v2 ((dnD D n : Nat) : Int) (bl (dnD D n)) := by
 obtain ⟨b1, p1, m1, c1, rfl⟩ := hu.form
 obtain ⟨b2, p2, m2, c2, rfl⟩ := hv.form
 have HB1 := hid hu
 have HB2 := hid hv
 clear hu hv
 have H := Hp.start [] w
 by_cases h0 : 0 ≤ n
 ·obtain ⟨k, rfl⟩ := Int.eq_ofNat_of_zero_le h0
  have hbt := bl_ten k
  rw [up_pos, dn_pos]
  obtain ⟨T, hT⟩ : ∃ T, 10 ^ k = T := ⟨_, rfl⟩
  have HTT := hid hT
  rw [hT] at hbt ⊢
  clear hT
  go_enter Tryz.func54, Tryz.ntmps54
  go_wp2_with (first | refine x_q H ?_ | (revert H; refine x_g ?_; intro g w1 hg hf H; replace hf := hf.kp))
  (revert H; refine w_pF 6 (.st 0 (.st 1 (.st 4 (.ld 2 (.ld 3 (.ld 5 (.ld 6 .done))))))) ?_ (hs := (.cons _ (.cons _ (List.Sublist.refl _)))); intro w1 hf H; (first | replace hf := hf.kp | clear hf))
  iterate 3 refine p_q ?_
  ((refine p_c H rfl rfl Tryz.func46 (power_any _ k (by omega)) ?_; clear H; rintro e w1 ⟨v3, rfl, hF, hB⟩ H; refine p_r ?_; replace hF := hF.kp); rw [HTT.out] at hB; obtain ⟨b3, p3, m3, c3, rfl⟩ := hB.form; have HB3 := hid hB; clear hB)
  ((refine p_c H rfl rfl Tryz.func33 (mul_ar (bv HB1).ar (bv HB3).ar (by omega) (by omega)) ?_; clear H; rintro e w1 ⟨v4, rfl, hF, hB⟩ H; refine p_r ?_; replace hF := hF.kp); replace hB := hB.c; rw [← Int.natCast_mul, Int.natAbs_natCast] at hB; obtain ⟨b4, p4, m4, c4, rfl⟩ := hB.form; have HB4 := hid hB; clear hB)
  (revert H; refine pSF ?_; intro w1 H hk)
  (revert H; refine pSF ?_; intro w1 H hk)
  (refine pl_done ?_)
  all_goals
   go_wp2_with fail
   refine c_postCC H rfl rfl rfl rfl rfl ?_
   exact ⟨_, _, rfl, H.fr, bv HB4, bv HB2⟩
 ·obtain ⟨k, hk⟩ := Int.eq_ofNat_of_zero_le (show 0 ≤ -n by omega)
  have hbt := bl_ten k
  rw [up_neg hk, dn_neg hk]
  obtain ⟨T, hT⟩ : ∃ T, 10 ^ k = T := ⟨_, rfl⟩
  have HTT := hid hT
  rw [hT] at hbt ⊢
  have HKK := hid hk
  have hk5 : k ≤ 3000 := by omega
  clear hT hk
  go_enter Tryz.func54, Tryz.ntmps54
  go_wp2_with (first | refine x_q H ?_ | (revert H; refine x_g ?_; intro g w1 hg hf H; replace hf := hf.kp))
  (revert H; refine w_pF 7 (.st 0 (.st 1 (.st 2 (.st 3 (.ld 4 (.ld 5 (.ld 6 (.ld 7 .done)))))))) ?_ (hs := (.cons _ (.cons _ (List.Sublist.refl _)))); intro w1 hf H; (first | replace hf := hf.kp | clear hf))
  iterate 3 refine p_q ?_
  (refine p_e rfl (fun w H => ev_negZ rfl rfl) ?_)
  ((refine p_c H rfl rfl Tryz.func46 (powerY_any _ k HKK.out (by omega)) ?_; clear H; rintro e w1 ⟨v3, rfl, hF, hB⟩ H; refine p_r ?_; replace hF := hF.kp); rw [HTT.out] at hB; obtain ⟨b3, p3, m3, c3, rfl⟩ := hB.form; have HB3 := hid hB; clear hB)
  ((refine p_c H rfl rfl Tryz.func33 (mul_ar (bv HB2).ar (bv HB3).ar (by omega) (by omega)) ?_; clear H; rintro e w1 ⟨v4, rfl, hF, hB⟩ H; refine p_r ?_; replace hF := hF.kp); replace hB := hB.c; rw [← Int.natCast_mul, Int.natAbs_natCast] at hB; obtain ⟨b4, p4, m4, c4, rfl⟩ := hB.form; have HB4 := hid hB; clear hB)
  (revert H; refine pSF ?_; intro w1 H hk)
  (revert H; refine pSF ?_; intro w1 H hk)
  (refine pl_done ?_)
  all_goals
   go_wp2_with fail
   refine c_postCC H rfl rfl rfl rfl rfl ?_
   exact ⟨_, _, rfl, H.fr, bv HB1, bv HB4⟩
theorem rm_lt {X Y : Nat} (h : 2 * (X % Y) < Y) : rm false 0 X Y = X / Y := by
 unfold rm
 split
 ·rfl
 ·rw [show cmpN (2 * (X % Y)) Y = -1 by unfold cmpN; rw [if_pos h], rup_near, if_neg (by simp)]
theorem rm_gt {X Y : Nat} (h : Y < 2 * (X % Y)) : rm false 0 X Y = X / Y + 1 := by
 unfold rm
 rw [if_neg (by omega), show cmpN (2 * (X % Y)) Y = 1 by unfold cmpN; rw [if_neg (by omega), if_neg (by omega)], rup_near, if_pos (by simp)]
theorem rm_eq {X Y : Nat} (hY : 0 < Y) (h : 2 * (X % Y) = Y) : rm false 0 X Y = if X / Y % 2 = 1 then X / Y + 1 else X / Y := by
 unfold rm
 rw [if_neg (by omega), show cmpN (2 * (X % Y)) Y = 0 by unfold cmpN; rw [if_neg (by omega), if_pos h], rup_near]
 simp
theorem tzP {n : Nat} (h0 : n ≠ 0) (h : n % 2 ≠ 1) : ∃ j, tz n = j + 1 := by
 have e : n = 2 * (n / 2) := by omega
 exact ⟨tz (n / 2), by rw [e, tz_even (by omega)]; congr 2; omega⟩
set_option maxHeartbeats 16000000 in
theorem nearest_any {w : World} {u v : Value} {X Y : Nat} (hu : Bv w u (X : Int) (bl X)) (hv : Bv w v (Y : Int) (bl Y)) (hX : bl X ≤ 60000) (hY : bl Y ≤ 60000) (hY0 : 0 < Y) (hT : La w) :
  Calls Tryz.prog 53 #[u, v] w fun r w' => ∃ v1, r = .returned v1 ∧ Fr [] w w' ∧ Bv w' v1 ((rm false 0 X Y : Nat) : Int) (bl (rm false 0 X Y)) := by
 obtain ⟨b1, p1, m1, c1, rfl⟩ := hu.form
 obtain ⟨b2, p2, m2, c2, rfl⟩ := hv.form
 have HB1 := hid hu
 have HB2 := hid hv
 have HT := hid hT
 have hyz : (Y : Int) ≠ 0 := by omega
 have HYZ := hid hyz
 have hq := bl_mono (Nat.div_le_self X Y)
 have hrY : X % Y < Y := Nat.mod_lt _ hY0
 have hr := bl_mono (Nat.le_of_lt hrY)
 have HC := hid (show (2 * (X % Y) < Y ∧ rm false 0 X Y = X / Y ∧ cmpZ (((X % Y) + (X % Y) : Nat) : Int) (Y : Int) = -1) ∨ (Y < 2 * (X % Y) ∧ rm false 0 X Y = X / Y + 1 ∧ cmpZ (((X % Y) + (X % Y) : Nat) : Int) (Y : Int) = 1) ∨ (2 * (X % Y) = Y ∧ (rm false 0 X Y = if X / Y % 2 = 1 then X / Y + 1 else X / Y) ∧ cmpZ (((X % Y) + (X % Y) : Nat) : Int) (Y : Int) = 0) by
  rcases Nat.lt_trichotomy (2 * (X % Y)) Y with h | h | h
  ·exact .inl ⟨h, rm_lt h, cmpZ_lt (by omega)⟩
  ·exact .inr (.inr ⟨h, rm_eq hY0 h, by rw [show (((X % Y) + (X % Y) : Nat) : Int) = (Y : Int) by omega]; exact cmpZ_eq _⟩)
  ·exact .inr (.inl ⟨h, rm_gt h, cmpZ_gt (by omega)⟩))
 have HQ : Hid ((X : Int) / (Y : Int) = ((X / Y : Nat) : Int)) := hid (Int.natCast_ediv X Y).symm
 have HR : Hid ((X : Int) % (Y : Int) = ((X % Y : Nat) : Int)) := hid (Int.natCast_emod X Y).symm
 obtain ⟨R, hR⟩ : ∃ R, rm false 0 X Y = R := ⟨_, rfl⟩
 obtain ⟨q, hqq⟩ : ∃ R, X / Y = R := ⟨_, rfl⟩
 obtain ⟨r, hrr⟩ : ∃ R, X % Y = R := ⟨_, rfl⟩
 rw [hR, hqq, hrr] at HC
 rw [hqq] at HQ hq
 rw [hrr] at HR hr hrY
 rw [hR]
 have hrr2 : bl (r + r) ≤ bl r + 1 := bl_le (by have := bl_lt r; rw [Nat.pow_succ]; omega)
 clear hu hv hT hyz hR hqq hrr
 have H := Hp.start [] w
 go_enter Tryz.func53, Tryz.ntmps53
 go_wp2_with (first | refine x_q H ?_ | (revert H; refine x_g ?_; intro g w1 hg hf H; replace hf := hf.kp))
 (refine x_c H (divMod_ar (HB1.out.fr H.fr).ar (HB2.out.fr H.fr).ar (by omega) (by omega) HYZ.out) ?_; clear H; rintro e w1 ⟨v3, v4, rfl, hF, hB, hB2⟩ H; replace hF := hF.kp; replace hB := hB.c; replace hB2 := hB2.c; rw [HQ.out, Int.natAbs_natCast] at hB; rw [HR.out, Int.natAbs_natCast] at hB2; obtain ⟨b3, p3, m3, c3, rfl⟩ := hB.form; have HB3 := hid hB; clear hB; obtain ⟨b4, p4, m4, c4, rfl⟩ := hB2.form; have HB4 := hid hB2; clear hB2)
 go_wp2_with (first | (revert H; refine xSF ?_; intro w1 H hk) | (revert H; refine x_g ?_; intro g w1 hg hf H; replace hf := hf.kp))
 (revert H; refine w_pF 6 (.st 0 (.st 1 (.st 3 (.ld 2 (.ld 4 (.st 5 .done)))))) ?_; intro w1 hf H; (first | replace hf := hf.kp | clear hf))
 iterate 3 refine p_q ?_
 ((refine p_c H rfl rfl Tryz.func121 (add_ar (bv HB4).ar (bv HB4).ar (by omega) (by omega)) ?_; clear H; rintro e w1 ⟨v5, rfl, hF, hB⟩ H; refine p_r ?_; replace hF := hF.kp); replace hB := hB.c; rw [← Int.natCast_add, Int.natAbs_natCast] at hB; obtain ⟨b5, p5, m5, c5, rfl⟩ := hB.form; have HB5 := hid hB; clear hB)
 ((refine p_c H rfl rfl Tryz.func90 (cmp_ar (bv HB5).ar (HB2.out.fr H.fr).ar (by omega) (by omega)) ?_; clear H; rintro e w1 ⟨rfl, hF⟩ H; refine p_r ?_; replace hF := hF.kp))
 refine p_q ?_
 (refine pl_done ?_)
 all_goals
  rcases HC.out with ⟨_, h2, h3⟩ | ⟨_, h2, h3⟩ | ⟨_, h2, h3⟩
  ·rw [h3]
   have HX3 := hid h2
   clear h2 h3 HC
   go_wp2_with (first | refine x_q H ?_ | (revert H; refine xSF ?_; intro w1 H hk))
   refine c_post H rfl rfl rfl ?_
   exact ⟨_, rfl, H.fr, by rw [HX3.out]; exact bv HB3⟩
  ·rw [h3]
   have HX3 := hid h2
   clear h2 h3 HC
   go_wp2_with (refine x_q H ?_)
   (revert H; refine w_pF 3 (.st 0 (.ld 1 (.ld 2 (.ld 3 .done)))) ?_; intro w1 hf H; (first | replace hf := hf.kp | clear hf))
   refine p_q ?_
   ((refine p_c H rfl rfl Tryz.func86 (fromInt_ar _ 1 (by simp only [inr]; omega)) ?_; clear H; rintro e w1 ⟨v6, rfl, hF, hB⟩ H; refine p_r ?_; replace hF := hF.kp); obtain ⟨b6, p6, m6, c6, rfl⟩ := hB.form; have HB6 := hid hB; clear hB)
   ((refine p_c H rfl rfl Tryz.func121 (add_ar (bv HB3).ar (bv HB6).ar (by omega) (by omega)) ?_; clear H; rintro e w1 ⟨v7, rfl, hF, hB⟩ H; refine p_r ?_; replace hF := hF.kp); replace hB := hB.c; rw [show (q : Int) + 1 = ((q + 1 : Nat) : Int) from rfl, Int.natAbs_natCast] at hB; obtain ⟨b7, p7, m7, c7, rfl⟩ := hB.form; have HB7 := hid hB; clear hB)
   (revert H; refine pSF ?_; intro w1 H hk)
   (refine pl_done ?_)
   all_goals
    go_wp2_with (first | refine x_q H ?_ | (revert H; refine xSF ?_; intro w1 H hk))
    refine c_post H rfl rfl rfl ?_
    exact ⟨_, rfl, H.fr, by rw [HX3.out]; exact bv HB7⟩
  ·rw [h3]
   by_cases n1 : q % 2 = 1
   ·have HX3 := hid (h2.trans (if_pos n1))
    have HZ := hid (tz_odd n1)
    have HN0 := hid (show (q : Int) ≠ 0 by omega)
    clear n1 h2 h3 HC
    go_wp2_with (refine x_q H ?_)
    (refine x_c H (sign_nz (bv HB3).ar (by omega) HN0.out) ?_; clear H; rintro e w1 ⟨s4, rfl, hs4, hF⟩ H; replace hF := hF.kp)
    go_wp2_with (refine x_q H ?_)
    (refine x_c H (trailing_ar (bv HB3).ar (by omega) (HT.out.fr H.fr).1) ?_; clear H; rintro e w1 ⟨rfl, hF⟩ H; replace hF := hF.kp; rw [Int.natAbs_natCast, HZ.out])
    go_wp2_with (refine x_q H ?_)
    (revert H; refine w_pF 3 (.st 0 (.ld 1 (.ld 2 (.ld 3 .done)))) ?_; intro w1 hf H; (first | replace hf := hf.kp | clear hf))
    refine p_q ?_
    ((refine p_c H rfl rfl Tryz.func86 (fromInt_ar _ 1 (by simp only [inr]; omega)) ?_; clear H; rintro e w1 ⟨v6, rfl, hF, hB⟩ H; refine p_r ?_; replace hF := hF.kp); obtain ⟨b6, p6, m6, c6, rfl⟩ := hB.form; have HB6 := hid hB; clear hB)
    ((refine p_c H rfl rfl Tryz.func121 (add_ar (bv HB3).ar (bv HB6).ar (by omega) (by omega)) ?_; clear H; rintro e w1 ⟨v7, rfl, hF, hB⟩ H; refine p_r ?_; replace hF := hF.kp); replace hB := hB.c; rw [show (q : Int) + 1 = ((q + 1 : Nat) : Int) from rfl, Int.natAbs_natCast] at hB; obtain ⟨b7, p7, m7, c7, rfl⟩ := hB.form; have HB7 := hid hB; clear hB)
    (revert H; refine pSF ?_; intro w1 H hk)
    (refine pl_done ?_)
    all_goals
     go_wp2_with (first | refine x_q H ?_ | (revert H; refine xSF ?_; intro w1 H hk))
     refine c_post H rfl rfl rfl ?_
     exact ⟨_, rfl, H.fr, by rw [HX3.out]; exact bv HB7⟩
   ·have HX3 := hid (h2.trans (if_neg n1))
    by_cases n0 : q = 0
    ·have HN0 := hid (show (q : Int) = 0 by omega)
     clear n1 n0 h2 h3 HC
     go_wp2_with (refine x_q H ?_)
     (refine x_c H (sign_is0 (bv HB3).ar (by omega) HN0.out) ?_; clear H; rintro e w1 ⟨rfl, hF⟩ H; replace hF := hF.kp)
     go_wp2_with (first | refine x_q H ?_ | (revert H; refine xSF ?_; intro w1 H hk))
     refine c_post H rfl rfl rfl ?_
     exact ⟨_, rfl, H.fr, by rw [HX3.out]; exact bv HB3⟩
    ·have HN0 := hid (show (q : Int) ≠ 0 by omega)
     obtain ⟨j, hj⟩ := tzP n0 n1
     have HZ := hid hj
     clear n1 n0 hj h2 h3 HC
     go_wp2_with (refine x_q H ?_)
     (refine x_c H (sign_nz (bv HB3).ar (by omega) HN0.out) ?_; clear H; rintro e w1 ⟨s4, rfl, hs4, hF⟩ H; replace hF := hF.kp)
     go_wp2_with (refine x_q H ?_)
     (refine x_c H (trailing_ar (bv HB3).ar (by omega) (HT.out.fr H.fr).1) ?_; clear H; rintro e w1 ⟨rfl, hF⟩ H; replace hF := hF.kp; rw [Int.natAbs_natCast, HZ.out])
     go_wp2_with (first | refine x_q H ?_ | (revert H; refine xSF ?_; intro w1 H hk))
     refine c_post H rfl rfl rfl ?_
     exact ⟨_, rfl, H.fr, by rw [HX3.out]; exact bv HB3⟩
theorem ev_quoT {P : Program} {w : World} {a : Act} {o : Oper} {t t' : TypeId} {x : Operand} (ho : o.op = .binOp .quo t x (.const (.int .i64 100000)) t') {m z : Int} (hx : a.eval x = .int .i64 m) (hz : Hid (m.tdiv 100000 = z)) (hr : inr .i64 z := by simp only [inr]; omega) : (execOp a.eval o).run P w = .ok (.value (.int .i64 z)) w := by
 have e : IntKind.i64.wrap (m.tdiv 100000) = z := by rw [hz.out]; exact wrap_inr hr
 exact ev_bin ho hx rfl (fun w => by
  simp [binOp, Op.intDiv, e])
theorem cmp_ge {w : World} {u v : Value} {x y : Int} {n m : Nat} (h : Av w u x n) (k : Av w v y m) (hn : n ≤ 200000) (hm : m ≤ 200000) (hx : y ≤ x) :
  Calls Tryz.prog 90 #[u, v] w fun e w' => ∃ s : Int, e = .returned (.int .i64 s) ∧ 0 ≤ s ∧ Fr [] w w' :=
 Calls.mono (cmp_ar h k hn hm) (fun e w' hb => ⟨_, hb.1, by unfold cmpZ; (repeat' split) <;> omega, hb.2⟩)
theorem scaledZ_any {w : World} {u v : Value} {N D : Nat} {z : Int} (n : Int) (hz : z = n) (hu : Bv w u (N : Int) (bl N)) (hv : Bv w v (D : Int) (bl D)) (hN : bl N ≤ 10000) (hD : bl D ≤ 10000) (hn : -3000 ≤ n ∧ n ≤ 3000) {X Y : Nat} (hX : Hid (upN N n = X)) (hY : Hid (dnD D n = Y)) :
  Calls Tryz.prog 54 #[u, v, .int .i64 z] w fun r w' => ∃ v1 v2, r = .returned (.tuple #[v1, v2]) ∧ Fr [] w w' ∧ Bv w' v1 (X : Int) (bl X) ∧ Bv w' v2 (Y : Int) (bl Y) := by
 subst hz
 rw [← hX.out, ← hY.out]
 exact scaled_any z hu hv hN hD hn
theorem bl_upN {N : Nat} {n : Int} (h : n ≤ 3000) : bl (upN N n) ≤ bl N + 12001 := by
 unfold upN
 have h1 := bl_prod N (10 ^ n.toNat)
 have h2 := bl_ten n.toNat
 omega
theorem bl_dnD {N : Nat} {n : Int} (h : -3000 ≤ n) : bl (dnD N n) ≤ bl N + 12001 := by
 unfold dnD
 have h1 := bl_prod N (10 ^ (-n).toNat)
 have h2 := bl_ten (-n).toNat
 omega
set_option maxHeartbeats 16000000 in
theorem magnitude_any {w : World} {u v : Value} {N D : Nat} (hu : Bv w u (N : Int) (bl N)) (hv : Bv w v (D : Int) (bl D)) (hN : bl N ≤ 1100) (hD : bl D ≤ 1100) (hN0 : 0 < N) (hD0 : 0 < D) :
  Calls Tryz.prog 51 #[u, v] w fun r w' => ∃ k : Int, r = .returned (.int .i64 k) ∧ Fr [] w w' ∧ tenLe N D k ∧ ¬ tenLe N D (k + 1) ∧ -400 ≤ k ∧ k ≤ 400 := by
 obtain ⟨b1, p1, m1, c1, rfl⟩ := hu.form
 obtain ⟨b2, p2, m2, c2, rfl⟩ := hv.form
 have HB1 := hid hu
 have HB2 := hid hv
 have hb1 := bl_pos (show N ≠ 0 by omega)
 have hb2 := bl_pos (show D ≠ 0 by omega)
 obtain ⟨t, ht⟩ : ∃ t : Int, (bl N : Int) - bl D - 1 = t := ⟨_, rfl⟩
 have htr : -1150 ≤ t ∧ t < 1150 := by omega
 have H0 := hid (k0_ten (show N ≠ 0 by omega) (show D ≠ 0 by omega) ht.symm htr.1 htr.2)
 have hk0 := k0_range htr.1 htr.2
 obtain ⟨k, hk⟩ : ∃ k, k0 t = k := ⟨_, rfl⟩
 rw [hk] at H0 hk0
 have HKK : Hid ((((bl N : Int) - bl D - 1) * 30103).tdiv 100000 = k + 2) := hid (by rw [ht]; have := hk; unfold k0 at this; omega)
 have hD1 : D ≠ 0 := by omega
 have HD1 := hid hD1
 clear hu hv ht hk htr
 have H := Hp.start [] w
 go_enter Tryz.func51, Tryz.ntmps51
 go_wp2_with (revert H; refine x_g ?_; intro g w1 hg hf H; replace hf := hf.kp)
 rename_i ga wa hga hfa xa ya
 (revert H; refine w_pF 9 (.st 0 (.st 2 (.ld 1 (.ld 3 (.st 4 (.st 5 (.st 6 (.st 7 (.st 8 .done))))))))) ?_; intro w1 hf H; (first | replace hf := hf.kp | clear hf))
 iterate 2 refine p_q ?_
 ((refine p_c H rfl rfl Tryz.func117 (bitLen_ar (HB1.out.fr H.fr).ar (by omega)) ?_; clear H; rintro e w1 ⟨rfl, hF⟩ H; refine p_r ?_; replace hF := hF.kp); rw [Int.natAbs_natCast])
 ((refine p_c H rfl rfl Tryz.func117 (bitLen_ar (HB2.out.fr H.fr).ar (by omega)) ?_; clear H; rintro e w1 ⟨rfl, hF⟩ H; refine p_r ?_; replace hF := hF.kp); rw [Int.natAbs_natCast])
 iterate 3 refine p_q ?_
 (refine p_e rfl (fun w H => ev_quoT rfl rfl HKK) ?_)
 refine p_q ?_
 (refine pl_done ?_)
 all_goals
  go_wp2_with fail
  go_loopw [5] (fun s5 wr => ∃ k : Int, s5 = .int .i64 k ∧ -400 ≤ k ∧ Hid (tenLe N D k) ∧ Hp [] w wr [.blk g [.bool b2, .slice p2 m2 c2] 50, .blk ga [.bool b1, .slice p1 m1 c1] 50]) (fun v _ => (400 - intOf v).toNat)
  case atStart => exact ⟨k, by go_num, by omega, H0, H⟩
  case round =>
   clear H H0
   obtain ⟨k, rfl, hk1, HT, H⟩ := hrel
   have hk2 := k_top HD1.out hN HT.out
   have hbu := bl_upN (N := N) (n := -(k + 1)) (by omega)
   have hbd := bl_dnD (N := D) (n := -(k + 1)) (by omega)
   obtain ⟨X, hX⟩ : ∃ X, upN N (-(k + 1)) = X := ⟨_, rfl⟩
   obtain ⟨Y, hY⟩ : ∃ X, dnD D (-(k + 1)) = X := ⟨_, rfl⟩
   have HIF : Hid (tenLe N D (k + 1) ↔ Y ≤ X) := hid (by unfold tenLe; rw [hX, hY])
   rw [hX] at hbu
   rw [hY] at hbd
   have HX := hid hX
   have HY := hid hY
   clear hX hY
   go_wp2_with (refine x_q H ?_)
   (refine x_c H (scaledZ_any (z := -k - 1) (-(k + 1)) (by omega) (HB1.out.fr H.fr) (HB2.out.fr H.fr) (by omega) (by omega) (by omega) HX HY) ?_; clear H; rintro e w1 ⟨v3, v4, rfl, hF, hB, hB2⟩ H; replace hF := hF.kp; obtain ⟨b3, p3, m3, c3, rfl⟩ := hB.form; have HB3 := hid hB; clear hB; obtain ⟨b4, p4, m4, c4, rfl⟩ := hB2.form; have HB4 := hid hB2; clear hB2)
   go_wp2_with (first | refine x_q H ?_ | (revert H; refine xSF ?_; intro w1 H hk) | (revert H; refine x_g ?_; intro g w1 hg hf H; replace hf := hf.kp))
   by_cases hlt : X < Y
   ·(refine x_c H (cmp_below (bv HB3).ar (bv HB4).ar (by omega) (by omega) (by omega)) ?_; clear H; rintro e w1 ⟨s, rfl, hs, hF⟩ H; replace hF := hF.kp)
    go_wp2_with (refine x_q H ?_)
    go_ret
    exact ⟨k, rfl, H.fr, HT.out, fun h => by have := HIF.out.1 h; omega, by omega, by omega⟩
   ·have HT2 := hid (HIF.out.2 (by omega))
    clear HT HIF
    (refine x_c H (cmp_ge (bv HB3).ar (bv HB4).ar (by omega) (by omega) (by omega)) ?_; clear H; rintro e w1 ⟨s, rfl, hs, hF⟩ H; replace hF := hF.kp)
    go_wp2_with (refine x_q H ?_)
    go_roundw
    case rel => exact ⟨k + 1, rfl, by omega, HT2, by (refine Hp.arr H ?_; repeat (first | exact Pm.nil _ | (apply Pm.cons; · (repeat first | exact Rm.here _ | apply Rm.there))))⟩
    case measure => (simp [intOf]; try omega)
end Go.Proofs.YthbeeeclgbpopaaGreatDoor
