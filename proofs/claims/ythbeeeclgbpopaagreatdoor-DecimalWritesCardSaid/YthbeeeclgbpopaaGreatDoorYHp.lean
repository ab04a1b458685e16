import Derived.Test.YthbeeeclgbpopaaGreatDoorYHa2
import Derived.Test.YthbeeeclgbpopaaGreatDoorYFa5
namespace Go.Proofs.YthbeeeclgbpopaaGreatDoor
open Go.RowKit
set_option linter.unusedSimpArgs false
set_option linter.unusedVariables false
set_option maxHeartbeats 16000000
set_option maxRecDepth 100000
theorem ev_m11I {P : Program} {w : World} {a : Act} {o : Oper} {t t' : TypeId} {x : Operand} (ho : o.op = .binOp .and t x (.const (.int .u64 2047)) t') {m z : Nat} (hx : a.eval x = .int .u64 (m : Int)) (hz : Hid (m % 2048 = z)) (hm : m < 18446744073709551616 := by omega) : (execOp a.eval o).run P w = .ok (.value (.int .u64 (z : Int))) w := by
 rw [← hz.out]; exact ev_m11 ho hx hm
theorem ev_m52I {P : Program} {w : World} {a : Act} {o : Oper} {t t' : TypeId} {x : Operand} (ho : o.op = .binOp .and t x (.const (.int .u64 4503599627370495)) t') {m z : Nat} (hx : a.eval x = .int .u64 (m : Int)) (hz : Hid (m % 4503599627370496 = z)) (hm : m < 18446744073709551616 := by omega) : (execOp a.eval o).run P w = .ok (.value (.int .u64 (z : Int))) w := by
 rw [← hz.out]; exact ev_m52 ho hx hm
theorem rkind_any (w : World) {b : Nat} {k : Int} (hb : b < 18446744073709551616) (hk : Hid (kindF b = k)) :
  Calls Tryz.prog 15 #[.int .u64 (b : Int)] w fun r w' => r = .returned (.int .i64 k) ∧ Fr [] w w' := by
 rw [← hk.out]
 have H := Hp.start [] w
 have HK : Hid (kindF b = if b / 4503599627370496 % 2048 = 2047 then (if b % 4503599627370496 = 0 then 2 else 3) else if b / 4503599627370496 % 2048 = 0 ∧ b % 4503599627370496 = 0 then 0 else 1) := hid rfl
 have hx : b / 4503599627370496 % 2048 < 2048 := Nat.mod_lt _ (by decide)
 have hq : b / 4503599627370496 < 18446744073709551616 := by omega
 obtain ⟨x, hX⟩ : ∃ x, b / 4503599627370496 % 2048 = x := ⟨_, rfl⟩
 obtain ⟨y, hY⟩ : ∃ x, b % 4503599627370496 = x := ⟨_, rfl⟩
 have hy : b % 4503599627370496 < 4503599627370496 := Nat.mod_lt _ (by decide)
 rw [hX, hY] at HK
 rw [hX] at hx
 rw [hY] at hy
 have HX := hid hX
 have HY := hid hY
 clear hX hY
 by_cases h1 : x = 2047
 ·by_cases h2 : y = 0
  ·have HV : Hid (kindF b = 2) := hid (HK.out.trans (by rw [if_pos h1, if_pos h2]))
   go_enter Tryz.func15, Tryz.ntmps15
   go_wp2_with (first | refine x_q H ?_ | refine x_e (ev_s52 rfl rfl) ?_ | refine x_e (ev_m11I rfl rfl HX) ?_ | refine x_e (ev_m52I rfl rfl HY) ?_)
   go_ret
   exact ⟨by rw [HV.out]; rfl, H.fr⟩
  ·have HV : Hid (kindF b = 3) := hid (HK.out.trans (by rw [if_pos h1, if_neg h2]))
   go_enter Tryz.func15, Tryz.ntmps15
   go_wp2_with (first | refine x_q H ?_ | refine x_e (ev_s52 rfl rfl) ?_ | refine x_e (ev_m11I rfl rfl HX) ?_ | refine x_e (ev_m52I rfl rfl HY) ?_)
   go_ret
   exact ⟨by rw [HV.out]; rfl, H.fr⟩
 ·by_cases h2 : x = 0
  ·by_cases h3 : y = 0
   ·have HV : Hid (kindF b = 0) := hid (HK.out.trans (by rw [if_neg h1, if_pos ⟨h2, h3⟩]))
    go_enter Tryz.func15, Tryz.ntmps15
    go_wp2_with (first | refine x_q H ?_ | refine x_e (ev_s52 rfl rfl) ?_ | refine x_e (ev_m11I rfl rfl HX) ?_ | refine x_e (ev_m52I rfl rfl HY) ?_)
    go_ret
    exact ⟨by rw [HV.out]; rfl, H.fr⟩
   ·have HV : Hid (kindF b = 1) := hid (HK.out.trans (by rw [if_neg h1, if_neg (fun h => h3 h.2)]))
    go_enter Tryz.func15, Tryz.ntmps15
    go_wp2_with (first | refine x_q H ?_ | refine x_e (ev_s52 rfl rfl) ?_ | refine x_e (ev_m11I rfl rfl HX) ?_ | refine x_e (ev_m52I rfl rfl HY) ?_)
    go_ret
    exact ⟨by rw [HV.out]; rfl, H.fr⟩
  ·have HV : Hid (kindF b = 1) := hid (HK.out.trans (by rw [if_neg h1, if_neg (fun h => h2 h.1)]))
   go_enter Tryz.func15, Tryz.ntmps15
   go_wp2_with (first | refine x_q H ?_ | refine x_e (ev_s52 rfl rfl) ?_ | refine x_e (ev_m11I rfl rfl HX) ?_ | refine x_e (ev_m52I rfl rfl HY) ?_)
   go_ret
   exact ⟨by rw [HV.out]; rfl, H.fr⟩
theorem rnan_any (w : World) {b : Nat} {k : Int} (hb : b < 18446744073709551616) (hk : Hid (kindF b = k)) (h3 : k ≠ 3) :
  Calls Tryz.prog 48 #[.int .u64 (b : Int)] w fun r w' => r = .returned (.bool false) ∧ Fr [] w w' := by
 have H := Hp.start [] w
 go_enter Tryz.func48, Tryz.ntmps48
 go_wp2_with fail
 (refine x_c H (rkind_any _ hb hk) ?_; clear H; rintro e w1 ⟨rfl, hF⟩ H; replace hF := hF.kp)
 go_wp2_with (refine x_q H ?_)
 go_ret
 exact ⟨rfl, H.fr⟩
theorem rabs_anyF (w : World) {b z : Nat} {k : Int} (hb : b < 18446744073709551616) (hk : Hid (kindF b = k)) (h3 : k ≠ 3) (hz : Hid (b % 9223372036854775808 = z)) :
  Calls Tryz.prog 16 #[.int .u64 (b : Int)] w fun r w' => r = .returned (.int .u64 (z : Int)) ∧ Fr [] w w' := by
 have H := Hp.start [] w
 go_enter Tryz.func16, Tryz.ntmps16
 go_wp2_with fail
 (refine x_c H (rnan_any _ hb hk h3) ?_; clear H; rintro e w1 ⟨rfl, hF⟩ H; replace hF := hF.kp)
 go_wp2_with (refine x_e (ev_an63 rfl rfl hz) ?_)
 go_ret
 exact ⟨rfl, H.fr⟩
theorem risFinite_any (w : World) {b x : Nat} (hb : b < 18446744073709551616) (hx : Hid (b / 4503599627370496 % 2048 = x)) {f : Bool} (hf : Hid (decide (x ≠ 2047) = f)) :
  Calls Tryz.prog 28 #[.int .u64 (b : Int)] w fun r w' => r = .returned (.bool f) ∧ Fr [] w w' := by
 rw [← hf.out]
 clear hf
 have hq : b / 4503599627370496 < 18446744073709551616 := by omega
 have H := Hp.start [] w
 by_cases h1 : x = 2047
 ·have HV : Hid (decide (x ≠ 2047) = false) := hid (by simp [h1])
  go_enter Tryz.func28, Tryz.ntmps28
  go_wp2_with (first | refine x_q H ?_ | refine x_e (ev_s52 rfl rfl) ?_ | refine x_e (ev_m11I rfl rfl hx) ?_)
  go_ret
  exact ⟨by rw [HV.out]; rfl, H.fr⟩
 ·have HV : Hid (decide (x ≠ 2047) = true) := hid (by simp [h1])
  go_enter Tryz.func28, Tryz.ntmps28
  go_wp2_with (first | refine x_q H ?_ | refine x_e (ev_s52 rfl rfl) ?_ | refine x_e (ev_m11I rfl rfl hx) ?_)
  go_ret
  exact ⟨by rw [HV.out]; rfl, H.fr⟩
theorem rshiftUpZ_any {w : World} {u : Value} {x z : Int} {n : Nat} (k : Nat) (hz : z = (k : Int)) (h : Av w u x n) (hn : n ≤ 100000) (hk : k ≤ 1048576) :
  Calls Tryz.prog 64 #[u, .int .i64 z] w fun e w' => ∃ v1, e = .returned v1 ∧ Fr [] w w' ∧ Bv w' v1 (x * 2 ^ k) (n + k + 1) := by
 subst hz
 exact rshiftUp_ar k h hn hk
theorem rpower_any {w : World} {u : Value} {z : Int} {n : Nat} (k : Nat) (hz : z = (k : Int)) (h : Av w u 10 n) (hn : n ≤ 10) (hkU : k ≤ 3000) :
  Calls Tryz.prog 113 #[u, .int .i64 z] w fun e w' => ∃ v1, e = .returned v1 ∧ Fr [] w w' ∧ Bv w' v1 ((10 ^ k : Nat) : Int) (bl (10 ^ k)) := by
 subst hz
 obtain ⟨b1, p1, m1, c1, rfl⟩ := h.form
 have HA1 := hid h
 clear h
 have H := Hp.start [] w
 go_enter Tryz.func113, Tryz.ntmps113
 go_wp2_with (revert H; refine x_g ?_; intro g w1 hg hf H; replace hf := hf.kp)
 (refine x_c H (rfromInt_ar _ 1 (by simp only [inr]; omega)) ?_; clear H; rintro e w1 ⟨v3, rfl, hF, hB⟩ H; replace hF := hF.kp; obtain ⟨b3, p3, m3, c3, rfl⟩ := hB.form; have HB3 := hid hB; clear hB)
 go_wp2_with (first | (revert H; refine xSF ?_; intro w1 H hk) | (revert H; refine x_g ?_; intro g w1 hg hf H; replace hf := hf.kp))
 rename_i ga wa hga hfa gb wb hgb hfb wc wd xa xb
 go_loopw [1] (fun s1 wr => ∃ (i j : Nat) (b3 : Bool) (p3 : Option Addr) (m3 c3 : Nat), s1 = .int .i64 (i : Int) ∧ i ≤ 3000 ∧ j ≤ 3000 ∧ i + j = k ∧ Hp [] w wr [.blk g [.bool b3, .slice p3 m3 c3] 50, .blk gb [.bool false, .slice none 0 0] 50, .blk ga [.bool b1, .slice p1 m1 c1] 50] ∧ Hid (Bv wr (.agg #[.bool b3, .slice p3 m3 c3]) ((10 ^ j : Nat) : Int) (bl (10 ^ j)))) (fun v _ => (intOf v).toNat)
 case atStart => exact ⟨k, 0, _, _, _, _, rfl, hkU, by omega, by omega, H, hid (bv HB3).c⟩
 case round =>
  clear H HB3
  obtain ⟨i, j, b3, p3, m3, c3, rfl, hi, hj, hij, H, HB3⟩ := hrel
  have hbt := bl_ten j
  by_cases h0 : i = 0
  ·subst h0
   obtain rfl : j = k := by omega
   go_wp2_with (first | refine x_q H ?_ | (revert H; refine xSF ?_; intro w1 H hk))
   refine c_post H rfl rfl rfl ?_
   exact ⟨_, rfl, H.fr, bv HB3⟩
  ·have HP : Hid (10 ^ j * 10 = 10 ^ (j + 1)) := hid (Nat.pow_succ _ _).symm
   go_wp2_with (refine x_q H ?_)
   (refine x_c H (rmul_ar (bv HB3).ar (HA1.out.fr H.fr) (by omega) (by omega)) ?_; clear H; rintro e w1 ⟨v5, rfl, hF, hB⟩ H; replace hF := hF.kp; replace hB := hB.c; rw [show (10 : Int) = ((10 : Nat) : Int) from rfl, ← Int.natCast_mul, Int.natAbs_natCast, HP.out] at hB; obtain ⟨b5, p5, m5, c5, rfl⟩ := hB.form; have HB5 := hid hB; clear hB)
   go_wp2_with (revert H; refine xSF ?_; intro w1 H hk)
   go_roundw
   case rel => exact ⟨i - 1, j + 1, _, _, _, _, by first | rfl | go_num, by omega, by omega, by omega, H, hid (bv HB5)⟩
   case measure => (simp [intOf]; try omega)
end Go.Proofs.YthbeeeclgbpopaaGreatDoor
