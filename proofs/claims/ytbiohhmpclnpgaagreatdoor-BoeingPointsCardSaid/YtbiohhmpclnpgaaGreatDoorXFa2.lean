import Derived.Test.YtbiohhmpclnpgaaGreatDoorXEa2
import Derived.Test.YtbiohhmpclnpgaaGreatDoorXDc13
namespace Go.Proofs.YtbiohhmpclnpgaaGreatDoor
open Go.RowKit
set_option linter.unusedSimpArgs false
set_option linter.unusedVariables false
set_option maxHeartbeats 8000000
set_option maxRecDepth 100000
theorem ev_m63I {P : Program} {w : World} {a : Act} {o : Oper} {t t' : TypeId} {x : Operand} (ho : o.op = .binOp .and t x (.const (.int .u64 9223372036854775808)) t') {m z : Nat} (hx : a.eval x = .int .u64 (m : Int)) (hz : Hid ((if 9223372036854775808 ≤ m then 9223372036854775808 else 0 : Nat) = z)) (hm : m < 18446744073709551616 := by omega) : (execOp a.eval o).run P w = .ok (.value (.int .u64 (z : Int))) w := by
 rw [← hz.out]; exact ev_m63 ho hx hm
theorem parts_any (w : World) (b : Nat) (hb : b < 18446744073709551616) :
  Calls Tryz.prog 156 #[.int .u64 (b : Int)] w fun r w' => r = .returned (.tuple #[.int .i64 ((b / 4503599627370496 % 2048 : Nat) : Int), .int .u64 ((b % 4503599627370496 : Nat) : Int)]) ∧ Fr [] w w' := by
 have H := Hp.start [] w
 go_enter Tryz.func156, Tryz.ntmps156
 go_wp2_with (first | refine x_q H ?_ | refine x_e (ev_m11 rfl rfl) ?_ | refine x_e (ev_m52 rfl rfl) ?_ | refine x_e (ev_s52 rfl rfl) ?_)
 refine bodyPost_ret (results_tmp2 rfl _ _ _) rfl ?_
 exact ⟨rfl, H.fr⟩
theorem partsI_any (w : World) {b x y : Nat} (hb : b < 18446744073709551616) (hx : Hid (b / 4503599627370496 % 2048 = x)) (hy : Hid (b % 4503599627370496 = y)) :
  Calls Tryz.prog 156 #[.int .u64 (b : Int)] w fun r w' => r = .returned (.tuple #[.int .i64 (x : Int), .int .u64 (y : Int)]) ∧ Fr [] w w' := by
 rw [← hx.out, ← hy.out]; exact parts_any w b hb
theorem kind_any (w : World) (b : Nat) (hb : b < 18446744073709551616) :
  Calls Tryz.prog 159 #[.int .u64 (b : Int)] w fun r w' => r = .returned (.int .i64 (kindF b)) ∧ Fr [] w w' := by
 have H := Hp.start [] w
 have HK : Hid (kindF b = if b / 4503599627370496 % 2048 = 2047 then (if b % 4503599627370496 = 0 then 2 else 3) else if b / 4503599627370496 % 2048 = 0 ∧ b % 4503599627370496 = 0 then 0 else 1) := hid rfl
 have hx : b / 4503599627370496 % 2048 < 2048 := Nat.mod_lt _ (by decide)
 obtain ⟨x, hX⟩ : ∃ x, b / 4503599627370496 % 2048 = x := ⟨_, rfl⟩
 obtain ⟨y, hY⟩ : ∃ x, b % 4503599627370496 = x := ⟨_, rfl⟩
 have hy : b % 4503599627370496 < 4503599627370496 := Nat.mod_lt _ (by decide)
 rw [hX, hY] at HK
 rw [hX] at hx
 rw [hY] at hy
 have HX := hid hX
 have HY := hid hY
 clear hX hY
 by_cases h1 : x = 2047
 ·by_cases h2 : y = 0
  ·have HV : Hid (kindF b = 2) := hid (HK.out.trans (by rw [if_pos h1, if_pos h2]))
   go_enter Tryz.func159, Tryz.ntmps159
   go_wp2_with fail
   (refine x_c H (partsI_any _ hb HX HY) ?_; clear H; rintro e w1 ⟨rfl, hF⟩ H; replace hF := hF.kp)
   go_wp2_with (refine x_q H ?_)
   go_ret
   exact ⟨by rw [HV.out]; rfl, H.fr⟩
  ·have HV : Hid (kindF b = 3) := hid (HK.out.trans (by rw [if_pos h1, if_neg h2]))
   go_enter Tryz.func159, Tryz.ntmps159
   go_wp2_with fail
   (refine x_c H (partsI_any _ hb HX HY) ?_; clear H; rintro e w1 ⟨rfl, hF⟩ H; replace hF := hF.kp)
   go_wp2_with (refine x_q H ?_)
   go_ret
   exact ⟨by rw [HV.out]; rfl, H.fr⟩
 ·by_cases h2 : x = 0
  ·by_cases h3 : y = 0
   ·have HV : Hid (kindF b = 0) := hid (HK.out.trans (by rw [if_neg h1, if_pos ⟨h2, h3⟩]))
    go_enter Tryz.func159, Tryz.ntmps159
    go_wp2_with fail
    (refine x_c H (partsI_any _ hb HX HY) ?_; clear H; rintro e w1 ⟨rfl, hF⟩ H; replace hF := hF.kp)
    go_wp2_with (refine x_q H ?_)
    go_ret
    exact ⟨by rw [HV.out]; rfl, H.fr⟩
   ·have HV : Hid (kindF b = 1) := hid (HK.out.trans (by rw [if_neg h1, if_neg (fun h => h3 h.2)]))
    go_enter Tryz.func159, Tryz.ntmps159
    go_wp2_with fail
    (refine x_c H (partsI_any _ hb HX HY) ?_; clear H; rintro e w1 ⟨rfl, hF⟩ H; replace hF := hF.kp)
    go_wp2_with (refine x_q H ?_)
    go_ret
    exact ⟨by rw [HV.out]; rfl, H.fr⟩
  ·have HV : Hid (kindF b = 1) := hid (HK.out.trans (by rw [if_neg h1, if_neg (fun h => h2 h.1)]))
   go_enter Tryz.func159, Tryz.ntmps159
   go_wp2_with fail
   (refine x_c H (partsI_any _ hb HX HY) ?_; clear H; rintro e w1 ⟨rfl, hF⟩ H; replace hF := hF.kp)
   go_wp2_with (refine x_q H ?_)
   go_ret
   exact ⟨by rw [HV.out]; rfl, H.fr⟩
theorem kindI_any (w : World) {b : Nat} {k : Int} (hb : b < 18446744073709551616) (hk : Hid (kindF b = k)) :
  Calls Tryz.prog 159 #[.int .u64 (b : Int)] w fun r w' => r = .returned (.int .i64 k) ∧ Fr [] w w' := by
 rw [← hk.out]; exact kind_any w b hb
theorem negative_any (w : World) (b : Nat) (hb : b < 18446744073709551616) :
  Calls Tryz.prog 194 #[.int .u64 (b : Int)] w fun r w' => r = .returned (.bool (decide (9223372036854775808 ≤ b))) ∧ Fr [] w w' := by
 have H := Hp.start [] w
 by_cases h : 9223372036854775808 ≤ b
 ·have HI := hid (show (if 9223372036854775808 ≤ b then 9223372036854775808 else 0 : Nat) = 9223372036854775808 from if_pos h)
  rw [decide_eq_true h]
  go_enter Tryz.func194, Tryz.ntmps194
  go_wp2_with (first | refine x_q H ?_ | refine x_e (ev_m63I rfl rfl HI) ?_)
  go_ret
  exact ⟨rfl, H.fr⟩
 ·have HI := hid (show (if 9223372036854775808 ≤ b then 9223372036854775808 else 0 : Nat) = 0 from if_neg h)
  rw [decide_eq_false h]
  go_enter Tryz.func194, Tryz.ntmps194
  go_wp2_with (first | refine x_q H ?_ | refine x_e (ev_m63I rfl rfl HI) ?_)
  go_ret
  exact ⟨rfl, H.fr⟩
end Go.Proofs.YtbiohhmpclnpgaaGreatDoor
namespace Go.Proofs.YtbiohhmpclnpgaaGreatDoor
open Go.RowKit
set_option linter.unusedSimpArgs false
set_option linter.unusedVariables false
set_option maxHeartbeats 8000000
set_option maxRecDepth 100000
theorem nan1_any {w : World} {g c b : Nat} (hb : b < 18446744073709551616) (hc : w.cell? ⟨g, 0, none⟩ = some (.int .u64 (b : Int))) :
  Calls Tryz.prog 118 #[.slice (some ⟨g, 0, none⟩) 1 c] w fun r w' => r = .returned (.bool (decide (kindF b = 3))) ∧ Fr [] w w' := by
 have HC := hid hc
 obtain ⟨k, hk⟩ : ∃ k, kindF b = k := ⟨_, rfl⟩
 have HK := hid hk
 rw [hk]
 clear hc hk
 have H := Hp.start [] w
 go_enter Tryz.func118, Tryz.ntmps118
 go_wp2_with fail
 go_loopw [7] (fun s7 wr => ((s7 = .int .i64 0) ∨ (s7 = .int .i64 1 ∧ Hid (k ≠ 3))) ∧ Hp [] w wr []) (fun v _ => (2 - intOf v).toNat)
 case atStart => exact ⟨.inl rfl, H⟩
 case round =>
  clear H
  obtain ⟨hs, H⟩ := hrel
  rcases hs with rfl | ⟨rfl, HN⟩
  ·have HC2 := H.fr.cell HC.out (by simp)
   go_wp2_with (first | refine x_q H ?_ | refine x_e (c_ldc rfl rfl HC2) ?_)
   (refine x_c H (kindI_any _ hb HK) ?_; clear H; rintro e w1 ⟨rfl, hF⟩ H; replace hF := hF.kp)
   by_cases h3 : k = 3
   ·subst h3
    go_wp2_with (refine x_q H ?_)
    go_ret
    exact ⟨rfl, H.fr⟩
   ·have HN := hid h3
    go_wp2_with (refine x_q H ?_)
    go_roundw
    case rel => exact ⟨.inr ⟨rfl, HN⟩, H⟩
    case measure => (simp [intOf]; try omega)
  ·go_wp2_with (refine x_q H ?_)
   go_ret
   exact ⟨by rw [decide_eq_false HN.out]; rfl, H.fr⟩
theorem ev_h52 {P : Program} {w : World} {a : Act} {o : Oper} {t t' : TypeId} {x : Operand} (ho : o.op = .binOp .or t x (.const (.int .u64 4503599627370496)) t') {m z : Nat} (hx : a.eval x = .int .u64 (m : Int)) (hz : Hid (m + 4503599627370496 = z)) (hm : m < 4503599627370496 := by omega) : (execOp a.eval o).run P w = .ok (.value (.int .u64 (z : Int))) w := by
 rw [← hz.out]
 exact ev_bits ho (.inr rfl) hx (n := 4503599627370496) rfl (by
  rw [or_nat _ _ (by omega) (by decide)]
  have h1 := Nat.two_pow_add_eq_or_of_lt (i := 52) (b := m) (by simpa using hm) 1
  have e : (2 : Nat) ^ 52 = 4503599627370496 := by decide
  rw [e] at h1
  have h2 : m ||| 4503599627370496 = m + 4503599627370496 := by rw [Nat.or_comm, Nat.add_comm]; simpa using h1.symm
  rw [h2])
theorem man_of {b : Nat} (hb : b < 18446744073709551616) : manF (b % 9223372036854775808) = (if b / 4503599627370496 % 2048 = 0 then b % 4503599627370496 else b % 4503599627370496 + 4503599627370496) ∧ expoF (b % 9223372036854775808) = (if b / 4503599627370496 % 2048 = 0 then -1074 else ((b / 4503599627370496 % 2048 : Nat) : Int) - 1075) := by
 have e : b % 9223372036854775808 / 4503599627370496 = b / 4503599627370496 % 2048 := by omega
 unfold manF expoF
 rw [e]
 constructor
 ·split <;> omega
 ·rfl
set_option maxHeartbeats 16000000 in
theorem ofF_any (w : World) {b : Nat} (hb : b < 18446744073709551616) (hk : b / 4503599627370496 % 2048 ≠ 2047) (hT : La w) :
  Calls Tryz.prog 162 #[.int .u64 (b : Int)] w fun r w' => ∃ v1, r = .returned v1 ∧ Fr [] w w' ∧ Dn w' v1 (sg (decide (9223372036854775808 ≤ b)) (manF (b % 9223372036854775808))) (expoF (b % 9223372036854775808)) := by
 obtain ⟨h1, h2⟩ := man_of hb
 rw [h1, h2]
 clear h1 h2
 have HT := hid hT
 have hx : b / 4503599627370496 % 2048 < 2048 := Nat.mod_lt _ (by decide)
 have hy : b % 4503599627370496 < 4503599627370496 := Nat.mod_lt _ (by decide)
 obtain ⟨x, hX⟩ : ∃ x, b / 4503599627370496 % 2048 = x := ⟨_, rfl⟩
 obtain ⟨y, hY⟩ : ∃ x, b % 4503599627370496 = x := ⟨_, rfl⟩
 rw [hX] at hx hk ⊢
 rw [hY] at hy ⊢
 have HX := hid hX
 have HY := hid hY
 obtain ⟨n, hn⟩ : ∃ n, decide (9223372036854775808 ≤ b) = n := ⟨_, rfl⟩
 rw [hn]
 have HN := hid hn
 clear hX hY hT hn
 have H := Hp.start [] w
 by_cases h0 : x = 0
 ·rw [if_pos h0, if_pos h0]
  subst h0
  have hbl : bl y ≤ 53 := bl_le (by omega)
  have HM : Hid (y + 4503599627370496 = y + 4503599627370496) := hid rfl
  go_enter Tryz.func162, Tryz.ntmps162
  go_wp2_with (revert H; refine x_g ?_; intro g w1 hg hf H; replace hf := hf.kp)
  (refine x_c H (partsI_any _ hb HX HY) ?_; clear H; rintro e w1 ⟨rfl, hF⟩ H; replace hF := hF.kp)
  go_wp2_with (refine x_q H ?_)
  (refine x_c H (fromInt_ar _ ((y : Nat) : Int) (by simp only [inr]; omega)) ?_; clear H; rintro e w1 ⟨v4, rfl, hF, hB⟩ H; replace hF := hF.kp; replace hB := hB.c; rw [Int.natAbs_natCast] at hB; obtain ⟨b4, p4, m4, c4, rfl⟩ := hB.form; have HB4 := hid hB; clear hB)
  go_wp2_with (first | (revert H; refine xSF ?_; intro w1 H hk) | (revert H; refine x_g ?_; intro g w1 hg hf H; replace hf := hf.kp))
  (refine x_c H (negative_any _ b hb) ?_; clear H; rintro e w1 ⟨rfl, hF⟩ H; replace hF := hF.kp; rw [HN.out])
  cases n
  ·go_wp2_with (refine x_q H ?_)
   (refine x_c H (make_any (bv HB4).ar (by omega) (by rw [Int.natAbs_natCast]; omega) (by omega) (HT.out.fr H.fr)) ?_; clear H; rintro e w1 ⟨v5, rfl, hF, hD⟩ H; replace hF := hF.kp; obtain ⟨m5, e5, b5, p5, n5, c5, rfl, hN, hB⟩ := hD; have HN5 := hid hN; have HB5 := hid hB; clear hN hB)
   go_wp2_with (revert H; refine xSF ?_; intro w1 H hk)
   refine c_post H rfl rfl rfl ?_
   exact ⟨_, rfl, H.fr, _, _, _, _, _, _, rfl, HN5.out, bv HB5⟩
  ·go_wp2_with (refine x_q H ?_)
   (refine x_c H (neg_ar (bv HB4).ar (by omega)) ?_; clear H; rintro e w1 ⟨v6, rfl, hF, hB⟩ H; replace hF := hF.kp; obtain ⟨b6, p6, m6, c6, rfl⟩ := hB.form; have HB6 := hid hB; clear hB)
   go_wp2_with (first | refine x_q H ?_ | (revert H; refine xSF ?_; intro w1 H hk))
   (refine x_c H (make_any (bv HB6).ar (by omega) (by rw [Int.natAbs_neg, Int.natAbs_natCast]; omega) (by omega) (HT.out.fr H.fr)) ?_; clear H; rintro e w1 ⟨v5, rfl, hF, hD⟩ H; replace hF := hF.kp; obtain ⟨m5, e5, b5, p5, n5, c5, rfl, hN, hB⟩ := hD; have HN5 := hid hN; have HB5 := hid hB; clear hN hB)
   go_wp2_with (revert H; refine xSF ?_; intro w1 H hk)
   refine c_post H rfl rfl rfl ?_
   exact ⟨_, rfl, H.fr, _, _, _, _, _, _, rfl, HN5.out, bv HB5⟩
 ·rw [if_neg h0, if_neg h0]
  obtain ⟨M, hM⟩ : ∃ M, y + 4503599627370496 = M := ⟨_, rfl⟩
  have HM := hid hM
  have hMb : M < 9007199254740992 := by omega
  rw [hM]
  have hbl : bl M ≤ 53 := bl_le (by omega)
  clear hM
  go_enter Tryz.func162, Tryz.ntmps162
  go_wp2_with (revert H; refine x_g ?_; intro g w1 hg hf H; replace hf := hf.kp)
  (refine x_c H (partsI_any _ hb HX HY) ?_; clear H; rintro e w1 ⟨rfl, hF⟩ H; replace hF := hF.kp)
  go_wp2_with (first | refine x_q H ?_ | refine x_e (ev_h52 rfl rfl HM) ?_)
  (refine x_c H (fromInt_ar _ ((M : Nat) : Int) (by simp only [inr]; omega)) ?_; clear H; rintro e w1 ⟨v4, rfl, hF, hB⟩ H; replace hF := hF.kp; replace hB := hB.c; rw [Int.natAbs_natCast] at hB; obtain ⟨b4, p4, m4, c4, rfl⟩ := hB.form; have HB4 := hid hB; clear hB)
  go_wp2_with (first | (revert H; refine xSF ?_; intro w1 H hk) | (revert H; refine x_g ?_; intro g w1 hg hf H; replace hf := hf.kp))
  (refine x_c H (negative_any _ b hb) ?_; clear H; rintro e w1 ⟨rfl, hF⟩ H; replace hF := hF.kp; rw [HN.out])
  cases n
  ·go_wp2_with (refine x_q H ?_)
   (refine x_c H (make_any (bv HB4).ar (by omega) (by rw [Int.natAbs_natCast]; omega) (by omega) (HT.out.fr H.fr)) ?_; clear H; rintro e w1 ⟨v5, rfl, hF, hD⟩ H; replace hF := hF.kp; obtain ⟨m5, e5, b5, p5, n5, c5, rfl, hN, hB⟩ := hD; have HN5 := hid hN; have HB5 := hid hB; clear hN hB)
   go_wp2_with (revert H; refine xSF ?_; intro w1 H hk)
   refine c_post H rfl rfl rfl ?_
   exact ⟨_, rfl, H.fr, _, _, _, _, _, _, rfl, HN5.out, bv HB5⟩
  ·go_wp2_with (refine x_q H ?_)
   (refine x_c H (neg_ar (bv HB4).ar (by omega)) ?_; clear H; rintro e w1 ⟨v6, rfl, hF, hB⟩ H; replace hF := hF.kp; obtain ⟨b6, p6, m6, c6, rfl⟩ := hB.form; have HB6 := hid hB; clear hB)
   go_wp2_with (first | refine x_q H ?_ | (revert H; refine xSF ?_; intro w1 H hk))
   (refine x_c H (make_any (bv HB6).ar (by omega) (by rw [Int.natAbs_neg, Int.natAbs_natCast]; omega) (by omega) (HT.out.fr H.fr)) ?_; clear H; rintro e w1 ⟨v5, rfl, hF, hD⟩ H; replace hF := hF.kp; obtain ⟨m5, e5, b5, p5, n5, c5, rfl, hN, hB⟩ := hD; have HN5 := hid hN; have HB5 := hid hB; clear hN hB)
   go_wp2_with (revert H; refine xSF ?_; intro w1 H hk)
   refine c_post H rfl rfl rfl ?_
   exact ⟨_, rfl, H.fr, _, _, _, _, _, _, rfl, HN5.out, bv HB5⟩
end Go.Proofs.YtbiohhmpclnpgaaGreatDoor
