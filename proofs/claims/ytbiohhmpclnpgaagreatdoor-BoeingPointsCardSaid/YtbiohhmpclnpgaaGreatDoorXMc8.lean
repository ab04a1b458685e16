import Derived.Test.YtbiohhmpclnpgaaGreatDoorXMc1
import Derived.Test.YtbiohhmpclnpgaaGreatDoorXPd4
import Derived.Test.YtbiohhmpclnpgaaGreatDoorXEa5
import Derived.Test.YtbiohhmpclnpgaaGreatDoorXFa2
import Derived.Test.YtbiohhmpclnpgaaGreatDoorXMd3
namespace Go.Proofs.YtbiohhmpclnpgaaGreatDoor
open Go.RowKit
set_option linter.unusedSimpArgs false
set_option linter.unusedVariables false
set_option maxHeartbeats 8000000
set_option maxRecDepth 100000
theorem sgnF_lt {neg : Bool} {f : Nat} (h : f < 9223372036854775808) : sgnF neg f < 18446744073709551616 := by unfold sgnF; split <;> omega
theorem overF_lt (neg : Bool) (mode : Int) : overF neg mode < 18446744073709551616 := by unfold overF; refine sgnF_lt ?_; split <;> omega
theorem packF_lt (neg : Bool) (mode : Int) {n : Nat} (u : Int) (h : n ≤ 9007199254740992) : packF neg mode n u < 18446744073709551616 := by
 by_cases h1 : n < 4503599627370496
 ·rw [pack_small h1]; exact sgnF_lt (by omega)
 ·by_cases h2 : n = 9007199254740992
  ·subst h2
   rw [pack_full]
   split
   ·exact overF_lt _ _
   ·exact sgnF_lt (by omega)
  ·rw [pack_big (by omega) h2]
   split
   ·exact overF_lt _ _
   ·exact sgnF_lt (by omega)
theorem rndF_lt (neg : Bool) (mode : Int) {N D : Nat} (e : Int) (hN : 0 < N) (hD : 0 < D) : rndF neg mode N D e < 18446744073709551616 := by
 obtain ⟨u, hu⟩ : ∃ u, max (lg N D + e - 52) (-1074) = u := ⟨_, rfl⟩
 have h1 := (rnd_unit hN hD hu).1
 have h2 := (rm_bounds neg mode (N * 2 ^ (e - u).toNat) (D * 2 ^ (u - e).toNat)).2
 unfold rndF
 simp only [hu]
 exact packF_lt _ _ _ (by omega)
theorem dpz_lt (M : Nat) (s : List UInt8) (mode : Int) : (dpz M s mode).1 < 18446744073709551616 := by
 unfold dpz
 split
 ·decide
 ·split
  ·decide
  ·split
   ·decide
   ·unfold dval
    split
    ·exact sgnF_lt (by decide)
    ·rename_i h0
     unfold dvF
     exact rndF_lt _ _ _ (Nat.mul_pos (Nat.pos_of_ne_zero h0) (ten_pos _)) (ten_pos _)
theorem isFin_any (w : World) {b : Nat} (hb : b < 18446744073709551616) {z : Bool} (hz : Hid (finF b = z)) :
  Calls Tryz.prog 115 #[.int .u64 (b : Int)] w fun r w' => r = .returned (.bool z) ∧ Fr [] w w' := by
 have H := Hp.start [] w
 obtain ⟨x, hx0⟩ : ∃ x, b / 4503599627370496 % 2048 = x := ⟨_, rfl⟩
 obtain ⟨y, hy0⟩ : ∃ y, b % 4503599627370496 = y := ⟨_, rfl⟩
 have hx := hid hx0
 have hy := hid hy0
 have hzz := hz.out
 unfold finF at hzz
 rw [hx0] at hzz
 clear hx0 hy0 hz
 by_cases hn : x = 2047
 ·have HZ : Hid (z = false) := hid (by rw [← hzz, hn]; rfl)
  have hn' : (x : Int) = 2047 := by omega
  clear hzz
  go_enter Tryz.func115, Tryz.ntmps115
  go_wp2_with fail
  (refine x_c H (partsI_any _ hb hx hy) ?_; clear H; rintro e w1 ⟨rfl, hF⟩ H; replace hF := hF.kp)
  go_wp2_with (refine x_q H ?_)
  go_ret
  exact ⟨by rw [HZ.out]; first | rfl | skip, H.fr⟩
 ·have HZ : Hid (z = true) := hid (by rw [← hzz]; simpa using hn)
  have hn' : ¬ (x : Int) = 2047 := by omega
  clear hzz
  go_enter Tryz.func115, Tryz.ntmps115
  go_wp2_with fail
  (refine x_c H (partsI_any _ hb hx hy) ?_; clear H; rintro e w1 ⟨rfl, hF⟩ H; replace hF := hF.kp)
  go_wp2_with (refine x_q H ?_)
  go_ret
  exact ⟨by rw [HZ.out]; first | rfl | skip, H.fr⟩
theorem rl_one {w : World} {neg b : Bool} {p : Option Addr} {k c kk M : Nat} {e : Int} (h : Bv w (.agg #[.bool b, .slice p k c]) (M : Int) kk) (hM : 0 < M) (hb : bl M ≤ 100000) (he : -1000000 ≤ e ∧ e ≤ 1000000) : Rl w (.agg #[.bool neg, .bool b, .slice p k c, .int .i64 e, .bool false]) neg M 1 e :=
 ⟨b, p, k, c, 0, M, e, false, rfl, h.c, hM, Nat.one_pos, by simp, by omega, by omega, by simp [Nat.mod_one], .inl (by simp [Nat.mod_one]), hb, he.1, he.2⟩
theorem dyOf_any {w : World} {b : Bool} {p : Option Addr} {n c kk : Nat} {m e : Int} (h : Bv w (.agg #[.bool b, .slice p n c]) m kk) (hk : kk ≤ 60000) (hm : m ≠ 0) (hb : bl m.natAbs ≤ 60000) (he : -60000 ≤ e ∧ e ≤ 60000) :
  Calls Tryz.prog 195 #[.agg #[.bool false, .bool b, .slice p n c, .int .i64 e]] w fun r w' => ∃ v1, r = .returned v1 ∧ Fr [] w w' ∧ Rl w' v1 b m.natAbs 1 e := by
 have HB := hid h
 clear h
 have H := Hp.start [] w
 go_enter Tryz.func195, Tryz.ntmps195
 go_wp2_with (revert H; refine x_g ?_; intro g w1 hg hf H; replace hf := hf.kp)
 (revert H; refine w_pF 9 (.st 0 (.st 1 (.st 2 (.st 3 (.st 4 (.st 6 (.st 7 (.ld 5 (.st 8 (.ld 9 .done)))))))))) ?_; intro w1 hf H; (first | replace hf := hf.kp | clear hf))
 iterate 4 refine p_q ?_
 (refine p_l ?_)
 iterate 2 refine p_q ?_
 ((refine p_c H rfl rfl Tryz.func94 (abs_ar (bv HB).ar (by omega)) ?_; clear H; rintro e w1 ⟨v5, rfl, hF, hB⟩ H; refine p_r ?_; replace hF := hF.kp); obtain ⟨b5, p5, m5, c5, rfl⟩ := hB.form; have HB5 := hid hB; clear hB)
 refine p_q ?_
 (revert H; refine pSF ?_; intro w1 H hk)
 (refine pl_done ?_)
 all_goals
  go_wp2_with fail
  refine c_post H rfl rfl rfl ?_
  exact ⟨_, rfl, H.fr, rl_one (bv HB5) (by omega) (by omega) (by omega)⟩
theorem signD_is {w : World} {v : Value} {x e : Int} (h : Dn w v x e) (hb : bl x.natAbs ≤ 65536) (hx : bl x.natAbs + e ≤ 65536) (he : -65536 ≤ e) (hT : La w) {s : Int} (hs : Hid (Int.sign x = s)) :
  Calls Tryz.prog 56 #[v] w fun r w' => r = .returned (.int .i64 s) ∧ Fr [] w w' := by
 rw [← hs.out]; exact signD_any h hb hx he hT
theorem roundF_any {w : World} {v : Value} {x e : Int} (mode : Int) (h : Dn w v x e) (hb : bl x.natAbs ≤ 40000) (he : -20000 ≤ e ∧ e ≤ 20000) (hT : La w) {X : Nat} (hX : Hid (X = if x = 0 then 0 else rndF (decide (x < 0)) mode x.natAbs 1 e)) :
  Calls Tryz.prog 163 #[v, .int .i64 mode] w fun r w' => r = .returned (.int .u64 (X : Int)) ∧ Fr [] w w' := by
 have HD := hid h
 obtain ⟨m1, e1, b1, p1, n1, c1, rfl, h1, h2⟩ := h
 have HT := hid hT
 clear h1 h2 hT
 have H := Hp.start [] w
 go_enter Tryz.func163, Tryz.ntmps163
 go_wp2_with (first | refine x_q H ?_ | (revert H; refine x_g ?_; intro g w1 hg hf H; replace hf := hf.kp))
 (refine x_c H (normD_any (dn HD) (by omega) (by omega) (by omega) (HT.out.fr H.fr)) ?_; clear H; rintro e w1 ⟨v3, rfl, hF, hD⟩ H; replace hF := hF.kp; have HD3 := hid hD; obtain ⟨m3, e3, b3, p3, n3, c3, rfl, hN, hB⟩ := hD; have HN3 := hid hN; have HB3 := hid hB; clear hN hB)
 have hl3 := HN3.out.le
 by_cases hx : x = 0
 ·have HX0 : Hid (X = 0) := hid (by rw [hX.out, if_pos hx])
  have hsg : Hid (Int.sign x = 0) := hid (by rw [hx]; rfl)
  clear hX
  go_wp2_with (first | refine x_q H ?_ | (revert H; refine xSF ?_; intro w1 H hk))
  (refine x_c H (signD_is (dn HD3) (by omega) (by omega) (by omega) (HT.out.fr H.fr) hsg) ?_; clear H; rintro e w1 ⟨rfl, hF⟩ H; replace hF := hF.kp)
  go_wp2_with (refine x_q H ?_)
  go_ret
  exact ⟨by rw [HX0.out]; rfl, H.fr⟩
 ·have HM0 := hid (HN3.out.ne hx)
  obtain ⟨s, hs0⟩ : ∃ s, Int.sign x = s := ⟨_, rfl⟩
  have hsg := hid hs0
  have hsn : ¬ s = 0 := by rw [← hs0]; intro h0; exact hx (Int.sign_eq_zero_iff_zero.1 h0)
  have HX3 : Hid (X = rndF b3 mode m3.natAbs 1 e3) := hid (by
   have e1 := (bv_bool HB3.out).trans HN3.out.neg
   have e2 := rnd_nm b3 mode HN3.out (Nm.refl (x := 1) (e := 0) (by decide)) hx (by decide)
   rw [Int.sub_zero, Int.sub_zero] at e2
   rw [hX.out, if_neg hx, ← e1]
   exact e2.symm)
  clear hX hs0
  go_wp2_with (first | refine x_q H ?_ | (revert H; refine xSF ?_; intro w1 H hk))
  (refine x_c H (signD_is (dn HD3) (by omega) (by omega) (by omega) (HT.out.fr H.fr) hsg) ?_; clear H; rintro e w1 ⟨rfl, hF⟩ H; replace hF := hF.kp)
  go_wp2_with (refine x_q H ?_)
  (refine x_c H (dyOf_any (bv HB3) (by omega) HM0.out (by omega) (by omega)) ?_; clear H; rintro e w1 ⟨v4, rfl, hF, hR⟩ H; replace hF := hF.kp; have HR := hid hR; clear hR)
  go_wp2_with fail
  (refine x_c H (rounded_any mode HR.out (HT.out.fr H.fr)) ?_; clear H; rintro e w1 ⟨rfl, hF⟩ H; replace hF := hF.kp)
  go_wp2_with fail
  go_ret
  exact ⟨by rw [HX3.out]; rfl, H.fr⟩
end Go.Proofs.YtbiohhmpclnpgaaGreatDoor
namespace Go.Proofs.YtbiohhmpclnpgaaGreatDoor
open Go.RowKit
set_option linter.unusedSimpArgs false
set_option linter.unusedVariables false
set_option maxHeartbeats 8000000
set_option maxRecDepth 100000
attribute [local irreducible] wpList Code.wp Plan.wp
theorem within_any (w : World) (x lo hi : Int) {b : Bool} (hb : Hid (decide (lo ≤ x ∧ x ≤ hi) = b)) :
  Calls Tryz.prog 160 #[.int .i64 x, .int .i64 lo, .int .i64 hi] w fun e w' => e = .returned (.bool b) ∧ Fr [] w w' := by
 have H := Hp.start [] w
 go_enter Tryz.func160, Tryz.ntmps160
 by_cases h1 : lo ≤ x
 ·by_cases h2 : x ≤ hi
  ·have HB : Hid (b = true) := hid (by rw [← hb.out]; simp [h1, h2])
   go_wp2_with (first | refine x_q H ?_ | refine x_cm (fun h => ?_) (fun h => ?_) | refine x_l H ?_ | (revert H; refine x_g ?_; intro g w1 hg hf H; replace hf := hf.kp) | (revert H; refine x_s ?_; intro w1 hf H; clear hf) | (revert H; refine x_sF ?_; intro w1 hf H hk; clear hf hk; (first | replace hf := hf.kp | clear hf)))
   (refine bodyPost_ret (results_tmp rfl _ _ _) rfl ?_)
   exact ⟨by rw [HB.out]; rfl, H.fr⟩
  ·have HB : Hid (b = false) := hid (by rw [← hb.out]; simp [h2])
   go_wp2_with (first | refine x_q H ?_ | refine x_cm (fun h => ?_) (fun h => ?_) | refine x_l H ?_ | (revert H; refine x_g ?_; intro g w1 hg hf H; replace hf := hf.kp) | (revert H; refine x_s ?_; intro w1 hf H; clear hf) | (revert H; refine x_sF ?_; intro w1 hf H hk; clear hf hk; (first | replace hf := hf.kp | clear hf)))
   (refine bodyPost_ret (results_tmp rfl _ _ _) rfl ?_)
   exact ⟨by rw [HB.out]; rfl, H.fr⟩
 ·have HB : Hid (b = false) := hid (by rw [← hb.out]; simp [h1])
  go_wp2_with (first | refine x_q H ?_ | refine x_cm (fun h => ?_) (fun h => ?_) | refine x_l H ?_ | (revert H; refine x_g ?_; intro g w1 hg hf H; replace hf := hf.kp) | (revert H; refine x_s ?_; intro w1 hf H; clear hf) | (revert H; refine x_sF ?_; intro w1 hf H hk; clear hf hk; (first | replace hf := hf.kp | clear hf)))
  (refine bodyPost_ret (results_tmp rfl _ _ _) rfl ?_)
  exact ⟨by rw [HB.out]; rfl, H.fr⟩
theorem xor_nat (m n : Nat) (hm : m < 18446744073709551616) (hn : n < 18446744073709551616) : bits .xor .u64 (m : Int) (n : Int) = ((m ^^^ n : Nat) : Int) := by
 have h1 : (BitVec.ofInt 64 (m : Int)).toNat = m := by
  rw [BitVec.ofInt_natCast, BitVec.toNat_ofNat]; exact Nat.mod_eq_of_lt (by omega)
 have h2 : (BitVec.ofInt 64 (n : Int)).toNat = n := by
  rw [BitVec.ofInt_natCast, BitVec.toNat_ofNat]; exact Nat.mod_eq_of_lt (by omega)
 have h3 : m ^^^ n < 18446744073709551616 := Nat.xor_lt_two_pow (n := 64) (by omega) (by omega)
 show IntKind.u64.wrap ((BitVec.ofInt 64 (m : Int) ^^^ BitVec.ofInt 64 (n : Int)).toNat : Int) = _
 rw [BitVec.toNat_xor, h1, h2]
 exact wrapN _ rfl h3
theorem xor_top (m : Nat) (hm : m < 18446744073709551616) : m ^^^ 9223372036854775808 = negF m := by
 have hb : ∀ i, i < 63 → Nat.testBit 9223372036854775808 i = false := by
  intro i hi
  exact Nat.testBit_two_pow_of_ne (n := 63) (by omega)
 unfold negF
 by_cases h : m < 9223372036854775808
 ·rw [if_pos h]
  have e := Nat.two_pow_add_eq_or_of_lt (i := 63) (b := m) (by simpa using h) 1
  have e2 : (2 : Nat) ^ 63 * 1 = 9223372036854775808 := by decide
  rw [e2] at e
  rw [Nat.add_comm, e]
  apply Nat.eq_of_testBit_eq
  intro i
  rw [Nat.testBit_xor, Nat.testBit_or]
  by_cases hi : i < 63
  ·rw [hb i hi]; simp
  ·have hmi : m.testBit i = false := Nat.testBit_lt_two_pow (Nat.lt_of_lt_of_le (show m < 2 ^ 63 by simpa using h) (Nat.pow_le_pow_right (by decide) (by omega)))
   rw [hmi]; simp
 ·rw [if_neg h]
  obtain ⟨k, rfl⟩ : ∃ k, m = 9223372036854775808 + k := ⟨m - 9223372036854775808, by omega⟩
  have hk : k < 9223372036854775808 := by omega
  have e := Nat.two_pow_add_eq_or_of_lt (i := 63) (b := k) (by simpa using hk) 1
  have e2 : (2 : Nat) ^ 63 * 1 = 9223372036854775808 := by decide
  rw [e2] at e
  rw [Nat.add_sub_cancel_left, e]
  apply Nat.eq_of_testBit_eq
  intro i
  rw [Nat.testBit_xor, Nat.testBit_or]
  by_cases hi : i < 63
  ·rw [hb i hi]; simp
  ·have hmi : k.testBit i = false := Nat.testBit_lt_two_pow (Nat.lt_of_lt_of_le (show k < 2 ^ 63 by simpa using hk) (Nat.pow_le_pow_right (by decide) (by omega)))
   rw [hmi]; simp
section
variable {P : Program} {a : Act} {o : Oper} {w : World}
theorem ev_xtop {t t' : TypeId} {x y : Operand} (ho : o.op = .binOp .xor t x y t') {m r : Nat} (hx : a.eval x = .int .u64 (m : Int)) (hy : a.eval y = .int .u64 9223372036854775808) (hm : m < 18446744073709551616) (hr : Hid (negF m = r)) : (execOp a.eval o).run P w = .ok (.value (.int .u64 (r : Int))) w :=
 ev_bin ho hx hy (fun w => by
  show (pure (Value.int .u64 (bits .xor .u64 (m : Int) ((9223372036854775808 : Nat) : Int))) : Sem Value).run P w = _
  rw [xor_nat _ _ hm (by decide), xor_top _ hm, hr.out]
  rfl)
end
theorem fneg_any (w : World) {b r : Nat} {k : Int} (hb : b < 18446744073709551616) (hk : Hid (kindF b = k)) (hk3 : ¬ k = 3) (hr : Hid (negF b = r)) :
  Calls Tryz.prog 77 #[.int .u64 (b : Int)] w fun e w' => e = .returned (.int .u64 (r : Int)) ∧ Fr [] w w' := by
 have H := Hp.start [] w
 have HD : Hid (decide (kindF b = 3) = false) := hid (by rw [hk.out]; exact decide_eq_false hk3)
 go_enter Tryz.func77, Tryz.ntmps77
 go_wp2_with (first | refine x_q H ?_ | refine x_cm (fun h => ?_) (fun h => ?_) | refine x_l H ?_ | (revert H; refine x_g ?_; intro g w1 hg hf H; replace hf := hf.kp) | (revert H; refine x_s ?_; intro w1 hf H; clear hf) | (revert H; refine x_sF ?_; intro w1 hf H hk; clear hf hk; (first | replace hf := hf.kp | clear hf)))
 refine x_c H (nan1_any hb (H.blkCell (.head _) (o := 0) rfl)) ?_; clear H; rintro e w1 ⟨rfl, hF⟩ H; clear hF
 rw [HD.out]
 go_wp2_with (first | refine x_q H ?_ | refine x_cm (fun h => ?_) (fun h => ?_) | refine x_l H ?_ | refine x_e (ev_xtop rfl rfl rfl hb hr) ?_ | (revert H; refine x_g ?_; intro g w1 hg hf H; replace hf := hf.kp) | (revert H; refine x_s ?_; intro w1 hf H; clear hf) | (revert H; refine x_sF ?_; intro w1 hf H hk; clear hf hk; (first | replace hf := hf.kp | clear hf)))
 (refine bodyPost_ret (results_tmp rfl _ _ _) rfl ?_)
 exact ⟨rfl, H.fr⟩
end Go.Proofs.YtbiohhmpclnpgaaGreatDoor
