import Derived.Test.YthbeeeclgbpopaaGreatDoorYFa5
import Derived.Test.YthbeeeclgbpopaaGreatDoorYFb2
namespace Go.Proofs.YthbeeeclgbpopaaGreatDoor
open Go.RowKit
set_option linter.unusedSimpArgs false
set_option linter.unusedVariables false
set_option maxHeartbeats 8000000
set_option maxRecDepth 100000
theorem odd_part (n : Nat) : n ≠ 0 → n / 2 ^ tz n % 2 = 1 := by
 induction n using Nat.strongRecOn with
 | _ n ih =>
  intro h0
  by_cases h1 : n % 2 = 1
  ·rw [tz_odd h1, Nat.pow_zero, Nat.div_one]; exact h1
  ·have e : n = 2 * (n / 2) := by omega
   have h2 := ih (n / 2) (by omega) (by omega)
   have e2 : tz n = tz (n / 2) + 1 := by rw [e, tz_even (by omega)]; congr 2; omega
   rw [e2, Nat.pow_succ, Nat.mul_comm, ← Nat.div_div_eq_div_mul]
   exact h2
def DnO (w : World) (v : Value) (x e : Int) : Prop := ∃ m e' b p n c, v = .agg #[.bool false, .bool b, .slice p n c, .int .i64 e'] ∧ Nm x e m e' ∧ Bv w (.agg #[.bool b, .slice p n c]) m (bl m.natAbs) ∧ m.natAbs % 2 = 1
theorem norm_odd {x : Int} (hx : x ≠ 0) : (x / 2 ^ tz x.natAbs).natAbs % 2 = 1 := by
 obtain ⟨q, hq⟩ := tz_split x.natAbs (by omega)
 have ho := odd_part x.natAbs (by omega)
 have hd : x.natAbs / 2 ^ tz x.natAbs = q := by
  generalize tz x.natAbs = t at *
  rw [hq]; exact Nat.mul_div_cancel _ (pow2_pos t)
 rw [hd] at ho
 generalize tz x.natAbs = t at *
 have hp := two_pos t
 have hc : ((q * 2 ^ t : Nat) : Int) = (q : Int) * 2 ^ t := by rw [Int.natCast_mul, Int.natCast_pow]; rfl
 by_cases h : x < 0
 ·have e1 : x = -(q : Int) * 2 ^ t := by rw [Int.neg_mul, ← hc, ← hq]; omega
  rw [e1, Int.mul_ediv_cancel _ (by omega)]
  omega
 ·have e1 : x = (q : Int) * 2 ^ t := by rw [← hc, ← hq]; omega
  rw [e1, Int.mul_ediv_cancel _ (by omega)]
  omega
theorem normdO_any {w : World} {b : Bool} {p : Option Addr} {m c : Nat} {x e : Int} {n : Nat} (h : Av w (.agg #[.bool b, .slice p m c]) x n) (hn : n ≤ 200000) (hx : bl x.natAbs + e ≤ 65536) (he : -65536 ≤ e) (hT : La w) (h0 : x ≠ 0) :
  Calls Tryz.prog 91 #[.agg #[.bool false, .bool b, .slice p m c, .int .i64 e]] w fun r w' => ∃ v1, r = .returned (.tuple #[v1, .bool true]) ∧ Fr [] w w' ∧ DnO w' v1 x e := by
 have HT := hid hT
 have HA1 := hid h
 have hdl := h.dl
 clear h hT
 have H := Hp.start [] w
 have HX := hid h0
 have hz1 := tz_le _ _ (bl_lt x.natAbs)
 have hz2 : tz x.natAbs ≤ 1048576 := by omega
 clear h0
 go_enter Tryz.func91, Tryz.ntmps91
 go_wp2_with (first | refine x_q H ?_ | refine x_l H ?_ | (revert H; refine x_g ?_; intro g w1 hg hf H; replace hf := hf.kp))
 (refine x_c H (norm_ar (av HA1) hn) ?_; clear H; rintro e w1 ⟨v3, rfl, hF, hB⟩ H; replace hF := hF.kp; obtain ⟨b3, p3, m3, c3, rfl⟩ := hB.form; have HB3 := hid hB; clear hB)
 go_wp2_with (first | refine x_q H ?_ | (revert H; refine xSF ?_; intro w1 H hk) | (revert H; refine x_g ?_; intro g w1 hg hf H; replace hf := hf.kp))
 (refine x_c H (sign_nz (bv HB3).ar hn HX.out) ?_; clear H; rintro e w1 ⟨s4, rfl, hs4, hF⟩ H; replace hF := hF.kp)
 go_wp2_with (refine x_q H ?_)
 (refine x_c H (trailing_ar (bv HB3).ar hn (HT.out.fr H.fr).1) ?_; clear H; rintro e w1 ⟨rfl, hF⟩ H; replace hF := hF.kp)
 go_wp2_with fail
 (revert H; refine w_pF 13 (.st 0 (.st 1 (.st 2 (.ld 3 (.st 4 (.st 5 (.st 6 (.st 7 (.st 8 (.st 9 (.st 10 (.st 11 (.st 12 .done))))))))))))) ?_; intro w1 hf H; (first | replace hf := hf.kp | clear hf))
 iterate 3 refine p_q ?_
 ((refine p_c H rfl rfl Tryz.func117 (bitLen_ar (bv HB3).ar hn) ?_; clear H; rintro e w1 ⟨rfl, hF⟩ H; refine p_r ?_; replace hF := hF.kp))
 iterate 3 refine p_q ?_
 iterate 5 (first | refine p_q ?_ | refine p_n ?_)
 refine p_q ?_
 (refine pl_done ?_)
 all_goals
  go_wp2_with fail
  (revert H; refine w_pF 8 (.st 0 (.st 1 (.st 3 (.st 4 (.st 5 (.st 6 (.ld 2 (.st 7 (.ldf 8 (.st 9 .done)))))))))) ?_; intro w1 hf H; (first | replace hf := hf.kp | clear hf))
  iterate 6 refine p_q ?_
  ((refine p_c H rfl rfl Tryz.func157 (right_any (tz x.natAbs) (bv HB3).ar hn hz2) ?_; clear H; rintro e w1 ⟨v5, rfl, hF, hB⟩ H; refine p_r ?_; replace hF := hF.kp); obtain ⟨b5, p5, m5, c5, rfl⟩ := hB.form; have HB5 := hid hB; clear hB)
  (refine p_e rfl (fun w H => ev_dyad rfl rfl rfl) ?_)
  (revert H; refine pSG ?_; intro w1 H hk)
  refine p_q ?_
  (refine pl_done ?_)
  all_goals
   go_wp2_with fail
   refine c_postCT H rfl rfl rfl rfl ?_
   exact ⟨_, rfl, H.fr, _, _, _, _, _, _, rfl, Nm.norm HX.out, bv HB5, norm_odd HX.out⟩
theorem makeO_any {w : World} {u : Value} {x e : Int} {n : Nat} (h : Av w u x n) (hn : n ≤ 200000) (hx : bl x.natAbs + e ≤ 65536) (he : -65536 ≤ e) (hT : La w) (h0 : x ≠ 0) :
  Calls Tryz.prog 87 #[u, .int .i64 e] w fun r w' => ∃ v1, r = .returned v1 ∧ Fr [] w w' ∧ DnO w' v1 x e := by
 obtain ⟨b1, p1, m1, c1, rfl⟩ := h.form
 have HA1 := hid h
 have HT := hid hT
 have HX := hid h0
 clear h hT h0
 have H := Hp.start [] w
 go_enter Tryz.func87, Tryz.ntmps87
 go_wp2_with (first | refine x_q H ?_ | refine x_e (ev_dyad rfl rfl rfl) ?_ | (revert H; refine x_g ?_; intro g w1 hg hf H; replace hf := hf.kp))
 (refine x_c H (normdO_any (av HA1) hn hx he (HT.out.fr H.fr) HX.out) ?_; clear H; rintro e w1 ⟨v3, rfl, hF, hD⟩ H; replace hF := hF.kp; obtain ⟨m3, e3, b3, p3, n3, c3, rfl, hN, hB, ho3⟩ := hD; have HN3 := hid hN; have HB3 := hid hB; have HO3 := hid ho3; clear hN hB ho3)
 go_wp2_with (first | refine x_q H ?_ | (revert H; refine xSF ?_; intro w1 H hk) | (revert H; refine x_g ?_; intro g w1 hg hf H; replace hf := hf.kp))
 refine c_post H rfl rfl rfl ?_
 exact ⟨_, rfl, H.fr, _, _, _, _, _, _, rfl, HN3.out, bv HB3, HO3.out⟩
theorem ofO_any (w : World) {b : Nat} (hb : b < 9218868437227405312) (h0 : 0 < b) (hT : La w) :
  Calls Tryz.prog 30 #[.int .u64 (b : Int)] w fun r w' => ∃ v1, r = .returned v1 ∧ Fr [] w w' ∧ DnO w' v1 (manF b : Int) (expoF b) := by
 have hmp := manF_pos h0
 obtain ⟨h1, h2⟩ := man_of (b := b) (by omega)
 rw [Nat.mod_eq_of_lt (show b < 9223372036854775808 by omega)] at h1 h2
 rw [h1] at hmp
 rw [h1, h2]
 clear h1 h2
 have HT := hid hT
 have hb2 : b < 18446744073709551616 := by omega
 have hx : b / 4503599627370496 % 2048 < 2048 := Nat.mod_lt _ (by decide)
 have hy : b % 4503599627370496 < 4503599627370496 := Nat.mod_lt _ (by decide)
 have hk : b / 4503599627370496 % 2048 ≠ 2047 := by omega
 obtain ⟨x, hX⟩ : ∃ x, b / 4503599627370496 % 2048 = x := ⟨_, rfl⟩
 obtain ⟨y, hY⟩ : ∃ x, b % 4503599627370496 = x := ⟨_, rfl⟩
 rw [hX] at hx hk hmp ⊢
 rw [hY] at hy hmp ⊢
 have HX := hid hX
 have HY := hid hY
 have HN : Hid (decide (9223372036854775808 ≤ b) = false) := hid (decide_eq_false (by omega))
 clear hX hY hT
 have H := Hp.start [] w
 by_cases h0 : x = 0
 ·rw [if_pos h0] at hmp
  rw [if_pos h0, if_pos h0]
  subst h0
  have hbl : bl y ≤ 53 := bl_le (by omega)
  have HP : Hid ((y : Int) ≠ 0) := hid (by omega)
  have HM : Hid (y + 4503599627370496 = y + 4503599627370496) := hid rfl
  go_enter Tryz.func30, Tryz.ntmps30
  go_wp2_with (revert H; refine x_g ?_; intro g w1 hg hf H; replace hf := hf.kp)
  (refine x_c H (partsI_any _ hb2 HX HY) ?_; clear H; rintro e w1 ⟨rfl, hF⟩ H; replace hF := hF.kp)
  go_wp2_with (refine x_q H ?_)
  (refine x_c H (fromInt_ar _ ((y : Nat) : Int) (by simp only [inr]; omega)) ?_; clear H; rintro e w1 ⟨v4, rfl, hF, hB⟩ H; replace hF := hF.kp; replace hB := hB.c; rw [Int.natAbs_natCast] at hB; obtain ⟨b4, p4, m4, c4, rfl⟩ := hB.form; have HB4 := hid hB; clear hB)
  go_wp2_with (first | (revert H; refine xSF ?_; intro w1 H hk) | (revert H; refine x_g ?_; intro g w1 hg hf H; replace hf := hf.kp))
  (refine x_c H (negative_any _ b hb2) ?_; clear H; rintro e w1 ⟨rfl, hF⟩ H; replace hF := hF.kp; rw [HN.out])
  go_wp2_with (refine x_q H ?_)
  (refine x_c H (makeO_any (bv HB4).ar (by omega) (by rw [Int.natAbs_natCast]; omega) (by omega) (HT.out.fr H.fr) HP.out) ?_; clear H; rintro e w1 ⟨v5, rfl, hF, hD⟩ H; replace hF := hF.kp; obtain ⟨m5, e5, b5, p5, n5, c5, rfl, hN, hB, ho5⟩ := hD; have HN5 := hid hN; have HB5 := hid hB; have HO5 := hid ho5; clear hN hB ho5)
  go_wp2_with (revert H; refine xSF ?_; intro w1 H hk)
  refine c_post H rfl rfl rfl ?_
  exact ⟨_, rfl, H.fr, _, _, _, _, _, _, rfl, HN5.out, bv HB5, HO5.out⟩
 ·rw [if_neg h0, if_neg h0]
  obtain ⟨M, hM⟩ : ∃ M, y + 4503599627370496 = M := ⟨_, rfl⟩
  have HM := hid hM
  have hMb : M < 9007199254740992 := by omega
  have HP : Hid ((M : Int) ≠ 0) := hid (by omega)
  rw [hM]
  have hbl : bl M ≤ 53 := bl_le (by omega)
  clear hM hmp
  go_enter Tryz.func30, Tryz.ntmps30
  go_wp2_with (revert H; refine x_g ?_; intro g w1 hg hf H; replace hf := hf.kp)
  (refine x_c H (partsI_any _ hb2 HX HY) ?_; clear H; rintro e w1 ⟨rfl, hF⟩ H; replace hF := hF.kp)
  go_wp2_with (first | refine x_q H ?_ | refine x_e (ev_h52 rfl rfl HM) ?_)
  (refine x_c H (fromInt_ar _ ((M : Nat) : Int) (by simp only [inr]; omega)) ?_; clear H; rintro e w1 ⟨v4, rfl, hF, hB⟩ H; replace hF := hF.kp; replace hB := hB.c; rw [Int.natAbs_natCast] at hB; obtain ⟨b4, p4, m4, c4, rfl⟩ := hB.form; have HB4 := hid hB; clear hB)
  go_wp2_with (first | (revert H; refine xSF ?_; intro w1 H hk) | (revert H; refine x_g ?_; intro g w1 hg hf H; replace hf := hf.kp))
  (refine x_c H (negative_any _ b hb2) ?_; clear H; rintro e w1 ⟨rfl, hF⟩ H; replace hF := hF.kp; rw [HN.out])
  go_wp2_with (refine x_q H ?_)
  (refine x_c H (makeO_any (bv HB4).ar (by omega) (by rw [Int.natAbs_natCast]; omega) (by omega) (HT.out.fr H.fr) HP.out) ?_; clear H; rintro e w1 ⟨v5, rfl, hF, hD⟩ H; replace hF := hF.kp; obtain ⟨m5, e5, b5, p5, n5, c5, rfl, hN, hB, ho5⟩ := hD; have HN5 := hid hN; have HB5 := hid hB; have HO5 := hid ho5; clear hN hB ho5)
  go_wp2_with (revert H; refine xSF ?_; intro w1 H hk)
  refine c_post H rfl rfl rfl ?_
  exact ⟨_, rfl, H.fr, _, _, _, _, _, _, rfl, HN5.out, bv HB5, HO5.out⟩
def ExO (b z : Nat) (l : List UInt8) : Prop := ∃ (M : Nat) (e : Int), Nm (manF z : Int) (expoF z) (M : Int) e ∧ M % 2 = 1 ∧ ((∃ j : Nat, e = (j : Int) ∧ l = mns b ++ dec (M * 2 ^ j)) ∨ (∃ k : Nat, e = -(k : Int) ∧ 0 < k ∧ l = mns b ++ ((padE k (dec (M * 5 ^ k))).take ((padE k (dec (M * 5 ^ k))).length - k) ++ 46 :: (padE k (dec (M * 5 ^ k))).drop ((padE k (dec (M * 5 ^ k))).length - k))))
set_option maxHeartbeats 16000000 in
theorem exactO_any (w : World) {b z : Nat} (hb : b < 18446744073709551616) (hfi : b / 4503599627370496 % 2048 ≠ 2047) (hk3 : kindF b ≠ 3) (hz : Hid (b % 9223372036854775808 = z)) (hz1 : z < 9218868437227405312) (h0 : 0 < z) (hT : La w) :
  Calls Tryz.prog 26 #[.int .u64 (b : Int)] w fun r w' => ∃ l, r = .returned (.tuple #[strV l, .int .i64 0]) ∧ Fr [] w w' ∧ ExO b z l := by
 obtain ⟨hm1, hm2, hm3⟩ := man_bounds hz1
 have HT := hid hT
 have HK3 := hid hk3
 obtain ⟨x, hX⟩ : ∃ x, b / 4503599627370496 % 2048 = x := ⟨_, rfl⟩
 obtain ⟨y, hY⟩ : ∃ x, b % 4503599627370496 = x := ⟨_, rfl⟩
 rw [hX] at hfi
 have HX := hid hX
 have HY := hid hY
 clear hT hk3 hX hY
 have H := Hp.start [] w
 by_cases hm : 9223372036854775808 ≤ b
 ·have HI := hid (show (if 9223372036854775808 ≤ b then 9223372036854775808 else 0 : Nat) = 9223372036854775808 from if_pos hm)
  have HMN : Hid (mns b = [45]) := hid (if_pos hm)
  have hml : ([45] : List UInt8).length ≤ 1 := by decide
  clear hm
  go_enter Tryz.func26, Tryz.ntmps26
  go_wp2_with fail
  (refine x_c H (isFinite_any _ hb HX HY hfi) ?_; clear H; rintro e w1 ⟨rfl, hF⟩ H; replace hF := hF.kp)
  go_wp2_with (first | refine x_q H ?_ | refine x_e (ev_m63I rfl rfl HI) ?_)
  (refine x_c H (absF_any _ hb HK3.out hz) ?_; clear H; rintro e w1 ⟨rfl, hF⟩ H; replace hF := hF.kp)
  go_wp2_with fail
  (refine x_c H (ofO_any _ hz1 h0 (HT.out.fr H.fr)) ?_; clear H; rintro e w1 ⟨v3, rfl, hF, hD⟩ H; replace hF := hF.kp; obtain ⟨m3, e3, b3, p3, n3, c3, rfl, hN, hB, ho3⟩ := hD; have HN3 := hid hN; have HB3 := hid hB; have HO3 := hid ho3; clear hN hB ho3)
  have hle := HN3.out.le
  rw [Int.natAbs_natCast] at hle
  have hbX : bl (manF z) ≤ 53 := bl_le (by omega)
  obtain ⟨M, rfl⟩ := nm_nat HN3.out
  have hodd : M % 2 = 1 := by have := HO3.out; rwa [Int.natAbs_natCast] at this
  rw [Int.natAbs_natCast] at hle HB3
  have het : -1074 ≤ e3 ∧ e3 ≤ 1024 := by omega
  have hbM : bl M ≤ 53 := by omega
  clear hle HO3
  have HOD := hid hodd
  clear hodd
  by_cases hp : 0 ≤ e3
  ·obtain ⟨j, hj⟩ := Int.eq_ofNat_of_zero_le hp
   have HJ := hid hj
   have hj2 : j ≤ 1024 := by omega
   have hbs := bl_prod M (2 ^ j)
   rw [bl_two] at hbs
   obtain ⟨d, hd⟩ : ∃ d, dec (M * 2 ^ j) = d := ⟨_, rfl⟩
   obtain ⟨Q, hQ⟩ : ∃ q, [45] ++ d = q := ⟨_, rfl⟩
   have HDD := hid hd
   have HQ := hid hQ
   have HEX : Hid (ExO b z Q) := hid ⟨M, e3, HN3.out, HOD.out, .inl ⟨j, hj, by rw [HMN.out, hd, hQ]⟩⟩
   have hdl : d.length ≤ 1000000 := by rw [← hd]; exact dec_short (Nat.le_trans hbs (by omega))
   clear hj hd hQ
   go_wp2_with (first | refine x_q H ?_ | refine x_l H ?_ | (revert H; refine xSF ?_; intro w1 H hk) | (revert H; refine x_g ?_; intro g w1 hg hf H; replace hf := hf.kp))
   (refine x_c H (shiftN_any j HJ.out (bv HB3).ar (by omega) (by omega)) ?_; clear H; rintro e w1 ⟨v5, rfl, hF, hB⟩ H; replace hF := hF.kp; obtain ⟨b5, p5, m5, c5, rfl⟩ := hB.form; have HB5 := hid hB; clear hB)
   go_wp2_with (first | refine x_q H ?_ | (revert H; refine xSF ?_; intro w1 H hk) | (revert H; refine x_g ?_; intro g w1 hg hf H; replace hf := hf.kp))
   (refine x_c H (formatN_any (bv HB5).ar (by omega) (HT.out.fr H.fr) HDD) ?_; clear H; rintro e w1 ⟨rfl, hF⟩ H; replace hF := hF.kp)
   go_wp2_with (refine x_e (ev_strCat (s := [45]) rfl rfl rfl HQ (by omega)) ?_)
   refine bodyPost_ret (results_tmp2 rfl _ _ _) rfl ?_
   exact ⟨_, rfl, H.fr, HEX.out⟩
  ·obtain ⟨k, hk⟩ := Int.eq_ofNat_of_zero_le (show 0 ≤ -e3 by omega)
   have HKK := hid hk
   have hk2 : k ≤ 1074 := by omega
   have hk0 : 0 < k := by omega
   have hbs := bl_prod M (5 ^ k)
   have hb5 := bl_five k
   have hbt := bl_ten k
   have hb2 := bl_two k
   obtain ⟨d, hd⟩ : ∃ d, dec (M * 5 ^ k) = d := ⟨_, rfl⟩
   have hdl : d.length ≤ 1000000 := by rw [← hd]; exact dec_short (Nat.le_trans hbs (by omega))
   have HFV : Hid (((10 ^ k : Nat) : Int) / ((2 ^ k : Nat) : Int) = ((5 ^ k : Nat) : Int)) := hid (by rw [← Int.natCast_ediv, five_pow])
   have h20 : ((2 ^ k : Nat) : Int) ≠ 0 := by have := pow2_pos k; omega
   have HDD := hid hd
   obtain ⟨D, hD2⟩ : ∃ q, padE k d = q := ⟨_, rfl⟩
   have hDl : k + 1 ≤ D.length ∧ D.length ≤ 1002000 := by
    rw [← hD2]; unfold padE
    split
    ·rw [List.length_append, List.length_replicate]; omega
    ·omega
   obtain ⟨D1, hD1⟩ : ∃ q, D.take (D.length - k) = q := ⟨_, rfl⟩
   obtain ⟨D2, hD3⟩ : ∃ q, D.drop (D.length - k) = q := ⟨_, rfl⟩
   have hD1l : D1.length ≤ 1002000 := by rw [← hD1, List.length_take]; omega
   have hD2l : D2.length ≤ 1002000 := by rw [← hD3, List.length_drop]; omega
   obtain ⟨Q1, hQ1⟩ : ∃ q, [45] ++ D1 = q := ⟨_, rfl⟩
   obtain ⟨Q2, hQ2⟩ : ∃ q, Q1 ++ [46] = q := ⟨_, rfl⟩
   obtain ⟨Q3, hQ3⟩ : ∃ q, Q2 ++ D2 = q := ⟨_, rfl⟩
   have hq1 : Q1.length ≤ 1002001 := by rw [← hQ1, List.length_append]; omega
   have hq2 : Q2.length ≤ 1002002 := by rw [← hQ2, List.length_append, List.length_singleton]; omega
   have HEX : Hid (ExO b z Q3) := hid ⟨M, e3, HN3.out, HOD.out, .inr ⟨k, by omega, hk0, by rw [HMN.out, hd, hD2, hD1, hD3, ← hQ3, ← hQ2, ← hQ1]; simp⟩⟩
   have HD1 : Hid (D.take ((D.length : Int) - -e3).toNat = D1) := hid (by rw [← hD1]; congr 1; omega)
   have HD3 : Hid (D.drop ((D.length : Int) - -e3).toNat = D2) := hid (by rw [← hD3]; congr 1; omega)
   have HPD := hid hD2
   have HQ1 := hid hQ1
   have HQ2 := hid hQ2
   have HQ3 := hid hQ3
   have l46 : ([46] : List UInt8).length = 1 := rfl
   clear hk hd hD2 hD1 hD3 hQ1 hQ2 hQ3
   have hke1 : -e3 ≤ (k : Int) := by have := HKK.out; omega
   have hke2 : (k : Int) ≤ -e3 := by have := HKK.out; omega
   go_wp2_with (first | refine x_q H ?_ | (revert H; refine xSF ?_; intro w1 H hk) | (revert H; refine x_g ?_; intro g w1 hg hf H; replace hf := hf.kp))
   (refine x_c H (powerY_any _ k HKK.out (by omega)) ?_; clear H; rintro e w1 ⟨v4, rfl, hF, hB⟩ H; replace hF := hF.kp; obtain ⟨b4, p4, m4, c4, rfl⟩ := hB.form; have HB4 := hid hB; clear hB)
   go_wp2_with fail
   (refine x_c H (shifted_any _ k (by omega) HKK.out) ?_; clear H; rintro e w1 ⟨v5, rfl, hF, hB⟩ H; replace hF := hF.kp; obtain ⟨b5, p5, m5, c5, rfl⟩ := hB.form; have HB5 := hid hB; clear hB)
   go_wp2_with fail
   (refine x_c H (divMod_ar (bv HB4).ar (bv HB5).ar (by omega) (by omega) h20) ?_; clear H; rintro e w1 ⟨v6, v7, rfl, hF, hB, hB2⟩ H; replace hF := hF.kp; rw [HFV.out] at hB; obtain ⟨b6, p6, m6, c6, rfl⟩ := hB.form; have HB6 := hid hB; clear hB; obtain ⟨b7, p7, m7, c7, rfl⟩ := hB2.form; clear hB2)
   go_wp2_with (first | refine x_q H ?_ | refine x_l H ?_ | (revert H; refine xSF ?_; intro w1 H hk) | (revert H; refine x_g ?_; intro g w1 hg hf H; replace hf := hf.kp))
   (refine x_c H (mul_ar (bv HB3).ar (bv HB6).ar (by omega) (by omega)) ?_; clear H; rintro e w1 ⟨v8, rfl, hF, hB⟩ H; replace hF := hF.kp; replace hB := hB.c; rw [← Int.natCast_mul, Int.natAbs_natCast] at hB; obtain ⟨b8, p8, m8, c8, rfl⟩ := hB.form; have HB8 := hid hB; clear hB)
   go_wp2_with fail
   (refine x_c H (formatN_any (bv HB8).ar (by omega) (HT.out.fr H.fr) HDD) ?_; clear H; rintro e w1 ⟨rfl, hF⟩ H; replace hF := hF.kp)
   clear HFV HDD HB3 HB4 HB5 HB6 HB8 HN3 HT
   by_cases hdk : d.length ≤ k
   ·obtain ⟨R, hR⟩ : ∃ R, List.replicate (k + 1 - d.length) (48 : UInt8) = R := ⟨_, rfl⟩
    have HR := hid hR
    have hRl : R.length = k + 1 - d.length := by rw [← hR, List.length_replicate]
    have HRD : Hid (R ++ d = D) := hid (by rw [← HPD.out, ← hR]; unfold padE; rw [if_pos hdk])
    clear hR
    go_wp2_with (first | refine x_q H ?_ | refine x_e (ev_strLen rfl rfl) ?_)
    (refine x_c H (repeatZ_any _ (k + 1 - d.length) (by omega) (by omega) HR) ?_; clear H; rintro e w1 ⟨rfl, hF⟩ H; replace hF := hF.kp)
    go_wp2_with (refine x_e (ev_strCat rfl rfl rfl HRD (by omega)) ?_)
    (revert H; refine w_pF 18 (.st 0 (.st 1 (.st 2 (.st 3 (.st 4 (.st 5 (.st 6 (.st 7 (.st 8 (.st 9 (.st 10 (.st 11 (.st 12 (.st 13 (.st 14 (.st 15 (.st 16 (.st 17 .done)))))))))))))))))) ?_; intro w1 hf H; (first | replace hf := hf.kp | clear hf))
    iterate 3 refine p_q ?_
    (refine p_e rfl (fun w H => ev_strLen rfl rfl) ?_)
    iterate 2 refine p_q ?_
    (refine p_e rfl (fun w H => ev_strHead rfl rfl rfl HD1) ?_)
    (refine p_e rfl (fun w H => ev_strCat rfl rfl rfl HQ1 (by omega)) ?_)
    (refine p_e rfl (fun w H => ev_strCat (r := [46]) rfl rfl rfl HQ2 (by omega)) ?_)
    iterate 2 refine p_q ?_
    (refine p_e rfl (fun w H => ev_strLen rfl rfl) ?_)
    iterate 2 refine p_q ?_
    (refine p_e rfl (fun w H => ev_strTail rfl rfl rfl HD3) ?_)
    (refine p_e rfl (fun w H => ev_strCat rfl rfl rfl HQ3 (by omega)) ?_)
    iterate 2 refine p_q ?_
    (refine pl_done ?_)
    go_wp2_with fail
    refine bodyPost_ret (results_tmp2 rfl _ _ _) rfl ?_
    exact ⟨_, rfl, H.fr, HEX.out⟩
   ·have HRD : D = d := by rw [← HPD.out]; unfold padE; rw [if_neg hdk]
    subst HRD
    go_wp2_with (first | refine x_q H ?_ | refine x_e (ev_strLen rfl rfl) ?_)
    (revert H; refine w_pF 18 (.st 0 (.st 1 (.st 2 (.st 3 (.st 4 (.st 5 (.st 6 (.st 7 (.st 8 (.st 9 (.st 10 (.st 11 (.st 12 (.st 13 (.st 14 (.st 15 (.st 16 (.st 17 .done)))))))))))))))))) ?_; intro w1 hf H; (first | replace hf := hf.kp | clear hf))
    iterate 3 refine p_q ?_
    (refine p_e rfl (fun w H => ev_strLen rfl rfl) ?_)
    iterate 2 refine p_q ?_
    (refine p_e rfl (fun w H => ev_strHead rfl rfl rfl HD1) ?_)
    (refine p_e rfl (fun w H => ev_strCat rfl rfl rfl HQ1 (by omega)) ?_)
    (refine p_e rfl (fun w H => ev_strCat (r := [46]) rfl rfl rfl HQ2 (by omega)) ?_)
    iterate 2 refine p_q ?_
    (refine p_e rfl (fun w H => ev_strLen rfl rfl) ?_)
    iterate 2 refine p_q ?_
    (refine p_e rfl (fun w H => ev_strTail rfl rfl rfl HD3) ?_)
    (refine p_e rfl (fun w H => ev_strCat rfl rfl rfl HQ3 (by omega)) ?_)
    iterate 2 refine p_q ?_
    (refine pl_done ?_)
    go_wp2_with fail
    refine bodyPost_ret (results_tmp2 rfl _ _ _) rfl ?_
    exact ⟨_, rfl, H.fr, HEX.out⟩
 ·have HI := hid (show (if 9223372036854775808 ≤ b then 9223372036854775808 else 0 : Nat) = 0 from if_neg hm)
  have HMN : Hid (mns b = []) := hid (if_neg hm)
  have hml : ([] : List UInt8).length ≤ 1 := by decide
  clear hm
  go_enter Tryz.func26, Tryz.ntmps26
  go_wp2_with fail
  (refine x_c H (isFinite_any _ hb HX HY hfi) ?_; clear H; rintro e w1 ⟨rfl, hF⟩ H; replace hF := hF.kp)
  go_wp2_with (first | refine x_q H ?_ | refine x_e (ev_m63I rfl rfl HI) ?_)
  (refine x_c H (absF_any _ hb HK3.out hz) ?_; clear H; rintro e w1 ⟨rfl, hF⟩ H; replace hF := hF.kp)
  go_wp2_with fail
  (refine x_c H (ofO_any _ hz1 h0 (HT.out.fr H.fr)) ?_; clear H; rintro e w1 ⟨v3, rfl, hF, hD⟩ H; replace hF := hF.kp; obtain ⟨m3, e3, b3, p3, n3, c3, rfl, hN, hB, ho3⟩ := hD; have HN3 := hid hN; have HB3 := hid hB; have HO3 := hid ho3; clear hN hB ho3)
  have hle := HN3.out.le
  rw [Int.natAbs_natCast] at hle
  have hbX : bl (manF z) ≤ 53 := bl_le (by omega)
  obtain ⟨M, rfl⟩ := nm_nat HN3.out
  have hodd : M % 2 = 1 := by have := HO3.out; rwa [Int.natAbs_natCast] at this
  rw [Int.natAbs_natCast] at hle HB3
  have het : -1074 ≤ e3 ∧ e3 ≤ 1024 := by omega
  have hbM : bl M ≤ 53 := by omega
  clear hle HO3
  have HOD := hid hodd
  clear hodd
  by_cases hp : 0 ≤ e3
  ·obtain ⟨j, hj⟩ := Int.eq_ofNat_of_zero_le hp
   have HJ := hid hj
   have hj2 : j ≤ 1024 := by omega
   have hbs := bl_prod M (2 ^ j)
   rw [bl_two] at hbs
   obtain ⟨d, hd⟩ : ∃ d, dec (M * 2 ^ j) = d := ⟨_, rfl⟩
   obtain ⟨Q, hQ⟩ : ∃ q, [] ++ d = q := ⟨_, rfl⟩
   have HDD := hid hd
   have HQ := hid hQ
   have HEX : Hid (ExO b z Q) := hid ⟨M, e3, HN3.out, HOD.out, .inl ⟨j, hj, by rw [HMN.out, hd, hQ]⟩⟩
   have hdl : d.length ≤ 1000000 := by rw [← hd]; exact dec_short (Nat.le_trans hbs (by omega))
   clear hj hd hQ
   go_wp2_with (first | refine x_q H ?_ | refine x_l H ?_ | (revert H; refine xSF ?_; intro w1 H hk) | (revert H; refine x_g ?_; intro g w1 hg hf H; replace hf := hf.kp))
   (refine x_c H (shiftN_any j HJ.out (bv HB3).ar (by omega) (by omega)) ?_; clear H; rintro e w1 ⟨v5, rfl, hF, hB⟩ H; replace hF := hF.kp; obtain ⟨b5, p5, m5, c5, rfl⟩ := hB.form; have HB5 := hid hB; clear hB)
   go_wp2_with (first | refine x_q H ?_ | (revert H; refine xSF ?_; intro w1 H hk) | (revert H; refine x_g ?_; intro g w1 hg hf H; replace hf := hf.kp))
   (refine x_c H (formatN_any (bv HB5).ar (by omega) (HT.out.fr H.fr) HDD) ?_; clear H; rintro e w1 ⟨rfl, hF⟩ H; replace hF := hF.kp)
   go_wp2_with (refine x_e (ev_strCat (s := []) rfl rfl rfl HQ (by omega)) ?_)
   refine bodyPost_ret (results_tmp2 rfl _ _ _) rfl ?_
   exact ⟨_, rfl, H.fr, HEX.out⟩
  ·obtain ⟨k, hk⟩ := Int.eq_ofNat_of_zero_le (show 0 ≤ -e3 by omega)
   have HKK := hid hk
   have hk2 : k ≤ 1074 := by omega
   have hk0 : 0 < k := by omega
   have hbs := bl_prod M (5 ^ k)
   have hb5 := bl_five k
   have hbt := bl_ten k
   have hb2 := bl_two k
   obtain ⟨d, hd⟩ : ∃ d, dec (M * 5 ^ k) = d := ⟨_, rfl⟩
   have hdl : d.length ≤ 1000000 := by rw [← hd]; exact dec_short (Nat.le_trans hbs (by omega))
   have HFV : Hid (((10 ^ k : Nat) : Int) / ((2 ^ k : Nat) : Int) = ((5 ^ k : Nat) : Int)) := hid (by rw [← Int.natCast_ediv, five_pow])
   have h20 : ((2 ^ k : Nat) : Int) ≠ 0 := by have := pow2_pos k; omega
   have HDD := hid hd
   obtain ⟨D, hD2⟩ : ∃ q, padE k d = q := ⟨_, rfl⟩
   have hDl : k + 1 ≤ D.length ∧ D.length ≤ 1002000 := by
    rw [← hD2]; unfold padE
    split
    ·rw [List.length_append, List.length_replicate]; omega
    ·omega
   obtain ⟨D1, hD1⟩ : ∃ q, D.take (D.length - k) = q := ⟨_, rfl⟩
   obtain ⟨D2, hD3⟩ : ∃ q, D.drop (D.length - k) = q := ⟨_, rfl⟩
   have hD1l : D1.length ≤ 1002000 := by rw [← hD1, List.length_take]; omega
   have hD2l : D2.length ≤ 1002000 := by rw [← hD3, List.length_drop]; omega
   obtain ⟨Q1, hQ1⟩ : ∃ q, [] ++ D1 = q := ⟨_, rfl⟩
   obtain ⟨Q2, hQ2⟩ : ∃ q, Q1 ++ [46] = q := ⟨_, rfl⟩
   obtain ⟨Q3, hQ3⟩ : ∃ q, Q2 ++ D2 = q := ⟨_, rfl⟩
   have hq1 : Q1.length ≤ 1002001 := by rw [← hQ1, List.length_append]; omega
   have hq2 : Q2.length ≤ 1002002 := by rw [← hQ2, List.length_append, List.length_singleton]; omega
   have HEX : Hid (ExO b z Q3) := hid ⟨M, e3, HN3.out, HOD.out, .inr ⟨k, by omega, hk0, by rw [HMN.out, hd, hD2, hD1, hD3, ← hQ3, ← hQ2, ← hQ1]; simp⟩⟩
   have HD1 : Hid (D.take ((D.length : Int) - -e3).toNat = D1) := hid (by rw [← hD1]; congr 1; omega)
   have HD3 : Hid (D.drop ((D.length : Int) - -e3).toNat = D2) := hid (by rw [← hD3]; congr 1; omega)
   have HPD := hid hD2
   have HQ1 := hid hQ1
   have HQ2 := hid hQ2
   have HQ3 := hid hQ3
   have l46 : ([46] : List UInt8).length = 1 := rfl
   clear hk hd hD2 hD1 hD3 hQ1 hQ2 hQ3
   have hke1 : -e3 ≤ (k : Int) := by have := HKK.out; omega
   have hke2 : (k : Int) ≤ -e3 := by have := HKK.out; omega
   go_wp2_with (first | refine x_q H ?_ | (revert H; refine xSF ?_; intro w1 H hk) | (revert H; refine x_g ?_; intro g w1 hg hf H; replace hf := hf.kp))
   (refine x_c H (powerY_any _ k HKK.out (by omega)) ?_; clear H; rintro e w1 ⟨v4, rfl, hF, hB⟩ H; replace hF := hF.kp; obtain ⟨b4, p4, m4, c4, rfl⟩ := hB.form; have HB4 := hid hB; clear hB)
   go_wp2_with fail
   (refine x_c H (shifted_any _ k (by omega) HKK.out) ?_; clear H; rintro e w1 ⟨v5, rfl, hF, hB⟩ H; replace hF := hF.kp; obtain ⟨b5, p5, m5, c5, rfl⟩ := hB.form; have HB5 := hid hB; clear hB)
   go_wp2_with fail
   (refine x_c H (divMod_ar (bv HB4).ar (bv HB5).ar (by omega) (by omega) h20) ?_; clear H; rintro e w1 ⟨v6, v7, rfl, hF, hB, hB2⟩ H; replace hF := hF.kp; rw [HFV.out] at hB; obtain ⟨b6, p6, m6, c6, rfl⟩ := hB.form; have HB6 := hid hB; clear hB; obtain ⟨b7, p7, m7, c7, rfl⟩ := hB2.form; clear hB2)
   go_wp2_with (first | refine x_q H ?_ | refine x_l H ?_ | (revert H; refine xSF ?_; intro w1 H hk) | (revert H; refine x_g ?_; intro g w1 hg hf H; replace hf := hf.kp))
   (refine x_c H (mul_ar (bv HB3).ar (bv HB6).ar (by omega) (by omega)) ?_; clear H; rintro e w1 ⟨v8, rfl, hF, hB⟩ H; replace hF := hF.kp; replace hB := hB.c; rw [← Int.natCast_mul, Int.natAbs_natCast] at hB; obtain ⟨b8, p8, m8, c8, rfl⟩ := hB.form; have HB8 := hid hB; clear hB)
   go_wp2_with fail
   (refine x_c H (formatN_any (bv HB8).ar (by omega) (HT.out.fr H.fr) HDD) ?_; clear H; rintro e w1 ⟨rfl, hF⟩ H; replace hF := hF.kp)
   clear HFV HDD HB3 HB4 HB5 HB6 HB8 HN3 HT
   by_cases hdk : d.length ≤ k
   ·obtain ⟨R, hR⟩ : ∃ R, List.replicate (k + 1 - d.length) (48 : UInt8) = R := ⟨_, rfl⟩
    have HR := hid hR
    have hRl : R.length = k + 1 - d.length := by rw [← hR, List.length_replicate]
    have HRD : Hid (R ++ d = D) := hid (by rw [← HPD.out, ← hR]; unfold padE; rw [if_pos hdk])
    clear hR
    go_wp2_with (first | refine x_q H ?_ | refine x_e (ev_strLen rfl rfl) ?_)
    (refine x_c H (repeatZ_any _ (k + 1 - d.length) (by omega) (by omega) HR) ?_; clear H; rintro e w1 ⟨rfl, hF⟩ H; replace hF := hF.kp)
    go_wp2_with (refine x_e (ev_strCat rfl rfl rfl HRD (by omega)) ?_)
    (revert H; refine w_pF 18 (.st 0 (.st 1 (.st 2 (.st 3 (.st 4 (.st 5 (.st 6 (.st 7 (.st 8 (.st 9 (.st 10 (.st 11 (.st 12 (.st 13 (.st 14 (.st 15 (.st 16 (.st 17 .done)))))))))))))))))) ?_; intro w1 hf H; (first | replace hf := hf.kp | clear hf))
    iterate 3 refine p_q ?_
    (refine p_e rfl (fun w H => ev_strLen rfl rfl) ?_)
    iterate 2 refine p_q ?_
    (refine p_e rfl (fun w H => ev_strHead rfl rfl rfl HD1) ?_)
    (refine p_e rfl (fun w H => ev_strCat rfl rfl rfl HQ1 (by omega)) ?_)
    (refine p_e rfl (fun w H => ev_strCat (r := [46]) rfl rfl rfl HQ2 (by omega)) ?_)
    iterate 2 refine p_q ?_
    (refine p_e rfl (fun w H => ev_strLen rfl rfl) ?_)
    iterate 2 refine p_q ?_
    (refine p_e rfl (fun w H => ev_strTail rfl rfl rfl HD3) ?_)
    (refine p_e rfl (fun w H => ev_strCat rfl rfl rfl HQ3 (by omega)) ?_)
    iterate 2 refine p_q ?_
    (refine pl_done ?_)
    go_wp2_with fail
    refine bodyPost_ret (results_tmp2 rfl _ _ _) rfl ?_
    exact ⟨_, rfl, H.fr, HEX.out⟩
   ·have HRD : D = d := by rw [← HPD.out]; unfold padE; rw [if_neg hdk]
    subst HRD
    go_wp2_with (first | refine x_q H ?_ | refine x_e (ev_strLen rfl rfl) ?_)
    (revert H; refine w_pF 18 (.st 0 (.st 1 (.st 2 (.st 3 (.st 4 (.st 5 (.st 6 (.st 7 (.st 8 (.st 9 (.st 10 (.st 11 (.st 12 (.st 13 (.st 14 (.st 15 (.st 16 (.st 17 .done)))))))))))))))))) ?_; intro w1 hf H; (first | replace hf := hf.kp | clear hf))
    iterate 3 refine p_q ?_
    (refine p_e rfl (fun w H => ev_strLen rfl rfl) ?_)
    iterate 2 refine p_q ?_
    (refine p_e rfl (fun w H => ev_strHead rfl rfl rfl HD1) ?_)
    (refine p_e rfl (fun w H => ev_strCat rfl rfl rfl HQ1 (by omega)) ?_)
    (refine p_e rfl (fun w H => ev_strCat (r := [46]) rfl rfl rfl HQ2 (by omega)) ?_)
    iterate 2 refine p_q ?_
    (refine p_e rfl (fun w H => ev_strLen rfl rfl) ?_)
    iterate 2 refine p_q ?_
    (refine p_e rfl (fun w H => ev_strTail rfl rfl rfl HD3) ?_)
    (refine p_e rfl (fun w H => ev_strCat rfl rfl rfl HQ3 (by omega)) ?_)
    iterate 2 refine p_q ?_
    (refine pl_done ?_)
    go_wp2_with fail
    refine bodyPost_ret (results_tmp2 rfl _ _ _) rfl ?_
    exact ⟨_, rfl, H.fr, HEX.out⟩
theorem num_cons (c : UInt8) (r : List UInt8) : num (c :: r) = (c.toNat - 48) * 10 ^ r.length + num r := by
 unfold num
 rw [numF_cons, numF_eq]
 unfold numS
 rw [Nat.zero_mul, Nat.zero_add]
theorem num_inj : ∀ (l m : List UInt8), l.all dig = true → m.all dig = true → l.length = m.length → num l = num m → l = m
 | [], [], _, _, _, _ => rfl
 | [], _ :: _, _, _, h, _ => by simp at h
 | _ :: _, [], _, _, h, _ => by simp at h
 | a :: l, b :: m, hl, hm, hn, he => by
  rw [List.all_cons, Bool.and_eq_true] at hl hm
  rw [List.length_cons, List.length_cons] at hn
  have hlen : l.length = m.length := by omega
  rw [num_cons, num_cons, hlen] at he
  have h1 := num_lt l hl.2
  have h2 := num_lt m hm.2
  rw [hlen] at h1
  have d1 := dig_le hl.1
  have d2 := dig_le hm.1
  have hp := ten_pos m.length
  generalize 10 ^ m.length = P at *
  have e1 : a.toNat - 48 = b.toNat - 48 := by
   have q1 : ((a.toNat - 48) * P + num l) / P = a.toNat - 48 := by
    rw [Nat.mul_comm, Nat.mul_add_div hp, Nat.div_eq_of_lt h1, Nat.add_zero]
   have q2 : ((b.toNat - 48) * P + num m) / P = b.toNat - 48 := by
    rw [Nat.mul_comm, Nat.mul_add_div hp, Nat.div_eq_of_lt h2, Nat.add_zero]
   rw [← q1, ← q2, he]
  rw [e1] at he
  have e2 : a = b := UInt8.toNat.inj (by omega)
  rw [e2, num_inj l m hl.2 hm.2 hlen (by omega)]
theorem odd_pow (k : Nat) : 5 ^ k % 2 = 1 := by
 induction k with
 | zero => rfl
 | succ k ih => rw [Nat.pow_succ, Nat.mul_mod, ih]
theorem rem_zero {R k i : Nat} (hR : R % 2 = 1) : R * 10 ^ i % 2 ^ k = 0 ↔ k ≤ i := by
 have e : 10 ^ i = 5 ^ i * 2 ^ i := by rw [← Nat.mul_pow]
 rw [e, ← Nat.mul_assoc]
 constructor
 ·intro h
  apply Classical.byContradiction
  intro hc
  have e2 : 2 ^ k = 2 ^ i * 2 ^ (k - i) := by rw [← Nat.pow_add]; congr 1; omega
  rw [e2, Nat.mul_comm (R * 5 ^ i), Nat.mul_mod_mul_left] at h
  have h2 : R * 5 ^ i % 2 ^ (k - i) = 0 := by
   rcases Nat.mul_eq_zero.1 h with h | h
   ·exact absurd h (by have := pow2_pos i; omega)
   ·exact h
  have e3 : 2 ^ (k - i) = 2 * 2 ^ (k - i - 1) := by rw [← Nat.pow_succ']; congr 1; omega
  rw [e3] at h2
  have h3 := Nat.mod_mul_right_mod (R * 5 ^ i) 2 (2 ^ (k - i - 1))
  rw [h2, Nat.mul_mod, hR, odd_pow] at h3
  exact absurd h3 (by decide)
 ·intro h
  have e2 : 2 ^ i = 2 ^ k * 2 ^ (i - k) := by rw [← Nat.pow_add]; congr 1; omega
  rw [e2, Nat.mul_left_comm]
  exact Nat.mul_mod_right _ _
theorem long_step {R b i q r : Nat} (hb : 0 < b) (hq : R * 10 ^ i / b = q) (hr : R * 10 ^ i % b = r) : R * 10 ^ (i + 1) / b = q * 10 + r * 10 / b ∧ R * 10 ^ (i + 1) % b = r * 10 % b ∧ r * 10 / b < 10 := by
 have h := Nat.div_add_mod (R * 10 ^ i) b
 rw [hq, hr] at h
 have e : R * 10 ^ (i + 1) = b * (q * 10) + r * 10 := by rw [Nat.pow_succ, ← Nat.mul_assoc, ← h, Nat.add_mul, Nat.mul_assoc]
 have hrb : r < b := by rw [← hr]; exact Nat.mod_lt _ hb
 refine ⟨?_, ?_, ?_⟩
 ·rw [e, Nat.mul_add_div hb]
 ·rw [e, Nat.mul_add_mod]
 ·rw [Nat.div_lt_iff_lt_mul hb]; omega
theorem nm_one {x e : Int} {M N : Nat} {f g : Int} (h : Nm x e (M : Int) f) (k : Nm x e (N : Int) g) (hM : M % 2 = 1) (hN : N % 2 = 1) : M = N ∧ f = g := by
 rcases h with ⟨_, h, _⟩ | ⟨h0, t, h1, h2⟩
 ·omega
 ·rcases k with ⟨k1, _⟩ | ⟨_, s, k1, k2⟩
  ·exact absurd k1 h0
  ·have he : M * 2 ^ t = N * 2 ^ s := by
    have : (M : Int) * 2 ^ t = (N : Int) * 2 ^ s := by rw [← h1, ← k1]
    have c1 : ((M * 2 ^ t : Nat) : Int) = (M : Int) * 2 ^ t := by rw [Int.natCast_mul, Int.natCast_pow]; rfl
    have c2 : ((N * 2 ^ s : Nat) : Int) = (N : Int) * 2 ^ s := by rw [Int.natCast_mul, Int.natCast_pow]; rfl
    omega
   have aux : ∀ {M N t s : Nat}, M % 2 = 1 → M * 2 ^ t = N * 2 ^ s → s ≤ t := by
    intro M N t s hM he
    apply Classical.byContradiction
    intro hc
    have e2 : 2 ^ s = 2 ^ (s - t - 1) * 2 * 2 ^ t := by rw [← Nat.pow_succ, ← Nat.pow_add]; congr 1; omega
    rw [e2, ← Nat.mul_assoc] at he
    have := Nat.eq_of_mul_eq_mul_right (pow2_pos t) he
    rw [this, ← Nat.mul_assoc] at hM
    omega
   have a := aux hM he
   have b := aux hN he.symm
   obtain rfl : t = s := by omega
   exact ⟨Nat.eq_of_mul_eq_mul_right (pow2_pos t) he, by omega⟩
theorem exact_same {M k : Nat} {L : List UInt8} (hk : 0 < k) (hM : 0 < M) (hl : L.length = k) (hd : L.all dig = true) (hn : num L = M % 2 ^ k * 10 ^ k / 2 ^ k) :
  (padE k (dec (M * 5 ^ k))).take ((padE k (dec (M * 5 ^ k))).length - k) = dec (M / 2 ^ k) ∧ (padE k (dec (M * 5 ^ k))).drop ((padE k (dec (M * 5 ^ k))).length - k) = L := by
 have hp2 := pow2_pos k
 have e10 : 10 ^ k = 5 ^ k * 2 ^ k := by rw [← Nat.mul_pow]
 have hn5 : num L = M % 2 ^ k * 5 ^ k := by rw [hn, e10, ← Nat.mul_assoc, Nat.mul_div_cancel _ hp2]
 have hM5 : 0 < M * 5 ^ k := Nat.mul_pos hM (Nat.pow_pos (by decide))
 obtain ⟨d1, d2, d3⟩ := dec_digits (M * 5 ^ k)
 obtain ⟨s1, s2, s3⟩ := dec_pow hM5
 have p1 := padE_dig k d1
 have p2 := padE_len k (dec (M * 5 ^ k))
 have p3 : num (padE k (dec (M * 5 ^ k))) = M * 5 ^ k := by rw [num_padE, d2]
 have hcase : (dec (M * 5 ^ k)).length ≤ k ∧ (padE k (dec (M * 5 ^ k))).length = k + 1 ∨ k < (dec (M * 5 ^ k)).length ∧ (padE k (dec (M * 5 ^ k))).length = (dec (M * 5 ^ k)).length := by
  unfold padE
  split
  ·exact .inl ⟨by assumption, by rw [List.length_append, List.length_replicate]; omega⟩
  ·exact .inr ⟨by omega, rfl⟩
 generalize padE k (dec (M * 5 ^ k)) = D at *
 generalize (dec (M * 5 ^ k)).length = Ld at *
 have hD : D = D.take (D.length - k) ++ D.drop (D.length - k) := (List.take_append_drop _ D).symm
 have hA : (D.take (D.length - k)).all dig = true := by rw [hD, List.all_append, Bool.and_eq_true] at p1; exact p1.1
 have hB : (D.drop (D.length - k)).all dig = true := by rw [hD, List.all_append, Bool.and_eq_true] at p1; exact p1.2
 have hBl : (D.drop (D.length - k)).length = k := by rw [List.length_drop]; omega
 have hAl : (D.take (D.length - k)).length = D.length - k := by rw [List.length_take]; omega
 have hnum : num (D.take (D.length - k)) * 10 ^ k + num (D.drop (D.length - k)) = M * 5 ^ k := by
  rw [← p3]
  conv => rhs; rw [hD]
  rw [num_app, hBl]
 have hBlt := num_lt _ hB
 rw [hBl] at hBlt
 generalize D.take (D.length - k) = A at *
 generalize D.drop (D.length - k) = B at *
 have hR : M % 2 ^ k * 5 ^ k < 10 ^ k := by
  rw [e10, Nat.mul_comm (5 ^ k)]
  exact Nat.mul_lt_mul_of_pos_right (Nat.mod_lt _ hp2) (Nat.pow_pos (by decide))
 have hsplit : M * 5 ^ k = M / 2 ^ k * 10 ^ k + M % 2 ^ k * 5 ^ k := by
  have := Nat.div_add_mod M (2 ^ k)
  conv => lhs; rw [← this]
  rw [Nat.add_mul, e10, Nat.mul_comm (2 ^ k), Nat.mul_assoc, Nat.mul_comm (2 ^ k)]
 have hp10 := ten_pos k
 have hqA : num A = M / 2 ^ k ∧ num B = M % 2 ^ k * 5 ^ k := by
  rw [hsplit] at hnum
  have a1 := congrArg (· / 10 ^ k) hnum
  have a2 := congrArg (· % 10 ^ k) hnum
  rw [Nat.mul_comm (num A), Nat.mul_comm (M / 2 ^ k)] at a1 a2
  rw [Nat.mul_add_div hp10, Nat.mul_add_div hp10, Nat.div_eq_of_lt hBlt, Nat.div_eq_of_lt hR] at a1
  rw [Nat.mul_add_mod, Nat.mul_add_mod, Nat.mod_eq_of_lt hBlt, Nat.mod_eq_of_lt hR] at a2
  exact ⟨by omega, a2⟩
 obtain ⟨c1, c2, _⟩ := dec_digits (M / 2 ^ k)
 refine ⟨num_inj _ _ hA c1 ?_ (by rw [hqA.1, c2]), num_inj _ _ hB hd (by rw [hBl, hl]) (by rw [hqA.2, hn5])⟩
 rw [hAl]
 rcases hcase with ⟨h1, h2⟩ | ⟨h1, h2⟩
 ·have hA1 : A.length = 1 := by omega
  have := num_lt _ hA
  rw [hA1, hqA.1, Nat.pow_one] at this
  rw [dec_small this, h2]
  simp
 ·have q1 : 10 ^ (Ld - k - 1) ≤ M / 2 ^ k := by
   have e : 10 ^ (Ld - 1) = 10 ^ (Ld - k - 1) * 10 ^ k := by rw [← Nat.pow_add]; congr 1; omega
   rw [e, hsplit] at s1
   apply Classical.byContradiction
   intro hc
   have : M / 2 ^ k * 10 ^ k + 10 ^ k ≤ 10 ^ (Ld - k - 1) * 10 ^ k := by
    rw [← Nat.succ_mul]; exact Nat.mul_le_mul_right _ (by omega)
   omega
  have q2 : M / 2 ^ k < 10 ^ (Ld - k) := by
   have e : 10 ^ Ld = 10 ^ (Ld - k) * 10 ^ k := by rw [← Nat.pow_add]; congr 1; omega
   rw [e, hsplit] at s2
   apply Classical.byContradiction
   intro hc
   have : 10 ^ (Ld - k) * 10 ^ k ≤ M / 2 ^ k * 10 ^ k := Nat.mul_le_mul_right _ (by omega)
   omega
  rw [dec_len_of (n := Ld - k) (by omega) q1 q2, h2]
end Go.Proofs.YthbeeeclgbpopaaGreatDoor
