/-
  The decimals: the exact value of a float, written.
-/
import Derived.Test.YthbeeeclgbpopaaGreatDoorFb0
namespace Go.Proofs.YthbeeeclgbpopaaGreatDoor
open Go.RowKit
set_option linter.unusedSimpArgs false
set_option linter.unusedVariables false
set_option maxHeartbeats 8000000
set_option maxRecDepth 100000

set_option maxHeartbeats 16000000 in
theorem exact_any (w : World) {b z : Nat} (hb : b < 18446744073709551616) (hfi : b / 4503599627370496 % 2048 ≠ 2047) (hk3 : kindF b ≠ 3) (hz : Hid (b % 9223372036854775808 = z)) (hz1 : z < 9218868437227405312) (hT : La w) :
    Calls Tryz.prog 26 #[.int .u64 (b : Int)] w fun r w' => ∃ l, r = .returned (.tuple #[strV l, .int .i64 0]) ∧ Fr [] w w' ∧ Ex b z l := by
  obtain ⟨hm1, hm2, hm3⟩ := man_bounds hz1
  have HT := hid hT
  have HK3 := hid hk3
  obtain ⟨x, hX⟩ : ∃ x, b / 4503599627370496 % 2048 = x := ⟨_, rfl⟩
  obtain ⟨y, hY⟩ : ∃ x, b % 4503599627370496 = x := ⟨_, rfl⟩
  rw [hX] at hfi
  have HX := hid hX
  have HY := hid hY
  clear hT hk3 hX hY
  have H := Hp.start [] w
  by_cases hm : 9223372036854775808 ≤ b
  · have HI := hid (show (if 9223372036854775808 ≤ b then 9223372036854775808 else 0 : Nat) = 9223372036854775808 from if_pos hm)
    have HMN : Hid (mns b = [45]) := hid (if_pos hm)
    have hml : ([45] : List UInt8).length ≤ 1 := by decide
    clear hm
    go_enter Tryz.func26, Tryz.ntmps26
    go_wp2_with (first | refine x_q H ?_ | refine x_cm (fun h => ?_) (fun h => ?_) | refine x_l H ?_ | refine x_e (ev_dyad rfl rfl rfl) ?_ | (revert H; refine x_sF ?_; intro w1 hf H hk; clear hf; change Kp _ _ at hk) | (revert H; (first | (refine x_g ?_; intro g w1 hg hf H) | (refine x_s ?_; intro w1 hf H)); (first | replace hf := hf.kp | clear hf)))
    (refine x_c H (isFinite_any _ hb HX HY hfi) ?_; clear H; rintro e w1 ⟨rfl, hF⟩ H; replace hF := hF.kp; skip)
    go_wp2_with (first | refine x_q H ?_ | refine x_cm (fun h => ?_) (fun h => ?_) | refine x_l H ?_ | refine x_e (ev_dyad rfl rfl rfl) ?_ | (revert H; refine x_sF ?_; intro w1 hf H hk; clear hf; change Kp _ _ at hk) | refine x_e (ev_m63I rfl rfl HI) ?_ | (revert H; (first | (refine x_g ?_; intro g w1 hg hf H) | (refine x_s ?_; intro w1 hf H)); (first | replace hf := hf.kp | clear hf)))
    (refine x_c H (absF_any _ hb HK3.out hz) ?_; clear H; rintro e w1 ⟨rfl, hF⟩ H; replace hF := hF.kp; skip)
    go_wp2_with (first | refine x_q H ?_ | refine x_cm (fun h => ?_) (fun h => ?_) | refine x_l H ?_ | refine x_e (ev_dyad rfl rfl rfl) ?_ | (revert H; refine x_sF ?_; intro w1 hf H hk; clear hf; change Kp _ _ at hk) | (revert H; (first | (refine x_g ?_; intro g w1 hg hf H) | (refine x_s ?_; intro w1 hf H)); (first | replace hf := hf.kp | clear hf)))
    (refine x_c H (ofA_any _ hz1 (HT.out.fr H.fr)) ?_; clear H; rintro e w1 ⟨v3, rfl, hF, hD⟩ H; replace hF := hF.kp; obtain ⟨m3, e3, b3, p3, n3, c3, rfl, hN, hB⟩ := hD; have HN3 := hid hN; have HB3 := hid hB; clear hN hB)
    have hle := HN3.out.le
    rw [Int.natAbs_natCast] at hle
    have hbX : bl (manF z) ≤ 53 := bl_le (by omega)
    obtain ⟨M, rfl⟩ := nm_nat HN3.out
    rw [Int.natAbs_natCast] at hle HB3
    have het : -1074 ≤ e3 ∧ e3 ≤ 1024 := by omega
    have hbM : bl M ≤ 53 := by omega
    clear hle
    by_cases hp : 0 ≤ e3
    · obtain ⟨j, hj⟩ := Int.eq_ofNat_of_zero_le hp
      have HJ := hid hj
      have hj2 : j ≤ 1024 := by omega
      have hbs := bl_prod M (2 ^ j)
      rw [bl_two] at hbs
      obtain ⟨d, hd⟩ : ∃ d, dec (M * 2 ^ j) = d := ⟨_, rfl⟩
      obtain ⟨Q, hQ⟩ : ∃ q, [45] ++ d = q := ⟨_, rfl⟩
      have HDD := hid hd
      have HQ := hid hQ
      have HEX : Hid (Ex b z Q) := hid ⟨M, e3, HN3.out, .inl ⟨j, hj, by rw [HMN.out, hd, hQ]⟩⟩
      have hdl : d.length ≤ 1000000 := by rw [← hd]; exact dec_short (Nat.le_trans hbs (by omega))
      clear hj hd hQ
      go_wp2_with (first | refine x_q H ?_ | refine x_cm (fun h => ?_) (fun h => ?_) | refine x_l H ?_ | refine x_e (ev_dyad rfl rfl rfl) ?_ | (revert H; refine x_sF ?_; intro w1 hf H hk; clear hf; change Kp _ _ at hk) | (revert H; (first | (refine x_g ?_; intro g w1 hg hf H) | (refine x_s ?_; intro w1 hf H)); (first | replace hf := hf.kp | clear hf)))
      (refine x_c H (shiftN_any j HJ.out (bv HB3).ar (by omega) (by omega)) ?_; clear H; rintro e w1 ⟨v5, rfl, hF, hB⟩ H; replace hF := hF.kp; obtain ⟨b5, p5, m5, c5, rfl⟩ := hB.form; have HB5 := hid hB; clear hB)
      go_wp2_with (first | refine x_q H ?_ | refine x_cm (fun h => ?_) (fun h => ?_) | refine x_l H ?_ | refine x_e (ev_dyad rfl rfl rfl) ?_ | (revert H; refine x_sF ?_; intro w1 hf H hk; clear hf; change Kp _ _ at hk) | (revert H; (first | (refine x_g ?_; intro g w1 hg hf H) | (refine x_s ?_; intro w1 hf H)); (first | replace hf := hf.kp | clear hf)))
      (refine x_c H (formatN_any (bv HB5).ar (by omega) (HT.out.fr H.fr) HDD) ?_; clear H; rintro e w1 ⟨rfl, hF⟩ H; replace hF := hF.kp; skip)
      go_wp2_with (first | refine x_q H ?_ | refine x_cm (fun h => ?_) (fun h => ?_) | refine x_l H ?_ | refine x_e (ev_dyad rfl rfl rfl) ?_ | (revert H; refine x_sF ?_; intro w1 hf H hk; clear hf; change Kp _ _ at hk) | refine x_e (ev_strCat (s := [45]) rfl rfl rfl HQ (by omega)) ?_ | (revert H; (first | (refine x_g ?_; intro g w1 hg hf H) | (refine x_s ?_; intro w1 hf H)); (first | replace hf := hf.kp | clear hf)))
      refine bodyPost_ret (results_tmp2 rfl _ _ _) rfl ?_
      exact ⟨_, rfl, H.fr, HEX.out⟩
    · obtain ⟨k, hk⟩ := Int.eq_ofNat_of_zero_le (show 0 ≤ -e3 by omega)
      have HKK := hid hk
      have hk2 : k ≤ 1074 := by omega
      have hk0 : 0 < k := by omega
      have hbs := bl_prod M (5 ^ k)
      have hb5 := bl_five k
      have hbt := bl_ten k
      have hb2 := bl_two k
      obtain ⟨d, hd⟩ : ∃ d, dec (M * 5 ^ k) = d := ⟨_, rfl⟩
      have hdl : d.length ≤ 1000000 := by rw [← hd]; exact dec_short (Nat.le_trans hbs (by omega))
      have HFV : Hid (((10 ^ k : Nat) : Int) / ((2 ^ k : Nat) : Int) = ((5 ^ k : Nat) : Int)) := hid (by rw [← Int.natCast_ediv, five_pow])
      have h20 : ((2 ^ k : Nat) : Int) ≠ 0 := by have := pow2_pos k; omega
      have HDD := hid hd
      obtain ⟨D, hD2⟩ : ∃ q, padE k d = q := ⟨_, rfl⟩
      have hDl : k + 1 ≤ D.length ∧ D.length ≤ 1002000 := by
        rw [← hD2]; unfold padE
        split
        · rw [List.length_append, List.length_replicate]; omega
        · omega
      obtain ⟨D1, hD1⟩ : ∃ q, D.take (D.length - k) = q := ⟨_, rfl⟩
      obtain ⟨D2, hD3⟩ : ∃ q, D.drop (D.length - k) = q := ⟨_, rfl⟩
      have hD1l : D1.length ≤ 1002000 := by rw [← hD1, List.length_take]; omega
      have hD2l : D2.length ≤ 1002000 := by rw [← hD3, List.length_drop]; omega
      obtain ⟨Q1, hQ1⟩ : ∃ q, [45] ++ D1 = q := ⟨_, rfl⟩
      obtain ⟨Q2, hQ2⟩ : ∃ q, Q1 ++ [46] = q := ⟨_, rfl⟩
      obtain ⟨Q3, hQ3⟩ : ∃ q, Q2 ++ D2 = q := ⟨_, rfl⟩
      have hq1 : Q1.length ≤ 1002001 := by rw [← hQ1, List.length_append]; omega
      have hq2 : Q2.length ≤ 1002002 := by rw [← hQ2, List.length_append, List.length_singleton]; omega
      have HEX : Hid (Ex b z Q3) := hid ⟨M, e3, HN3.out, .inr ⟨k, by omega, hk0, by rw [HMN.out, hd, hD2, hD1, hD3, ← hQ3, ← hQ2, ← hQ1]; simp⟩⟩
      have HD1 : Hid (D.take ((D.length : Int) - -e3).toNat = D1) := hid (by rw [← hD1]; congr 1; omega)
      have HD3 : Hid (D.drop ((D.length : Int) - -e3).toNat = D2) := hid (by rw [← hD3]; congr 1; omega)
      have HPD := hid hD2
      have HQ1 := hid hQ1
      have HQ2 := hid hQ2
      have HQ3 := hid hQ3
      have l46 : ([46] : List UInt8).length = 1 := rfl
      clear hk hd hD2 hD1 hD3 hQ1 hQ2 hQ3
      have hke1 : -e3 ≤ (k : Int) := by have := HKK.out; omega
      have hke2 : (k : Int) ≤ -e3 := by have := HKK.out; omega
      go_wp2_with (first | refine x_q H ?_ | refine x_cm (fun h => ?_) (fun h => ?_) | refine x_l H ?_ | refine x_e (ev_dyad rfl rfl rfl) ?_ | (revert H; refine x_sF ?_; intro w1 hf H hk; clear hf; change Kp _ _ at hk) | (revert H; (first | (refine x_g ?_; intro g w1 hg hf H) | (refine x_s ?_; intro w1 hf H)); (first | replace hf := hf.kp | clear hf)))
      (refine x_c H (powerY_any _ k HKK.out (by omega)) ?_; clear H; rintro e w1 ⟨v4, rfl, hF, hB⟩ H; replace hF := hF.kp; obtain ⟨b4, p4, m4, c4, rfl⟩ := hB.form; have HB4 := hid hB; clear hB)
      go_wp2_with (first | refine x_q H ?_ | refine x_cm (fun h => ?_) (fun h => ?_) | refine x_l H ?_ | refine x_e (ev_dyad rfl rfl rfl) ?_ | (revert H; refine x_sF ?_; intro w1 hf H hk; clear hf; change Kp _ _ at hk) | (revert H; (first | (refine x_g ?_; intro g w1 hg hf H) | (refine x_s ?_; intro w1 hf H)); (first | replace hf := hf.kp | clear hf)))
      (refine x_c H (shifted_any _ k (by omega) HKK.out) ?_; clear H; rintro e w1 ⟨v5, rfl, hF, hB⟩ H; replace hF := hF.kp; obtain ⟨b5, p5, m5, c5, rfl⟩ := hB.form; have HB5 := hid hB; clear hB)
      go_wp2_with (first | refine x_q H ?_ | refine x_cm (fun h => ?_) (fun h => ?_) | refine x_l H ?_ | refine x_e (ev_dyad rfl rfl rfl) ?_ | (revert H; refine x_sF ?_; intro w1 hf H hk; clear hf; change Kp _ _ at hk) | (revert H; (first | (refine x_g ?_; intro g w1 hg hf H) | (refine x_s ?_; intro w1 hf H)); (first | replace hf := hf.kp | clear hf)))
      (refine x_c H (divMod_ar (bv HB4).ar (bv HB5).ar (by omega) (by omega) h20) ?_; clear H; rintro e w1 ⟨v6, v7, rfl, hF, hB, hB2⟩ H; replace hF := hF.kp; rw [HFV.out] at hB; obtain ⟨b6, p6, m6, c6, rfl⟩ := hB.form; have HB6 := hid hB; clear hB; obtain ⟨b7, p7, m7, c7, rfl⟩ := hB2.form; clear hB2)
      go_wp2_with (first | refine x_q H ?_ | refine x_cm (fun h => ?_) (fun h => ?_) | refine x_l H ?_ | refine x_e (ev_dyad rfl rfl rfl) ?_ | (revert H; refine x_sF ?_; intro w1 hf H hk; clear hf; change Kp _ _ at hk) | (revert H; (first | (refine x_g ?_; intro g w1 hg hf H) | (refine x_s ?_; intro w1 hf H)); (first | replace hf := hf.kp | clear hf)))
      (refine x_c H (mul_ar (bv HB3).ar (bv HB6).ar (by omega) (by omega)) ?_; clear H; rintro e w1 ⟨v8, rfl, hF, hB⟩ H; replace hF := hF.kp; replace hB := hB.c; rw [← Int.natCast_mul, Int.natAbs_natCast] at hB; obtain ⟨b8, p8, m8, c8, rfl⟩ := hB.form; have HB8 := hid hB; clear hB)
      go_wp2_with (first | refine x_q H ?_ | refine x_cm (fun h => ?_) (fun h => ?_) | refine x_l H ?_ | refine x_e (ev_dyad rfl rfl rfl) ?_ | (revert H; refine x_sF ?_; intro w1 hf H hk; clear hf; change Kp _ _ at hk) | (revert H; (first | (refine x_g ?_; intro g w1 hg hf H) | (refine x_s ?_; intro w1 hf H)); (first | replace hf := hf.kp | clear hf)))
      (refine x_c H (formatN_any (bv HB8).ar (by omega) (HT.out.fr H.fr) HDD) ?_; clear H; rintro e w1 ⟨rfl, hF⟩ H; replace hF := hF.kp; skip)
      clear HFV HDD HB3 HB4 HB5 HB6 HB8 HN3 HT
      by_cases hdk : d.length ≤ k
      · obtain ⟨R, hR⟩ : ∃ R, List.replicate (k + 1 - d.length) (48 : UInt8) = R := ⟨_, rfl⟩
        have HR := hid hR
        have hRl : R.length = k + 1 - d.length := by rw [← hR, List.length_replicate]
        have HRD : Hid (R ++ d = D) := hid (by rw [← HPD.out, ← hR]; unfold padE; rw [if_pos hdk])
        clear hR
        go_wp2_with (first | refine x_q H ?_ | refine x_cm (fun h => ?_) (fun h => ?_) | refine x_l H ?_ | refine x_e (ev_dyad rfl rfl rfl) ?_ | (revert H; refine x_sF ?_; intro w1 hf H hk; clear hf; change Kp _ _ at hk) | refine x_e (ev_strLen rfl rfl) ?_ | (revert H; (first | (refine x_g ?_; intro g w1 hg hf H) | (refine x_s ?_; intro w1 hf H)); (first | replace hf := hf.kp | clear hf)))
        (refine x_c H (repeatZ_any _ (k + 1 - d.length) (by omega) (by omega) HR) ?_; clear H; rintro e w1 ⟨rfl, hF⟩ H; replace hF := hF.kp; skip)
        go_wp2_with (first | refine x_q H ?_ | refine x_cm (fun h => ?_) (fun h => ?_) | refine x_l H ?_ | refine x_e (ev_dyad rfl rfl rfl) ?_ | (revert H; refine x_sF ?_; intro w1 hf H hk; clear hf; change Kp _ _ at hk) | refine x_e (ev_strCat rfl rfl rfl HRD (by omega)) ?_ | (revert H; (first | (refine x_g ?_; intro g w1 hg hf H) | (refine x_s ?_; intro w1 hf H)); (first | replace hf := hf.kp | clear hf)))
        (revert H; refine w_pF 18 (.st 0 (.st 1 (.st 2 (.st 3 (.st 4 (.st 5 (.st 6 (.st 7 (.st 8 (.st 9 (.st 10 (.st 11 (.st 12 (.st 13 (.st 14 (.st 15 (.st 16 (.st 17 .done)))))))))))))))))) ?_; intro w1 hf H; (first | replace hf := hf.kp | clear hf))
        iterate 3 refine p_q ?_
        (refine p_e rfl (fun w H => ev_strLen rfl rfl) ?_)
        iterate 2 refine p_q ?_
        (refine p_e rfl (fun w H => ev_strHead rfl rfl rfl HD1) ?_)
        (refine p_e rfl (fun w H => ev_strCat rfl rfl rfl HQ1 (by omega)) ?_)
        (refine p_e rfl (fun w H => ev_strCat (r := [46]) rfl rfl rfl HQ2 (by omega)) ?_)
        iterate 2 refine p_q ?_
        (refine p_e rfl (fun w H => ev_strLen rfl rfl) ?_)
        iterate 2 refine p_q ?_
        (refine p_e rfl (fun w H => ev_strTail rfl rfl rfl HD3) ?_)
        (refine p_e rfl (fun w H => ev_strCat rfl rfl rfl HQ3 (by omega)) ?_)
        iterate 2 refine p_q ?_
        (refine pl_done ?_)
        go_wp2_with (first | refine x_q H ?_ | refine x_cm (fun h => ?_) (fun h => ?_) | refine x_l H ?_ | refine x_e (ev_dyad rfl rfl rfl) ?_ | (revert H; refine x_sF ?_; intro w1 hf H hk; clear hf; change Kp _ _ at hk) | (revert H; (first | (refine x_g ?_; intro g w1 hg hf H) | (refine x_s ?_; intro w1 hf H)); (first | replace hf := hf.kp | clear hf)))
        refine bodyPost_ret (results_tmp2 rfl _ _ _) rfl ?_
        exact ⟨_, rfl, H.fr, HEX.out⟩
      · have HRD : D = d := by rw [← HPD.out]; unfold padE; rw [if_neg hdk]
        subst HRD
        go_wp2_with (first | refine x_q H ?_ | refine x_cm (fun h => ?_) (fun h => ?_) | refine x_l H ?_ | refine x_e (ev_dyad rfl rfl rfl) ?_ | (revert H; refine x_sF ?_; intro w1 hf H hk; clear hf; change Kp _ _ at hk) | refine x_e (ev_strLen rfl rfl) ?_ | (revert H; (first | (refine x_g ?_; intro g w1 hg hf H) | (refine x_s ?_; intro w1 hf H)); (first | replace hf := hf.kp | clear hf)))
        (revert H; refine w_pF 18 (.st 0 (.st 1 (.st 2 (.st 3 (.st 4 (.st 5 (.st 6 (.st 7 (.st 8 (.st 9 (.st 10 (.st 11 (.st 12 (.st 13 (.st 14 (.st 15 (.st 16 (.st 17 .done)))))))))))))))))) ?_; intro w1 hf H; (first | replace hf := hf.kp | clear hf))
        iterate 3 refine p_q ?_
        (refine p_e rfl (fun w H => ev_strLen rfl rfl) ?_)
        iterate 2 refine p_q ?_
        (refine p_e rfl (fun w H => ev_strHead rfl rfl rfl HD1) ?_)
        (refine p_e rfl (fun w H => ev_strCat rfl rfl rfl HQ1 (by omega)) ?_)
        (refine p_e rfl (fun w H => ev_strCat (r := [46]) rfl rfl rfl HQ2 (by omega)) ?_)
        iterate 2 refine p_q ?_
        (refine p_e rfl (fun w H => ev_strLen rfl rfl) ?_)
        iterate 2 refine p_q ?_
        (refine p_e rfl (fun w H => ev_strTail rfl rfl rfl HD3) ?_)
        (refine p_e rfl (fun w H => ev_strCat rfl rfl rfl HQ3 (by omega)) ?_)
        iterate 2 refine p_q ?_
        (refine pl_done ?_)
        go_wp2_with (first | refine x_q H ?_ | refine x_cm (fun h => ?_) (fun h => ?_) | refine x_l H ?_ | refine x_e (ev_dyad rfl rfl rfl) ?_ | (revert H; refine x_sF ?_; intro w1 hf H hk; clear hf; change Kp _ _ at hk) | (revert H; (first | (refine x_g ?_; intro g w1 hg hf H) | (refine x_s ?_; intro w1 hf H)); (first | replace hf := hf.kp | clear hf)))
        refine bodyPost_ret (results_tmp2 rfl _ _ _) rfl ?_
        exact ⟨_, rfl, H.fr, HEX.out⟩
  · have HI := hid (show (if 9223372036854775808 ≤ b then 9223372036854775808 else 0 : Nat) = 0 from if_neg hm)
    have HMN : Hid (mns b = []) := hid (if_neg hm)
    have hml : ([] : List UInt8).length ≤ 1 := by decide
    clear hm
    go_enter Tryz.func26, Tryz.ntmps26
    go_wp2_with (first | refine x_q H ?_ | refine x_cm (fun h => ?_) (fun h => ?_) | refine x_l H ?_ | refine x_e (ev_dyad rfl rfl rfl) ?_ | (revert H; refine x_sF ?_; intro w1 hf H hk; clear hf; change Kp _ _ at hk) | (revert H; (first | (refine x_g ?_; intro g w1 hg hf H) | (refine x_s ?_; intro w1 hf H)); (first | replace hf := hf.kp | clear hf)))
    (refine x_c H (isFinite_any _ hb HX HY hfi) ?_; clear H; rintro e w1 ⟨rfl, hF⟩ H; replace hF := hF.kp; skip)
    go_wp2_with (first | refine x_q H ?_ | refine x_cm (fun h => ?_) (fun h => ?_) | refine x_l H ?_ | refine x_e (ev_dyad rfl rfl rfl) ?_ | (revert H; refine x_sF ?_; intro w1 hf H hk; clear hf; change Kp _ _ at hk) | refine x_e (ev_m63I rfl rfl HI) ?_ | (revert H; (first | (refine x_g ?_; intro g w1 hg hf H) | (refine x_s ?_; intro w1 hf H)); (first | replace hf := hf.kp | clear hf)))
    (refine x_c H (absF_any _ hb HK3.out hz) ?_; clear H; rintro e w1 ⟨rfl, hF⟩ H; replace hF := hF.kp; skip)
    go_wp2_with (first | refine x_q H ?_ | refine x_cm (fun h => ?_) (fun h => ?_) | refine x_l H ?_ | refine x_e (ev_dyad rfl rfl rfl) ?_ | (revert H; refine x_sF ?_; intro w1 hf H hk; clear hf; change Kp _ _ at hk) | (revert H; (first | (refine x_g ?_; intro g w1 hg hf H) | (refine x_s ?_; intro w1 hf H)); (first | replace hf := hf.kp | clear hf)))
    (refine x_c H (ofA_any _ hz1 (HT.out.fr H.fr)) ?_; clear H; rintro e w1 ⟨v3, rfl, hF, hD⟩ H; replace hF := hF.kp; obtain ⟨m3, e3, b3, p3, n3, c3, rfl, hN, hB⟩ := hD; have HN3 := hid hN; have HB3 := hid hB; clear hN hB)
    have hle := HN3.out.le
    rw [Int.natAbs_natCast] at hle
    have hbX : bl (manF z) ≤ 53 := bl_le (by omega)
    obtain ⟨M, rfl⟩ := nm_nat HN3.out
    rw [Int.natAbs_natCast] at hle HB3
    have het : -1074 ≤ e3 ∧ e3 ≤ 1024 := by omega
    have hbM : bl M ≤ 53 := by omega
    clear hle
    by_cases hp : 0 ≤ e3
    · obtain ⟨j, hj⟩ := Int.eq_ofNat_of_zero_le hp
      have HJ := hid hj
      have hj2 : j ≤ 1024 := by omega
      have hbs := bl_prod M (2 ^ j)
      rw [bl_two] at hbs
      obtain ⟨d, hd⟩ : ∃ d, dec (M * 2 ^ j) = d := ⟨_, rfl⟩
      obtain ⟨Q, hQ⟩ : ∃ q, [] ++ d = q := ⟨_, rfl⟩
      have HDD := hid hd
      have HQ := hid hQ
      have HEX : Hid (Ex b z Q) := hid ⟨M, e3, HN3.out, .inl ⟨j, hj, by rw [HMN.out, hd, hQ]⟩⟩
      have hdl : d.length ≤ 1000000 := by rw [← hd]; exact dec_short (Nat.le_trans hbs (by omega))
      clear hj hd hQ
      go_wp2_with (first | refine x_q H ?_ | refine x_cm (fun h => ?_) (fun h => ?_) | refine x_l H ?_ | refine x_e (ev_dyad rfl rfl rfl) ?_ | (revert H; refine x_sF ?_; intro w1 hf H hk; clear hf; change Kp _ _ at hk) | (revert H; (first | (refine x_g ?_; intro g w1 hg hf H) | (refine x_s ?_; intro w1 hf H)); (first | replace hf := hf.kp | clear hf)))
      (refine x_c H (shiftN_any j HJ.out (bv HB3).ar (by omega) (by omega)) ?_; clear H; rintro e w1 ⟨v5, rfl, hF, hB⟩ H; replace hF := hF.kp; obtain ⟨b5, p5, m5, c5, rfl⟩ := hB.form; have HB5 := hid hB; clear hB)
      go_wp2_with (first | refine x_q H ?_ | refine x_cm (fun h => ?_) (fun h => ?_) | refine x_l H ?_ | refine x_e (ev_dyad rfl rfl rfl) ?_ | (revert H; refine x_sF ?_; intro w1 hf H hk; clear hf; change Kp _ _ at hk) | (revert H; (first | (refine x_g ?_; intro g w1 hg hf H) | (refine x_s ?_; intro w1 hf H)); (first | replace hf := hf.kp | clear hf)))
      (refine x_c H (formatN_any (bv HB5).ar (by omega) (HT.out.fr H.fr) HDD) ?_; clear H; rintro e w1 ⟨rfl, hF⟩ H; replace hF := hF.kp; skip)
      go_wp2_with (first | refine x_q H ?_ | refine x_cm (fun h => ?_) (fun h => ?_) | refine x_l H ?_ | refine x_e (ev_dyad rfl rfl rfl) ?_ | (revert H; refine x_sF ?_; intro w1 hf H hk; clear hf; change Kp _ _ at hk) | refine x_e (ev_strCat (s := []) rfl rfl rfl HQ (by omega)) ?_ | (revert H; (first | (refine x_g ?_; intro g w1 hg hf H) | (refine x_s ?_; intro w1 hf H)); (first | replace hf := hf.kp | clear hf)))
      refine bodyPost_ret (results_tmp2 rfl _ _ _) rfl ?_
      exact ⟨_, rfl, H.fr, HEX.out⟩
    · obtain ⟨k, hk⟩ := Int.eq_ofNat_of_zero_le (show 0 ≤ -e3 by omega)
      have HKK := hid hk
      have hk2 : k ≤ 1074 := by omega
      have hk0 : 0 < k := by omega
      have hbs := bl_prod M (5 ^ k)
      have hb5 := bl_five k
      have hbt := bl_ten k
      have hb2 := bl_two k
      obtain ⟨d, hd⟩ : ∃ d, dec (M * 5 ^ k) = d := ⟨_, rfl⟩
      have hdl : d.length ≤ 1000000 := by rw [← hd]; exact dec_short (Nat.le_trans hbs (by omega))
      have HFV : Hid (((10 ^ k : Nat) : Int) / ((2 ^ k : Nat) : Int) = ((5 ^ k : Nat) : Int)) := hid (by rw [← Int.natCast_ediv, five_pow])
      have h20 : ((2 ^ k : Nat) : Int) ≠ 0 := by have := pow2_pos k; omega
      have HDD := hid hd
      obtain ⟨D, hD2⟩ : ∃ q, padE k d = q := ⟨_, rfl⟩
      have hDl : k + 1 ≤ D.length ∧ D.length ≤ 1002000 := by
        rw [← hD2]; unfold padE
        split
        · rw [List.length_append, List.length_replicate]; omega
        · omega
      obtain ⟨D1, hD1⟩ : ∃ q, D.take (D.length - k) = q := ⟨_, rfl⟩
      obtain ⟨D2, hD3⟩ : ∃ q, D.drop (D.length - k) = q := ⟨_, rfl⟩
      have hD1l : D1.length ≤ 1002000 := by rw [← hD1, List.length_take]; omega
      have hD2l : D2.length ≤ 1002000 := by rw [← hD3, List.length_drop]; omega
      obtain ⟨Q1, hQ1⟩ : ∃ q, [] ++ D1 = q := ⟨_, rfl⟩
      obtain ⟨Q2, hQ2⟩ : ∃ q, Q1 ++ [46] = q := ⟨_, rfl⟩
      obtain ⟨Q3, hQ3⟩ : ∃ q, Q2 ++ D2 = q := ⟨_, rfl⟩
      have hq1 : Q1.length ≤ 1002001 := by rw [← hQ1, List.length_append]; omega
      have hq2 : Q2.length ≤ 1002002 := by rw [← hQ2, List.length_append, List.length_singleton]; omega
      have HEX : Hid (Ex b z Q3) := hid ⟨M, e3, HN3.out, .inr ⟨k, by omega, hk0, by rw [HMN.out, hd, hD2, hD1, hD3, ← hQ3, ← hQ2, ← hQ1]; simp⟩⟩
      have HD1 : Hid (D.take ((D.length : Int) - -e3).toNat = D1) := hid (by rw [← hD1]; congr 1; omega)
      have HD3 : Hid (D.drop ((D.length : Int) - -e3).toNat = D2) := hid (by rw [← hD3]; congr 1; omega)
      have HPD := hid hD2
      have HQ1 := hid hQ1
      have HQ2 := hid hQ2
      have HQ3 := hid hQ3
      have l46 : ([46] : List UInt8).length = 1 := rfl
      clear hk hd hD2 hD1 hD3 hQ1 hQ2 hQ3
      have hke1 : -e3 ≤ (k : Int) := by have := HKK.out; omega
      have hke2 : (k : Int) ≤ -e3 := by have := HKK.out; omega
      go_wp2_with (first | refine x_q H ?_ | refine x_cm (fun h => ?_) (fun h => ?_) | refine x_l H ?_ | refine x_e (ev_dyad rfl rfl rfl) ?_ | (revert H; refine x_sF ?_; intro w1 hf H hk; clear hf; change Kp _ _ at hk) | (revert H; (first | (refine x_g ?_; intro g w1 hg hf H) | (refine x_s ?_; intro w1 hf H)); (first | replace hf := hf.kp | clear hf)))
      (refine x_c H (powerY_any _ k HKK.out (by omega)) ?_; clear H; rintro e w1 ⟨v4, rfl, hF, hB⟩ H; replace hF := hF.kp; obtain ⟨b4, p4, m4, c4, rfl⟩ := hB.form; have HB4 := hid hB; clear hB)
      go_wp2_with (first | refine x_q H ?_ | refine x_cm (fun h => ?_) (fun h => ?_) | refine x_l H ?_ | refine x_e (ev_dyad rfl rfl rfl) ?_ | (revert H; refine x_sF ?_; intro w1 hf H hk; clear hf; change Kp _ _ at hk) | (revert H; (first | (refine x_g ?_; intro g w1 hg hf H) | (refine x_s ?_; intro w1 hf H)); (first | replace hf := hf.kp | clear hf)))
      (refine x_c H (shifted_any _ k (by omega) HKK.out) ?_; clear H; rintro e w1 ⟨v5, rfl, hF, hB⟩ H; replace hF := hF.kp; obtain ⟨b5, p5, m5, c5, rfl⟩ := hB.form; have HB5 := hid hB; clear hB)
      go_wp2_with (first | refine x_q H ?_ | refine x_cm (fun h => ?_) (fun h => ?_) | refine x_l H ?_ | refine x_e (ev_dyad rfl rfl rfl) ?_ | (revert H; refine x_sF ?_; intro w1 hf H hk; clear hf; change Kp _ _ at hk) | (revert H; (first | (refine x_g ?_; intro g w1 hg hf H) | (refine x_s ?_; intro w1 hf H)); (first | replace hf := hf.kp | clear hf)))
      (refine x_c H (divMod_ar (bv HB4).ar (bv HB5).ar (by omega) (by omega) h20) ?_; clear H; rintro e w1 ⟨v6, v7, rfl, hF, hB, hB2⟩ H; replace hF := hF.kp; rw [HFV.out] at hB; obtain ⟨b6, p6, m6, c6, rfl⟩ := hB.form; have HB6 := hid hB; clear hB; obtain ⟨b7, p7, m7, c7, rfl⟩ := hB2.form; clear hB2)
      go_wp2_with (first | refine x_q H ?_ | refine x_cm (fun h => ?_) (fun h => ?_) | refine x_l H ?_ | refine x_e (ev_dyad rfl rfl rfl) ?_ | (revert H; refine x_sF ?_; intro w1 hf H hk; clear hf; change Kp _ _ at hk) | (revert H; (first | (refine x_g ?_; intro g w1 hg hf H) | (refine x_s ?_; intro w1 hf H)); (first | replace hf := hf.kp | clear hf)))
      (refine x_c H (mul_ar (bv HB3).ar (bv HB6).ar (by omega) (by omega)) ?_; clear H; rintro e w1 ⟨v8, rfl, hF, hB⟩ H; replace hF := hF.kp; replace hB := hB.c; rw [← Int.natCast_mul, Int.natAbs_natCast] at hB; obtain ⟨b8, p8, m8, c8, rfl⟩ := hB.form; have HB8 := hid hB; clear hB)
      go_wp2_with (first | refine x_q H ?_ | refine x_cm (fun h => ?_) (fun h => ?_) | refine x_l H ?_ | refine x_e (ev_dyad rfl rfl rfl) ?_ | (revert H; refine x_sF ?_; intro w1 hf H hk; clear hf; change Kp _ _ at hk) | (revert H; (first | (refine x_g ?_; intro g w1 hg hf H) | (refine x_s ?_; intro w1 hf H)); (first | replace hf := hf.kp | clear hf)))
      (refine x_c H (formatN_any (bv HB8).ar (by omega) (HT.out.fr H.fr) HDD) ?_; clear H; rintro e w1 ⟨rfl, hF⟩ H; replace hF := hF.kp; skip)
      clear HFV HDD HB3 HB4 HB5 HB6 HB8 HN3 HT
      by_cases hdk : d.length ≤ k
      · obtain ⟨R, hR⟩ : ∃ R, List.replicate (k + 1 - d.length) (48 : UInt8) = R := ⟨_, rfl⟩
        have HR := hid hR
        have hRl : R.length = k + 1 - d.length := by rw [← hR, List.length_replicate]
        have HRD : Hid (R ++ d = D) := hid (by rw [← HPD.out, ← hR]; unfold padE; rw [if_pos hdk])
        clear hR
        go_wp2_with (first | refine x_q H ?_ | refine x_cm (fun h => ?_) (fun h => ?_) | refine x_l H ?_ | refine x_e (ev_dyad rfl rfl rfl) ?_ | (revert H; refine x_sF ?_; intro w1 hf H hk; clear hf; change Kp _ _ at hk) | refine x_e (ev_strLen rfl rfl) ?_ | (revert H; (first | (refine x_g ?_; intro g w1 hg hf H) | (refine x_s ?_; intro w1 hf H)); (first | replace hf := hf.kp | clear hf)))
        (refine x_c H (repeatZ_any _ (k + 1 - d.length) (by omega) (by omega) HR) ?_; clear H; rintro e w1 ⟨rfl, hF⟩ H; replace hF := hF.kp; skip)
        go_wp2_with (first | refine x_q H ?_ | refine x_cm (fun h => ?_) (fun h => ?_) | refine x_l H ?_ | refine x_e (ev_dyad rfl rfl rfl) ?_ | (revert H; refine x_sF ?_; intro w1 hf H hk; clear hf; change Kp _ _ at hk) | refine x_e (ev_strCat rfl rfl rfl HRD (by omega)) ?_ | (revert H; (first | (refine x_g ?_; intro g w1 hg hf H) | (refine x_s ?_; intro w1 hf H)); (first | replace hf := hf.kp | clear hf)))
        (revert H; refine w_pF 18 (.st 0 (.st 1 (.st 2 (.st 3 (.st 4 (.st 5 (.st 6 (.st 7 (.st 8 (.st 9 (.st 10 (.st 11 (.st 12 (.st 13 (.st 14 (.st 15 (.st 16 (.st 17 .done)))))))))))))))))) ?_; intro w1 hf H; (first | replace hf := hf.kp | clear hf))
        iterate 3 refine p_q ?_
        (refine p_e rfl (fun w H => ev_strLen rfl rfl) ?_)
        iterate 2 refine p_q ?_
        (refine p_e rfl (fun w H => ev_strHead rfl rfl rfl HD1) ?_)
        (refine p_e rfl (fun w H => ev_strCat rfl rfl rfl HQ1 (by omega)) ?_)
        (refine p_e rfl (fun w H => ev_strCat (r := [46]) rfl rfl rfl HQ2 (by omega)) ?_)
        iterate 2 refine p_q ?_
        (refine p_e rfl (fun w H => ev_strLen rfl rfl) ?_)
        iterate 2 refine p_q ?_
        (refine p_e rfl (fun w H => ev_strTail rfl rfl rfl HD3) ?_)
        (refine p_e rfl (fun w H => ev_strCat rfl rfl rfl HQ3 (by omega)) ?_)
        iterate 2 refine p_q ?_
        (refine pl_done ?_)
        go_wp2_with (first | refine x_q H ?_ | refine x_cm (fun h => ?_) (fun h => ?_) | refine x_l H ?_ | refine x_e (ev_dyad rfl rfl rfl) ?_ | (revert H; refine x_sF ?_; intro w1 hf H hk; clear hf; change Kp _ _ at hk) | (revert H; (first | (refine x_g ?_; intro g w1 hg hf H) | (refine x_s ?_; intro w1 hf H)); (first | replace hf := hf.kp | clear hf)))
        refine bodyPost_ret (results_tmp2 rfl _ _ _) rfl ?_
        exact ⟨_, rfl, H.fr, HEX.out⟩
      · have HRD : D = d := by rw [← HPD.out]; unfold padE; rw [if_neg hdk]
        subst HRD
        go_wp2_with (first | refine x_q H ?_ | refine x_cm (fun h => ?_) (fun h => ?_) | refine x_l H ?_ | refine x_e (ev_dyad rfl rfl rfl) ?_ | (revert H; refine x_sF ?_; intro w1 hf H hk; clear hf; change Kp _ _ at hk) | refine x_e (ev_strLen rfl rfl) ?_ | (revert H; (first | (refine x_g ?_; intro g w1 hg hf H) | (refine x_s ?_; intro w1 hf H)); (first | replace hf := hf.kp | clear hf)))
        (revert H; refine w_pF 18 (.st 0 (.st 1 (.st 2 (.st 3 (.st 4 (.st 5 (.st 6 (.st 7 (.st 8 (.st 9 (.st 10 (.st 11 (.st 12 (.st 13 (.st 14 (.st 15 (.st 16 (.st 17 .done)))))))))))))))))) ?_; intro w1 hf H; (first | replace hf := hf.kp | clear hf))
        iterate 3 refine p_q ?_
        (refine p_e rfl (fun w H => ev_strLen rfl rfl) ?_)
        iterate 2 refine p_q ?_
        (refine p_e rfl (fun w H => ev_strHead rfl rfl rfl HD1) ?_)
        (refine p_e rfl (fun w H => ev_strCat rfl rfl rfl HQ1 (by omega)) ?_)
        (refine p_e rfl (fun w H => ev_strCat (r := [46]) rfl rfl rfl HQ2 (by omega)) ?_)
        iterate 2 refine p_q ?_
        (refine p_e rfl (fun w H => ev_strLen rfl rfl) ?_)
        iterate 2 refine p_q ?_
        (refine p_e rfl (fun w H => ev_strTail rfl rfl rfl HD3) ?_)
        (refine p_e rfl (fun w H => ev_strCat rfl rfl rfl HQ3 (by omega)) ?_)
        iterate 2 refine p_q ?_
        (refine pl_done ?_)
        go_wp2_with (first | refine x_q H ?_ | refine x_cm (fun h => ?_) (fun h => ?_) | refine x_l H ?_ | refine x_e (ev_dyad rfl rfl rfl) ?_ | (revert H; refine x_sF ?_; intro w1 hf H hk; clear hf; change Kp _ _ at hk) | (revert H; (first | (refine x_g ?_; intro g w1 hg hf H) | (refine x_s ?_; intro w1 hf H)); (first | replace hf := hf.kp | clear hf)))
        refine bodyPost_ret (results_tmp2 rfl _ _ _) rfl ?_
        exact ⟨_, rfl, H.fr, HEX.out⟩
end Go.Proofs.YthbeeeclgbpopaaGreatDoor
