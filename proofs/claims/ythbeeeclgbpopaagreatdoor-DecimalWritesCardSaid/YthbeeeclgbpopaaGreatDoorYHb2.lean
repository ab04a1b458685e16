import Derived.Test.YthbeeeclgbpopaaGreatDoorYPd2
import Derived.Test.YthbeeeclgbpopaaGreatDoorYFa5
import Derived.Deep.DeepCutAuto
import Derived.Deep.CutBlock
import Derived.Test.YthbeeeclgbpopaaGreatDoorYHa5
import Derived.Test.YthbeeeclgbpopaaGreatDoorYPz6
import Derived.Test.YthbeeeclgbpopaaGreatDoorYPd4
namespace Go.Proofs.YthbeeeclgbpopaaGreatDoor
open Go.RowKit
set_option linter.unusedSimpArgs false
set_option linter.unusedVariables false
set_option maxHeartbeats 16000000
set_option maxRecDepth 100000
theorem rparseN_any (w : World) {s : List UInt8} {N : Nat} (hs : s.length ≤ 1000000) (h : Hid (pz s = ((N : Int), 0))) :
  Calls Tryz.prog 110 #[strV s] w fun e w' => ∃ v1, e = .returned (.tuple #[v1, .int .i64 0]) ∧ Fr [] w w' ∧ Bv w' v1 (N : Int) 1024 := by
 have h1 := rparse_any w s hs
 rwa [h.out] at h1
set_option maxHeartbeats 32000000 in
theorem rvalue_any (w : World) (neg : Bool) (ds : List UInt8) (x mode : Int) (hd : ds.all dig = true) (h0 : ds ≠ []) (hl : ds.length ≤ 60) (hx : -2200 ≤ x ∧ x ≤ 2200) (hT : La w) {X : Nat} (hX : Hid (X = dval neg mode (num ds) x)) :
  Calls Tryz.prog 47 #[.bool neg, strV ds, .int .i64 x, .int .i64 mode] w fun r w' => r = .returned (.int .u64 (X : Int)) ∧ Fr [] w w' := by
 have hpz := pz_digs hd h0 (by omega)
 have hnl := num_lt _ hd
 obtain ⟨N, hN⟩ : ∃ N, num ds = N := ⟨_, rfl⟩
 have hX1 := hX.out
 rw [hN] at hpz hnl hX1
 unfold dval at hX1
 have hN6 : N < 10 ^ 60 := Nat.lt_of_lt_of_le hnl (Nat.pow_le_pow_right (by decide) hl)
 have hbN : bl N ≤ 241 := bl_num hN6
 have HPZ := hid hpz
 have HT := hid hT
 clear hpz hnl hX hN hd h0 hT
 have H := Hp.start [] w
 by_cases hN0 : N = 0
 ·have HX : Hid (X = sgnF neg 0) := hid (by rw [hX1, if_pos hN0])
  have HN0 := hid (show (N : Int) = 0 by omega)
  clear hX1 hN0
  go_enter Tryz.func47, Tryz.ntmps47
  go_wp2_with fail
  (refine x_c H (rparseN_any _ (by omega) HPZ) ?_; clear H; rintro e w1 ⟨v3, rfl, hF, hB⟩ H; replace hF := hF.kp; obtain ⟨b3, p3, m3, c3, rfl⟩ := hB.form; have HB3 := hid hB; clear hB)
  go_wp2_with (first | refine x_q H ?_ | (revert H; refine xSF ?_; intro w1 H hk) | (revert H; refine x_g ?_; intro g w1 hg hf H; replace hf := hf.kp))
  (refine x_c H (rsign_z (bv HB3).ar (by omega) HN0.out) ?_; clear H; rintro e w1 ⟨rfl, hF⟩ H; replace hF := hF.kp)
  cases neg
  ·go_wp2_with (refine x_q H ?_)
   go_ret
   exact ⟨by rw [HX.out]; rfl, H.fr⟩
  ·go_wp2_with (refine x_q H ?_)
   go_ret
   exact ⟨by rw [HX.out]; rfl, H.fr⟩
 ·have HX : Hid (X = dvF neg mode N x) := hid (by rw [hX1, if_neg hN0])
  have hNp : 0 < N := by omega
  obtain ⟨d1, d2, d3⟩ := dec_pow hNp
  obtain ⟨l, hl2⟩ : ∃ l, dec N = l := ⟨_, rfl⟩
  have hover := fun h => doc_over neg mode (x := x) hNp h
  have hunder := fun h => doc_under neg mode (x := x) hNp h
  rw [hl2] at d1 d2 d3 hover hunder
  have hl6 : l.length ≤ 60 := by
   have := (Nat.pow_lt_pow_iff_right (show 1 < 10 by decide)).1 (Nat.lt_of_le_of_lt d1 hN6)
   omega
  have HL := hid hl2
  have HOV := hid hover
  have HUN := hid hunder
  have HN0 := hid (show (N : Int) ≠ 0 by omega)
  clear hX1 hN0 hN6 d1 d2 hl2 hover hunder
  have hb1 : bl (1 : Int).natAbs ≤ 1 := by decide
  go_enter Tryz.func47, Tryz.ntmps47
  go_wp2_with fail
  (refine x_c H (rparseN_any _ (by omega) HPZ) ?_; clear H; rintro e w1 ⟨v3, rfl, hF, hB⟩ H; replace hF := hF.kp; obtain ⟨b3, p3, m3, c3, rfl⟩ := hB.form; have HB3 := hid hB; clear hB)
  go_wp2_with (first | refine x_q H ?_ | (revert H; refine xSF ?_; intro w1 H hk) | (revert H; refine x_g ?_; intro g w1 hg hf H; replace hf := hf.kp))
  (refine x_c H (rsign_nz (bv HB3).ar (by omega) HN0.out) ?_; clear H; rintro e w1 ⟨s4, rfl, hs4, hF⟩ H; replace hF := hF.kp)
  go_wp2_with (refine x_q H ?_)
  (refine x_c H (rformatN_any (bv HB3).ar (by omega) HL) ?_; clear H; rintro e w1 ⟨rfl, hF⟩ H; replace hF := hF.kp)
  go_wp2_with (refine x_e (ev_strLen rfl rfl) ?_)
  (refine x_c H (rfromInt_ar _ 10 (by simp only [inr]; omega)) ?_; clear H; rintro e w1 ⟨v5, rfl, hF, hB⟩ H; replace hF := hF.kp; obtain ⟨b5, p5, m5, c5, rfl⟩ := hB.form; have HB5 := hid hB; clear hB)
  by_cases c1 : 400 < (l.length : Int) + x
  ·have HXV : Hid (X = rndF neg mode (1 : Int).natAbs 1 2000) := hid (HX.out.trans (HOV.out c1))
   clear HOV HUN HX
   go_wp2_with (first | refine x_q H ?_ | (revert H; refine xSF ?_; intro w1 H hk) | (revert H; refine x_g ?_; intro g w1 hg hf H; replace hf := hf.kp))
   (refine x_c H (rfromInt_ar _ 1 (by simp only [inr]; omega)) ?_; clear H; rintro e w1 ⟨v6, rfl, hF, hB⟩ H; replace hF := hF.kp; obtain ⟨b6, p6, m6, c6, rfl⟩ := hB.form; have HB6 := hid hB; clear hB)
   go_wp2_with fail
   (refine x_c H (rmake_any (bv HB6).ar (by omega) (by omega) (by omega) (by omega) (HT.out.fr H.fr)) ?_; clear H; rintro e w1 ⟨v7, rfl, hF, hD⟩ H; replace hF := hF.kp; have HD7 := hid hD; obtain ⟨m7, e7, b7, p7, n7, c7, rfl, hN, hB⟩ := hD; have HN7 := hid hN; have HB7 := hid hB; clear hN hB)
   have hP : (0 : Int) < 1 := by decide
   have hPb : bl (1 : Int).natAbs ≤ 20000 := by omega
   cases neg
   ·have HX2 : Hid (X = rndF (decide ((1 : Int) < 0)) mode (1 : Int).natAbs 1 2000) := hid (by rw [HXV.out, decide_eq_false (by omega)])
    go_wp2_with (first | refine x_q H ?_ | (revert H; refine xSF ?_; intro w1 H hk))
    (refine x_c H (rround_any mode (dn HD7) (by omega) (by omega) (by omega) (HT.out.fr H.fr) HX2) ?_; clear H; rintro e w1 ⟨rfl, hF⟩ H; replace hF := hF.kp)
    go_wp2_with fail
    go_ret
    exact ⟨rfl, H.fr⟩
   ·have HX2 : Hid (X = rndF (decide (-(1 : Int) < 0)) mode (-(1 : Int)).natAbs 1 2000) := hid (by rw [HXV.out, decide_eq_true (by omega), Int.natAbs_neg])
    have hPn : bl (-(1 : Int)).natAbs ≤ 20000 := by rw [Int.natAbs_neg]; exact hPb
    go_wp2_with (first | refine x_q H ?_ | (revert H; refine xSF ?_; intro w1 H hk))
    (refine x_c H (rnegD_any (dn HD7) (by omega) (by omega) (HT.out.fr H.fr)) ?_; clear H; rintro e w1 ⟨v9, rfl, hF, hD⟩ H; replace hF := hF.kp; have HD9 := hid hD; obtain ⟨m9, e9, b9, p9, n9, c9, rfl, hN, hB⟩ := hD; have HN9 := hid hN; have HB9 := hid hB; clear hN hB)
    go_wp2_with (first | refine x_q H ?_ | (revert H; refine xSF ?_; intro w1 H hk))
    (refine x_c H (rround_any mode (dn HD9) (by omega) (by omega) (by omega) (HT.out.fr H.fr) HX2) ?_; clear H; rintro e w1 ⟨rfl, hF⟩ H; replace hF := hF.kp)
    go_wp2_with fail
    go_ret
    exact ⟨rfl, H.fr⟩
  ·by_cases c2 : (l.length : Int) + x < -400
   ·have HXV : Hid (X = rndF neg mode (1 : Int).natAbs 1 (-3000)) := hid (HX.out.trans (HUN.out c2))
    clear HOV HUN HX
    go_wp2_with (first | refine x_q H ?_ | (revert H; refine xSF ?_; intro w1 H hk) | (revert H; refine x_g ?_; intro g w1 hg hf H; replace hf := hf.kp))
    (refine x_c H (rfromInt_ar _ 1 (by simp only [inr]; omega)) ?_; clear H; rintro e w1 ⟨v6, rfl, hF, hB⟩ H; replace hF := hF.kp; obtain ⟨b6, p6, m6, c6, rfl⟩ := hB.form; have HB6 := hid hB; clear hB)
    go_wp2_with fail
    (refine x_c H (rmake_any (bv HB6).ar (by omega) (by omega) (by omega) (by omega) (HT.out.fr H.fr)) ?_; clear H; rintro e w1 ⟨v7, rfl, hF, hD⟩ H; replace hF := hF.kp; have HD7 := hid hD; obtain ⟨m7, e7, b7, p7, n7, c7, rfl, hN, hB⟩ := hD; have HN7 := hid hN; have HB7 := hid hB; clear hN hB)
    have hP : (0 : Int) < 1 := by decide
    have hPb : bl (1 : Int).natAbs ≤ 20000 := by omega
    cases neg
    ·have HX2 : Hid (X = rndF (decide ((1 : Int) < 0)) mode (1 : Int).natAbs 1 (-3000)) := hid (by rw [HXV.out, decide_eq_false (by omega)])
     go_wp2_with (first | refine x_q H ?_ | (revert H; refine xSF ?_; intro w1 H hk))
     (refine x_c H (rround_any mode (dn HD7) (by omega) (by omega) (by omega) (HT.out.fr H.fr) HX2) ?_; clear H; rintro e w1 ⟨rfl, hF⟩ H; replace hF := hF.kp)
     go_wp2_with fail
     go_ret
     exact ⟨rfl, H.fr⟩
    ·have HX2 : Hid (X = rndF (decide (-(1 : Int) < 0)) mode (-(1 : Int)).natAbs 1 (-3000)) := hid (by rw [HXV.out, decide_eq_true (by omega), Int.natAbs_neg])
     have hPn : bl (-(1 : Int)).natAbs ≤ 20000 := by rw [Int.natAbs_neg]; exact hPb
     go_wp2_with (first | refine x_q H ?_ | (revert H; refine xSF ?_; intro w1 H hk))
     (refine x_c H (rnegD_any (dn HD7) (by omega) (by omega) (HT.out.fr H.fr)) ?_; clear H; rintro e w1 ⟨v9, rfl, hF, hD⟩ H; replace hF := hF.kp; have HD9 := hid hD; obtain ⟨m9, e9, b9, p9, n9, c9, rfl, hN, hB⟩ := hD; have HN9 := hid hN; have HB9 := hid hB; clear hN hB)
     go_wp2_with (first | refine x_q H ?_ | (revert H; refine xSF ?_; intro w1 H hk))
     (refine x_c H (rround_any mode (dn HD9) (by omega) (by omega) (by omega) (HT.out.fr H.fr) HX2) ?_; clear H; rintro e w1 ⟨rfl, hF⟩ H; replace hF := hF.kp)
     go_wp2_with fail
     go_ret
     exact ⟨rfl, H.fr⟩
   ·clear HOV HUN
    by_cases c3 : 0 ≤ x
    ·obtain ⟨k, hk⟩ := Int.eq_ofNat_of_zero_le c3
     obtain ⟨M, hM⟩ : ∃ M, N * 10 ^ k = M := ⟨_, rfl⟩
     have hXV : X = rndF neg mode (M : Int).natAbs 1 0 := by rw [HX.out, hk, Int.natAbs_natCast, ← hM]; exact dvF_pos neg mode N k
     have hk4 : k ≤ 400 := by omega
     have hk5 : x ≤ k ∧ (k : Int) ≤ x := by omega
     have hM0 : 0 < M := by rw [← hM]; exact Nat.mul_pos hNp (ten_pos k)
     have hbT := bl_ten k
     have hbM : bl M ≤ 1900 := by
      have := bl_prod N (10 ^ k)
      rw [hM] at this
      omega
     have HM : Hid ((N : Int) * ((10 ^ k : Nat) : Int) = (M : Int)) := hid (by rw [← Int.natCast_mul, hM])
     have HXV := hid hXV
     have hP : (0 : Int) < (M : Int) := by omega
     have hPb : bl (M : Int).natAbs ≤ 20000 := by rw [Int.natAbs_natCast]; omega
     have hPc : bl (M : Int).natAbs ≤ 1900 := by rw [Int.natAbs_natCast]; omega
     obtain ⟨hk6, hk7⟩ := hk5
     clear hk hM hXV HX hM0
     go_wp2_with (first | refine x_q H ?_ | (revert H; refine xSF ?_; intro w1 H hk) | (revert H; refine x_g ?_; intro g w1 hg hf H; replace hf := hf.kp))
     (revert H; refine w_pF 6 (.st 0 (.st 1 (.st 2 (.ld 3 (.ld 4 (.ld 5 (.ld 6 .done))))))) ?_ (hs := (.cons _ (List.Sublist.refl _))); intro w1 hf H; (first | replace hf := hf.kp | clear hf))
     (refine p_l ?_)
     (refine p_l ?_)
     refine p_q ?_
     ((refine p_c H rfl rfl Tryz.func113 (rpower_any k (by omega) (bv HB5).ar (by omega) (by omega)) ?_; clear H; rintro e w1 ⟨v6, rfl, hF, hB⟩ H; refine p_r ?_; replace hF := hF.kp); obtain ⟨b6, p6, m6, c6, rfl⟩ := hB.form; have HB6 := hid hB; clear hB)
     ((refine p_c H rfl rfl Tryz.func76 (rmul_ar (bv HB3).ar (bv HB6).ar (by omega) (by omega)) ?_; clear H; rintro e w1 ⟨v8, rfl, hF, hB⟩ H; refine p_r ?_; replace hF := hF.kp); rw [HM.out] at hB; obtain ⟨b8, p8, m8, c8, rfl⟩ := hB.form; have HB8 := hid hB; clear hB)
     ((refine p_c H rfl rfl Tryz.func112 (rfromBig_any (bv HB8).ar (by omega) (by omega) (HT.out.fr H.fr)) ?_; clear H; rintro e w1 ⟨v7, rfl, hF, hD⟩ H; refine p_r ?_; replace hF := hF.kp); have HD7 := hid hD; obtain ⟨m7, e7, b7, p7, n7, c7, rfl, hN, hB⟩ := hD; have HN7 := hid hN; have HB7 := hid hB; clear hN hB)
     (revert H; refine pSF ?_; intro w1 H hk)
     (refine pl_done ?_)
     all_goals
      cases neg
      ·have HX2 : Hid (X = rndF (decide (((M : Int) : Int) < 0)) mode ((M : Int) : Int).natAbs 1 0) := hid (by rw [HXV.out, decide_eq_false (by omega)])
       go_wp2_with (refine x_q H ?_)
       (refine x_c H (rround_any mode (dn HD7) (by omega) (by omega) (by omega) (HT.out.fr H.fr) HX2) ?_; clear H; rintro e w1 ⟨rfl, hF⟩ H; replace hF := hF.kp)
       go_wp2_with fail
       go_ret
       exact ⟨rfl, H.fr⟩
      ·have HX2 : Hid (X = rndF (decide (-((M : Int) : Int) < 0)) mode (-((M : Int) : Int)).natAbs 1 0) := hid (by rw [HXV.out, decide_eq_true (by omega), Int.natAbs_neg])
       have hPn : bl (-((M : Int) : Int)).natAbs ≤ 20000 := by rw [Int.natAbs_neg]; exact hPb
       go_wp2_with (refine x_q H ?_)
       (refine x_c H (rnegD_any (dn HD7) (by omega) (by omega) (HT.out.fr H.fr)) ?_; clear H; rintro e w1 ⟨v9, rfl, hF, hD⟩ H; replace hF := hF.kp; have HD9 := hid hD; obtain ⟨m9, e9, b9, p9, n9, c9, rfl, hN, hB⟩ := hD; have HN9 := hid hN; have HB9 := hid hB; clear hN hB)
       go_wp2_with (first | refine x_q H ?_ | (revert H; refine xSF ?_; intro w1 H hk))
       (refine x_c H (rround_any mode (dn HD9) (by omega) (by omega) (by omega) (HT.out.fr H.fr) HX2) ?_; clear H; rintro e w1 ⟨rfl, hF⟩ H; replace hF := hF.kp)
       go_wp2_with fail
       go_ret
       exact ⟨rfl, H.fr⟩
    ·obtain ⟨k, hk⟩ : ∃ k : Nat, x = -(k : Int) := ⟨(-x).toNat, by omega⟩
     obtain ⟨M, hM⟩ : ∃ M, 10 ^ k = M := ⟨_, rfl⟩
     have hXV : X = rndF neg mode N M 0 := by rw [HX.out, hk, ← hM]; exact dvF_neg neg mode N k
     have hk4 : k ≤ 460 := by omega
     have hk5 : x ≤ -(k : Int) ∧ -(k : Int) ≤ x := by omega
     have hM0 : 0 < M := by rw [← hM]; exact ten_pos k
     have hbM : bl M ≤ 1900 := by have := bl_ten k; rw [hM] at this; omega
     have hsn : decide (sg neg N < 0) = neg := by unfold sg; cases neg <;> simp <;> omega
     have HXV : Hid (X = rndF (!(decide (sg neg N < 0) == decide ((M : Int) < 0))) mode (sg neg N).natAbs (M : Int).natAbs (0 - 0)) := hid (by rw [hXV, hsn, decide_eq_false (by omega), sg_abs, Int.natAbs_natCast]; cases neg <;> rfl)
     have HS0 : Hid (sg neg N ≠ 0) := hid (by have := sg_abs neg N; omega)
     have HM0 : Hid ((M : Int) ≠ 0) := hid (by omega)
     have HM := hid hM
     have hPb : bl (M : Int).natAbs ≤ 1900 := by rw [Int.natAbs_natCast]; omega
     have hPs : bl (sg neg N).natAbs ≤ 241 := by rw [sg_abs]; exact hbN
     obtain ⟨hk6, hk7⟩ := hk5
     clear hk hM hXV HX hM0 hsn
     go_wp2_with (first | refine x_q H ?_ | (revert H; refine xSF ?_; intro w1 H hk) | (revert H; refine xSO ?_; intro w1 H hk) | (revert H; refine x_g ?_; intro g w1 hg hf H; replace hf := hf.kp))
     (revert H; refine w_pF 10 (.st 0 (.st 2 (.st 3 (.st 4 (.st 7 (.ld 1 (.ld 5 (.ld 6 (.ld 8 (.st 9 .done)))))))))) ?_; intro w1 hf H; (first | replace hf := hf.kp | clear hf))
     (refine p_l ?_)
     (refine p_l ?_)
     refine p_q ?_
     (refine p_e rfl (fun w H => ev_negZ rfl rfl (by simp only [inr]; omega)) ?_)
     refine p_q ?_
     ((refine p_c H rfl rfl Tryz.func112 (rfromBig_any (bv_sg neg (bv HB3) hNp).ar (by omega) (by omega) (HT.out.fr H.fr)) ?_; clear H; rintro e w1 ⟨v7, rfl, hF, hD⟩ H; refine p_r ?_; replace hF := hF.kp); have HD7 := hid hD; obtain ⟨m7, e7, b7, p7, n7, c7, rfl, hN, hB⟩ := hD; have HN7 := hid hN; have HB7 := hid hB; clear hN hB)
     ((refine p_c H rfl rfl Tryz.func113 (rpower_any k (by omega) (bv HB5).ar (by omega) (by omega)) ?_; clear H; rintro e w1 ⟨v6, rfl, hF, hB⟩ H; refine p_r ?_; replace hF := hF.kp); rw [HM.out] at hB; obtain ⟨b6, p6, m6, c6, rfl⟩ := hB.form; have HB6 := hid hB; clear hB)
     ((refine p_c H rfl rfl Tryz.func112 (rfromBig_any (bv HB6).ar (by omega) (by omega) (HT.out.fr H.fr)) ?_; clear H; rintro e w1 ⟨v8, rfl, hF, hD⟩ H; refine p_r ?_; replace hF := hF.kp); have HD8 := hid hD; obtain ⟨m8, e8, b8, p8, n8, c8, rfl, hN, hB⟩ := hD; have HN8 := hid hN; have HB8 := hid hB; clear hN hB)
     ((refine p_c H rfl rfl Tryz.func114 (rquo_any mode (dn HD7) (dn HD8) HS0.out HM0.out (by omega) (by omega) (by omega) (by omega) (HT.out.fr H.fr) HXV) ?_; clear H; rintro e w1 ⟨rfl, hF⟩ H; refine p_r ?_; replace hF := hF.kp))
     refine p_q ?_
     (refine pl_done ?_)
     all_goals
      go_wp2_with fail
      go_ret
      exact ⟨rfl, H.fr⟩
end Go.Proofs.YthbeeeclgbpopaaGreatDoor
