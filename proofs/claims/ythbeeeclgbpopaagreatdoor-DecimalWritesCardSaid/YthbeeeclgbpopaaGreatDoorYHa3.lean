import Derived.Test.YthbeeeclgbpopaaGreatDoorYHa2
import Derived.Test.YthbeeeclgbpopaaGreatDoorYEr1
import Derived.Test.YthbeeeclgbpopaaGreatDoorYFa5
namespace Go.Proofs.YthbeeeclgbpopaaGreatDoor
open Go.RowKit
set_option linter.unusedSimpArgs false
set_option linter.unusedVariables false
set_option maxHeartbeats 16000000
set_option maxRecDepth 100000

theorem rratio_any {w : World} {u v : Value} {A B n n2 j : Nat} (h : Av w u (A : Int) n) (k : Av w v (B : Int) n2) (hn : n ≤ 60000) (hn2 : n2 ≤ 60000) (hB : B ≠ 0) (hbA : bl A ≤ 30000) (hbB : bl B ≤ 30000) (hj : max (62 + (bl B : Int) - bl A) 0 = (j : Int)) {Q : Nat} (hQ : Hid (A * 2 ^ j / B = Q)) {R : Bool} (hR : Hid (decide (A * 2 ^ j % B ≠ 0) = R)) :
  Calls Tryz.prog 171 #[u, v, .int .i64 60] w fun r w' => ∃ v1, r = .returned (.tuple #[v1, .int .i64 (-(j : Int)), .bool R]) ∧ Fr [] w w' ∧ Bv w' v1 (Q : Int) (bl Q) := by
 obtain ⟨b1, p1, m1, c1, rfl⟩ := h.form
 obtain ⟨b2, p2, m2, c2, rfl⟩ := k.form
 have HA1 := hid h
 have HA2 := hid k
 have HJ := hid hj
 have hjb : j ≤ 30062 := by omega
 obtain ⟨S, hS⟩ : ∃ S, A * 2 ^ j % B = S := ⟨_, rfl⟩
 have HB0 := hid (show (B : Int) ≠ 0 by omega)
 have HQ2 : Hid ((A : Int) * 2 ^ j / (B : Int) = (Q : Int)) := hid (by rw [← hQ.out, Int.natCast_ediv, Int.natCast_mul, Int.natCast_pow]; rfl)
 have HS2 : Hid ((A : Int) * 2 ^ j % (B : Int) = (S : Int)) := hid (by rw [← hS, Int.natCast_emod, Int.natCast_mul, Int.natCast_pow]; rfl)
 have HS := hid hS
 clear h k hj hB hQ hS
 have H := Hp.start [] w
 go_enter Tryz.func171, Tryz.ntmps171
 go_wp2_with (revert H; refine x_g ?_; intro g w1 hg hf H; replace hf := hf.kp)
 (revert H; refine w_pF 10 (.st 0 (.st 1 (.st 2 (.st 5 (.ld 3 (.st 4 (.ld 6 (.st 7 (.st 8 (.st 9 .done)))))))))) ?_; intro w1 hf H; (first | replace hf := hf.kp | clear hf))
 iterate 2 refine p_q ?_
 (refine p_l ?_)
 (refine p_l ?_)
 ((refine p_c H rfl rfl Tryz.func169 (rBitLen_ar (av HA2) (by omega)) ?_; clear H; rintro e w1 ⟨rfl, hF⟩ H; refine p_r ?_; replace hF := hF.kp); rw [Int.natAbs_natCast])
 refine p_q ?_
 ((refine p_c H rfl rfl Tryz.func169 (rBitLen_ar (av HA1) (by omega)) ?_; clear H; rintro e w1 ⟨rfl, hF⟩ H; refine p_r ?_; replace hF := hF.kp); rw [Int.natAbs_natCast])
 refine p_q ?_
 (refine p_e rfl (fun w H => ev_max (z := (j : Int)) rfl rfl rfl (by have := HJ.out; omega)) ?_)
 refine p_q ?_
 (refine pl_done ?_)
 all_goals
  go_wp2_with fail
  (revert H; refine w_pF 10 (.st 0 (.st 1 (.st 3 (.ld2 2 (.ld2 4 (.st 5 (.st 6 (.st 7 (.ld 8 (.ld 9 (.ld 10 .done)))))) 8 (.ld 4 (.st 5 (.st 6 (.st 7 (.ld 9 (.ld 10 .done))))))) 8 (.ld 2 (.ld 4 (.st 5 (.st 6 (.st 7 (.ld 9 (.ld 10 .done))))))))))) ?_ (hs := (.cons _ (List.Sublist.refl _))); intro w1 hf H; (first | replace hf := hf.kp | clear hf))
  (refine p_l ?_)
  refine p_q ?_
  (refine p_l ?_)
  (refine pl_ld2 ?_ ?_)
  ((refine p_c H rfl rfl Tryz.func64 (rshiftUp_ar j (av HA1) (by omega) (by omega)) ?_; clear H; rintro e w1 ⟨v3, rfl, hF, hB⟩ H; refine p_r ?_; replace hF := hF.kp); obtain ⟨b3, p3, m3, c3, rfl⟩ := hB.form; have HB3 := hid hB; clear hB)
  (refine pl_ld2 ?_ ?_)
  ((refine p_c H rfl rfl Tryz.func63 (rdivMod_ar (bv HB3).ar (av HA2) (by omega) (by omega) HB0.out) ?_; clear H; rintro e w1 ⟨v4, v5, rfl, hF, hB, hB2⟩ H; refine p_r ?_; replace hF := hF.kp); rw [HQ2.out] at hB; rw [HS2.out] at hB2; obtain ⟨b4, p4, m4, c4, rfl⟩ := hB.form; have HB4 := hid hB; clear hB; have hB := hB2; clear hB2; obtain ⟨b5, p5, m5, c5, rfl⟩ := hB.form; have HB5 := hid hB; clear hB)
  iterate 3 refine p_q ?_
  (revert H; refine p_g ?_; intro g w1 hg hf H; (first | replace hf := hf.kp | clear hf))
  (revert H; refine pSF ?_; intro w1 H hk)
  (revert H; refine pSF ?_; intro w1 H hk)
  (refine pl_done ?_)
  rotate_left
  (revert H; refine p_g ?_; intro g w1 hg hf H; (first | replace hf := hf.kp | clear hf))
  ((refine p_c H rfl rfl Tryz.func63 (rdivMod_ar (bv HB3).ar (av HA2) (by omega) (by omega) HB0.out) ?_; clear H; rintro e w1 ⟨v4, v5, rfl, hF, hB, hB2⟩ H; refine p_r ?_; replace hF := hF.kp); rw [HQ2.out] at hB; rw [HS2.out] at hB2; obtain ⟨b4, p4, m4, c4, rfl⟩ := hB.form; have HB4 := hid hB; clear hB; have hB := hB2; clear hB2; obtain ⟨b5, p5, m5, c5, rfl⟩ := hB.form; have HB5 := hid hB; clear hB)
  iterate 3 refine p_q ?_
  (revert H; refine pSF ?_; intro w1 H hk)
  (revert H; refine pSF ?_; intro w1 H hk)
  (refine pl_done ?_)
  rotate_left
  (revert H; refine p_g ?_; intro g w1 hg hf H; (first | replace hf := hf.kp | clear hf))
  ((refine p_c H rfl rfl Tryz.func64 (rshiftUp_ar j (av HA1) (by omega) (by omega)) ?_; clear H; rintro e w1 ⟨v3, rfl, hF, hB⟩ H; refine p_r ?_; replace hF := hF.kp); obtain ⟨b3, p3, m3, c3, rfl⟩ := hB.form; have HB3 := hid hB; clear hB)
  ((refine p_c H rfl rfl Tryz.func63 (rdivMod_ar (bv HB3).ar (av HA2) (by omega) (by omega) HB0.out) ?_; clear H; rintro e w1 ⟨v4, v5, rfl, hF, hB, hB2⟩ H; refine p_r ?_; replace hF := hF.kp); rw [HQ2.out] at hB; rw [HS2.out] at hB2; obtain ⟨b4, p4, m4, c4, rfl⟩ := hB.form; have HB4 := hid hB; clear hB; have hB := hB2; clear hB2; obtain ⟨b5, p5, m5, c5, rfl⟩ := hB.form; have HB5 := hid hB; clear hB)
  iterate 3 refine p_q ?_
  (revert H; refine pSF ?_; intro w1 H hk)
  (revert H; refine pSF ?_; intro w1 H hk)
  (refine pl_done ?_)
  rotate_left
  all_goals
   by_cases s0 : S = 0
   ·have HR : Hid (R = false) := hid (by rw [← hR.out, HS.out]; simp [s0])
    have HS0 := hid (show (S : Int) = 0 by omega)
    clear s0
    go_wp2_with fail
    (revert H; refine w_pF 9 (.st 1 (.st 2 (.st 3 (.ld2 0 (.ld 4 (.st 5 (.ld 6 (.st 7 (.st 8 .done))))) 4 (.st 5 (.ld 0 (.ld 6 (.st 7 (.st 8 .done))))))))) ?_ (hs := (.cons_cons _ (.cons _ (List.Sublist.refl _)))); intro w1 hf H; (first | replace hf := hf.kp | clear hf))
    refine p_q ?_
    (refine p_e rfl (fun w H => ev_negZ rfl rfl (by simp only [inr]; omega)) ?_)
    (refine p_l ?_)
    (refine pl_ld2 ?_ ?_)
    (refine p_ldq (H := H) ?_)
    ((refine p_c H rfl rfl Tryz.func75 (rsign_z (bv HB5).ar (by omega) HS0.out) ?_; clear H; rintro e w1 ⟨rfl, hF⟩ H; refine p_r ?_; replace hF := hF.kp))
    refine p_q ?_
    (revert H; refine pSF ?_; intro w1 H hk)
    iterate 2 refine p_q ?_
    (refine pl_done ?_)
    rotate_left
    ((refine p_c H rfl rfl Tryz.func75 (rsign_z (bv HB5).ar (by omega) HS0.out) ?_; clear H; rintro e w1 ⟨rfl, hF⟩ H; refine p_r ?_; replace hF := hF.kp))
    refine p_q ?_
    (refine p_ldq (H := H) ?_)
    (revert H; refine pSF ?_; intro w1 H hk)
    iterate 2 refine p_q ?_
    (refine pl_done ?_)
    rotate_left
    all_goals
     go_wp2_with fail
     refine c_postCTT H rfl rfl rfl rfl rfl ?_
     exact ⟨_, by rw [HR.out], H.fr, (bv HB4).c⟩
   ·have HR : Hid (R = true) := hid (by rw [← hR.out, HS.out]; simp [s0])
    have HS0 := hid (show (S : Int) ≠ 0 by omega)
    clear s0
    go_wp2_with fail
    (revert H; refine w_pF 9 (.st 1 (.st 2 (.st 3 (.ld2 0 (.ld 4 (.st 5 (.ld 6 (.st 7 (.st 8 .done))))) 4 (.st 5 (.ld 0 (.ld 6 (.st 7 (.st 8 .done))))))))) ?_ (hs := (.cons_cons _ (.cons _ (List.Sublist.refl _)))); intro w1 hf H; (first | replace hf := hf.kp | clear hf))
    refine p_q ?_
    (refine p_e rfl (fun w H => ev_negZ rfl rfl (by simp only [inr]; omega)) ?_)
    (refine p_l ?_)
    (refine pl_ld2 ?_ ?_)
    (refine p_ldq (H := H) ?_)
    ((refine p_c H rfl rfl Tryz.func75 (rsign_nz (bv HB5).ar (by omega) HS0.out) ?_; clear H; rintro e w1 ⟨s6, rfl, hs6, hF⟩ H; refine p_r ?_; replace hF := hF.kp))
    refine p_q ?_
    (revert H; refine pSF ?_; intro w1 H hk)
    iterate 2 refine p_q ?_
    (refine pl_done ?_)
    rotate_left
    ((refine p_c H rfl rfl Tryz.func75 (rsign_nz (bv HB5).ar (by omega) HS0.out) ?_; clear H; rintro e w1 ⟨s6, rfl, hs6, hF⟩ H; refine p_r ?_; replace hF := hF.kp))
    refine p_q ?_
    (refine p_ldq (H := H) ?_)
    (revert H; refine pSF ?_; intro w1 H hk)
    iterate 2 refine p_q ?_
    (refine pl_done ?_)
    rotate_left
    all_goals
     go_wp2_with fail
     refine c_postCTT H rfl rfl rfl rfl rfl ?_
     exact ⟨_, by rw [HR.out], H.fr, (bv HB4).c⟩
end Go.Proofs.YthbeeeclgbpopaaGreatDoor
