import Derived.Test.YthbeeeclgbpopaaGreatDoorYWa3
import Derived.Test.YthbeeeclgbpopaaGreatDoorYWc1
import Derived.Test.YthbeeeclgbpopaaGreatDoorYDc19
namespace Go.Proofs.YthbeeeclgbpopaaGreatDoor
open Go.RowKit
set_option linter.unusedSimpArgs false
set_option linter.unusedVariables false
set_option maxHeartbeats 16000000
set_option maxRecDepth 100000

theorem pdigE_any (w : World) {b : Nat} {y k : Int} (hb : b < 18446744073709551616) (hk : Hid (kindF b = k)) (hk1 : k ≠ 1) :
  Calls Tryz.prog 19 #[.int .u64 (b : Int), .int .i64 y] w fun r w' => r = .returned (.tuple #[strV [], .int .i64 0, .int .i64 4]) ∧ Fr [] w w' := by
 have H := Hp.start [] w
 go_enter Tryz.func19, Tryz.ntmps19
 go_wp2_with fail
 (refine x_c H (kindI_any _ hb hk) ?_; clear H; rintro e w1 ⟨rfl, hF⟩ H; replace hF := hF.kp)
 go_wp2_with (refine x_q H ?_)
 ((try simp only [Exit.inBlock, Exit.then]); refine bodyPost_ret (results_tmp3 rfl _ _ _) rfl ?_)
 exact ⟨rfl, H.fr⟩
theorem pdigER_any (w : World) {b : Nat} {y : Int} (hb : b < 18446744073709551616) (hk : Hid (kindF b = 1)) (hy : y < 1 ∨ 800 < y) :
  Calls Tryz.prog 19 #[.int .u64 (b : Int), .int .i64 y] w fun r w' => r = .returned (.tuple #[strV [], .int .i64 0, .int .i64 3]) ∧ Fr [] w w' := by
 have H := Hp.start [] w
 rcases hy with hy | hy
 all_goals
  go_enter Tryz.func19, Tryz.ntmps19
  go_wp2_with fail
  (refine x_c H (kindI_any _ hb hk) ?_; clear H; rintro e w1 ⟨rfl, hF⟩ H; replace hF := hF.kp)
  go_wp2_with (refine x_q H ?_)
  ((try simp only [Exit.inBlock, Exit.then]); refine bodyPost_ret (results_tmp3 rfl _ _ _) rfl ?_)
  exact ⟨rfl, H.fr⟩
theorem rdigE_any (w : World) {b : Nat} {y k : Int} (hb : b < 18446744073709551616) (hk : Hid (kindF b = k)) (hk1 : k ≠ 1) :
  Calls Tryz.prog 24 #[.int .u64 (b : Int), .int .i64 y] w fun r w' => r = .returned (.tuple #[strV [], .int .i64 0, .int .i64 4]) ∧ Fr [] w w' := by
 have H := Hp.start [] w
 go_enter Tryz.func24, Tryz.ntmps24
 go_wp2_with fail
 (refine x_c H (rkind_any _ hb hk) ?_; clear H; rintro e w1 ⟨rfl, hF⟩ H; replace hF := hF.kp)
 go_wp2_with (refine x_q H ?_)
 ((try simp only [Exit.inBlock, Exit.then]); refine bodyPost_ret (results_tmp3 rfl _ _ _) rfl ?_)
 exact ⟨rfl, H.fr⟩
theorem rdigER_any (w : World) {b : Nat} {y : Int} (hb : b < 18446744073709551616) (hk : Hid (kindF b = 1)) (hy : y < 1 ∨ 800 < y) :
  Calls Tryz.prog 24 #[.int .u64 (b : Int), .int .i64 y] w fun r w' => r = .returned (.tuple #[strV [], .int .i64 0, .int .i64 3]) ∧ Fr [] w w' := by
 have H := Hp.start [] w
 rcases hy with hy | hy
 all_goals
  go_enter Tryz.func24, Tryz.ntmps24
  go_wp2_with fail
  (refine x_c H (rkind_any _ hb hk) ?_; clear H; rintro e w1 ⟨rfl, hF⟩ H; replace hF := hF.kp)
  go_wp2_with (refine x_q H ?_)
  ((try simp only [Exit.inBlock, Exit.then]); refine bodyPost_ret (results_tmp3 rfl _ _ _) rfl ?_)
  exact ⟨rfl, H.fr⟩
theorem zero_parts {b : Nat} (hb : b < 18446744073709551616) (hk : kindF b = 0) : b % 9223372036854775808 = 0 ∧ b / 4503599627370496 % 2048 = 0 ∧ b % 4503599627370496 = 0 := by
 have h : b / 4503599627370496 % 2048 = 0 ∧ b % 4503599627370496 = 0 := by
  unfold kindF at hk
  split at hk
  ·split at hk <;> exact absurd hk (by decide)
  ·split at hk
   ·assumption
   ·exact absurd hk (by decide)
 exact ⟨by omega, h.1, h.2⟩
theorem manF_0 : manF 0 = 0 := by decide +kernel
theorem expoF_0 : expoF 0 = -1074 := by decide +kernel
theorem dec_0 : dec 0 = [48] := dec_small (by decide)
theorem exactZ_any (w : World) {b : Nat} (hb : b < 18446744073709551616) (hk : kindF b = 0) (hT : La w) {l : List UInt8} (hl : Hid (mns b ++ [48] = l)) :
  Calls Tryz.prog 26 #[.int .u64 (b : Int)] w fun r w' => r = .returned (.tuple #[strV l, .int .i64 0]) ∧ Fr [] w w' := by
 obtain ⟨h1, h2, h3⟩ := zero_parts hb hk
 have HK3 := hid (show kindF b ≠ 3 by rw [hk]; decide)
 have HX := hid h2
 have HY := hid h3
 have HZ := hid h1
 have HT := hid hT
 have HD0 := hid dec_0
 have hl1 := hl.out
 clear hk h1 h2 h3 hT hl
 have H := Hp.start [] w
 by_cases hm : 9223372036854775808 ≤ b
 ·have HI := hid (show (if 9223372036854775808 ≤ b then 9223372036854775808 else 0 : Nat) = 9223372036854775808 from if_pos hm)
  have HQ : Hid ([45] ++ [48] = l) := hid (by rw [← hl1]; congr 1; exact (if_pos hm).symm)
  clear hm hl1
  go_enter Tryz.func26, Tryz.ntmps26
  go_wp2_with fail
  (refine x_c H (isFinite_any _ hb HX HY (by decide)) ?_; clear H; rintro e w1 ⟨rfl, hF⟩ H; replace hF := hF.kp)
  go_wp2_with (first | refine x_q H ?_ | refine x_e (ev_m63I rfl rfl HI) ?_)
  (refine x_c H (absF_any _ hb HK3.out HZ) ?_; clear H; rintro e w1 ⟨rfl, hF⟩ H; replace hF := hF.kp)
  go_wp2_with fail
  (refine x_c H (ofA_any (b := 0) _ (by decide) (HT.out.fr H.fr)) ?_; clear H; rintro e w1 ⟨v3, rfl, hF, hD⟩ H; replace hF := hF.kp; obtain ⟨m3, e3, b3, p3, n3, c3, rfl, hN, hB⟩ := hD; have HN3 := hid hN; have HB3 := hid hB; clear hN hB)
  obtain ⟨M, rfl⟩ := nm_nat HN3.out
  obtain ⟨rfl, rfl⟩ := nm_zero rfl HN3.out
  go_wp2_with (first | refine x_q H ?_ | refine x_l H ?_ | (revert H; refine xSF ?_; intro w1 H hk) | (revert H; refine x_g ?_; intro g w1 hg hf H; replace hf := hf.kp))
  (refine x_c H (shiftN_any (m := 0) 0 rfl (bv HB3).ar (by decide) (by decide)) ?_; clear H; rintro e w1 ⟨v5, rfl, hF, hB⟩ H; replace hF := hF.kp; rw [Nat.zero_mul] at hB; obtain ⟨b5, p5, m5, c5, rfl⟩ := hB.form; have HB5 := hid hB; clear hB)
  go_wp2_with (first | refine x_q H ?_ | (revert H; refine xSF ?_; intro w1 H hk) | (revert H; refine x_g ?_; intro g w1 hg hf H; replace hf := hf.kp))
  (refine x_c H (formatN_any (bv HB5).ar (by decide) (HT.out.fr H.fr) HD0) ?_; clear H; rintro e w1 ⟨rfl, hF⟩ H; replace hF := hF.kp)
  go_wp2_with (refine x_e (ev_strCat (s := [45]) (r := [48]) rfl rfl rfl HQ (by decide)) ?_)
  refine bodyPost_ret (results_tmp2 rfl _ _ _) rfl ?_
  exact ⟨rfl, H.fr⟩
 ·have HI := hid (show (if 9223372036854775808 ≤ b then 9223372036854775808 else 0 : Nat) = 0 from if_neg hm)
  have HQ : Hid ([] ++ [48] = l) := hid (by rw [← hl1]; congr 1; exact (if_neg hm).symm)
  clear hm hl1
  go_enter Tryz.func26, Tryz.ntmps26
  go_wp2_with fail
  (refine x_c H (isFinite_any _ hb HX HY (by decide)) ?_; clear H; rintro e w1 ⟨rfl, hF⟩ H; replace hF := hF.kp)
  go_wp2_with (first | refine x_q H ?_ | refine x_e (ev_m63I rfl rfl HI) ?_)
  (refine x_c H (absF_any _ hb HK3.out HZ) ?_; clear H; rintro e w1 ⟨rfl, hF⟩ H; replace hF := hF.kp)
  go_wp2_with fail
  (refine x_c H (ofA_any (b := 0) _ (by decide) (HT.out.fr H.fr)) ?_; clear H; rintro e w1 ⟨v3, rfl, hF, hD⟩ H; replace hF := hF.kp; obtain ⟨m3, e3, b3, p3, n3, c3, rfl, hN, hB⟩ := hD; have HN3 := hid hN; have HB3 := hid hB; clear hN hB)
  obtain ⟨M, rfl⟩ := nm_nat HN3.out
  obtain ⟨rfl, rfl⟩ := nm_zero rfl HN3.out
  go_wp2_with (first | refine x_q H ?_ | refine x_l H ?_ | (revert H; refine xSF ?_; intro w1 H hk) | (revert H; refine x_g ?_; intro g w1 hg hf H; replace hf := hf.kp))
  (refine x_c H (shiftN_any (m := 0) 0 rfl (bv HB3).ar (by decide) (by decide)) ?_; clear H; rintro e w1 ⟨v5, rfl, hF, hB⟩ H; replace hF := hF.kp; rw [Nat.zero_mul] at hB; obtain ⟨b5, p5, m5, c5, rfl⟩ := hB.form; have HB5 := hid hB; clear hB)
  go_wp2_with (first | refine x_q H ?_ | (revert H; refine xSF ?_; intro w1 H hk) | (revert H; refine x_g ?_; intro g w1 hg hf H; replace hf := hf.kp))
  (refine x_c H (formatN_any (bv HB5).ar (by decide) (HT.out.fr H.fr) HD0) ?_; clear H; rintro e w1 ⟨rfl, hF⟩ H; replace hF := hF.kp)
  go_wp2_with (refine x_e (ev_strCat (s := []) (r := [48]) rfl rfl rfl HQ (by decide)) ?_)
  refine bodyPost_ret (results_tmp2 rfl _ _ _) rfl ?_
  exact ⟨rfl, H.fr⟩
theorem rfractionZ_any (w : World) {b : Nat} (hb : b < 18446744073709551616) (hk : kindF b = 0) (hT : La w) :
  Calls Tryz.prog 59 #[.int .u64 (b : Int)] w fun r w' => ∃ v1 v2, r = .returned (.tuple #[v1, v2]) ∧ Fr [] w w' ∧ Bv w' v1 ((0 : Nat) : Int) (bl 0) ∧ Bv w' v2 ((1 : Nat) : Int) (bl 1) := by
 obtain ⟨h1, h2, h3⟩ := zero_parts hb hk
 have HK2 := hid (show b / 4503599627370496 % 2048 ≠ 2047 by rw [h2]; decide)
 obtain ⟨n, hn⟩ : ∃ n, decide (9223372036854775808 ≤ b) = n := ⟨_, rfl⟩
 have HS : Hid (sg n (manF 0) = 0) := hid (by rw [manF_0]; cases n <;> rfl)
 have HN := hid hn
 have HZ := hid h1
 have HT := hid hT
 have HE := hid expoF_0
 have hb0 : bl (0 : Int).natAbs ≤ 60000 := by decide
 clear hk h1 h2 h3 hT hn
 have H := Hp.start [] w
 go_enter Tryz.func59, Tryz.ntmps59
 go_wp2_with (revert H; refine x_g ?_; intro g w1 hg hf H; replace hf := hf.kp)
 (refine x_c H (rof_any _ hb HK2.out (HT.out.fr H.fr)) ?_; clear H; rintro e w1 ⟨v2, rfl, hF, hD⟩ H; replace hF := hF.kp; rw [HZ.out, HN.out, HS.out, HE.out] at hD; have HD2 := hid hD; clear hD)
 go_wp2_with fail
 (refine x_c H (rabsD_any (dn HD2) hb0 (by decide) (HT.out.fr H.fr)) ?_; clear H; rintro e w1 ⟨v3, rfl, hF, hD⟩ H; replace hF := hF.kp; obtain ⟨m3, e3, b3, p3, n3, c3, rfl, hN, hB⟩ := hD; have HN3 := hid hN; have HB3 := hid hB; clear hN hB)
 obtain ⟨rfl, rfl⟩ : m3 = 0 ∧ e3 = 0 := by
  rcases HN3.out with ⟨_, h⟩ | ⟨h, _⟩
  ·exact h
  ·exact absurd rfl h
 go_wp2_with (first | (revert H; refine xSF ?_; intro w1 H hk) | (revert H; refine x_g ?_; intro g w1 hg hf H; replace hf := hf.kp))
 (refine x_c H (rfromInt_ar _ 1 (by simp only [inr]; omega)) ?_; clear H; rintro e w1 ⟨v4, rfl, hF, hB⟩ H; replace hF := hF.kp; obtain ⟨b4, p4, m4, c4, rfl⟩ := hB.form; have HB4 := hid hB; clear hB)
 go_wp2_with (first | refine x_q H ?_ | (revert H; refine xSF ?_; intro w1 H hk) | (revert H; refine x_g ?_; intro g w1 hg hf H; replace hf := hf.kp))
 (revert H; refine w_pF 7 (.st 0 (.st 1 (.st 2 (.st 3 (.st 5 (.ld 4 (.ld 6 (.ld 7 .done)))))))) ?_ (hs := (.cons_cons _ (.cons_cons _ (List.nil_sublist _)))); intro w1 hf H; (first | replace hf := hf.kp | clear hf))
 refine p_q ?_
 (refine p_l ?_)
 iterate 2 refine p_q ?_
 (refine p_l ?_)
 ((refine p_c H rfl rfl Tryz.func64 (rshiftUpZ_any 0 rfl (bv HB3).ar (by decide) (by decide)) ?_; clear H; rintro e w1 ⟨v5, rfl, hF, hB⟩ H; refine p_r ?_; replace hF := hF.kp); rw [Int.zero_mul] at hB; replace hB := hB.c; obtain ⟨b5, p5, m5, c5, rfl⟩ := hB.form; have HB5 := hid hB; clear hB)
 (revert H; refine pSF ?_; intro w1 H hk)
 (revert H; refine pSF ?_; intro w1 H hk)
 (refine pl_done ?_)
 all_goals
  go_wp2_with fail
  refine c_postCC H rfl rfl rfl rfl rfl ?_
  exact ⟨_, _, rfl, H.fr, bv HB5, (bv HB4).c⟩
theorem rexactZ_any (w : World) {b : Nat} (hb : b < 18446744073709551616) (hk : kindF b = 0) (hT : La w) {l : List UInt8} (hl : Hid (mns b ++ [48] = l)) :
  Calls Tryz.prog 27 #[.int .u64 (b : Int)] w fun r w' => r = .returned (.tuple #[strV l, .int .i64 0]) ∧ Fr [] w w' := by
 obtain ⟨h1, h2, h3⟩ := zero_parts hb hk
 have HX := hid h2
 have HK := hid hk
 have HFI : Hid (decide ((0 : Nat) ≠ 2047) = true) := hid (by decide)
 obtain ⟨nb, hn⟩ : ∃ n, decide (9223372036854775808 ≤ b) = n := ⟨_, rfl⟩
 have HN := hid hn
 have HL : Hid ((if nb then [45] else []) ++ [48] = l) := hid (by rw [← hl.out, mns_of hn])
 have HT := hid hT
 have HD0 := hid dec_0
 clear hk h1 h2 h3 hT hn hl
 have H := Hp.start [] w
 cases nb
 ·have HQ : Hid ([] ++ [48] = l) := hid HL.out
  clear HL
  go_enter Tryz.func27, Tryz.ntmps27
  go_wp2_with fail
  (refine x_c H (risFinite_any _ hb HX HFI) ?_; clear H; rintro e w1 ⟨rfl, hF⟩ H; replace hF := hF.kp)
  go_wp2_with fail
  (refine x_c H (rminus_any _ hb HN) ?_; clear H; rintro e w1 ⟨rfl, hF⟩ H; replace hF := hF.kp)
  go_wp2_with fail
  (refine x_c H (rfractionZ_any _ hb HK.out (HT.out.fr H.fr)) ?_; clear H; rintro e w1 ⟨v3, v4, rfl, hF, hB, hB2⟩ H; replace hF := hF.kp; obtain ⟨b3, p3, m3, c3, rfl⟩ := hB.form; have HB3 := hid hB; clear hB; obtain ⟨b4, p4, m4, c4, rfl⟩ := hB2.form; have HB4 := hid hB2; clear hB2)
  go_wp2_with (first | refine x_q H ?_ | (revert H; refine xSF ?_; intro w1 H hk) | (revert H; refine x_g ?_; intro g w1 hg hf H; replace hf := hf.kp))
  (refine x_c H (rdivMod_ar (bv HB3).ar (bv HB4).ar (by decide) (by decide) (by decide)) ?_; clear H; rintro e w1 ⟨v5, v6, rfl, hF, hB, hB2⟩ H; replace hF := hF.kp; replace hB : Bv _ _ ((0 : Nat) : Int) (bl 0) := hB; replace hB2 : Bv _ _ ((0 : Nat) : Int) _ := hB2; obtain ⟨b5, p5, m5, c5, rfl⟩ := hB.form; have HB5 := hid hB; clear hB; obtain ⟨b6, p6, m6, c6, rfl⟩ := hB2.form; have HB6 := hid hB2; clear hB2)
  go_wp2_with (first | refine x_q H ?_ | (revert H; refine xSF ?_; intro w1 H hk) | (revert H; refine x_g ?_; intro g w1 hg hf H; replace hf := hf.kp))
  (refine x_c H (rformatN_any (bv HB5).ar (by decide) HD0) ?_; clear H; rintro e w1 ⟨rfl, hF⟩ H; replace hF := hF.kp)
  go_wp2_with (first | refine x_q H ?_ | refine x_e (ev_strCat (s := []) (r := [48]) rfl rfl rfl HQ (by decide)) ?_)
  (refine x_c H (rsign_z (bv HB6).ar (by decide) rfl) ?_; clear H; rintro e w1 ⟨rfl, hF⟩ H; replace hF := hF.kp)
  go_wp2_with (refine x_q H ?_)
  have HB7 := hid (bv HB6)
  go_loopw [4] (fun s4 wr => s4 = strV l ∧ Hp [] w wr [.blk g [.bool b6, .slice p6 m6 c6] 50] ∧ Hid (Bv wr (.agg #[.bool b6, .slice p6 m6 c6]) ((0 : Nat) : Int) (bl 1))) (fun _ _ => 0)
  case atStart => exact ⟨rfl, by (refine Hp.arr H ?_; repeat (first | exact Pm.nil _ | (apply Pm.cons; · (repeat first | exact Rm.here _ | apply Rm.there)))), hid (bv HB7)⟩
  case round =>
   clear H HB7
   obtain ⟨rfl, H, HB7⟩ := hrel
   go_wp2_with (refine x_q H ?_)
   (refine x_c H (rsign_z (bv HB7).ar (by decide) rfl) ?_; clear H; rintro e w1 ⟨rfl, hF⟩ H; replace hF := hF.kp)
   go_wp2_with (refine x_q H ?_)
   refine bodyPost_ret (results_tmp2 rfl _ _ _) rfl ?_
   exact ⟨rfl, H.fr⟩
 ·have HQ : Hid ([45] ++ [48] = l) := hid HL.out
  clear HL
  go_enter Tryz.func27, Tryz.ntmps27
  go_wp2_with fail
  (refine x_c H (risFinite_any _ hb HX HFI) ?_; clear H; rintro e w1 ⟨rfl, hF⟩ H; replace hF := hF.kp)
  go_wp2_with fail
  (refine x_c H (rminus_any _ hb HN) ?_; clear H; rintro e w1 ⟨rfl, hF⟩ H; replace hF := hF.kp)
  go_wp2_with fail
  (refine x_c H (rfractionZ_any _ hb HK.out (HT.out.fr H.fr)) ?_; clear H; rintro e w1 ⟨v3, v4, rfl, hF, hB, hB2⟩ H; replace hF := hF.kp; obtain ⟨b3, p3, m3, c3, rfl⟩ := hB.form; have HB3 := hid hB; clear hB; obtain ⟨b4, p4, m4, c4, rfl⟩ := hB2.form; have HB4 := hid hB2; clear hB2)
  go_wp2_with (first | refine x_q H ?_ | (revert H; refine xSF ?_; intro w1 H hk) | (revert H; refine x_g ?_; intro g w1 hg hf H; replace hf := hf.kp))
  (refine x_c H (rdivMod_ar (bv HB3).ar (bv HB4).ar (by decide) (by decide) (by decide)) ?_; clear H; rintro e w1 ⟨v5, v6, rfl, hF, hB, hB2⟩ H; replace hF := hF.kp; replace hB : Bv _ _ ((0 : Nat) : Int) (bl 0) := hB; replace hB2 : Bv _ _ ((0 : Nat) : Int) _ := hB2; obtain ⟨b5, p5, m5, c5, rfl⟩ := hB.form; have HB5 := hid hB; clear hB; obtain ⟨b6, p6, m6, c6, rfl⟩ := hB2.form; have HB6 := hid hB2; clear hB2)
  go_wp2_with (first | refine x_q H ?_ | (revert H; refine xSF ?_; intro w1 H hk) | (revert H; refine x_g ?_; intro g w1 hg hf H; replace hf := hf.kp))
  (refine x_c H (rformatN_any (bv HB5).ar (by decide) HD0) ?_; clear H; rintro e w1 ⟨rfl, hF⟩ H; replace hF := hF.kp)
  go_wp2_with (first | refine x_q H ?_ | refine x_e (ev_strCat (s := [45]) (r := [48]) rfl rfl rfl HQ (by decide)) ?_)
  (refine x_c H (rsign_z (bv HB6).ar (by decide) rfl) ?_; clear H; rintro e w1 ⟨rfl, hF⟩ H; replace hF := hF.kp)
  go_wp2_with (refine x_q H ?_)
  have HB7 := hid (bv HB6)
  go_loopw [4] (fun s4 wr => s4 = strV l ∧ Hp [] w wr [.blk g [.bool b6, .slice p6 m6 c6] 50] ∧ Hid (Bv wr (.agg #[.bool b6, .slice p6 m6 c6]) ((0 : Nat) : Int) (bl 1))) (fun _ _ => 0)
  case atStart => exact ⟨rfl, by (refine Hp.arr H ?_; repeat (first | exact Pm.nil _ | (apply Pm.cons; · (repeat first | exact Rm.here _ | apply Rm.there)))), hid (bv HB7)⟩
  case round =>
   clear H HB7
   obtain ⟨rfl, H, HB7⟩ := hrel
   go_wp2_with (refine x_q H ?_)
   (refine x_c H (rsign_z (bv HB7).ar (by decide) rfl) ?_; clear H; rintro e w1 ⟨rfl, hF⟩ H; replace hF := hF.kp)
   go_wp2_with (refine x_q H ?_)
   refine bodyPost_ret (results_tmp2 rfl _ _ _) rfl ?_
   exact ⟨rfl, H.fr⟩
end Go.Proofs.YthbeeeclgbpopaaGreatDoor
