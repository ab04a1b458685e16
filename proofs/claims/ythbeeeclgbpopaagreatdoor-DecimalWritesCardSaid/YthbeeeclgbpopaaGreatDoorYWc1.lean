import Derived.Test.YthbeeeclgbpopaaGreatDoorYWa1
import Derived.Test.YthbeeeclgbpopaaGreatDoorYDc19
namespace Go.Proofs.YthbeeeclgbpopaaGreatDoor
open Go.RowKit
set_option linter.unusedSimpArgs false
set_option linter.unusedVariables false
set_option maxHeartbeats 16000000
set_option maxRecDepth 100000

theorem rmakeO_any {w : World} {u : Value} {x e : Int} {n : Nat} (h : Av w u x n) (hn : n ≤ 100000) (hb : bl x.natAbs ≤ 100000) (hx : bl x.natAbs + e ≤ 65536) (he : -65536 ≤ e) (hT : La w) (h0 : x ≠ 0) :
  Calls Tryz.prog 111 #[u, .int .i64 e] w fun r w' => ∃ v1, r = .returned v1 ∧ Fr [] w w' ∧ DnO w' v1 x e := by
 obtain ⟨b1, p1, m1, c1, rfl⟩ := h.form
 have HA1 := hid h
 have HT := hid hT
 have hsg := av_sg h
 clear h hT
 have H := Hp.start [] w
 have hNM := Nm.norm (e := e) h0
 obtain ⟨z, hz⟩ : ∃ z, tz x.natAbs = z := ⟨_, rfl⟩
 obtain ⟨q, hq⟩ := tz_split x.natAbs (by omega)
 rw [hz] at hq hNM
 have hzb := tz_le _ _ (bl_lt x.natAbs)
 rw [hz] at hzb
 have hq0 : 0 < q := by
  apply Nat.pos_of_ne_zero
  intro e
  rw [e, Nat.zero_mul] at hq
  omega
 have hbq : bl x.natAbs = bl q + z := by rw [hq]; exact bl_mul_pow (by omega) z
 have hdq : x.natAbs / 2 ^ z = q := by rw [hq]; exact Nat.mul_div_cancel _ (pow2_pos z)
 have hxq : x / 2 ^ z = sg b1 q := by
  have e1 : x = sg b1 q * 2 ^ z := by rw [← sg_pow, ← hq, hsg]
  rw [e1, Int.mul_ediv_cancel _ (by have := two_pos z; omega)]
 rw [hxq] at hNM
 have HQO : Hid (q % 2 = 1) := hid (by have := odd_part x.natAbs (by omega); rwa [hz, hdq] at this)
 have HNM := hid hNM
 have HZ := hid hz
 have HDQ := hid hdq
 have HX0 := hid h0
 have hbq1 : bl x.natAbs ≤ bl q + z := by omega
 have hbq2 : bl q + z ≤ bl x.natAbs := by omega
 clear hNM hz hq hxq hdq h0 hbq hsg
 go_enter Tryz.func111, Tryz.ntmps111
 go_wp2_with (first | refine x_q H ?_ | (revert H; refine x_g ?_; intro g w1 hg hf H; replace hf := hf.kp))
 (refine x_c H (rnorm_ar (av HA1) (by omega)) ?_; clear H; rintro e w1 ⟨v3, rfl, hF, hB⟩ H; replace hF := hF.kp; obtain ⟨b3, p3, m3, c3, rfl⟩ := hB.form; obtain ⟨_, hl3, _, _⟩ := hB.parts; have hm3 := (digs_none hl3).2 HX0.out; clear hl3; have HB3 := hid hB; clear hB)
 go_wp2_with (first | refine x_q H ?_ | (revert H; refine xSF ?_; intro w1 H hk) | (revert H; refine x_g ?_; intro g w1 hg hf H; replace hf := hf.kp))
 (refine x_c H (rTrailing_ar (bv HB3).ar (by omega) (HT.out.fr H.fr).1) ?_; clear H; rintro e w1 ⟨rfl, hF⟩ H; replace hF := hF.kp; rw [HZ.out])
 go_wp2_with (refine x_q H ?_)
 (refine x_c H (rabs_ar (bv HB3).ar (by omega)) ?_; clear H; rintro e w1 ⟨v4, rfl, hF, hB⟩ H; replace hF := hF.kp; obtain ⟨b4, p4, m4, c4, rfl⟩ := hB.form; have HB4 := hid hB; clear hB)
 go_wp2_with (first | refine x_q H ?_ | (revert H; refine xSF ?_; intro w1 H hk))
 (refine x_c H (rdown_any z rfl (bv HB4).ar (by omega) (by omega)) ?_; clear H; rintro e w1 ⟨v5, rfl, hF, hB⟩ H; replace hF := hF.kp; rw [HDQ.out] at hB; obtain ⟨b5, p5, m5, c5, rfl⟩ := hB.form; have HB5 := hid hB; clear hB)
 go_wp2_with (first | refine x_q H ?_ | (revert H; refine xSF ?_; intro w1 H hk))
 (refine x_c H (rBitLen_ar (bv HB5).ar (by omega)) ?_; clear H; rintro e w1 ⟨rfl, hF⟩ H; replace hF := hF.kp; rw [Int.natAbs_natCast])
 go_wp2_with (first | refine x_q H ?_ | refine x_e (ev_dyad rfl rfl rfl) ?_ | (revert H; refine xSF ?_; intro w1 H hk) | (revert H; refine xSO ?_; intro w1 H hk))
 refine c_post H rfl rfl rfl ?_
 exact ⟨_, rfl, H.fr, _, _, _, _, _, _, rfl, HNM.out, bv_sg b1 (bv HB5) hq0, by rw [sg_abs]; exact HQO.out⟩
theorem rabsO_any {w : World} {v : Value} {x e : Int} (h : Dn w v x e) (hb : bl x.natAbs ≤ 60000) (he : -5000 ≤ e ∧ e ≤ 5000) (hT : La w) (hx : x ≠ 0) :
  Calls Tryz.prog 125 #[v] w fun r w' => ∃ v1, r = .returned v1 ∧ Fr [] w w' ∧ DnO w' v1 (x.natAbs : Int) e := by
 have HX0 := hid hx
 have HD := hid h
 obtain ⟨m1, e1, b1, p1, n1, c1, rfl, h1, h2⟩ := h
 have HT := hid hT
 clear h1 h2 hT hx
 have H := Hp.start [] w
 go_enter Tryz.func125, Tryz.ntmps125
 go_wp2_with (first | refine x_q H ?_ | (revert H; refine x_g ?_; intro g w1 hg hf H; replace hf := hf.kp))
 (refine x_c H (rnormD_any (dn HD) (by omega) (by omega) (by omega) (HT.out.fr H.fr)) ?_; clear H; rintro e w1 ⟨v3, rfl, hF, hD⟩ H; replace hF := hF.kp; obtain ⟨m3, e3, b3, p3, n3, c3, rfl, hN, hB⟩ := hD; have HN3 := hid hN; have HB3 := hid hB; clear hN hB)
 have hl3 := HN3.out.le
 have HM3 : Hid ((m3.natAbs : Int) ≠ 0) := hid (by have := HN3.out.ne HX0.out; omega)
 have hbn : bl (m3.natAbs : Int).natAbs ≤ bl m3.natAbs := by rw [Int.natAbs_natCast]; exact Nat.le_refl _
 go_wp2_with (first | refine x_q H ?_ | (revert H; refine xSF ?_; intro w1 H hk))
 (revert H; refine w_pF 6 (.st 0 (.st 1 (.st 3 (.st 4 (.ld 2 (.ld 5 (.ld 6 .done))))))) ?_; intro w1 hf H; (first | replace hf := hf.kp | clear hf))
 refine p_q ?_
 (refine p_l ?_)
 iterate 2 refine p_q ?_
 ((refine p_c H rfl rfl Tryz.func132 (rabs_ar (bv HB3).ar (by omega)) ?_; clear H; rintro e w1 ⟨v5, rfl, hF, hB⟩ H; refine p_r ?_; replace hF := hF.kp); obtain ⟨b5, p5, m5, c5, rfl⟩ := hB.form; have HB5 := hid hB; clear hB)
 ((refine p_c H rfl rfl Tryz.func111 (rmakeO_any (bv HB5).ar (by omega) (by omega) (by omega) (by omega) (HT.out.fr H.fr) HM3.out) ?_; clear H; rintro e w1 ⟨v6, rfl, hF, hD⟩ H; refine p_r ?_; replace hF := hF.kp); obtain ⟨m6, e6, b6, p6, n6, c6, rfl, hN, hB, ho6⟩ := hD; have HN6 := hid hN; have HB6 := hid hB; have HO6 := hid ho6; clear hN hB ho6)
 (revert H; refine pSF ?_; intro w1 H hk)
 (refine pl_done ?_)
 all_goals
  go_wp2_with fail
  refine c_post H rfl rfl rfl ?_
  exact ⟨_, rfl, H.fr, _, _, _, _, _, _, rfl, HN3.out.magR.trans HN6.out, bv HB6, HO6.out⟩
theorem rfractionO_any (w : World) {b z : Nat} (hb : b < 18446744073709551616) (hk : b / 4503599627370496 % 2048 ≠ 2047) (hz : Hid (b % 9223372036854775808 = z)) (h0 : 0 < z) (hz1 : z < 9218868437227405312) (hT : La w) :
  Calls Tryz.prog 59 #[.int .u64 (b : Int)] w fun r w' => ∃ v1 v2, r = .returned (.tuple #[v1, v2]) ∧ Fr [] w w' ∧ ∃ (N D M : Nat) (e : Int), Bv w' v1 (N : Int) (bl N) ∧ Bv w' v2 (D : Int) (bl D) ∧ Nm (manF z : Int) (expoF z) (M : Int) e ∧ M % 2 = 1 ∧ ((∃ j : Nat, e = (j : Int) ∧ N = M * 2 ^ j ∧ D = 1) ∨ (∃ k : Nat, e = -(k : Int) ∧ 0 < k ∧ k ≤ 1074 ∧ N = M ∧ D = 2 ^ k)) ∧ bl N ≤ 1100 ∧ bl D ≤ 1100 := by
 obtain ⟨hm1, hm2, hm3⟩ := man_bounds hz1
 have hmp := manF_pos h0
 have HT := hid hT
 obtain ⟨X, hX⟩ : ∃ X, manF z = X := ⟨_, rfl⟩
 obtain ⟨E, hE⟩ : ∃ X, expoF z = X := ⟨_, rfl⟩
 rw [hX] at hm1 hmp
 rw [hE] at hm2 hm3
 have HX := hid hX
 have HE := hid hE
 have HKF := hid hk
 obtain ⟨n, hn⟩ : ∃ n, decide (9223372036854775808 ≤ b) = n := ⟨_, rfl⟩
 have HN := hid hn
 have hbX : bl X ≤ 53 := bl_le (by omega)
 have hbS : bl (sg n X).natAbs ≤ 53 := by rw [sg_abs]; exact hbX
 have HS0 : Hid (sg n X ≠ 0) := hid (by have := sg_abs n X; omega)
 clear hX hE hT hk hn
 have H := Hp.start [] w
 go_enter Tryz.func59, Tryz.ntmps59
 go_wp2_with (revert H; refine x_g ?_; intro g w1 hg hf H; replace hf := hf.kp)
 (refine x_c H (rof_any _ hb HKF.out (HT.out.fr H.fr)) ?_; clear H; rintro e w1 ⟨v2, rfl, hF, hD⟩ H; replace hF := hF.kp; rw [hz.out, HX.out, HE.out, HN.out] at hD; have HD2 := hid hD; clear hD)
 go_wp2_with fail
 (refine x_c H (rabsO_any (dn HD2) (by omega) (by omega) (HT.out.fr H.fr) HS0.out) ?_; clear H; rintro e w1 ⟨v3, rfl, hF, hD⟩ H; replace hF := hF.kp; rw [sg_abs] at hD; obtain ⟨m3, e3, b3, p3, n3, c3, rfl, hN, hB, ho3⟩ := hD; have HN3 := hid hN; have HB3 := hid hB; have HO3 := hid ho3; clear hN hB ho3)
 have hle := HN3.out.le
 rw [Int.natAbs_natCast] at hle
 have hnm := HN3.out
 obtain ⟨M, t, rfl, hXM, he', hM0⟩ := nm_pos HN3.out hmp
 have HNM : Hid (Nm (manF z : Int) (expoF z) (M : Int) e3) := hid (by rw [HX.out, HE.out]; exact hnm)
 have HOD : Hid (M % 2 = 1) := hid (by have := HO3.out; rwa [Int.natAbs_natCast] at this)
 clear hnm HO3
 rw [Int.natAbs_natCast] at hle HB3
 have hXM := hid hXM
 have HE' := hid he'
 have het : -1074 ≤ e3 ∧ e3 ≤ 1024 := by have := bl_pos (show M ≠ 0 by omega); omega
 have hbM : bl M ≤ 53 := by omega
 clear he' HN3 hle
 go_wp2_with (first | (revert H; refine xSF ?_; intro w1 H hk) | (revert H; refine x_g ?_; intro g w1 hg hf H; replace hf := hf.kp))
 (refine x_c H (rfromInt_ar _ 1 (by simp only [inr]; omega)) ?_; clear H; rintro e w1 ⟨v4, rfl, hF, hB⟩ H; replace hF := hF.kp; obtain ⟨b4, p4, m4, c4, rfl⟩ := hB.form; have HB4 := hid hB; clear hB)
 by_cases hp : 0 ≤ e3
 ·obtain ⟨k, hk⟩ := Int.eq_ofNat_of_zero_le hp
  have HKK := hid hk
  have hk2 : k ≤ 1024 := by omega
  have hbs : bl (M * 2 ^ k) = bl M + k := bl_mul_pow (by omega) k
  have hMk : 0 < M * 2 ^ k := Nat.mul_pos hM0 (pow2_pos k)
  have HC : Hid ((M : Int) * 2 ^ k = ((M * 2 ^ k : Nat) : Int)) := hid (by rw [Int.natCast_mul, Int.natCast_pow]; rfl)
  clear hk
  go_wp2_with (first | refine x_q H ?_ | (revert H; refine xSF ?_; intro w1 H hk) | (revert H; refine x_g ?_; intro g w1 hg hf H; replace hf := hf.kp))
  (revert H; refine w_pF 7 (.st 0 (.st 1 (.st 2 (.st 3 (.st 5 (.ld 4 (.ld 6 (.ld 7 .done)))))))) ?_ (hs := (.cons_cons _ (.cons_cons _ (List.nil_sublist _)))); intro w1 hf H; (first | replace hf := hf.kp | clear hf))
  refine p_q ?_
  (refine p_l ?_)
  iterate 2 refine p_q ?_
  (refine p_l ?_)
  ((refine p_c H rfl rfl Tryz.func64 (rshiftUpZ_any k HKK.out (bv HB3).ar (by omega) (by omega)) ?_; clear H; rintro e w1 ⟨v5, rfl, hF, hB⟩ H; refine p_r ?_; replace hF := hF.kp); rw [HC.out] at hB; replace hB := hB.c; rw [Int.natAbs_natCast] at hB; obtain ⟨b5, p5, m5, c5, rfl⟩ := hB.form; have HB5 := hid hB; clear hB)
  (revert H; refine pSF ?_; intro w1 H hk)
  (revert H; refine pSF ?_; intro w1 H hk)
  (refine pl_done ?_)
  all_goals
   go_wp2_with fail
   refine c_postCC H rfl rfl rfl rfl rfl ?_
   exact ⟨_, _, rfl, H.fr, M * 2 ^ k, 1, M, e3, bv HB5, (bv HB4).c, HNM.out, HOD.out, .inl ⟨k, HKK.out, rfl, rfl⟩, by omega, by decide⟩
 ·obtain ⟨k, hk⟩ := Int.eq_ofNat_of_zero_le (show 0 ≤ -e3 by omega)
  have HKK := hid hk
  have hk2 : k ≤ 1074 := by omega
  have hbs : bl (2 ^ k) = k + 1 := bl_two k
  have hMk : 0 < 2 ^ k := pow2_pos k
  have HC : Hid ((1 : Int) * 2 ^ k = ((2 ^ k : Nat) : Int)) := hid (by rw [Int.one_mul, Int.natCast_pow]; rfl)
  clear hk
  go_wp2_with (first | refine x_q H ?_ | (revert H; refine xSF ?_; intro w1 H hk) | (revert H; refine x_g ?_; intro g w1 hg hf H; replace hf := hf.kp))
  (revert H; refine w_pF 8 (.st 0 (.st 1 (.st 2 (.st 3 (.st 4 (.st 5 (.ld 6 (.ld 7 (.ld 8 .done))))))))) ?_ (hs := (.cons_cons _ (.cons_cons _ (List.nil_sublist _)))); intro w1 hf H; (first | replace hf := hf.kp | clear hf))
  refine p_q ?_
  (refine p_l ?_)
  (refine p_l ?_)
  iterate 2 refine p_q ?_
  (refine p_e rfl (fun w H => ev_negZ rfl rfl (by simp only [inr]; omega)) ?_)
  ((refine p_c H rfl rfl Tryz.func64 (rshiftUpZ_any k HKK.out (bv HB4).ar (by omega) (by omega)) ?_; clear H; rintro e w1 ⟨v5, rfl, hF, hB⟩ H; refine p_r ?_; replace hF := hF.kp); rw [HC.out] at hB; replace hB := hB.c; rw [Int.natAbs_natCast] at hB; obtain ⟨b5, p5, m5, c5, rfl⟩ := hB.form; have HB5 := hid hB; clear hB)
  (revert H; refine pSF ?_; intro w1 H hk)
  (revert H; refine pSF ?_; intro w1 H hk)
  (refine pl_done ?_)
  all_goals
   go_wp2_with fail
   refine c_postCC H rfl rfl rfl rfl rfl ?_
   exact ⟨_, _, rfl, H.fr, M, 2 ^ k, M, e3, bv HB3, bv HB5, HNM.out, HOD.out, .inr ⟨k, by have := HKK.out; omega, by have := HKK.out; omega, hk2, rfl, rfl⟩, by omega, by omega⟩
end Go.Proofs.YthbeeeclgbpopaaGreatDoor
