import Derived.Test.YthbeeeclgbpopaaGreatDoorYFa5
import Derived.Test.YthbeeeclgbpopaaGreatDoorYHp
namespace Go.Proofs.YthbeeeclgbpopaaGreatDoor
open Go.RowKit
set_option linter.unusedSimpArgs false
set_option linter.unusedVariables false
set_option maxHeartbeats 16000000
set_option maxRecDepth 100000

theorem rminus_any (w : World) {b : Nat} (hb : b < 18446744073709551616) {n : Bool} (hn : Hid (decide (9223372036854775808 ≤ b) = n)) :
  Calls Tryz.prog 69 #[.int .u64 (b : Int)] w fun r w' => r = .returned (.bool n) ∧ Fr [] w w' := by
 have H := Hp.start [] w
 cases n
 ·have h1 : b < 9223372036854775808 := by have := of_decide_eq_false hn.out; omega
  have HI := hid (show (if 9223372036854775808 ≤ b then 9223372036854775808 else 0 : Nat) = 0 from if_neg (by omega))
  clear hn
  go_enter Tryz.func69, Tryz.ntmps69
  go_wp2_with (first | refine x_q H ?_ | refine x_e (ev_m63I rfl rfl HI) ?_)
  go_ret
  exact ⟨rfl, H.fr⟩
 ·have h1 := of_decide_eq_true hn.out
  have HI := hid (show (if 9223372036854775808 ≤ b then 9223372036854775808 else 0 : Nat) = 9223372036854775808 from if_pos h1)
  clear hn
  go_enter Tryz.func69, Tryz.ntmps69
  go_wp2_with (first | refine x_q H ?_ | refine x_e (ev_m63I rfl rfl HI) ?_)
  go_ret
  exact ⟨rfl, H.fr⟩
theorem Nm.magR {x e m e' : Int} (h : Nm x e m e') : Nm (x.natAbs : Int) e (m.natAbs : Int) e' := by
 rcases h with ⟨h1, h2, h3⟩ | ⟨h1, t, h2, h3⟩
 ·exact .inl ⟨by omega, by omega, h3⟩
 ·exact .inr ⟨by omega, t, by rw [h2, Int.natAbs_mul, Int.natAbs_pow, Int.natCast_mul, Int.natCast_pow]; rfl, h3⟩
theorem rabsD_any {w : World} {v : Value} {x e : Int} (h : Dn w v x e) (hb : bl x.natAbs ≤ 60000) (he : -5000 ≤ e ∧ e ≤ 5000) (hT : La w) :
  Calls Tryz.prog 125 #[v] w fun r w' => ∃ v1, r = .returned v1 ∧ Fr [] w w' ∧ Dn w' v1 (x.natAbs : Int) e := by
 have HD := hid h
 obtain ⟨m1, e1, b1, p1, n1, c1, rfl, h1, h2⟩ := h
 have HT := hid hT
 clear h1 h2 hT
 have H := Hp.start [] w
 go_enter Tryz.func125, Tryz.ntmps125
 go_wp2_with (first | refine x_q H ?_ | (revert H; refine x_g ?_; intro g w1 hg hf H; replace hf := hf.kp))
 (refine x_c H (rnormD_any (dn HD) (by omega) (by omega) (by omega) (HT.out.fr H.fr)) ?_; clear H; rintro e w1 ⟨v3, rfl, hF, hD⟩ H; replace hF := hF.kp; obtain ⟨m3, e3, b3, p3, n3, c3, rfl, hN, hB⟩ := hD; have HN3 := hid hN; have HB3 := hid hB; clear hN hB)
 have hl3 := HN3.out.le
 have hbn : bl (m3.natAbs : Int).natAbs ≤ bl m3.natAbs := by rw [Int.natAbs_natCast]; exact Nat.le_refl _
 go_wp2_with (first | refine x_q H ?_ | (revert H; refine xSF ?_; intro w1 H hk))
 (revert H; refine w_pF 6 (.st 0 (.st 1 (.st 3 (.st 4 (.ld 2 (.ld 5 (.ld 6 .done))))))) ?_; intro w1 hf H; (first | replace hf := hf.kp | clear hf))
 refine p_q ?_
 (refine p_l ?_)
 iterate 2 refine p_q ?_
 ((refine p_c H rfl rfl Tryz.func132 (rabs_ar (bv HB3).ar (by omega)) ?_; clear H; rintro e w1 ⟨v5, rfl, hF, hB⟩ H; refine p_r ?_; replace hF := hF.kp); obtain ⟨b5, p5, m5, c5, rfl⟩ := hB.form; have HB5 := hid hB; clear hB)
 ((refine p_c H rfl rfl Tryz.func111 (rmake_any (bv HB5).ar (by omega) (by omega) (by omega) (by omega) (HT.out.fr H.fr)) ?_; clear H; rintro e w1 ⟨v6, rfl, hF, hD⟩ H; refine p_r ?_; replace hF := hF.kp); obtain ⟨m6, e6, b6, p6, n6, c6, rfl, hN, hB⟩ := hD; have HN6 := hid hN; have HB6 := hid hB; clear hN hB)
 (revert H; refine pSF ?_; intro w1 H hk)
 (refine pl_done ?_)
 all_goals
  go_wp2_with fail
  refine c_post H rfl rfl rfl ?_
  exact ⟨_, rfl, H.fr, _, _, _, _, _, _, rfl, HN3.out.magR.trans HN6.out, bv HB6⟩
theorem rlog2_any {w : World} {v : Value} {x e : Int} (h : Dn w v x e) (hx : x ≠ 0) (hb : bl x.natAbs ≤ 60000) (he : -5000 ≤ e ∧ e ≤ 5000) (hT : La w) {z : Int} (hz : e + bl x.natAbs - 1 = z) :
  Calls Tryz.prog 127 #[v] w fun r w' => r = .returned (.tuple #[.int .i64 z, .bool true]) ∧ Fr [] w w' := by
 have HD := hid h
 have HX0 := hid hx
 obtain ⟨m1, e1, b1, p1, n1, c1, rfl, h1, h2⟩ := h
 have HT := hid hT
 clear h1 h2 hT hx
 have H := Hp.start [] w
 go_enter Tryz.func127, Tryz.ntmps127
 go_wp2_with (first | refine x_q H ?_ | (revert H; refine x_g ?_; intro g w1 hg hf H; replace hf := hf.kp))
 (refine x_c H (rnormD_any (dn HD) (by omega) (by omega) (by omega) (HT.out.fr H.fr)) ?_; clear H; rintro e w1 ⟨v3, rfl, hF, hD⟩ H; replace hF := hF.kp; obtain ⟨m3, e3, b3, p3, n3, c3, rfl, hN, hB⟩ := hD; have HN3 := hid hN; have HB3 := hid hB; clear hN hB)
 have hm3 := HN3.out.ne HX0.out
 obtain ⟨t, a1, a2, a3⟩ := HN3.out.abs HX0.out
 have hzz : e3 + bl m3.natAbs - 1 = z := by omega
 have HM3 := hid hm3
 have hl3 := HN3.out.le
 clear a1 a2 a3 hz hm3
 have HZ := hid hzz
 clear hzz
 go_wp2_with (first | refine x_q H ?_ | refine x_l H ?_ | (revert H; refine xSF ?_; intro w1 H hk))
 (refine x_c H (rsign_nz (bv HB3).ar (by omega) HM3.out) ?_; clear H; rintro e w1 ⟨s4, rfl, hs4, hF⟩ H; replace hF := hF.kp)
 go_wp2_with (refine x_q H ?_)
 (revert H; refine w_pF 9 (.st 0 (.st 1 (.st 2 (.st 3 (.ld 4 (.st 5 (.st 6 (.st 7 (.st 8 .done))))))))) ?_; intro w1 hf H; (first | replace hf := hf.kp | clear hf))
 iterate 3 refine p_q ?_
 (refine p_l ?_)
 ((refine p_c H rfl rfl Tryz.func169 (rBitLen_ar (bv HB3).ar (by omega)) ?_; clear H; rintro e w1 ⟨rfl, hF⟩ H; refine p_r ?_; replace hF := hF.kp))
 iterate 4 refine p_q ?_
 (refine pl_done ?_)
 all_goals
  go_wp2_with fail
  refine bodyPost_ret (results_tmp2 rfl _ _ _) rfl ?_
  exact ⟨by rw [← HZ.out]; rfl, H.fr⟩
set_option maxHeartbeats 32000000 in
theorem rof_any (w : World) {b : Nat} (hb : b < 18446744073709551616) (hk : b / 4503599627370496 % 2048 ≠ 2047) (hT : La w) :
  Calls Tryz.prog 126 #[.int .u64 (b : Int)] w fun r w' => ∃ v1, r = .returned v1 ∧ Fr [] w w' ∧ Dn w' v1 (sg (decide (9223372036854775808 ≤ b)) (manF (b % 9223372036854775808))) (expoF (b % 9223372036854775808)) := by
 obtain ⟨h1, h2⟩ := man_of hb
 rw [h1, h2]
 clear h1 h2
 have HT := hid hT
 have hx : b / 4503599627370496 % 2048 < 2048 := Nat.mod_lt _ (by decide)
 have hy : b % 4503599627370496 < 4503599627370496 := Nat.mod_lt _ (by decide)
 obtain ⟨x, hX⟩ : ∃ x, b / 4503599627370496 % 2048 = x := ⟨_, rfl⟩
 obtain ⟨y, hY⟩ : ∃ x, b % 4503599627370496 = x := ⟨_, rfl⟩
 rw [hX] at hx hk ⊢
 rw [hY] at hy ⊢
 have HX := hid hX
 have HY := hid hY
 obtain ⟨n, hn⟩ : ∃ n, decide (9223372036854775808 ≤ b) = n := ⟨_, rfl⟩
 rw [hn]
 have HN := hid hn
 have HFI : Hid (decide (x ≠ 2047) = true) := hid (decide_eq_true hk)
 clear hX hY hT hn
 have H := Hp.start [] w
 by_cases h0 : x = 0
 ·rw [if_pos h0, if_pos h0]
  have h0a : x ≤ 0 := by omega
  have hbl : bl y ≤ 53 := bl_le (by omega)
  have HM : Hid (y + 4503599627370496 = y + 4503599627370496) := hid rfl
  clear h0 hk
  have hbs : bl (sg n y).natAbs ≤ 53 := by rw [sg_abs]; exact hbl
  go_enter Tryz.func126, Tryz.ntmps126
  go_wp2_with (revert H; refine x_g ?_; intro g w1 hg hf H; replace hf := hf.kp)
  (refine x_c H (risFinite_any _ hb HX HFI) ?_; clear H; rintro e w1 ⟨rfl, hF⟩ H; replace hF := hF.kp)
  go_wp2_with (first | refine x_q H ?_ | refine x_e (ev_s52 rfl rfl) ?_ | refine x_e (ev_m11I rfl rfl HX) ?_ | refine x_e (ev_m52I rfl rfl HY) ?_)
  (refine x_c H (rminus_any _ hb HN) ?_; clear H; rintro e w1 ⟨rfl, hF⟩ H; replace hF := hF.kp)
  go_wp2_with (first | refine x_q H ?_ | refine x_e (ev_high rfl rfl) ?_ | (refine is_buildSlice rfl ?_; refine wl_rw rfl (fun K hK => c_sN H rfl (by repeat first | exact .nil _ | apply Parts.tmp (by rfl) (by rfl) | apply Parts.con (by rfl)) rfl (by intro c hc; simp only [List.mem_cons, List.not_mem_nil, or_false] at hc; (try (rcases hc with rfl | rfl | rfl | rfl | rfl | rfl | rfl | rfl <;> rfl))) (by decide) (by decide) (fun g w1 hg hf H1 => hK _ _ ?_)); (clear hK K); (clear H; have H := H1; clear H1; (try dsimp only at H); (first | replace hf := hf.kp | clear hf)); (simp only [nrm, ↓reduceIte, Nat.reduceAdd])))
  (refine x_c H (rmake_any (n := 2) (x := sg n y) ⟨n, [y % 4294967296, y / 4294967296], _, _, rfl, two_lr (H.at g) (by omega) (by omega) (by omega), zv_two _ _ (by omega), by simp⟩ (by omega) (by omega) (by omega) (by omega) (HT.out.fr H.fr)) ?_; clear H; rintro e w1 ⟨v5, rfl, hF, hD⟩ H; replace hF := hF.kp; obtain ⟨m5, e5, b5, p5, n5, c5, rfl, hN, hB⟩ := hD; have HN5 := hid hN; have HB5 := hid hB; clear hN hB)
  go_wp2_with (revert H; refine xSF ?_; intro w1 H hk)
  refine c_post H rfl rfl rfl ?_
  exact ⟨_, rfl, H.fr, _, _, _, _, _, _, rfl, HN5.out, bv HB5⟩
 ·rw [if_neg h0, if_neg h0]
  obtain ⟨M, hM⟩ : ∃ M, y + 4503599627370496 = M := ⟨_, rfl⟩
  have HM := hid hM
  have hMb : M < 9007199254740992 := by omega
  rw [hM]
  have hbl : bl M ≤ 53 := bl_le (by omega)
  have h0a : 0 < x := by omega
  clear hM h0 hk
  have hbs : bl (sg n M).natAbs ≤ 53 := by rw [sg_abs]; exact hbl
  go_enter Tryz.func126, Tryz.ntmps126
  go_wp2_with (revert H; refine x_g ?_; intro g w1 hg hf H; replace hf := hf.kp)
  (refine x_c H (risFinite_any _ hb HX HFI) ?_; clear H; rintro e w1 ⟨rfl, hF⟩ H; replace hF := hF.kp)
  go_wp2_with (first | refine x_q H ?_ | refine x_e (ev_s52 rfl rfl) ?_ | refine x_e (ev_m11I rfl rfl HX) ?_ | refine x_e (ev_m52I rfl rfl HY) ?_ | refine x_e (ev_h52 rfl rfl HM) ?_)
  (refine x_c H (rminus_any _ hb HN) ?_; clear H; rintro e w1 ⟨rfl, hF⟩ H; replace hF := hF.kp)
  go_wp2_with (first | refine x_q H ?_ | refine x_e (ev_high rfl rfl) ?_ | (refine is_buildSlice rfl ?_; refine wl_rw rfl (fun K hK => c_sN H rfl (by repeat first | exact .nil _ | apply Parts.tmp (by rfl) (by rfl) | apply Parts.con (by rfl)) rfl (by intro c hc; simp only [List.mem_cons, List.not_mem_nil, or_false] at hc; (try (rcases hc with rfl | rfl | rfl | rfl | rfl | rfl | rfl | rfl <;> rfl))) (by decide) (by decide) (fun g w1 hg hf H1 => hK _ _ ?_)); (clear hK K); (clear H; have H := H1; clear H1; (try dsimp only at H); (first | replace hf := hf.kp | clear hf)); (simp only [nrm, ↓reduceIte, Nat.reduceAdd])))
  (refine x_c H (rmake_any (n := 2) (x := sg n M) ⟨n, [M % 4294967296, M / 4294967296], _, _, rfl, two_lr (H.at g) (by omega) (by omega) (by omega), zv_two _ _ (by omega), by simp⟩ (by omega) (by omega) (by omega) (by omega) (HT.out.fr H.fr)) ?_; clear H; rintro e w1 ⟨v5, rfl, hF, hD⟩ H; replace hF := hF.kp; obtain ⟨m5, e5, b5, p5, n5, c5, rfl, hN, hB⟩ := hD; have HN5 := hid hN; have HB5 := hid hB; clear hN hB)
  go_wp2_with (revert H; refine xSF ?_; intro w1 H hk)
  refine c_post H rfl rfl rfl ?_
  exact ⟨_, rfl, H.fr, _, _, _, _, _, _, rfl, HN5.out, bv HB5⟩
theorem rfraction_any (w : World) {b z : Nat} (hb : b < 18446744073709551616) (hk : b / 4503599627370496 % 2048 ≠ 2047) (hz : Hid (b % 9223372036854775808 = z)) (h0 : 0 < z) (hz1 : z < 9218868437227405312) (hT : La w) :
  Calls Tryz.prog 59 #[.int .u64 (b : Int)] w fun r w' => ∃ v1 v2, r = .returned (.tuple #[v1, v2]) ∧ Fr [] w w' ∧ ∃ N D : Nat, Bv w' v1 (N : Int) (bl N) ∧ Bv w' v2 (D : Int) (bl D) ∧ 0 < N ∧ 0 < D ∧ N * dF z = nF z * D ∧ bl N ≤ 1100 ∧ bl D ≤ 1100 := by
 obtain ⟨hm1, hm2, hm3⟩ := man_bounds hz1
 have hmp := manF_pos h0
 have HT := hid hT
 have HND : Hid (dF z = 2 ^ (-expoF z).toNat ∧ nF z = manF z * 2 ^ (expoF z).toNat) := hid ⟨rfl, rfl⟩
 obtain ⟨X, hX⟩ : ∃ X, manF z = X := ⟨_, rfl⟩
 obtain ⟨E, hE⟩ : ∃ X, expoF z = X := ⟨_, rfl⟩
 rw [hX, hE] at HND
 rw [hX] at hm1 hmp
 rw [hE] at hm2 hm3
 have HX := hid hX
 have HE := hid hE
 have HKF := hid hk
 obtain ⟨n, hn⟩ : ∃ n, decide (9223372036854775808 ≤ b) = n := ⟨_, rfl⟩
 have HN := hid hn
 have hbX : bl X ≤ 53 := bl_le (by omega)
 have hbS : bl (sg n X).natAbs ≤ 53 := by rw [sg_abs]; exact hbX
 clear hX hE hT hk hn
 have H := Hp.start [] w
 go_enter Tryz.func59, Tryz.ntmps59
 go_wp2_with (revert H; refine x_g ?_; intro g w1 hg hf H; replace hf := hf.kp)
 (refine x_c H (rof_any _ hb HKF.out (HT.out.fr H.fr)) ?_; clear H; rintro e w1 ⟨v2, rfl, hF, hD⟩ H; replace hF := hF.kp; rw [hz.out, HX.out, HE.out, HN.out] at hD; have HD2 := hid hD; clear hD)
 go_wp2_with fail
 (refine x_c H (rabsD_any (dn HD2) (by omega) (by omega) (HT.out.fr H.fr)) ?_; clear H; rintro e w1 ⟨v3, rfl, hF, hD⟩ H; replace hF := hF.kp; rw [sg_abs] at hD; obtain ⟨m3, e3, b3, p3, n3, c3, rfl, hN, hB⟩ := hD; have HN3 := hid hN; have HB3 := hid hB; clear hN hB)
 have hle := HN3.out.le
 rw [Int.natAbs_natCast] at hle
 obtain ⟨M, t, rfl, hXM, he', hM0⟩ := nm_pos HN3.out hmp
 rw [Int.natAbs_natCast] at hle HB3
 have hXM := hid hXM
 have HE' := hid he'
 have het : -1074 ≤ e3 ∧ e3 ≤ 1024 := by have := bl_pos (show M ≠ 0 by omega); omega
 have hbM : bl M ≤ 53 := by omega
 clear he' HN3 hle
 go_wp2_with (first | (revert H; refine xSF ?_; intro w1 H hk) | (revert H; refine x_g ?_; intro g w1 hg hf H; replace hf := hf.kp))
 (refine x_c H (rfromInt_ar _ 1 (by simp only [inr]; omega)) ?_; clear H; rintro e w1 ⟨v4, rfl, hF, hB⟩ H; replace hF := hF.kp; obtain ⟨b4, p4, m4, c4, rfl⟩ := hB.form; have HB4 := hid hB; clear hB)
 by_cases hp : 0 ≤ e3
 ·obtain ⟨k, hk⟩ := Int.eq_ofNat_of_zero_le hp
  have HKK := hid hk
  have hk2 : k ≤ 1024 := by omega
  have hbs : bl (M * 2 ^ k) = bl M + k := bl_mul_pow (by omega) k
  have HR := hid (frac_up (k := k) hXM.out (by rw [← HE'.out]; exact hk))
  have hMk : 0 < M * 2 ^ k := Nat.mul_pos hM0 (pow2_pos k)
  have HC : Hid ((M : Int) * 2 ^ k = ((M * 2 ^ k : Nat) : Int)) := hid (by rw [Int.natCast_mul, Int.natCast_pow]; rfl)
  clear hk
  go_wp2_with (first | refine x_q H ?_ | (revert H; refine xSF ?_; intro w1 H hk) | (revert H; refine x_g ?_; intro g w1 hg hf H; replace hf := hf.kp))
  (revert H; refine w_pF 7 (.st 0 (.st 1 (.st 2 (.st 3 (.st 5 (.ld 4 (.ld 6 (.ld 7 .done)))))))) ?_ (hs := (.cons_cons _ (.cons_cons _ (List.nil_sublist _)))); intro w1 hf H; (first | replace hf := hf.kp | clear hf))
  refine p_q ?_
  (refine p_l ?_)
  iterate 2 refine p_q ?_
  (refine p_l ?_)
  ((refine p_c H rfl rfl Tryz.func64 (rshiftUpZ_any k HKK.out (bv HB3).ar (by omega) (by omega)) ?_; clear H; rintro e w1 ⟨v5, rfl, hF, hB⟩ H; refine p_r ?_; replace hF := hF.kp); rw [HC.out] at hB; replace hB := hB.c; rw [Int.natAbs_natCast] at hB; obtain ⟨b5, p5, m5, c5, rfl⟩ := hB.form; have HB5 := hid hB; clear hB)
  (revert H; refine pSF ?_; intro w1 H hk)
  (revert H; refine pSF ?_; intro w1 H hk)
  (refine pl_done ?_)
  all_goals
   go_wp2_with fail
   refine c_postCC H rfl rfl rfl rfl rfl ?_
   exact ⟨_, _, rfl, H.fr, M * 2 ^ k, 1, bv HB5, (bv HB4).c, hMk, by omega, by rw [HND.out.1, HND.out.2]; exact HR.out, by omega, by decide⟩
 ·obtain ⟨k, hk⟩ := Int.eq_ofNat_of_zero_le (show 0 ≤ -e3 by omega)
  have HKK := hid hk
  have hk2 : k ≤ 1074 := by omega
  have hbs : bl (2 ^ k) = k + 1 := bl_two k
  have HR := hid (frac_dn (k := k) hXM.out (by rw [← HE'.out]; exact hk))
  have hMk : 0 < 2 ^ k := pow2_pos k
  have HC : Hid ((1 : Int) * 2 ^ k = ((2 ^ k : Nat) : Int)) := hid (by rw [Int.one_mul, Int.natCast_pow]; rfl)
  clear hk
  go_wp2_with (first | refine x_q H ?_ | (revert H; refine xSF ?_; intro w1 H hk) | (revert H; refine x_g ?_; intro g w1 hg hf H; replace hf := hf.kp))
  (revert H; refine w_pF 8 (.st 0 (.st 1 (.st 2 (.st 3 (.st 4 (.st 5 (.ld 6 (.ld 7 (.ld 8 .done))))))))) ?_ (hs := (.cons_cons _ (.cons_cons _ (List.nil_sublist _)))); intro w1 hf H; (first | replace hf := hf.kp | clear hf))
  refine p_q ?_
  (refine p_l ?_)
  (refine p_l ?_)
  iterate 2 refine p_q ?_
  (refine p_e rfl (fun w H => ev_negZ rfl rfl (by simp only [inr]; omega)) ?_)
  ((refine p_c H rfl rfl Tryz.func64 (rshiftUpZ_any k HKK.out (bv HB4).ar (by omega) (by omega)) ?_; clear H; rintro e w1 ⟨v5, rfl, hF, hB⟩ H; refine p_r ?_; replace hF := hF.kp); rw [HC.out] at hB; replace hB := hB.c; rw [Int.natAbs_natCast] at hB; obtain ⟨b5, p5, m5, c5, rfl⟩ := hB.form; have HB5 := hid hB; clear hB)
  (revert H; refine pSF ?_; intro w1 H hk)
  (revert H; refine pSF ?_; intro w1 H hk)
  (refine pl_done ?_)
  all_goals
   go_wp2_with fail
   refine c_postCC H rfl rfl rfl rfl rfl ?_
   exact ⟨_, _, rfl, H.fr, M, 2 ^ k, bv HB3, bv HB5, hM0, hMk, by rw [HND.out.1, HND.out.2]; exact HR.out, by omega, by omega⟩
theorem rexponent_any (w : World) {b z : Nat} (hb : b < 18446744073709551616) (hk : Hid (kindF b = 1)) (hk2 : b / 4503599627370496 % 2048 ≠ 2047) (hz : Hid (b % 9223372036854775808 = z)) (h0 : 0 < z) (hz1 : z < 9218868437227405312) (hT : La w) {e : Int} (he : expoF z + bl (manF z) - 1 = e) :
  Calls Tryz.prog 60 #[.int .u64 (b : Int)] w fun r w' => r = .returned (.tuple #[.int .i64 e, .bool true]) ∧ Fr [] w w' := by
 obtain ⟨hm1, hm2, hm3⟩ := man_bounds hz1
 have hmp := manF_pos h0
 have HT := hid hT
 have HKF := hid hk2
 obtain ⟨n, hn⟩ : ∃ n, decide (9223372036854775808 ≤ b) = n := ⟨_, rfl⟩
 have HN := hid hn
 obtain ⟨X, hX⟩ : ∃ X, manF z = X := ⟨_, rfl⟩
 obtain ⟨E, hE⟩ : ∃ X, expoF z = X := ⟨_, rfl⟩
 rw [hX, hE] at he
 rw [hX] at hm1 hmp
 rw [hE] at hm2 hm3
 have HX := hid hX
 have HE := hid hE
 have hbX : bl X ≤ 53 := bl_le (by omega)
 have hbS : bl (sg n X).natAbs ≤ 53 := by rw [sg_abs]; exact hbX
 have hes : E + bl (sg n X).natAbs - 1 = e := by rw [sg_abs]; exact he
 have HES := hid hes
 have HS0 : Hid (sg n X ≠ 0) := hid (by have := sg_abs n X; omega)
 clear hT hk2 hn hX hE he hes
 have H := Hp.start [] w
 go_enter Tryz.func60, Tryz.ntmps60
 go_wp2_with fail
 (refine x_c H (rkind_any _ hb hk) ?_; clear H; rintro e w1 ⟨rfl, hF⟩ H; replace hF := hF.kp)
 go_wp2_with (refine x_q H ?_)
 (refine x_c H (rof_any _ hb HKF.out (HT.out.fr H.fr)) ?_; clear H; rintro e w1 ⟨v2, rfl, hF, hD⟩ H; replace hF := hF.kp; rw [hz.out, HX.out, HE.out, HN.out] at hD; have HD2 := hid hD; obtain ⟨m2, e2, b2, p2, n2, c2, rfl, hN, hB⟩ := hD; have HN2 := hid hN; have HB2 := hid hB; clear hN hB)
 go_wp2_with fail
 (refine x_c H (rlog2_any (dn HD2) HS0.out (by omega) (by omega) (HT.out.fr H.fr) HES.out) ?_; clear H; rintro e w1 ⟨rfl, hF⟩ H; replace hF := hF.kp)
 go_wp2_with fail
 refine bodyPost_ret (results_tmp2 rfl _ _ _) rfl ?_
 exact ⟨rfl, H.fr⟩
end Go.Proofs.YthbeeeclgbpopaaGreatDoor
