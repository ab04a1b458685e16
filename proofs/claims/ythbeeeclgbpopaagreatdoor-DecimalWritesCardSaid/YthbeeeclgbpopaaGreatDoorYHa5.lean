import Derived.Test.YthbeeeclgbpopaaGreatDoorYHp
import Derived.Test.YthbeeeclgbpopaaGreatDoorYHa3
import Derived.Test.YthbeeeclgbpopaaGreatDoorYHa4
import Derived.Deep.DeepCutAuto
import Derived.Deep.CutBlock
namespace Go.Proofs.YthbeeeclgbpopaaGreatDoor
open Go.RowKit
set_option linter.unusedSimpArgs false
set_option linter.unusedVariables false
set_option maxHeartbeats 16000000
set_option maxRecDepth 100000

theorem Nm.minusR {x e m e' : Int} (h : Nm x e m e') : Nm (-x) e (-m) e' := by
 rcases h with ⟨h1, h2, h3⟩ | ⟨h1, t, h2, h3⟩
 ·exact .inl ⟨by omega, by omega, h3⟩
 ·exact .inr ⟨by omega, t, by rw [h2, Int.neg_mul], h3⟩
theorem rnegD_any {w : World} {v : Value} {x e : Int} (h : Dn w v x e) (hb : bl x.natAbs ≤ 60000) (he : -5000 ≤ e ∧ e ≤ 5000) (hT : La w) :
  Calls Tryz.prog 115 #[v] w fun r w' => ∃ v1, r = .returned v1 ∧ Fr [] w w' ∧ Dn w' v1 (-x) e := by
 have HD := hid h
 obtain ⟨m1, e1, b1, p1, n1, c1, rfl, h1, h2⟩ := h
 have HT := hid hT
 clear h1 h2 hT
 have H := Hp.start [] w
 go_enter Tryz.func115, Tryz.ntmps115
 go_wp2_with (first | refine x_q H ?_ | (revert H; refine x_g ?_; intro g w1 hg hf H; replace hf := hf.kp))
 (refine x_c H (rnormD_any (dn HD) (by omega) (by omega) (by omega) (HT.out.fr H.fr)) ?_; clear H; rintro e w1 ⟨v3, rfl, hF, hD⟩ H; replace hF := hF.kp; obtain ⟨m3, e3, b3, p3, n3, c3, rfl, hN, hB⟩ := hD; have HN3 := hid hN; have HB3 := hid hB; clear hN hB)
 have hl3 := HN3.out.le
 have hbn : bl (-m3).natAbs ≤ bl m3.natAbs := by rw [Int.natAbs_neg]; exact Nat.le_refl _
 go_wp2_with (first | refine x_q H ?_ | (revert H; refine xSF ?_; intro w1 H hk))
 (revert H; refine w_pF 6 (.st 0 (.st 1 (.st 3 (.st 4 (.ld 2 (.ld 5 (.ld 6 .done))))))) ?_; intro w1 hf H; (first | replace hf := hf.kp | clear hf))
 refine p_q ?_
 (refine p_l ?_)
 iterate 2 refine p_q ?_
 ((refine p_c H rfl rfl Tryz.func173 (rneg_ar (bv HB3).ar (by omega)) ?_; clear H; rintro e w1 ⟨v5, rfl, hF, hB⟩ H; refine p_r ?_; replace hF := hF.kp); obtain ⟨b5, p5, m5, c5, rfl⟩ := hB.form; have HB5 := hid hB; clear hB)
 ((refine p_c H rfl rfl Tryz.func111 (rmake_any (bv HB5).ar (by omega) (by omega) (by omega) (by omega) (HT.out.fr H.fr)) ?_; clear H; rintro e w1 ⟨v6, rfl, hF, hD⟩ H; refine p_r ?_; replace hF := hF.kp); obtain ⟨m6, e6, b6, p6, n6, c6, rfl, hN, hB⟩ := hD; have HN6 := hid hN; have HB6 := hid hB; clear hN hB)
 (revert H; refine pSF ?_; intro w1 H hk)
 (refine pl_done ?_)
 all_goals
  go_wp2_with fail
  refine c_post H rfl rfl rfl ?_
  exact ⟨_, rfl, H.fr, _, _, _, _, _, _, rfl, HN3.out.minusR.trans HN6.out, bv HB6⟩
theorem rl_one {w : World} {neg b : Bool} {p : Option Addr} {k c kk M : Nat} {e : Int} (h : Bv w (.agg #[.bool b, .slice p k c]) (M : Int) kk) (hM : 0 < M) (hb : bl M ≤ 100000) (he : -1000000 ≤ e ∧ e ≤ 1000000) : Rl w (.agg #[.bool neg, .bool b, .slice p k c, .int .i64 e, .bool false]) neg M 1 e :=
 ⟨b, p, k, c, 0, M, e, false, rfl, h.c, hM, Nat.one_pos, by simp, by omega, by omega, by simp [Nat.mod_one], .inl (by simp [Nat.mod_one]), hb, he.1, he.2⟩
theorem rround_any {w : World} {v : Value} {x e : Int} (mode : Int) (h : Dn w v x e) (hx : x ≠ 0) (hb : bl x.natAbs ≤ 30000) (he : -30000 ≤ e ∧ e ≤ 30000) (hT : La w) {X : Nat} (hX : Hid (X = rndF (decide (x < 0)) mode x.natAbs 1 e)) :
  Calls Tryz.prog 116 #[v, .int .i64 mode] w fun r w' => r = .returned (.int .u64 (X : Int)) ∧ Fr [] w w' := by
 have HD := hid h
 have HX0 := hid hx
 obtain ⟨m1, e1, b1, p1, n1, c1, rfl, h1, h2⟩ := h
 have HT := hid hT
 clear h1 h2 hT hx
 have H := Hp.start [] w
 go_enter Tryz.func116, Tryz.ntmps116
 go_wp2_with (first | refine x_q H ?_ | (revert H; refine x_g ?_; intro g w1 hg hf H; replace hf := hf.kp))
 (refine x_c H (rnormD_any (dn HD) (by omega) (by omega) (by omega) (HT.out.fr H.fr)) ?_; clear H; rintro e w1 ⟨v3, rfl, hF, hD⟩ H; replace hF := hF.kp; obtain ⟨m3, e3, b3, p3, n3, c3, rfl, hN, hB⟩ := hD; have HN3 := hid hN; have HB3 := hid hB; clear hN hB)
 have hl3 := HN3.out.le
 have HM0 := hid (HN3.out.ne HX0.out)
 have HMP : Hid (0 < m3.natAbs) := hid (by have := HM0.out; omega)
 have HX3 : Hid (X = rndF b3 mode m3.natAbs 1 e3) := hid (by
  have e1 := (bv_bool HB3.out).trans HN3.out.neg
  have e2 := rnd_nm b3 mode HN3.out (Nm.refl (x := 1) (e := 0) (by decide)) HX0.out (by decide)
  rw [Int.sub_zero, Int.sub_zero] at e2
  rw [hX.out, ← e1]
  exact e2.symm)
 go_wp2_with (first | refine x_q H ?_ | refine x_l H ?_ | (revert H; refine xSF ?_; intro w1 H hk))
 (refine x_c H (rsign_nz (bv HB3).ar (by omega) HM0.out) ?_; clear H; rintro e w1 ⟨s4, rfl, hs4, hF⟩ H; replace hF := hF.kp)
 go_wp2_with (refine x_q H ?_)
 (revert H; refine w_pF 11 (.st 0 (.st 1 (.st 2 (.st 3 (.st 4 (.st 6 (.st 7 (.st 8 (.ld 5 (.ld 9 (.st 10 .done))))))))))) ?_; intro w1 hf H; (first | replace hf := hf.kp | clear hf))
 iterate 4 refine p_q ?_
 (refine p_l ?_)
 iterate 3 refine p_q ?_
 ((refine p_c H rfl rfl Tryz.func132 (rabs_ar (bv HB3).ar (by omega)) ?_; clear H; rintro e w1 ⟨v5, rfl, hF, hB⟩ H; refine p_r ?_; replace hF := hF.kp); obtain ⟨b5, p5, m5, c5, rfl⟩ := hB.form; have HB5 := hid hB; clear hB)
 ((refine p_c H rfl rfl Tryz.func172 (rrounded_any mode (rl_one (bv HB5) HMP.out (by omega) (by omega)) (HT.out.fr H.fr) HX3) ?_; clear H; rintro e w1 ⟨rfl, hF⟩ H; refine p_r ?_; replace hF := hF.kp))
 refine p_q ?_
 (refine pl_done ?_)
 all_goals
  go_wp2_with fail
  go_ret
  exact ⟨rfl, H.fr⟩
theorem rquo_any {w : World} {va vb : Value} {x e y f : Int} (mode : Int) (ha : Dn w va x e) (hb : Dn w vb y f) (hx : x ≠ 0) (hy : y ≠ 0) (hbx : bl x.natAbs ≤ 20000) (hby : bl y.natAbs ≤ 20000) (he : -20000 ≤ e ∧ e ≤ 20000) (hf : -20000 ≤ f ∧ f ≤ 20000) (hT : La w) {X : Nat} (hX : Hid (X = rndF (!(decide (x < 0) == decide (y < 0))) mode x.natAbs y.natAbs (e - f))) :
  Calls Tryz.prog 114 #[va, vb, .int .i64 mode] w fun r w' => r = .returned (.int .u64 (X : Int)) ∧ Fr [] w w' := by
 have HD1 := hid ha
 have HD2 := hid hb
 have HX0 := hid hx
 have HY0 := hid hy
 obtain ⟨m1, e1, b1, p1, n1, c1, rfl, h1, h2⟩ := ha
 obtain ⟨m2, e2, b2, p2, n2, c2, rfl, k1, k2⟩ := hb
 have HT := hid hT
 clear h1 h2 k1 k2 hT hx hy
 have H := Hp.start [] w
 go_enter Tryz.func114, Tryz.ntmps114
 go_wp2_with (revert H; refine x_g ?_; intro g w1 hg hf H; replace hf := hf.kp)
 go_cut [3, 4] (fun s3 s4 wx => ∃ (g3 g4 : Nat) (m3 m4 e3 e4 : Int) (b3 b4 : Bool) (p3 p4 : Option Addr) (n3 c3 n4 c4 : Nat), s3 = .pointer (some ⟨g3, 0, none⟩) ∧ s4 = .pointer (some ⟨g4, 0, none⟩) ∧ Hp [] w wx [.blk g4 [.bool false, .bool b4, .slice p4 n4 c4, .int .i64 e4] 54, .blk g3 [.bool false, .bool b3, .slice p3 n3 c3, .int .i64 e3] 54] ∧ Hid (Nm x e m3 e3) ∧ Hid (Nm y f m4 e4) ∧ Hid (Bv wx (.agg #[.bool b3, .slice p3 n3 c3]) m3 (bl m3.natAbs)) ∧ Hid (Bv wx (.agg #[.bool b4, .slice p4 n4 c4]) m4 (bl m4.natAbs)))
 case first =>
  (revert H; refine w_pF 5 (.ld2 0 (.ld2 1 (.ld 2 (.ld 3 (.ld 4 (.ld 5 .done)))) 2 (.ld 1 (.ld 3 (.ld 4 (.ld 5 .done))))) 2 (.ld 0 (.ld 1 (.ld 3 (.ld 4 (.ld 5 .done)))))) ?_ (hs := (List.nil_sublist _)); intro w1 hf H; (first | replace hf := hf.kp | clear hf))
  (refine pl_ld2 ?_ ?_)
  (refine p_ldq (H := H) ?_)
  (refine pl_ld2 ?_ ?_)
  ((refine p_c H rfl rfl Tryz.func170 (rnormD_any (dn HD1) (by omega) (by omega) (by omega) (HT.out.fr H.fr)) ?_; clear H; rintro e w1 ⟨v3, rfl, hF, hD⟩ H; refine p_r ?_; replace hF := hF.kp); obtain ⟨m3, e3, b3, p3, n3, c3, rfl, hN, hB⟩ := hD; have HN3 := hid hN; have HB3 := hid hB; clear hN hB)
  (refine p_ldq (H := H) ?_)
  ((refine p_c H rfl rfl Tryz.func170 (rnormD_any (dn HD2) (by omega) (by omega) (by omega) (HT.out.fr H.fr)) ?_; clear H; rintro e w1 ⟨v4, rfl, hF, hD⟩ H; refine p_r ?_; replace hF := hF.kp); obtain ⟨m4, e4, b4, p4, n4, c4, rfl, hN, hB⟩ := hD; have HN4 := hid hN; have HB4 := hid hB; clear hN hB)
  (revert H; refine pSF ?_; intro w1 H hk)
  (revert H; refine pSF ?_; intro w1 H hk)
  (refine pl_done ?_)
  rotate_left
  (refine p_ldq (H := H) ?_)
  ((refine p_c H rfl rfl Tryz.func170 (rnormD_any (dn HD1) (by omega) (by omega) (by omega) (HT.out.fr H.fr)) ?_; clear H; rintro e w1 ⟨v3, rfl, hF, hD⟩ H; refine p_r ?_; replace hF := hF.kp); obtain ⟨m3, e3, b3, p3, n3, c3, rfl, hN, hB⟩ := hD; have HN3 := hid hN; have HB3 := hid hB; clear hN hB)
  ((refine p_c H rfl rfl Tryz.func170 (rnormD_any (dn HD2) (by omega) (by omega) (by omega) (HT.out.fr H.fr)) ?_; clear H; rintro e w1 ⟨v4, rfl, hF, hD⟩ H; refine p_r ?_; replace hF := hF.kp); obtain ⟨m4, e4, b4, p4, n4, c4, rfl, hN, hB⟩ := hD; have HN4 := hid hN; have HB4 := hid hB; clear hN hB)
  (revert H; refine pSF ?_; intro w1 H hk)
  (revert H; refine pSF ?_; intro w1 H hk)
  (refine pl_done ?_)
  rotate_left
  (refine p_ldq (H := H) ?_)
  (refine p_ldq (H := H) ?_)
  ((refine p_c H rfl rfl Tryz.func170 (rnormD_any (dn HD1) (by omega) (by omega) (by omega) (HT.out.fr H.fr)) ?_; clear H; rintro e w1 ⟨v3, rfl, hF, hD⟩ H; refine p_r ?_; replace hF := hF.kp); obtain ⟨m3, e3, b3, p3, n3, c3, rfl, hN, hB⟩ := hD; have HN3 := hid hN; have HB3 := hid hB; clear hN hB)
  ((refine p_c H rfl rfl Tryz.func170 (rnormD_any (dn HD2) (by omega) (by omega) (by omega) (HT.out.fr H.fr)) ?_; clear H; rintro e w1 ⟨v4, rfl, hF, hD⟩ H; refine p_r ?_; replace hF := hF.kp); obtain ⟨m4, e4, b4, p4, n4, c4, rfl, hN, hB⟩ := hD; have HN4 := hid hN; have HB4 := hid hB; clear hN hB)
  (revert H; refine pSF ?_; intro w1 H hk)
  (revert H; refine pSF ?_; intro w1 H hk)
  (refine pl_done ?_)
  rotate_left
  all_goals
   go_wp2_with fail
   go_meet
   case rel => exact ⟨_, _, _, _, _, _, _, _, _, _, _, _, _, _, rfl, rfl, by (refine Hp.arr H ?_; repeat (first | exact Pm.nil _ | (apply Pm.cons; · (repeat first | exact Rm.here _ | apply Rm.there)))), HN3, HN4, hid (bv HB3), hid (bv HB4)⟩
 case rest =>
  clear H
  obtain ⟨g3, g4, m3, m4, e3, e4, b3, b4, p3, p4, n3, c3, n4, c4, rfl, rfl, H, HN3, HN4, HB3, HB4⟩ := hcut
  have hl3 := HN3.out.le
  have hl4 := HN4.out.le
  have HM3 := hid (HN3.out.ne HX0.out)
  have HM4 := hid (HN4.out.ne HY0.out)
  obtain ⟨A, hA⟩ : ∃ A, m3.natAbs = A := ⟨_, rfl⟩
  obtain ⟨B, hB⟩ : ∃ B, m4.natAbs = B := ⟨_, rfl⟩
  have hA0 : A ≠ 0 := by have := HM3.out; omega
  have hB0 : B ≠ 0 := by have := HM4.out; omega
  have HX3 : Hid (X = rndF (!(b3 == b4)) mode A B (e3 - e4)) := hid (by
   rw [hX.out, ← (bv_bool HB3.out).trans HN3.out.neg, ← (bv_bool HB4.out).trans HN4.out.neg, ← hA, ← hB]
   exact (rnd_nm _ mode HN3.out HN4.out HX0.out HY0.out).symm)
  have HA := hid hA
  have HB := hid hB
  have hq3 : bl m3.natAbs ≤ 30000 := by omega
  have hq4 : bl m4.natAbs ≤ 30000 := by omega
  rw [hA] at hl3
  rw [hB] at hl4
  clear hA hB
  obtain ⟨j, hj⟩ : ∃ j : Nat, max (62 + (bl B : Int) - bl A) 0 = (j : Int) := ⟨(max (62 + (bl B : Int) - bl A) 0).toNat, by omega⟩
  obtain ⟨Q, hQ⟩ : ∃ Q, A * 2 ^ j / B = Q := ⟨_, rfl⟩
  obtain ⟨R, hR⟩ : ∃ R, decide (A * 2 ^ j % B ≠ 0) = R := ⟨_, rfl⟩
  have hq := ratio_bits (n := j) hA0 hB0 (by omega)
  have hbq : bl Q ≤ bl A + j := by rw [← hQ, ← bl_mul_pow hA0 j]; exact bl_mono (Nat.div_le_self _ _)
  rw [hQ] at hq
  have hq59 : 54 ≤ bl Q := by
   apply Classical.byContradiction
   intro hc
   have h3 := bl_lt Q
   have h4 : 2 ^ bl Q ≤ 2 ^ 53 := Nat.pow_le_pow_right (by decide) (by omega)
   omega
  have hjb : j ≤ 30000 := by omega
  have HJ := hid hj
  have HQ := hid hQ
  have HR := hid hR
  have HPOS : Hid (0 < A ∧ 0 < B ∧ Q ≠ 0) := hid ⟨by omega, by omega, by intro h; rw [h] at hq; simp at hq⟩
  clear hj hQ hR hq hA0
  have HB0 := hid hB0
  clear hB0
  go_wp2_with (first | refine x_q H ?_ | refine x_l H ?_)
  (refine x_c H (rsign_nz (bv HB4).ar (by omega) HM4.out) ?_; clear H; rintro e w1 ⟨s5, rfl, hs5, hF⟩ H; replace hF := hF.kp)
  go_wp2_with (first | refine x_q H ?_ | refine x_l H ?_)
  (refine x_c H (rsign_nz (bv HB3).ar (by omega) HM3.out) ?_; clear H; rintro e w1 ⟨s6, rfl, hs6, hF⟩ H; replace hF := hF.kp)
  go_wp2_with (refine x_q H ?_)
  (revert H; refine w_pF 15 (.st 0 (.st 1 (.st 3 (.st 4 (.ld2 2 (.ld2 5 (.ld2 6 (.st 7 (.st 8 (.st 9 (.st 10 (.ld 11 (.ld 12 (.st 13 (.st 14 .done)))))))) 11 (.ld 6 (.st 7 (.st 8 (.st 9 (.st 10 (.ld 12 (.st 13 (.st 14 .done))))))))) 11 (.ld 5 (.ld 6 (.st 7 (.st 8 (.st 9 (.st 10 (.ld 12 (.st 13 (.st 14 .done)))))))))) 11 (.ld 2 (.ld 5 (.ld 6 (.st 7 (.st 8 (.st 9 (.st 10 (.ld 12 (.st 13 (.st 14 .done))))))))))))))) ?_; intro w1 hf H; (first | replace hf := hf.kp | clear hf))
  refine p_q ?_
  (refine p_l ?_)
  refine p_q ?_
  (refine p_l ?_)
  (refine pl_ld2 ?_ ?_)
  ((refine p_c H rfl rfl Tryz.func132 (rabs_ar (bv HB3).ar (by omega)) ?_; clear H; rintro e w1 ⟨v7, rfl, hF, hB⟩ H; refine p_r ?_; replace hF := hF.kp); rw [HA.out] at hB; obtain ⟨b7, p7, m7, c7, rfl⟩ := hB.form; have HB7 := hid hB; clear hB)
  (refine pl_ld2 ?_ ?_)
  ((refine p_c H rfl rfl Tryz.func132 (rabs_ar (bv HB4).ar (by omega)) ?_; clear H; rintro e w1 ⟨v8, rfl, hF, hB⟩ H; refine p_r ?_; replace hF := hF.kp); rw [HB.out] at hB; obtain ⟨b8, p8, m8, c8, rfl⟩ := hB.form; have HB8 := hid hB; clear hB)
  (refine pl_ld2 ?_ ?_)
  ((refine p_c H rfl rfl Tryz.func171 (rratio_any (bv HB7).ar (bv HB8).ar (by omega) (by omega) HB0.out (by omega) (by omega) HJ.out HQ HR) ?_; clear H; rintro e w1 ⟨v9, rfl, hF, hB⟩ H; refine p_r ?_; replace hF := hF.kp); obtain ⟨b9, p9, m9, c9, rfl⟩ := hB.form; have HB9 := hid hB; clear hB)
  iterate 4 refine p_q ?_
  (revert H; refine p_g ?_; intro g w1 hg hf H; (first | replace hf := hf.kp | clear hf))
  (revert H; refine pSF ?_; intro w1 H hk)
  iterate 2 refine p_q ?_
  (refine pl_done ?_)
  rotate_left
  (revert H; refine p_g ?_; intro g w1 hg hf H; (first | replace hf := hf.kp | clear hf))
  ((refine p_c H rfl rfl Tryz.func171 (rratio_any (bv HB7).ar (bv HB8).ar (by omega) (by omega) HB0.out (by omega) (by omega) HJ.out HQ HR) ?_; clear H; rintro e w1 ⟨v9, rfl, hF, hB⟩ H; refine p_r ?_; replace hF := hF.kp); obtain ⟨b9, p9, m9, c9, rfl⟩ := hB.form; have HB9 := hid hB; clear hB)
  iterate 4 refine p_q ?_
  (revert H; refine pSF ?_; intro w1 H hk)
  iterate 2 refine p_q ?_
  (refine pl_done ?_)
  rotate_left
  (revert H; refine p_g ?_; intro g w1 hg hf H; (first | replace hf := hf.kp | clear hf))
  ((refine p_c H rfl rfl Tryz.func132 (rabs_ar (bv HB4).ar (by omega)) ?_; clear H; rintro e w1 ⟨v8, rfl, hF, hB⟩ H; refine p_r ?_; replace hF := hF.kp); rw [HB.out] at hB; obtain ⟨b8, p8, m8, c8, rfl⟩ := hB.form; have HB8 := hid hB; clear hB)
  ((refine p_c H rfl rfl Tryz.func171 (rratio_any (bv HB7).ar (bv HB8).ar (by omega) (by omega) HB0.out (by omega) (by omega) HJ.out HQ HR) ?_; clear H; rintro e w1 ⟨v9, rfl, hF, hB⟩ H; refine p_r ?_; replace hF := hF.kp); obtain ⟨b9, p9, m9, c9, rfl⟩ := hB.form; have HB9 := hid hB; clear hB)
  iterate 4 refine p_q ?_
  (revert H; refine pSF ?_; intro w1 H hk)
  iterate 2 refine p_q ?_
  (refine pl_done ?_)
  rotate_left
  (revert H; refine p_g ?_; intro g w1 hg hf H; (first | replace hf := hf.kp | clear hf))
  ((refine p_c H rfl rfl Tryz.func132 (rabs_ar (bv HB3).ar (by omega)) ?_; clear H; rintro e w1 ⟨v7, rfl, hF, hB⟩ H; refine p_r ?_; replace hF := hF.kp); rw [HA.out] at hB; obtain ⟨b7, p7, m7, c7, rfl⟩ := hB.form; have HB7 := hid hB; clear hB)
  ((refine p_c H rfl rfl Tryz.func132 (rabs_ar (bv HB4).ar (by omega)) ?_; clear H; rintro e w1 ⟨v8, rfl, hF, hB⟩ H; refine p_r ?_; replace hF := hF.kp); rw [HB.out] at hB; obtain ⟨b8, p8, m8, c8, rfl⟩ := hB.form; have HB8 := hid hB; clear hB)
  ((refine p_c H rfl rfl Tryz.func171 (rratio_any (bv HB7).ar (bv HB8).ar (by omega) (by omega) HB0.out (by omega) (by omega) HJ.out HQ HR) ?_; clear H; rintro e w1 ⟨v9, rfl, hF, hB⟩ H; refine p_r ?_; replace hF := hF.kp); obtain ⟨b9, p9, m9, c9, rfl⟩ := hB.form; have HB9 := hid hB; clear hB)
  iterate 4 refine p_q ?_
  (revert H; refine pSF ?_; intro w1 H hk)
  iterate 2 refine p_q ?_
  (refine pl_done ?_)
  rotate_left
  all_goals
   go_wp2_with (refine x_q H ?_)
   (refine x_c H (rrounded_any mode (E := e3 - e4) ⟨b9, p9, m9, c9, j, Q, _, R, rfl, bv HB9, HPOS.out.1, HPOS.out.2.1, HQ.out, HPOS.out.2.2, by omega, HR.out.symm, .inr hq59, by omega, by omega, by omega⟩ (HT.out.fr H.fr) HX3) ?_; clear H; rintro e w1 ⟨rfl, hF⟩ H; replace hF := hF.kp)
   go_wp2_with fail
   go_ret
   exact ⟨rfl, H.fr⟩
end Go.Proofs.YthbeeeclgbpopaaGreatDoor
