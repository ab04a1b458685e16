import Derived.Test.YthbeeeclgbpopaaGreatDoorYPz6
import Derived.Test.YthbeeeclgbpopaaGreatDoorYWa1
import Derived.Test.YthbeeeclgbpopaaGreatDoorYDc18
import Derived.Deep.DeepCutAuto
import Derived.Deep.CutBlock
namespace Go.Proofs.YthbeeeclgbpopaaGreatDoor
open Go.RowKit
set_option linter.unusedSimpArgs false
set_option linter.unusedVariables false
set_option maxHeartbeats 16000000
set_option maxRecDepth 100000

theorem rten_any {w : World} {u v : Value} {N D : Nat} {z : Int} (n : Int) (hz : z = n) (hu : Bv w u (N : Int) (bl N)) (hv : Bv w v (D : Int) (bl D)) (hN : bl N ≤ 10000) (hD : bl D ≤ 10000) (hn : -3000 ≤ n ∧ n ≤ 3000) {X Y : Nat} (hX : Hid (upN N n = X)) (hY : Hid (dnD D n = Y)) :
  Calls Tryz.prog 61 #[u, v, .int .i64 z] w fun r w' => ∃ v1 v2, r = .returned (.tuple #[v1, v2]) ∧ Fr [] w w' ∧ Bv w' v1 (X : Int) (bl X) ∧ Bv w' v2 (Y : Int) (bl Y) := by
 subst hz
 obtain ⟨b1, p1, m1, c1, rfl⟩ := hu.form
 obtain ⟨b2, p2, m2, c2, rfl⟩ := hv.form
 have HB1 := hid hu
 have HB2 := hid hv
 have hX1 := hX.out
 have hY1 := hY.out
 clear hu hv hX hY
 have H := Hp.start [] w
 by_cases h0 : 0 ≤ z
 ·obtain ⟨k, rfl⟩ := Int.eq_ofNat_of_zero_le h0
  have hbt := bl_ten k
  rw [up_pos] at hX1
  rw [dn_pos] at hY1
  subst hY1
  obtain ⟨T, hT⟩ : ∃ T, 10 ^ k = T := ⟨_, rfl⟩
  have HTT := hid hT
  rw [hT] at hbt hX1
  have HM : Hid ((N : Int) * (T : Int) = (X : Int)) := hid (by rw [← Int.natCast_mul, hX1])
  clear hT hX1
  go_enter Tryz.func61, Tryz.ntmps61
  go_wp2_with (revert H; refine x_g ?_; intro g w1 hg hf H; replace hf := hf.kp)
  (refine x_c H (rfromInt_ar _ 10 (by simp only [inr]; omega)) ?_; clear H; rintro e w1 ⟨v5, rfl, hF, hB⟩ H; replace hF := hF.kp; obtain ⟨b5, p5, m5, c5, rfl⟩ := hB.form; have HB5 := hid hB; clear hB)
  go_wp2_with (first | refine x_q H ?_ | (revert H; refine xSF ?_; intro w1 H hk) | (revert H; refine x_g ?_; intro g w1 hg hf H; replace hf := hf.kp))
  (revert H; refine w_pF 7 (.st 0 (.st 1 (.st 2 (.st 5 (.ld 3 (.ld 4 (.ld 6 (.ld 7 .done)))))))) ?_ (hs := (.cons_cons _ (.cons _ (.cons _ (List.Sublist.refl _))))); intro w1 hf H; (first | replace hf := hf.kp | clear hf))
  (refine p_l ?_)
  (refine p_l ?_)
  refine p_q ?_
  (refine p_l ?_)
  ((refine p_c H rfl rfl Tryz.func113 (rpower_any k rfl (bv HB5).ar (by omega) (by omega)) ?_; clear H; rintro e w1 ⟨v3, rfl, hF, hB⟩ H; refine p_r ?_; replace hF := hF.kp); rw [HTT.out] at hB; obtain ⟨b3, p3, m3, c3, rfl⟩ := hB.form; have HB3 := hid hB; clear hB)
  ((refine p_c H rfl rfl Tryz.func76 (rmul_ar (bv HB1).ar (bv HB3).ar (by omega) (by omega)) ?_; clear H; rintro e w1 ⟨v4, rfl, hF, hB⟩ H; refine p_r ?_; replace hF := hF.kp); replace hB := hB.c; rw [HM.out, Int.natAbs_natCast] at hB; obtain ⟨b4, p4, m4, c4, rfl⟩ := hB.form; have HB4 := hid hB; clear hB)
  (revert H; refine pSF ?_; intro w1 H hk)
  (revert H; refine pSF ?_; intro w1 H hk)
  (refine pl_done ?_)
  all_goals
   go_wp2_with fail
   refine c_postCC H rfl rfl rfl rfl rfl ?_
   exact ⟨_, _, rfl, H.fr, bv HB4, bv HB2⟩
 ·obtain ⟨k, hk⟩ := Int.eq_ofNat_of_zero_le (show 0 ≤ -z by omega)
  have hbt := bl_ten k
  rw [up_neg hk] at hX1
  rw [dn_neg hk] at hY1
  subst hX1
  obtain ⟨T, hT⟩ : ∃ T, 10 ^ k = T := ⟨_, rfl⟩
  have HTT := hid hT
  rw [hT] at hbt hY1
  have HM : Hid ((D : Int) * (T : Int) = (Y : Int)) := hid (by rw [← Int.natCast_mul, hY1])
  have HKK := hid hk
  have hk5 : k ≤ 3000 := by omega
  clear hT hY1 hk
  go_enter Tryz.func61, Tryz.ntmps61
  go_wp2_with (revert H; refine x_g ?_; intro g w1 hg hf H; replace hf := hf.kp)
  (refine x_c H (rfromInt_ar _ 10 (by simp only [inr]; omega)) ?_; clear H; rintro e w1 ⟨v5, rfl, hF, hB⟩ H; replace hF := hF.kp; obtain ⟨b5, p5, m5, c5, rfl⟩ := hB.form; have HB5 := hid hB; clear hB)
  go_wp2_with (first | refine x_q H ?_ | (revert H; refine xSF ?_; intro w1 H hk) | (revert H; refine x_g ?_; intro g w1 hg hf H; replace hf := hf.kp))
  (revert H; refine w_pF 8 (.st 0 (.st 1 (.st 2 (.st 3 (.st 4 (.ld 5 (.ld 6 (.ld 7 (.ld 8 .done))))))))) ?_ (hs := (.cons_cons _ (.cons _ (.cons _ (List.Sublist.refl _))))); intro w1 hf H; (first | replace hf := hf.kp | clear hf))
  (refine p_l ?_)
  (refine p_l ?_)
  (refine p_l ?_)
  refine p_q ?_
  (refine p_e rfl (fun w H => ev_negZ rfl rfl (by simp only [inr]; omega)) ?_)
  ((refine p_c H rfl rfl Tryz.func113 (rpower_any k HKK.out (bv HB5).ar (by omega) (by omega)) ?_; clear H; rintro e w1 ⟨v3, rfl, hF, hB⟩ H; refine p_r ?_; replace hF := hF.kp); rw [HTT.out] at hB; obtain ⟨b3, p3, m3, c3, rfl⟩ := hB.form; have HB3 := hid hB; clear hB)
  ((refine p_c H rfl rfl Tryz.func76 (rmul_ar (bv HB2).ar (bv HB3).ar (by omega) (by omega)) ?_; clear H; rintro e w1 ⟨v4, rfl, hF, hB⟩ H; refine p_r ?_; replace hF := hF.kp); replace hB := hB.c; rw [HM.out, Int.natAbs_natCast] at hB; obtain ⟨b4, p4, m4, c4, rfl⟩ := hB.form; have HB4 := hid hB; clear hB)
  (revert H; refine pSF ?_; intro w1 H hk)
  (revert H; refine pSF ?_; intro w1 H hk)
  (refine pl_done ?_)
  all_goals
   go_wp2_with fail
   refine c_postCC H rfl rfl rfl rfl rfl ?_
   exact ⟨_, _, rfl, H.fr, bv HB1, bv HB4⟩
set_option maxHeartbeats 32000000 in
theorem rdigits_any (w : World) {b z : Nat} {n : Nat} {y : Int} (hy : y = (n : Int)) (hb : b < 18446744073709551616) (hk : kindF b = 1) (hk2 : b / 4503599627370496 % 2048 ≠ 2047) (hz : Hid (b % 9223372036854775808 = z)) (h0 : 0 < z) (hz1 : z < 9218868437227405312) (hn1 : 1 ≤ n) (hn2 : n ≤ 800) (hT : La w) :
  Calls Tryz.prog 24 #[.int .u64 (b : Int), .int .i64 y] w fun r w' => ∃ ds x, r = .returned (.tuple #[strV ds, .int .i64 x, .int .i64 0]) ∧ Fr [] w w' ∧ Dgs z n ds x := by
 subst hy
 have HK := hid hk
 have HK2 := hid hk2
 have HT := hid hT
 have HDF := hid (dF_pos z)
 have HNF := hid (nF_pos h0)
 obtain ⟨mb1, mb2, mb3⟩ := man_bounds hz1
 have hbm : bl (manF z) ≤ 53 := bl_le (by omega)
 have hbp := bl_pos (show manF z ≠ 0 by have := manF_pos h0; omega)
 obtain ⟨e, he⟩ : ∃ e, expoF z + bl (manF z) - 1 = e := ⟨_, rfl⟩
 have hee : -1100 ≤ e ∧ e < 1100 := by omega
 have HTOP := hid (kD_top hz1 h0 he)
 have hkr := kD_range hee.1 hee.2
 obtain ⟨kk0, hkk0⟩ : ∃ k, kD e = k := ⟨_, rfl⟩
 rw [hkk0] at HTOP hkr
 have HKD : Hid ((e * 30103).tdiv 100000 = kk0 - 2) := hid (by have := hkk0; unfold kD at this; omega)
 have HE := hid he
 clear hk hk2 hT mb1 mb2 mb3 hbm hbp he hkk0
 have H := Hp.start [] w
 go_enter Tryz.func24, Tryz.ntmps24
 go_wp2_with fail
 (refine x_c H (rkind_any _ hb HK) ?_; clear H; rintro e w1 ⟨rfl, hF⟩ H; replace hF := hF.kp)
 go_wp2_with (refine x_q H ?_)
 (refine x_c H (rfraction_any _ hb HK2.out hz h0 hz1 (HT.out.fr H.fr)) ?_; clear H; rintro e w1 ⟨v3, v4, rfl, hF, N, D, hB, hB2, hN0, hD0, hND, hNb, hDb⟩ H; replace hF := hF.kp; obtain ⟨b3, p3, m3, c3, rfl⟩ := hB.form; have HB3 := hid hB; clear hB; obtain ⟨b4, p4, m4, c4, rfl⟩ := hB2.form; have HB4 := hid hB2; clear hB2)
 have HND := hid hND
 have HP := hid hN0
 have HPD := hid hD0
 clear hND
 go_wp2_with (first | (revert H; refine xSF ?_; intro w1 H hk) | (revert H; refine x_g ?_; intro g w1 hg hf H; replace hf := hf.kp))
 (refine x_c H (rexponent_any _ hb HK HK2.out hz h0 hz1 (HT.out.fr H.fr) HE.out) ?_; clear H; rintro e w1 ⟨rfl, hF⟩ H; replace hF := hF.kp)
 have HT0 := hid (fun h => HTOP.out ((tenLe_same HNF.out HP.out HDF.out HPD.out HND.out (kk0 + 1)).1 h))
 have HLOW := hid ((tenLe_same HNF.out HP.out HDF.out HPD.out HND.out (-330)).2 (ten_low h0 hz1))
 go_upto_region 7 with (first | refine x_q H ?_ | refine x_cm (fun h => ?_) (fun h => ?_) | (revert H; (first | (refine x_g ?_; intro g w1 hg hf H) | (refine x_s ?_; intro w1 hf H)); (first | replace hf := hf.kp | clear hf)))
 go_cut [7, 8, 11] (fun s7 s8 s11 wx => ∃ g7 g8 : Nat, s7 = .pointer (some ⟨g7, 0, none⟩) ∧ s8 = .pointer (some ⟨g8, 0, none⟩) ∧ s11 = .int .i64 kk0 ∧ Hp [] w wx [.blk g8 [.bool b4, .slice p4 m4 c4] 50, .blk g7 [.bool b3, .slice p3 m3 c3] 50] ∧ Hid (Bv wx (.agg #[.bool b3, .slice p3 m3 c3]) (N : Int) (bl N)) ∧ Hid (Bv wx (.agg #[.bool b4, .slice p4 m4 c4]) (D : Int) (bl D)))
 case first =>
  go_wp2_with (refine x_e (ev_quoT rfl rfl HKD) ?_)
  go_meet
  case rel => exact ⟨_, _, rfl, rfl, by first | rfl | go_num, by (refine Hp.arr H ?_; repeat (first | exact Pm.nil _ | (apply Pm.cons; · (repeat first | exact Rm.here _ | apply Rm.there)))), hid (bv HB3), hid (bv HB4)⟩
 case rest =>
  clear H HB3 HB4
  obtain ⟨g7, g8, rfl, rfl, rfl, H, HB3, HB4⟩ := hcut
  go_wp2_with fail
  go_loopw [11] (fun s11 wr => ∃ k : Int, s11 = .int .i64 k ∧ k ≤ 340 ∧ Hid (¬ tenLe N D (k + 1)) ∧ Hid (Bv wr (.agg #[.bool b3, .slice p3 m3 c3]) (N : Int) (bl N)) ∧ Hid (Bv wr (.agg #[.bool b4, .slice p4 m4 c4]) (D : Int) (bl D)) ∧ Hp [] w wr [.blk g8 [.bool b4, .slice p4 m4 c4] 50, .blk g7 [.bool b3, .slice p3 m3 c3] 50]) (fun v _ => (intOf v + 400).toNat)
  case atStart => exact ⟨kk0, rfl, by omega, HT0, hid (bv HB3), hid (bv HB4), H⟩
  case round =>
   clear H HT0 HB3 HB4
   obtain ⟨k, rfl, hk1, HT2, HB3, HB4, H⟩ := hrel
   have hk3 : -330 ≤ k := by
    apply Classical.byContradiction
    intro hc
    exact HT2.out (tenLe_mono HLOW.out (by omega))
   have hbu := bl_upN (N := N) (n := -k) (by omega)
   have hbd := bl_dnD (N := D) (n := -k) (by omega)
   obtain ⟨X, hX⟩ : ∃ X, upN N (-k) = X := ⟨_, rfl⟩
   obtain ⟨Y, hY⟩ : ∃ X, dnD D (-k) = X := ⟨_, rfl⟩
   have HIF : Hid (tenLe N D k ↔ Y ≤ X) := hid (by unfold tenLe; rw [hX, hY])
   rw [hX] at hbu
   rw [hY] at hbd
   have HX := hid hX
   have HY := hid hY
   clear hX hY
   go_wp2_with (first | refine x_q H ?_ | refine x_e (ev_negZ rfl rfl (by simp only [inr]; omega)) ?_)
   (refine x_c H (rten_any (-k) rfl (bv HB3) (bv HB4) (by omega) (by omega) (by omega) HX HY) ?_; clear H; rintro e w1 ⟨v5, v6, rfl, hF, hB, hB2⟩ H; replace hF := hF.kp; obtain ⟨b5, p5, m5, c5, rfl⟩ := hB.form; have HB5 := hid hB; clear hB; obtain ⟨b6, p6, m6, c6, rfl⟩ := hB2.form; have HB6 := hid hB2; clear hB2)
   go_wp2_with (first | refine x_q H ?_ | (revert H; refine xSF ?_; intro w1 H hk) | (revert H; refine x_g ?_; intro g w1 hg hf H; replace hf := hf.kp))
   (refine x_c H (rcmp_ar (bv HB5).ar (bv HB6).ar (by omega) (by omega)) ?_; clear H; rintro e w1 ⟨rfl, hF⟩ H; replace hF := hF.kp)
   by_cases hlt : X < Y
   ·rw [cmpZ_lt (show (X : Int) < (Y : Int) by omega)]
    go_wp2_with (refine x_q H ?_)
    go_roundw
    case rel => exact ⟨k - 1, rfl, by omega, hid (by rw [show k - 1 + 1 = k by omega]; exact fun h => by have := HIF.out.1 h; omega), hid (bv HB3), hid (bv HB4), by (refine Hp.arr H ?_; repeat (first | exact Pm.nil _ | (apply Pm.cons; · (repeat first | exact Rm.here _ | apply Rm.there))))⟩
    case measure => (simp [intOf]; try omega)
   ·have hc0 : 0 ≤ cmpZ (X : Int) (Y : Int) := by unfold cmpZ; rw [if_neg (by omega)]; split <;> decide
    obtain ⟨c, hc⟩ : ∃ c, cmpZ (X : Int) (Y : Int) = c := ⟨_, rfl⟩
    rw [hc] at hc0 ⊢
    have HTa := hid ((tenLe_same HNF.out HP.out HDF.out HPD.out HND.out k).1 (HIF.out.2 (by omega)))
    have HTb := hid (fun h => HT2.out ((tenLe_same HNF.out HP.out HDF.out HPD.out HND.out (k + 1)).2 h))
    clear hc HIF HX HY HB5 HB6 hbu hbd hlt HT2
    have hbu := bl_upN (N := N) (n := (n : Int) - 1 - k) (by omega)
    have hbd := bl_dnD (N := D) (n := (n : Int) - 1 - k) (by omega)
    have hyp : 0 < dnD D ((n : Int) - 1 - k) := Nat.mul_pos HPD.out (ten_pos _)
    have hqe : rm false 0 (upN N ((n : Int) - 1 - k)) (dnD D ((n : Int) - 1 - k)) = near (nF z) (dF z) ((n : Int) - 1 - k) := near_same HDF.out HPD.out HND.out _
    have hqs := near_size (n := n) HDF.out hn1 HTa.out HTb.out
    obtain ⟨R, hR⟩ : ∃ q, near (nF z) (dF z) ((n : Int) - 1 - k) = q := ⟨_, rfl⟩
    rw [hR] at hqe hqs
    have hqb : bl R ≤ 4 * n + 1 := Nat.le_trans (bl_mono hqs.2) (bl_ten n)
    have hR1 : 1 ≤ R := Nat.le_trans (ten_pos _) hqs.1
    obtain ⟨l, hl⟩ : ∃ l, dec R = l := ⟨_, rfl⟩
    have HL := hid hl
    have HDG : Hid (∀ ds x, ds = l.take n → x = (if n < l.length then k + 1 else k) → Dgs z n ds x) := hid (fun ds x h1 h2 => ⟨k, HTa.out, HTb.out, by rw [hR, hl]; exact h1, by rw [hR, hl]; exact h2⟩)
    obtain ⟨X2, hX2⟩ : ∃ X, upN N ((n : Int) - 1 - k) = X := ⟨_, rfl⟩
    obtain ⟨Y2, hY2⟩ : ∃ X, dnD D ((n : Int) - 1 - k) = X := ⟨_, rfl⟩
    rw [hX2, hY2] at hqe
    rw [hX2] at hbu
    rw [hY2] at hbd hyp
    have HX2 := hid hX2
    have HY2 := hid hY2
    have hrY : X2 % Y2 < Y2 := Nat.mod_lt _ hyp
    have hrb := bl_mono (Nat.le_of_lt hrY)
    have hqq := bl_mono (Nat.div_le_self X2 Y2)
    have hC : (R = X2 / Y2 ∧ cmpZ ((2 * (X2 % Y2) : Nat) : Int) (Y2 : Int) = -1) ∨ (R = X2 / Y2 + 1 ∧ cmpZ ((2 * (X2 % Y2) : Nat) : Int) (Y2 : Int) = 1) ∨ (R = X2 / Y2 ∧ X2 / Y2 % 2 ≠ 1 ∧ cmpZ ((2 * (X2 % Y2) : Nat) : Int) (Y2 : Int) = 0) ∨ (R = X2 / Y2 + 1 ∧ X2 / Y2 % 2 = 1 ∧ cmpZ ((2 * (X2 % Y2) : Nat) : Int) (Y2 : Int) = 0) := by
     rcases Nat.lt_trichotomy (2 * (X2 % Y2)) Y2 with h | h | h
     ·exact .inl ⟨by rw [← hqe, rm_lt h], cmpZ_lt (by omega)⟩
     ·have hz := cmpZ_eq (Y2 : Int)
      rw [show ((2 * (X2 % Y2) : Nat) : Int) = (Y2 : Int) by omega]
      have he2 := rm_eq hyp h
      rw [hqe] at he2
      by_cases h1 : X2 / Y2 % 2 = 1
      ·exact .inr (.inr (.inr ⟨by rw [he2, if_pos h1], h1, hz⟩))
      ·exact .inr (.inr (.inl ⟨by rw [he2, if_neg h1], h1, hz⟩))
     ·exact .inr (.inl ⟨by rw [← hqe, rm_gt h], cmpZ_gt (by omega)⟩)
    have HQ : Hid ((X2 : Int) / (Y2 : Int) = ((X2 / Y2 : Nat) : Int)) := hid (Int.natCast_ediv X2 Y2).symm
    have HR : Hid ((X2 : Int) % (Y2 : Int) = ((X2 % Y2 : Nat) : Int)) := hid (Int.natCast_emod X2 Y2).symm
    obtain ⟨q, hq⟩ : ∃ q, X2 / Y2 = q := ⟨_, rfl⟩
    obtain ⟨r, hr⟩ : ∃ q, X2 % Y2 = q := ⟨_, rfl⟩
    rw [hq] at hC HQ hqq
    rw [hr] at hC HR hrb hrY
    have HC := hid hC
    have HR2 : Hid ((r : Int) * 2 ^ 1 = ((2 * r : Nat) : Int)) := hid (by rw [Int.pow_succ, Int.pow_zero]; omega)
    have hb2r : bl (2 * r) ≤ bl r + 1 := bl_le (by have := bl_lt r; rw [Nat.pow_succ]; omega)
    have HY0 := hid (show (Y2 : Int) ≠ 0 by omega)
    clear hR hl hX2 hY2 hqe hqs hC hq hr HTa HTb HND HNF HDF HLOW HE HTOP HKD
    go_wp2_with (refine x_q H ?_)
    (refine x_c H (rten_any ((n : Int) - 1 - k) rfl (bv HB3) (bv HB4) (by omega) (by omega) (by omega) HX2 HY2) ?_; clear H; rintro e w1 ⟨v7, v8, rfl, hF, hB, hB2⟩ H; replace hF := hF.kp; obtain ⟨b7, p7, m7, c7, rfl⟩ := hB.form; have HB7 := hid hB; clear hB; obtain ⟨b8, p8, m8, c8, rfl⟩ := hB2.form; have HB8 := hid hB2; clear hB2)
    go_wp2_with (first | refine x_q H ?_ | (revert H; refine xSF ?_; intro w1 H hk) | (revert H; refine x_g ?_; intro g w1 hg hf H; replace hf := hf.kp))
    (refine x_c H (rdivMod_ar (bv HB7).ar (bv HB8).ar (by omega) (by omega) HY0.out) ?_; clear H; rintro e w1 ⟨v9, v10, rfl, hF, hB, hB2⟩ H; replace hF := hF.kp; replace hB := hB.c; replace hB2 := hB2.c; rw [HQ.out, Int.natAbs_natCast] at hB; rw [HR.out, Int.natAbs_natCast] at hB2; obtain ⟨b9, p9, m9, c9, rfl⟩ := hB.form; have HB9 := hid hB; clear hB; obtain ⟨b10, p10, m10, c10, rfl⟩ := hB2.form; have HB10 := hid hB2; clear hB2)
    go_wp2_with (first | (revert H; refine xSF ?_; intro w1 H hk) | (revert H; refine x_g ?_; intro g w1 hg hf H; replace hf := hf.kp))
    (revert H; refine w_pF 5 (.st 0 (.st 2 (.ld 1 (.ld 3 (.st 4 .done))))) ?_; intro w1 hf H; (first | replace hf := hf.kp | clear hf))
    (refine p_l ?_)
    (refine p_l ?_)
    ((refine p_c H rfl rfl Tryz.func64 (rshiftUpZ_any 1 rfl (bv HB10).ar (by omega) (by omega)) ?_; clear H; rintro e w1 ⟨v11, rfl, hF, hB⟩ H; refine p_r ?_; replace hF := hF.kp); rw [HR2.out] at hB; replace hB := hB.c; rw [Int.natAbs_natCast] at hB; obtain ⟨b11, p11, m11, c11, rfl⟩ := hB.form; have HB11 := hid hB; clear hB)
    ((refine p_c H rfl rfl Tryz.func62 (rcmp_ar (bv HB11).ar (bv HB8).ar (by omega) (by omega)) ?_; clear H; rintro e w1 ⟨rfl, hF⟩ H; refine p_r ?_; replace hF := hF.kp))
    refine p_q ?_
    (refine pl_done ?_)
    all_goals
     rcases HC.out with ⟨hRq, hcc⟩ | ⟨hRq, hcc⟩ | ⟨hRq, hod, hcc⟩ | ⟨hRq, hod, hcc⟩
     ·rw [hcc]
      subst hRq
      clear hcc HC
      go_wp2_with (refine x_q H ?_)
      (refine x_c H (rformatN_any (bv HB9).ar (by omega) HL) ?_; clear H; rintro e w1 ⟨rfl, hF⟩ H; replace hF := hF.kp)
      by_cases hlt : n < l.length
      ·have HTK : Hid (l.take (n : Int).toNat = l.take n) := hid rfl
       go_wp2_with (first | refine x_q H ?_ | refine x_e (ev_strLen rfl rfl) ?_ | refine x_e (ev_strHead rfl rfl rfl HTK) ?_)
       refine bodyPost_ret (results_tmp3 rfl _ _ _) rfl ?_
       exact ⟨_, _, rfl, H.fr, HDG.out _ _ rfl (by rw [if_pos hlt])⟩
      ·have HTK : Hid (l = l.take n) := hid (List.take_of_length_le (by omega)).symm
       go_wp2_with (first | refine x_q H ?_ | refine x_e (ev_strLen rfl rfl) ?_)
       refine bodyPost_ret (results_tmp3 rfl _ _ _) rfl ?_
       exact ⟨_, _, rfl, H.fr, HDG.out _ _ HTK.out (by rw [if_neg hlt])⟩
     ·rw [hcc]
      subst hRq
      clear hcc HC
      go_wp2_with (refine x_q H ?_)
      (revert H; refine w_pF 3 (.st 0 (.ld 1 (.ld 2 (.ld 3 .done)))) ?_; intro w1 hf H; (first | replace hf := hf.kp | clear hf))
      (refine p_l ?_)
      ((refine p_c H rfl rfl Tryz.func67 (rfromInt_ar _ 1 (by simp only [inr]; omega)) ?_; clear H; rintro e w1 ⟨v12, rfl, hF, hB⟩ H; refine p_r ?_; replace hF := hF.kp); obtain ⟨b12, p12, m12, c12, rfl⟩ := hB.form; have HB12 := hid hB; clear hB)
      ((refine p_c H rfl rfl Tryz.func66 (radd_ar (bv HB9).ar (bv HB12).ar (by omega) (by omega)) ?_; clear H; rintro e w1 ⟨v13, rfl, hF, hB⟩ H; refine p_r ?_; replace hF := hF.kp); replace hB := hB.c; rw [show (q : Int) + 1 = ((q + 1 : Nat) : Int) from rfl, Int.natAbs_natCast] at hB; obtain ⟨b13, p13, m13, c13, rfl⟩ := hB.form; have HB13 := hid hB; clear hB)
      (revert H; refine pSF ?_; intro w1 H hk)
      (refine pl_done ?_)
      all_goals
       go_wp2_with (refine x_q H ?_)
       (refine x_c H (rformatN_any (bv HB13).ar (by omega) HL) ?_; clear H; rintro e w1 ⟨rfl, hF⟩ H; replace hF := hF.kp)
       by_cases hlt : n < l.length
       ·have HTK : Hid (l.take (n : Int).toNat = l.take n) := hid rfl
        go_wp2_with (first | refine x_q H ?_ | refine x_e (ev_strLen rfl rfl) ?_ | refine x_e (ev_strHead rfl rfl rfl HTK) ?_)
        refine bodyPost_ret (results_tmp3 rfl _ _ _) rfl ?_
        exact ⟨_, _, rfl, H.fr, HDG.out _ _ rfl (by rw [if_pos hlt])⟩
       ·have HTK : Hid (l = l.take n) := hid (List.take_of_length_le (by omega)).symm
        go_wp2_with (first | refine x_q H ?_ | refine x_e (ev_strLen rfl rfl) ?_)
        refine bodyPost_ret (results_tmp3 rfl _ _ _) rfl ?_
        exact ⟨_, _, rfl, H.fr, HDG.out _ _ HTK.out (by rw [if_neg hlt])⟩
     ·rw [hcc]
      subst hRq
      obtain ⟨j, hj⟩ := tzP (show R ≠ 0 by omega) hod
      have HZ := hid hj
      clear hcc HC hj hod
      go_wp2_with (refine x_q H ?_)
      (refine x_c H (rTrailing_ar (bv HB9).ar (by omega) (HT.out.fr H.fr).1) ?_; clear H; rintro e w1 ⟨rfl, hF⟩ H; replace hF := hF.kp; rw [Int.natAbs_natCast, HZ.out])
      go_wp2_with (refine x_q H ?_)
      (refine x_c H (rformatN_any (bv HB9).ar (by omega) HL) ?_; clear H; rintro e w1 ⟨rfl, hF⟩ H; replace hF := hF.kp)
      by_cases hlt : n < l.length
      ·have HTK : Hid (l.take (n : Int).toNat = l.take n) := hid rfl
       go_wp2_with (first | refine x_q H ?_ | refine x_e (ev_strLen rfl rfl) ?_ | refine x_e (ev_strHead rfl rfl rfl HTK) ?_)
       refine bodyPost_ret (results_tmp3 rfl _ _ _) rfl ?_
       exact ⟨_, _, rfl, H.fr, HDG.out _ _ rfl (by rw [if_pos hlt])⟩
      ·have HTK : Hid (l = l.take n) := hid (List.take_of_length_le (by omega)).symm
       go_wp2_with (first | refine x_q H ?_ | refine x_e (ev_strLen rfl rfl) ?_)
       refine bodyPost_ret (results_tmp3 rfl _ _ _) rfl ?_
       exact ⟨_, _, rfl, H.fr, HDG.out _ _ HTK.out (by rw [if_neg hlt])⟩
     ·rw [hcc]
      subst hRq
      have HZ := hid (tz_odd hod)
      clear hcc HC hod
      go_wp2_with (refine x_q H ?_)
      (refine x_c H (rTrailing_ar (bv HB9).ar (by omega) (HT.out.fr H.fr).1) ?_; clear H; rintro e w1 ⟨rfl, hF⟩ H; replace hF := hF.kp; rw [Int.natAbs_natCast, HZ.out])
      go_wp2_with (refine x_q H ?_)
      (revert H; refine w_pF 3 (.st 0 (.ld 1 (.ld 2 (.ld 3 .done)))) ?_; intro w1 hf H; (first | replace hf := hf.kp | clear hf))
      (refine p_l ?_)
      ((refine p_c H rfl rfl Tryz.func67 (rfromInt_ar _ 1 (by simp only [inr]; omega)) ?_; clear H; rintro e w1 ⟨v12, rfl, hF, hB⟩ H; refine p_r ?_; replace hF := hF.kp); obtain ⟨b12, p12, m12, c12, rfl⟩ := hB.form; have HB12 := hid hB; clear hB)
      ((refine p_c H rfl rfl Tryz.func66 (radd_ar (bv HB9).ar (bv HB12).ar (by omega) (by omega)) ?_; clear H; rintro e w1 ⟨v13, rfl, hF, hB⟩ H; refine p_r ?_; replace hF := hF.kp); replace hB := hB.c; rw [show (q : Int) + 1 = ((q + 1 : Nat) : Int) from rfl, Int.natAbs_natCast] at hB; obtain ⟨b13, p13, m13, c13, rfl⟩ := hB.form; have HB13 := hid hB; clear hB)
      (revert H; refine pSF ?_; intro w1 H hk)
      (refine pl_done ?_)
      all_goals
       go_wp2_with (refine x_q H ?_)
       (refine x_c H (rformatN_any (bv HB13).ar (by omega) HL) ?_; clear H; rintro e w1 ⟨rfl, hF⟩ H; replace hF := hF.kp)
       by_cases hlt : n < l.length
       ·have HTK : Hid (l.take (n : Int).toNat = l.take n) := hid rfl
        go_wp2_with (first | refine x_q H ?_ | refine x_e (ev_strLen rfl rfl) ?_ | refine x_e (ev_strHead rfl rfl rfl HTK) ?_)
        refine bodyPost_ret (results_tmp3 rfl _ _ _) rfl ?_
        exact ⟨_, _, rfl, H.fr, HDG.out _ _ rfl (by rw [if_pos hlt])⟩
       ·have HTK : Hid (l = l.take n) := hid (List.take_of_length_le (by omega)).symm
        go_wp2_with (first | refine x_q H ?_ | refine x_e (ev_strLen rfl rfl) ?_)
        refine bodyPost_ret (results_tmp3 rfl _ _ _) rfl ?_
        exact ⟨_, _, rfl, H.fr, HDG.out _ _ HTK.out (by rw [if_neg hlt])⟩
end Go.Proofs.YthbeeeclgbpopaaGreatDoor
