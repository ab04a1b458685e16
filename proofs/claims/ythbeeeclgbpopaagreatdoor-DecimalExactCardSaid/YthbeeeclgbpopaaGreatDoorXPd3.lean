/-
  The decimals: powers of ten.
-/
import Derived.Test.YthbeeeclgbpopaaGreatDoorXEa2
namespace Go.Proofs.YthbeeeclgbpopaaGreatDoor
open Go.RowKit
set_option linter.unusedSimpArgs false
set_option linter.unusedVariables false
set_option maxHeartbeats 8000000
set_option maxRecDepth 100000

theorem bl_ten (n : Nat) : bl (10 ^ n) ≤ 4 * n + 1 := bl_le (by
  have h1 : 10 ^ n ≤ 16 ^ n := Nat.pow_le_pow_left (by decide) n
  have h2 : (16 : Nat) ^ n = 2 ^ (4 * n) := by rw [Nat.pow_mul]
  rw [h2] at h1
  exact Nat.lt_of_le_of_lt h1 (Nat.pow_lt_pow_right (by decide) (by omega)))
theorem power_any (w : World) (n : Nat) (hn : n ≤ 5000) :
    Calls Tryz.prog 46 #[.int .i64 (n : Int)] w fun e w' => ∃ v1, e = .returned v1 ∧ Fr [] w w' ∧ Bv w' v1 ((10 ^ n : Nat) : Int) (bl (10 ^ n)) := by
  obtain ⟨P, hP⟩ : ∃ P, 10 ^ n = P := ⟨_, rfl⟩
  have hbP := bl_ten n
  have hP0 : 0 < P := by rw [← hP]; exact ten_pos n
  rw [hP] at hbP ⊢
  have HP := hid hP
  clear hP
  have H := Hp.start [] w
  go_enter Tryz.func46, Tryz.ntmps46
  go_wp2_with (revert H; (first | (refine x_g ?_; intro g w1 hg hf H) | (refine x_s ?_; intro w1 hf H)); (first | replace hf := hf.kp | clear hf))
  (refine x_c H (fromInt_ar _ 1 (by simp only [inr]; omega)) ?_; clear H; rintro e w1 ⟨v3, rfl, hF, hB⟩ H; replace hF := hF.kp; obtain ⟨b3, p3, m3, c3, rfl⟩ := hB.form; have HB3 := hid hB; clear hB)
  go_wp2_with fail
  (refine x_c H (fromInt_ar _ 10 (by simp only [inr]; omega)) ?_; clear H; rintro e w1 ⟨v4, rfl, hF, hB⟩ H; replace hF := hF.kp; obtain ⟨b4, p4, m4, c4, rfl⟩ := hB.form; have HB4 := hid hB; clear hB)
  go_wp2_with (first | (revert H; refine x_sF ?_; intro w1 hf H hk; clear hf; change Kp _ _ at hk) | (revert H; (first | (refine x_g ?_; intro g w1 hg hf H) | (refine x_s ?_; intro w1 hf H)); (first | replace hf := hf.kp | clear hf)))
  rename_i g2 wa ha fa wb Fb wc g3 wd hd fd we wf kf xa xb
  go_loopw [0] (fun s0 wr => ∃ (k out ten : Nat) (b3 b4 : Bool) (p3 p4 : Option Addr) (m3 c3 m4 c4 : Nat), s0 = .int .i64 (k : Int) ∧ k ≤ 5000 ∧ Hid (out * ten ^ k = P) ∧ bl ten ≤ 100000 ∧ Hp [] w wr [.blk g [.bool b4, .slice p4 m4 c4] 50, .blk g3 [.bool b3, .slice p3 m3 c3] 50, .blk g2 [.bool false, .slice none 0 0] 50] ∧ Hid (Bv wr (.agg #[.bool b3, .slice p3 m3 c3]) (out : Int) (bl out)) ∧ Hid (Bv wr (.agg #[.bool b4, .slice p4 m4 c4]) (ten : Int) (bl ten))) (fun v _ => (intOf v).toNat)
  case atStart => exact ⟨n, 1, 10, _, _, _, _, _, _, _, _, rfl, hn, hid (by rw [Nat.one_mul]; exact HP.out), by decide, H, hid (bv HB3).c, hid (bv HB4).c⟩
  case round =>
    clear H HB3 HB4
    obtain ⟨k, out, ten, b3, b4, p3, p4, m3, c3, m4, c4, rfl, hk5, HO, hbt, H, HB3, HB4⟩ := hrel
    have hout : bl out ≤ bl P := bl_mono (by
      have h := HO.out
      rcases Nat.eq_zero_or_pos (ten ^ k) with h0 | h0
      · rw [h0, Nat.mul_zero] at h; omega
      · rw [← h]; exact Nat.le_mul_of_pos_right _ h0)
    by_cases hk : k = 0
    · subst hk
      have HE : Hid (out = P) := hid (by have h := HO.out; rwa [Nat.pow_zero, Nat.mul_one] at h)
      clear HO
      go_wp2_with (first | refine x_q H ?_ | (revert H; refine x_sF ?_; intro w1 hf H hk; clear hf; change Kp _ _ at hk))
      refine c_post H rfl rfl rfl ?_
      exact ⟨_, rfl, H.fr, by rw [← HE.out]; exact bv HB3⟩
    · have hten : bl ten ≤ bl P := bl_mono (by
        have h := HO.out
        obtain ⟨j, rfl⟩ : ∃ j, k = j + 1 := ⟨k - 1, by omega⟩
        rw [Nat.pow_succ, ← Nat.mul_assoc] at h
        rw [← h]
        exact Nat.le_mul_of_pos_left _ (Nat.pos_of_ne_zero (fun h0 => by rw [h0, Nat.zero_mul] at h; omega)))
      have htt := bl_prod ten ten
      have hot := bl_prod out ten
      have hkk : (k : Int).tdiv 2 = ((k / 2 : Nat) : Int) := by rw [Int.tdiv_eq_ediv_of_nonneg (by omega)]; omega
      have hk2 : k / 2 < k := by omega
      have hPR := hid (pow_round HO.out)
      clear HO
      have hmod : (k : Int).tmod 2 = ((k % 2 : Nat) : Int) := by rw [Int.tmod_eq_emod_of_nonneg (by omega)]; omega
      by_cases h1 : k % 2 = 1
      · have HPR := hid (show out * ten * (ten * ten) ^ (k / 2) = P by have h := hPR.out; rwa [if_pos h1] at h)
        have hm1 : (k : Int).tmod 2 = 1 := by omega
        clear hPR
        go_wp2_with (refine x_q H ?_)
        (refine x_c H (mul_ar (bv HB3).ar (bv HB4).ar (by omega) (by omega)) ?_; clear H; rintro e w1 ⟨v5, rfl, hF, hB⟩ H; replace hF := hF.kp; replace hB := hB.c; rw [← Int.natCast_mul, Int.natAbs_natCast] at hB; obtain ⟨b5, p5, m5, c5, rfl⟩ := hB.form; have HB5 := hid hB; clear hB)
        go_wp2_with (first | refine x_q H ?_ | (revert H; refine x_sF ?_; intro w1 hf H hk; clear hf; change Kp _ _ at hk))
        (refine x_c H (mul_ar (bv HB4).ar (bv HB4).ar (by omega) (by omega)) ?_; clear H; rintro e w1 ⟨v6, rfl, hF, hB⟩ H; replace hF := hF.kp; replace hB := hB.c; rw [← Int.natCast_mul, Int.natAbs_natCast] at hB; obtain ⟨b6, p6, m6, c6, rfl⟩ := hB.form; have HB6 := hid hB; clear hB)
        go_wp2_with (first | refine x_q H ?_ | (revert H; refine x_sF ?_; intro w1 hf H hk; clear hf; change Kp _ _ at hk))
        go_roundw
        case rel => exact ⟨k / 2, out * ten, ten * ten, _, _, _, _, _, _, _, _, by first | rfl | rw [hkk], by omega, HPR, by omega, H, hid (bv HB5), hid (bv HB6)⟩
        case measure => (simp [intOf]; try omega)
      · have HPR := hid (show out * (ten * ten) ^ (k / 2) = P by have h := hPR.out; rwa [if_neg h1] at h)
        have hm1 : (k : Int).tmod 2 = 0 := by omega
        clear hPR
        go_wp2_with (refine x_q H ?_)
        (refine x_c H (mul_ar (bv HB4).ar (bv HB4).ar (by omega) (by omega)) ?_; clear H; rintro e w1 ⟨v6, rfl, hF, hB⟩ H; replace hF := hF.kp; replace hB := hB.c; rw [← Int.natCast_mul, Int.natAbs_natCast] at hB; obtain ⟨b6, p6, m6, c6, rfl⟩ := hB.form; have HB6 := hid hB; clear hB)
        go_wp2_with (first | refine x_q H ?_ | (revert H; refine x_sF ?_; intro w1 hf H hk; clear hf; change Kp _ _ at hk))
        go_roundw
        case rel => exact ⟨k / 2, out, ten * ten, _, _, _, _, _, _, _, _, by first | rfl | rw [hkk], by omega, HPR, by omega, H, hid (bv HB3), hid (bv HB6)⟩
        case measure => (simp [intOf]; try omega)
end Go.Proofs.YthbeeeclgbpopaaGreatDoor
