/-
  The walk of IntegerDivides.
-/
import Derived.Test.YtpmebjhlgdhchaaDoorIz7
namespace Go.Proofs.YtpmebjhlgdhchaaDoor
open Go.RowKit
set_option linter.unusedSimpArgs false
set_option linter.unusedVariables false
set_option maxHeartbeats 4000000
set_option maxRecDepth 100000

theorem divMod_un {w : World} {u v : Value} {x y : Int} {n m : Nat} (h : Av w u x n) (k : Av w v y m) (hn : n ≤ 200000) (hm : m ≤ 200000) :
    Calls Tryd.prog 10 #[u, v] w fun e w' => ∃ (v1 v2 : Value) (e0 r0 : Int), e = .returned (.tuple #[v1, v2, .int .i64 e0]) ∧ Fr [] w w' ∧ Bv w' v1 (x / y) n ∧ Bv w' v2 r0 m ∧ Hid ((y = 0 → e0 = 8 ∧ r0 = 0) ∧ (y ≠ 0 → e0 = 0 ∧ r0 = x % y)) := by
  by_cases h0 : y = 0
  · refine Calls.mono (divMod_zar h k hn hm h0) ?_
    rintro e w' ⟨v1, v2, rfl, hF, b1, b2⟩
    exact ⟨v1, v2, 8, 0, rfl, hF, by rw [h0, Int.ediv_zero]; exact b1.mono (Nat.zero_le _), b2.mono (Nat.zero_le _), hid ⟨fun _ => ⟨rfl, rfl⟩, fun e => absurd h0 e⟩⟩
  · refine Calls.mono (divMod_ar h k hn hm h0) ?_
    rintro e w' ⟨v1, v2, rfl, hF, b1, b2⟩
    exact ⟨v1, v2, 0, x % y, rfl, hF, b1, b2, hid ⟨fun e => absurd e h0, fun _ => ⟨rfl, rfl⟩⟩⟩
theorem quo_un {w : World} {u v : Value} {x y : Int} {n m : Nat} (h : Av w u x n) (k : Av w v y m) (hn : n ≤ 200000) (hm : m ≤ 200000) :
    Calls Tryd.prog 11 #[u, v] w fun e w' => ∃ (v1 : Value) (f0 q0 : Int), e = .returned (.tuple #[v1, .int .i64 f0]) ∧ Fr [] w w' ∧ Bv w' v1 q0 n ∧ Hid ((y = 0 → f0 = 8 ∧ q0 = 0) ∧ (y ≠ 0 → x % y = 0 → f0 = 0 ∧ q0 = x / y) ∧ (y ≠ 0 → x % y ≠ 0 → f0 = 10 ∧ q0 = 0)) := by
  by_cases h0 : y = 0
  · refine Calls.mono (quo_zar h k hn hm h0) ?_
    rintro e w' ⟨v1, rfl, hF, b1⟩
    exact ⟨v1, 8, 0, rfl, hF, b1.mono (Nat.zero_le _), hid ⟨fun _ => ⟨rfl, rfl⟩, fun e => absurd h0 e, fun e => absurd h0 e⟩⟩
  · by_cases hr : x % y = 0
    · refine Calls.mono (quo_ar h k hn hm h0 hr) ?_
      rintro e w' ⟨v1, rfl, hF, b1⟩
      exact ⟨v1, 0, x / y, rfl, hF, b1, hid ⟨fun e => absurd e h0, fun _ _ => ⟨rfl, rfl⟩, fun _ e => absurd hr e⟩⟩
    · refine Calls.mono (quo_bad h k hn hm h0 hr) ?_
      rintro e w' ⟨v1, rfl, hF, b1⟩
      exact ⟨v1, 10, 0, rfl, hF, b1.mono (Nat.zero_le _), hid ⟨fun e => absurd e h0, fun _ e => absurd e hr, fun _ _ => ⟨rfl, rfl⟩⟩⟩
set_option maxHeartbeats 32000000 in
theorem integerDivides_walk (W : World) (hL : laidMetH Tryd.prog laid3 W) (v0 : Value) (o0 : IsBig W v0) (v1 : Value) (o1 : IsBig W v1) :
    Calls Tryd.prog 3 #[v0, v1] W fun e w' => e = .returned (.bool true) ∧ Fr [] W w' := by
  obtain ⟨na, p, c, la, rfl, hL0⟩ := o0
  obtain ⟨nb, q, d, lb, rfl, hL1⟩ := o1
  have HT := hid (laid_pow hL)
  have H := Hp.start [] W
  have hll0 := hL0.len
  have hll1 := hL1.len
  clear hL
  by_cases h1 : (40 : Int) < la.length
  · go_enter Tryd.func3, Tryd.ntmps3
    go_wp2_with (first | refine x_q H ?_ | refine x_cm (fun h => ?_) (fun h => ?_) | (revert H; (first | (refine x_g ?_; intro g w1 hg hf H) | (refine x_s ?_; intro w1 hf H)); (first | replace hf := hf.kp | clear hf)))
    (refine x_c H (slim_no (hL0.fr H.fr) h1) ?_; clear H; rintro e w1 ⟨rfl, hF⟩ H; replace hF := hF.kp; skip)
    go_wp2_with (first | refine x_q H ?_ | refine x_cm (fun h => ?_) (fun h => ?_) | (revert H; (first | (refine x_g ?_; intro g w1 hg hf H) | (refine x_s ?_; intro w1 hf H)); (first | replace hf := hf.kp | clear hf)))
    ((refine x_c H (awake_any _ (TabIs.fr HT.out H.fr)) ?_; clear H; rintro e w1 ⟨rfl, hF⟩ H; replace hF := hF.kp; skip); go_wp2_with (first | refine x_q H ?_ | refine x_cm (fun h => ?_) (fun h => ?_) | (revert H; (first | (refine x_g ?_; intro g w1 hg hf H) | (refine x_s ?_; intro w1 hf H)); (first | replace hf := hf.kp | clear hf))); go_ret; exact ⟨rfl, H.fr⟩)
  have HA1 : Hid (Av W (.agg #[.bool na, .slice p la.length c]) (zv na la) 40) := hid ⟨na, la, p, c, rfl, hL0, rfl, by omega⟩
  by_cases h2 : (40 : Int) < lb.length
  · go_enter Tryd.func3, Tryd.ntmps3
    go_wp2_with (first | refine x_q H ?_ | refine x_cm (fun h => ?_) (fun h => ?_) | (revert H; (first | (refine x_g ?_; intro g w1 hg hf H) | (refine x_s ?_; intro w1 hf H)); (first | replace hf := hf.kp | clear hf)))
    (refine x_c H (slim_ar (av HA1) (by omega) (by omega)) ?_; clear H; rintro e w1 ⟨rfl, hF⟩ H; replace hF := hF.kp; skip)
    go_wp2_with (first | refine x_q H ?_ | refine x_cm (fun h => ?_) (fun h => ?_) | (revert H; (first | (refine x_g ?_; intro g w1 hg hf H) | (refine x_s ?_; intro w1 hf H)); (first | replace hf := hf.kp | clear hf)))
    (refine x_c H (slim_no (hL1.fr H.fr) h2) ?_; clear H; rintro e w1 ⟨rfl, hF⟩ H; replace hF := hF.kp; skip)
    go_wp2_with (first | refine x_q H ?_ | refine x_cm (fun h => ?_) (fun h => ?_) | (revert H; (first | (refine x_g ?_; intro g w1 hg hf H) | (refine x_s ?_; intro w1 hf H)); (first | replace hf := hf.kp | clear hf)))
    ((refine x_c H (awake_any _ (TabIs.fr HT.out H.fr)) ?_; clear H; rintro e w1 ⟨rfl, hF⟩ H; replace hF := hF.kp; skip); go_wp2_with (first | refine x_q H ?_ | refine x_cm (fun h => ?_) (fun h => ?_) | (revert H; (first | (refine x_g ?_; intro g w1 hg hf H) | (refine x_s ?_; intro w1 hf H)); (first | replace hf := hf.kp | clear hf))); go_ret; exact ⟨rfl, H.fr⟩)
  have HA2 : Hid (Av W (.agg #[.bool nb, .slice q lb.length d]) (zv nb lb) 40) := hid ⟨nb, lb, q, d, rfl, hL1, rfl, by omega⟩
  clear h1 hL0 hll0 h2 hL1 hll1
  generalize zv na la = x at HA1
  generalize zv nb lb = y at HA2
  generalize la.length = n1 at HA1 ⊢
  generalize lb.length = n2 at HA2 ⊢
  go_enter Tryd.func3, Tryd.ntmps3
  go_wp2_with (first | refine x_q H ?_ | refine x_cm (fun h => ?_) (fun h => ?_) | (revert H; (first | (refine x_g ?_; intro g w1 hg hf H) | (refine x_s ?_; intro w1 hf H)); (first | replace hf := hf.kp | clear hf)))
  (refine x_c H (slim_ar (av HA1) (by omega) (by omega)) ?_; clear H; rintro e w1 ⟨rfl, hF⟩ H; replace hF := hF.kp; skip)
  go_wp2_with (first | refine x_q H ?_)
  (refine x_c H (slim_ar (av HA2) (by omega) (by omega)) ?_; clear H; rintro e w1 ⟨rfl, hF⟩ H; replace hF := hF.kp; skip)
  go_wp2_with (first | refine x_q H ?_ | refine x_cm (fun h => ?_) (fun h => ?_) | (revert H; (first | (refine x_g ?_; intro g w1 hg hf H) | (refine x_s ?_; intro w1 hf H)); (first | replace hf := hf.kp | clear hf)))
  (refine x_c H (divMod_un (av HA1) (av HA2) (by omega) (by omega)) ?_; clear H; rintro e w1 ⟨v1, v2, e0, r0, rfl, hF, hB, hB', he0⟩ H; replace hF := hF.kp; obtain ⟨b1, p1, m1, c1, rfl⟩ := hB.form; have HB1 := hid hB; clear hB; have hB := hB'; clear hB'; obtain ⟨b2, p2, m2, c2, rfl⟩ := hB.form; have HB2 := hid hB; clear hB)
  go_wp2_with (first | refine x_q H ?_ | refine x_cm (fun h => ?_) (fun h => ?_) | (revert H; refine x_s2 ?_; intro w1 hf H hk; clear hf; change Kp _ _ at hk) | (revert H; (first | (refine x_g ?_; intro g w1 hg hf H) | (refine x_s ?_; intro w1 hf H)); (first | replace hf := hf.kp | clear hf)))
  (refine x_c H (quo_un (av HA1) (av HA2) (by omega) (by omega)) ?_; clear H; rintro e w1 ⟨v3, f0, q0, rfl, hF, hB, hf0⟩ H; replace hF := hF.kp; obtain ⟨b3, p3, m3, c3, rfl⟩ := hB.form; have HB3 := hid hB; clear hB)
  go_wp2_with (first | refine x_q H ?_ | refine x_cm (fun h => ?_) (fun h => ?_) | (revert H; refine x_s2 ?_; intro w1 hf H hk; clear hf; change Kp _ _ at hk) | (revert H; (first | (refine x_g ?_; intro g w1 hg hf H) | (refine x_s ?_; intro w1 hf H)); (first | replace hf := hf.kp | clear hf)))
  (revert H; refine w_pF 8 (.st 0 (.st 1 (.st 3 (.st 4 (.ld 2 (.ld 5 (.ld 6 (.st 7 .done)))))))) ?_; intro w1 hf H; (first | replace hf := hf.kp | clear hf))
  iterate 4 refine p_q ?_
  ((refine p_c H rfl rfl Tryd.func13 (gcd_ar (av HA1) (av HA2) (by omega) (by omega)) ?_; clear H; rintro e w1 ⟨v8, rfl, hF, hB⟩ H; refine p_r ?_; replace hF := hF.kp); have HB8 := hid hB; clear hB)
  ((refine p_c H rfl rfl Tryd.func14 (rgcd_ar (av HA1) (av HA2) (by omega) (by omega)) ?_; clear H; rintro e w1 ⟨v9, rfl, hF, hB⟩ H; refine p_r ?_; replace hF := hF.kp); have HB9 := hid hB; clear hB)
  ((refine p_c H rfl rfl Tryd.func12 (same_eq (bv HB8) (bv HB9) rfl) ?_; clear H; rintro e w1 ⟨rfl, hF⟩ H; refine p_r ?_; replace hF := hF.kp); skip)
  refine p_q ?_
  (refine pl_done ?_)
  clear HB8 HB9
  go_wp2_with (first | refine x_q H ?_)
  by_cases h0 : y = 0
  · obtain ⟨rfl, rfl⟩ := he0.out.1 h0
    obtain ⟨rfl, rfl⟩ := hf0.out.1 h0
    have h0 := hid h0
    (refine x_c H (rsign_is0 (av HA2) (by omega) h0.out) ?_; clear H; rintro e w1 ⟨rfl, hF⟩ H; replace hF := hF.kp; skip)
    go_wp2_with (first | refine x_q H ?_)
    (refine x_c H (same_eq (bv HB1) (bv_zero _) (by rw [h0.out, Int.ediv_zero])) ?_; clear H; rintro e w1 ⟨rfl, hF⟩ H; replace hF := hF.kp; skip)
    go_wp2_with (first | refine x_q H ?_)
    (refine x_c H (same_eq (bv HB2) (bv_zero _) rfl) ?_; clear H; rintro e w1 ⟨rfl, hF⟩ H; replace hF := hF.kp; skip)
    go_wp2_with (first | refine x_q H ?_)
    (refine x_c H (same_eq (bv HB3) (bv_zero _) rfl) ?_; clear H; rintro e w1 ⟨rfl, hF⟩ H; replace hF := hF.kp; skip)
    go_wp2_with (first | refine x_q H ?_)
    ((refine x_c H (awake_any _ (TabIs.fr HT.out H.fr)) ?_; clear H; rintro e w1 ⟨rfl, hF⟩ H; replace hF := hF.kp; skip); go_wp2_with (first | refine x_q H ?_ | refine x_cm (fun h => ?_) (fun h => ?_) | (revert H; (first | (refine x_g ?_; intro g w1 hg hf H) | (refine x_s ?_; intro w1 hf H)); (first | replace hf := hf.kp | clear hf))); go_ret; exact ⟨rfl, H.fr⟩)
  · obtain ⟨rfl, rfl⟩ := he0.out.2 h0
    have hs : Int.sign y ≠ 0 := fun e => h0 (Int.sign_eq_zero_iff_zero.1 e)
    have hs2 : Int.sign y < 0 ∨ 0 < Int.sign y := by omega
    have h0 := hid h0
    (refine x_c H (rsign_ar (av HA2) (by omega)) ?_; clear H; rintro e w1 ⟨rfl, hF⟩ H; replace hF := hF.kp; skip)
    generalize Int.sign y = sy at *
    go_wp2_with (first | refine x_q H ?_)
    (refine x_c H (rdivMod_ar (av HA1) (av HA2) (by omega) (by omega) h0.out) ?_; clear H; rintro e w1 ⟨v4, v5, rfl, hF, hB, hB'⟩ H; replace hF := hF.kp; obtain ⟨b4, p4, m4, c4, rfl⟩ := hB.form; have HB4 := hid hB; clear hB; have hB := hB'; clear hB'; obtain ⟨b5, p5, m5, c5, rfl⟩ := hB.form; have HB5 := hid hB; clear hB)
    go_wp2_with (first | refine x_q H ?_ | refine x_cm (fun h => ?_) (fun h => ?_) | (revert H; refine x_s2 ?_; intro w1 hf H hk; clear hf; change Kp _ _ at hk) | (revert H; (first | (refine x_g ?_; intro g w1 hg hf H) | (refine x_s ?_; intro w1 hf H)); (first | replace hf := hf.kp | clear hf)))
    (refine x_c H (same_eq (bv HB1) (bv HB4) rfl) ?_; clear H; rintro e w1 ⟨rfl, hF⟩ H; replace hF := hF.kp; skip)
    go_wp2_with (first | refine x_q H ?_)
    (refine x_c H (same_eq (bv HB2) (bv HB5) rfl) ?_; clear H; rintro e w1 ⟨rfl, hF⟩ H; replace hF := hF.kp; skip)
    go_wp2_with (first | refine x_q H ?_)
    by_cases hr : x % y = 0
    · obtain ⟨rfl, rfl⟩ := hf0.out.2.1 h0.out hr
      have hr := hid hr
      (refine x_c H (rsign_is0 (bv HB5).ar (by omega) hr.out) ?_; clear H; rintro e w1 ⟨rfl, hF⟩ H; replace hF := hF.kp; skip)
      go_wp2_with (first | refine x_q H ?_)
      (refine x_c H (same_eq (bv HB3) (bv HB4) rfl) ?_; clear H; rintro e w1 ⟨rfl, hF⟩ H; replace hF := hF.kp; skip)
      go_wp2_with (first | refine x_q H ?_)
      ((refine x_c H (awake_any _ (TabIs.fr HT.out H.fr)) ?_; clear H; rintro e w1 ⟨rfl, hF⟩ H; replace hF := hF.kp; skip); go_wp2_with (first | refine x_q H ?_ | refine x_cm (fun h => ?_) (fun h => ?_) | (revert H; (first | (refine x_g ?_; intro g w1 hg hf H) | (refine x_s ?_; intro w1 hf H)); (first | replace hf := hf.kp | clear hf))); go_ret; exact ⟨rfl, H.fr⟩)
    · obtain ⟨rfl, rfl⟩ := hf0.out.2.2 h0.out hr
      have hrp := hid (show 0 < x % y by have := Int.emod_nonneg x h0.out; omega)
      clear hr
      (refine x_c H (rsign_pos (bv HB5).ar (by omega) hrp.out) ?_; clear H; rintro e w1 ⟨s5, rfl, hs5, hF⟩ H; replace hF := hF.kp; skip)
      go_wp2_with (first | refine x_q H ?_)
      (refine x_c H (same_eq (bv HB3) (bv_zero _) rfl) ?_; clear H; rintro e w1 ⟨rfl, hF⟩ H; replace hF := hF.kp; skip)
      go_wp2_with (first | refine x_q H ?_)
      ((refine x_c H (awake_any _ (TabIs.fr HT.out H.fr)) ?_; clear H; rintro e w1 ⟨rfl, hF⟩ H; replace hF := hF.kp; skip); go_wp2_with (first | refine x_q H ?_ | refine x_cm (fun h => ?_) (fun h => ?_) | (revert H; (first | (refine x_g ?_; intro g w1 hg hf H) | (refine x_s ?_; intro w1 hf H)); (first | replace hf := hf.kp | clear hf))); go_ret; exact ⟨rfl, H.fr⟩)
end Go.Proofs.YtpmebjhlgdhchaaDoor
