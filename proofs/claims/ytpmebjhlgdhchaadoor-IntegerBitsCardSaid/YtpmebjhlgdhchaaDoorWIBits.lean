/-
  The walk of IntegerBits.
-/
import Derived.Test.YtpmebjhlgdhchaaDoorIz10
namespace Go.Proofs.YtpmebjhlgdhchaaDoor
open Go.RowKit
set_option linter.unusedSimpArgs false
set_option linter.unusedVariables false
set_option maxHeartbeats 4000000
set_option maxRecDepth 100000

theorem shift_un {w : World} {u : Value} {x : Int} {n : Nat} (z : Int) (h : Av w u x n) (hn : n ≤ 100000) (hz : -9223372036854775808 ≤ z ∧ z ≤ 9223372036854775807) :
    Calls Tryd.prog 37 #[u, .int .i64 z] w fun e w' => ∃ (v1 : Value) (e0 z0 : Int) (N : Nat), e = .returned (.tuple #[v1, .int .i64 e0]) ∧ Fr [] w w' ∧ Bv w' v1 z0 N ∧ Hid ((z < -1048576 ∨ 1048576 < z → e0 = 3 ∧ z0 = 0) ∧ (-1048576 ≤ z ∧ z ≤ 1048576 → e0 = 0 ∧ z0 = shiftZ x z)) := by
  by_cases hr : z < -1048576 ∨ 1048576 < z
  · obtain ⟨na, la, p, c, rfl, h1, rfl, h3⟩ := h
    refine Calls.mono (shift_far na la rfl (by omega) hr hz h1) ?_
    rintro e w' ⟨v1, rfl, hF, hB⟩
    exact ⟨v1, 3, 0, _, rfl, hF, ⟨hB, Nat.le_refl _⟩, hid ⟨fun _ => ⟨rfl, rfl⟩, fun k => by omega⟩⟩
  · by_cases h0 : 0 ≤ z
    · obtain ⟨k, rfl⟩ := Int.eq_ofNat_of_zero_le h0
      refine Calls.mono (shiftUp_ar k h (by omega) (by omega)) ?_
      rintro e w' ⟨v1, rfl, hF, hB⟩
      exact ⟨v1, 0, _, _, rfl, hF, hB, hid ⟨fun k => by omega, fun _ => ⟨rfl, by unfold shiftZ; rw [if_pos h0, Int.toNat_natCast]⟩⟩⟩
    · obtain ⟨k, rfl⟩ : ∃ k : Nat, z = -(k : Int) := ⟨z.natAbs, by omega⟩
      refine Calls.mono (shiftDown_ar k h (by omega) (by omega)) ?_
      rintro e w' ⟨v1, rfl, hF, hB⟩
      exact ⟨v1, 0, _, _, rfl, hF, hB, hid ⟨fun k => by omega, fun _ => ⟨rfl, by unfold shiftZ; rw [if_neg h0, Int.neg_neg, Int.toNat_natCast]⟩⟩⟩
theorem rshift_un {w : World} {u : Value} {x : Int} {n : Nat} (z : Int) (h : Av w u x n) (hn : n ≤ 100000) (hz : -1048576 ≤ z ∧ z ≤ 1048576) :
    Calls Tryd.prog 43 #[u, .int .i64 z] w fun e w' => ∃ (v1 : Value) (N : Nat), e = .returned v1 ∧ Fr [] w w' ∧ Bv w' v1 (shiftZ x z) N := by
  by_cases h0 : 0 ≤ z
  · obtain ⟨k, rfl⟩ := Int.eq_ofNat_of_zero_le h0
    refine Calls.mono (rshiftUp_ar k h (by omega) (by omega)) ?_
    rintro e w' ⟨v1, rfl, hF, hB⟩
    exact ⟨v1, _, rfl, hF, by unfold shiftZ; rw [if_pos h0, Int.toNat_natCast]; exact hB⟩
  · obtain ⟨k, rfl⟩ : ∃ k : Nat, z = -(k : Int) := ⟨z.natAbs, by omega⟩
    refine Calls.mono (rshiftDown_ar k h (by omega) (by omega) (by omega)) ?_
    rintro e w' ⟨v1, rfl, hF, hB⟩
    exact ⟨v1, _, rfl, hF, by unfold shiftZ; rw [if_neg h0, Int.neg_neg, Int.toNat_natCast]; exact hB⟩
theorem sqrt_un {w : World} {u : Value} {x : Int} {n : Nat} (r : Nat) (h : Av w u x n) (hn : n ≤ 100000) (hr : IsRoot x.natAbs r) :
    Calls Tryd.prog 38 #[u] w fun e w' => ∃ (v1 : Value) (e0 z0 : Int) (N : Nat), e = .returned (.tuple #[v1, .int .i64 e0]) ∧ Fr [] w w' ∧ Bv w' v1 z0 N ∧ Hid ((x < 0 → e0 = 11 ∧ z0 = 0) ∧ (0 ≤ x → e0 = 0 ∧ z0 = (r : Int))) := by
  by_cases h0 : x < 0
  · obtain ⟨na, la, p, c, rfl, h1, rfl, h3⟩ := h
    refine Calls.mono (sqrt_neg na la rfl (by omega) h0 h1) ?_
    rintro e w' ⟨v1, rfl, hF, hB⟩
    exact ⟨v1, 11, 0, _, rfl, hF, ⟨hB, Nat.le_refl _⟩, hid ⟨fun _ => ⟨rfl, rfl⟩, fun k => by omega⟩⟩
  · refine Calls.mono (sqrt_ar r h (by omega) (by omega) hr) ?_
    rintro e w' ⟨v1, rfl, hF, hB⟩
    exact ⟨v1, 0, _, _, rfl, hF, hB, hid ⟨fun k => absurd k h0, fun _ => ⟨rfl, rfl⟩⟩⟩
set_option maxHeartbeats 32000000 in
theorem integerBits_walk (W : World) (hL : laidMetH Tryd.prog laid3 W) (v0 : Value) (o0 : IsBig W v0) (a9 : Int) (w9 : (Lit.int .i64 a9).wf = true) :
    Calls Tryd.prog 5 #[v0, .int .i64 a9] W fun e w' => e = .returned (.bool true) ∧ Fr [] W w' := by
  obtain ⟨na, p, c, la, rfl, hL0⟩ := o0
  have HT := hid (laid_pow hL)
  have HTB := hid (laid_tab32 hL)
  have w8 : -9223372036854775808 ≤ a9 ∧ a9 ≤ 9223372036854775807 := by have h := w9; simp [Lit.wf, IntKind.min, IntKind.max, IntKind.bits, IntKind.signed] at h; omega
  clear w9
  have H := Hp.start [] W
  have hll0 := hL0.len
  clear hL
  by_cases h1 : (40 : Int) < la.length
  · go_enter Tryd.func5, Tryd.ntmps5
    go_wp2_with (first | refine x_q H ?_ | refine x_cm (fun h => ?_) (fun h => ?_) | (revert H; (first | (refine x_g ?_; intro g w1 hg hf H) | (refine x_s ?_; intro w1 hf H)); (first | replace hf := hf.kp | clear hf)))
    (refine x_c H (slim_no (hL0.fr H.fr) h1) ?_; clear H; rintro e w1 ⟨rfl, hF⟩ H; replace hF := hF.kp; skip)
    go_wp2_with (first | refine x_q H ?_ | refine x_cm (fun h => ?_) (fun h => ?_) | (revert H; (first | (refine x_g ?_; intro g w1 hg hf H) | (refine x_s ?_; intro w1 hf H)); (first | replace hf := hf.kp | clear hf)))
    ((refine x_c H (awake_any _ (TabIs.fr HT.out H.fr)) ?_; clear H; rintro e w1 ⟨rfl, hF⟩ H; replace hF := hF.kp; skip); go_wp2_with (first | refine x_q H ?_ | refine x_cm (fun h => ?_) (fun h => ?_) | (revert H; (first | (refine x_g ?_; intro g w1 hg hf H) | (refine x_s ?_; intro w1 hf H)); (first | replace hf := hf.kp | clear hf))); go_ret; exact ⟨rfl, H.fr⟩)
  have HA1 : Hid (Av W (.agg #[.bool na, .slice p la.length c]) (zv na la) 40) := hid ⟨na, la, p, c, rfl, hL0, rfl, by omega⟩
  clear h1 hL0 hll0
  generalize zv na la = x at HA1
  generalize la.length = n1 at HA1 ⊢
  obtain ⟨r, hr⟩ := root_ex x.natAbs
  have HR := hid hr
  clear hr
  go_enter Tryd.func5, Tryd.ntmps5
  go_wp2_with (first | refine x_q H ?_ | refine x_cm (fun h => ?_) (fun h => ?_) | (revert H; (first | (refine x_g ?_; intro g w1 hg hf H) | (refine x_s ?_; intro w1 hf H)); (first | replace hf := hf.kp | clear hf)))
  (refine x_c H (slim_ar (av HA1) (by omega) (by omega)) ?_; clear H; rintro e w1 ⟨rfl, hF⟩ H; replace hF := hF.kp; skip)
  go_wp2_with (first | refine x_q H ?_ | refine x_cm (fun h => ?_) (fun h => ?_) | (revert H; (first | (refine x_g ?_; intro g w1 hg hf H) | (refine x_s ?_; intro w1 hf H)); (first | replace hf := hf.kp | clear hf)))
  (refine x_c H (shift_un a9 (av HA1) (by omega) w8) ?_; clear H; rintro e w1 ⟨v1, e0, z0, N1, rfl, hF, hB, he0⟩ H; replace hF := hF.kp; obtain ⟨b1, p1, m1, c1, rfl⟩ := hB.form; have HB1 := hid hB; clear hB)
  go_wp2_with (first | refine x_q H ?_ | refine x_cm (fun h => ?_) (fun h => ?_) | (revert H; refine x_s2 ?_; intro w1 hf H hk; clear hf; change Kp _ _ at hk) | (revert H; (first | (refine x_g ?_; intro g w1 hg hf H) | (refine x_s ?_; intro w1 hf H)); (first | replace hf := hf.kp | clear hf)))
  (refine x_c H (sqrt_un r (av HA1) (by omega) HR.out) ?_; clear H; rintro e w1 ⟨v2, f0, s0, N2, rfl, hF, hB, hf0⟩ H; replace hF := hF.kp; obtain ⟨b2, p2, m2, c2, rfl⟩ := hB.form; have HB2 := hid hB; clear hB)
  go_wp2_with (first | refine x_q H ?_ | refine x_cm (fun h => ?_) (fun h => ?_) | (revert H; refine x_s2 ?_; intro w1 hf H hk; clear hf; change Kp _ _ at hk) | (revert H; (first | (refine x_g ?_; intro g w1 hg hf H) | (refine x_s ?_; intro w1 hf H)); (first | replace hf := hf.kp | clear hf)))
  (revert H; refine w_pF 12 (.st 0 (.st 2 (.ld 1 (.ld 3 (.st 4 (.st 5 (.st 6 (.st 8 (.ld 7 (.ld 9 (.st 10 (.st 11 .done)))))))))))) ?_; intro w1 hf H; (first | replace hf := hf.kp | clear hf))
  iterate 2 refine p_q ?_
  ((refine p_c H rfl rfl Tryd.func39 (bitLen_ar (av HA1) (by omega)) ?_; clear H; rintro e w1 ⟨rfl, hF⟩ H; refine p_r ?_; replace hF := hF.kp); skip)
  ((refine p_c H rfl rfl Tryd.func40 (rBitLen_ar (av HA1) (by omega)) ?_; clear H; rintro e w1 ⟨rfl, hF⟩ H; refine p_r ?_; replace hF := hF.kp); skip)
  iterate 2 refine p_q ?_
  iterate 2 (first | refine p_q ?_ | refine p_n ?_)
  ((refine p_c H rfl rfl Tryd.func41 (trailing_ar (av HA1) (by omega) (TabAt.fr HTB.out H.fr)) ?_; clear H; rintro e w1 ⟨rfl, hF⟩ H; refine p_r ?_; replace hF := hF.kp); skip)
  ((refine p_c H rfl rfl Tryd.func42 (rTrailing_ar (av HA1) (by omega) (TabAt.fr HTB.out H.fr)) ?_; clear H; rintro e w1 ⟨rfl, hF⟩ H; refine p_r ?_; replace hF := hF.kp); skip)
  (first | refine p_q ?_ | refine p_n ?_)
  refine p_q ?_
  (refine pl_done ?_)
  by_cases hz : a9 < -1048576 ∨ 1048576 < a9
  · obtain ⟨rfl, rfl⟩ := he0.out.1 hz
    rcases hz with hz | hz
    all_goals
      go_wp2_with (first | refine x_q H ?_ | refine x_cm (fun h => ?_) (fun h => ?_) | (revert H; (first | (refine x_g ?_; intro g w1 hg hf H) | (refine x_s ?_; intro w1 hf H)); (first | replace hf := hf.kp | clear hf)))
      (refine x_c H (same_eq (bv HB1) (bv_zero _) rfl) ?_; clear H; rintro e w1 ⟨rfl, hF⟩ H; replace hF := hF.kp; skip)
      go_wp2_with (first | refine x_q H ?_ | refine x_cm (fun h => ?_) (fun h => ?_) | (revert H; (first | (refine x_g ?_; intro g w1 hg hf H) | (refine x_s ?_; intro w1 hf H)); (first | replace hf := hf.kp | clear hf)))
      clear HB1
      by_cases hx0 : x < 0
      · obtain ⟨rfl, rfl⟩ := hf0.out.1 hx0
        (refine x_c H (rsign_lt (av HA1) (by omega) hx0) ?_; clear H; rintro e w1 ⟨s, rfl, hs, hF⟩ H; replace hF := hF.kp; skip)
        clear hx0
        go_wp2_with (first | refine x_q H ?_ | refine x_cm (fun h => ?_) (fun h => ?_) | (revert H; (first | (refine x_g ?_; intro g w1 hg hf H) | (refine x_s ?_; intro w1 hf H)); (first | replace hf := hf.kp | clear hf)))
        (refine x_c H (same_eq (bv HB2) (bv_zero _) rfl) ?_; clear H; rintro e w1 ⟨rfl, hF⟩ H; replace hF := hF.kp; skip)
        go_wp2_with (first | refine x_q H ?_ | refine x_cm (fun h => ?_) (fun h => ?_) | (revert H; (first | (refine x_g ?_; intro g w1 hg hf H) | (refine x_s ?_; intro w1 hf H)); (first | replace hf := hf.kp | clear hf)))
        ((refine x_c H (awake_any _ (TabIs.fr HT.out H.fr)) ?_; clear H; rintro e w1 ⟨rfl, hF⟩ H; replace hF := hF.kp; skip); go_wp2_with (first | refine x_q H ?_ | refine x_cm (fun h => ?_) (fun h => ?_) | (revert H; (first | (refine x_g ?_; intro g w1 hg hf H) | (refine x_s ?_; intro w1 hf H)); (first | replace hf := hf.kp | clear hf))); go_ret; exact ⟨rfl, H.fr⟩)
      · have hx1 : 0 ≤ x := by omega
        obtain ⟨rfl, rfl⟩ := hf0.out.2 hx1
        have HX := hid hx1
        (refine x_c H (rsign_ge (av HA1) (by omega) hx1) ?_; clear H; rintro e w1 ⟨s, rfl, hs, hF⟩ H; replace hF := hF.kp; skip)
        clear hx0 hx1
        go_wp2_with (first | refine x_q H ?_ | refine x_cm (fun h => ?_) (fun h => ?_) | (revert H; (first | (refine x_g ?_; intro g w1 hg hf H) | (refine x_s ?_; intro w1 hf H)); (first | replace hf := hf.kp | clear hf)))
        (revert H; refine w_pF 12 (.st 0 (.st 1 (.st 2 (.st 3 (.st 4 (.ld 5 (.ld 6 (.st 7 (.st 8 (.ld 9 (.st 10 (.st 11 .done)))))))))))) ?_; intro w1 hf H; (first | replace hf := hf.kp | clear hf))
        iterate 3 refine p_q ?_
        iterate 2 (first | refine p_q ?_ | refine p_n ?_)
        ((refine p_c H rfl rfl Tryd.func44 (rsqrt_ar r (av HA1) (by omega) HX.out HR.out) ?_; clear H; rintro e w1 ⟨v4, rfl, hF, hB⟩ H; refine p_r ?_; replace hF := hF.kp); have HB4 := hid hB; clear hB)
        ((refine p_c H rfl rfl Tryd.func12 (same_eq (bv HB2) (bv HB4) rfl) ?_; clear H; rintro e w1 ⟨rfl, hF⟩ H; refine p_r ?_; replace hF := hF.kp); skip)
        iterate 2 refine p_q ?_
        ((refine p_c H rfl rfl Tryd.func9 (awake_any _ (TabIs.fr HT.out H.fr)) ?_; clear H; rintro e w1 ⟨rfl, hF⟩ H; refine p_r ?_; replace hF := hF.kp); skip)
        iterate 2 refine p_q ?_
        (refine pl_done ?_)
        go_wp2_with (first | refine x_q H ?_ | refine x_cm (fun h => ?_) (fun h => ?_) | (revert H; (first | (refine x_g ?_; intro g w1 hg hf H) | (refine x_s ?_; intro w1 hf H)); (first | replace hf := hf.kp | clear hf)))
        go_ret
        exact ⟨rfl, H.fr⟩
  · have hz2 : -1048576 ≤ a9 ∧ a9 ≤ 1048576 := by omega
    obtain ⟨rfl, rfl⟩ := he0.out.2 hz2
    obtain ⟨hz3, hz4⟩ := hz2
    clear hz
    go_wp2_with (first | refine x_q H ?_ | refine x_cm (fun h => ?_) (fun h => ?_) | (revert H; (first | (refine x_g ?_; intro g w1 hg hf H) | (refine x_s ?_; intro w1 hf H)); (first | replace hf := hf.kp | clear hf)))
    (revert H; refine w_pF 10 (.st 0 (.st 1 (.st 2 (.st 3 (.st 4 (.st 5 (.ld 6 (.ld 7 (.st 8 (.st 9 .done)))))))))) ?_; intro w1 hf H; (first | replace hf := hf.kp | clear hf))
    iterate 3 refine p_q ?_
    iterate 3 (first | refine p_q ?_ | refine p_n ?_)
    ((refine p_c H rfl rfl Tryd.func43 (rshift_un a9 (av HA1) (by omega) ⟨hz3, hz4⟩) ?_; clear H; rintro e w1 ⟨v3, N3, rfl, hF, hB⟩ H; refine p_r ?_; replace hF := hF.kp); have HB3 := hid hB; clear hB)
    ((refine p_c H rfl rfl Tryd.func12 (same_eq (bv HB1) (bv HB3) rfl) ?_; clear H; rintro e w1 ⟨rfl, hF⟩ H; refine p_r ?_; replace hF := hF.kp); skip)
    (first | refine p_q ?_ | refine p_n ?_)
    refine p_q ?_
    (refine pl_done ?_)
    go_wp2_with (first | refine x_q H ?_ | refine x_cm (fun h => ?_) (fun h => ?_) | (revert H; (first | (refine x_g ?_; intro g w1 hg hf H) | (refine x_s ?_; intro w1 hf H)); (first | replace hf := hf.kp | clear hf)))
    clear HB1 HB3
    by_cases hx0 : x < 0
    · obtain ⟨rfl, rfl⟩ := hf0.out.1 hx0
      (refine x_c H (rsign_lt (av HA1) (by omega) hx0) ?_; clear H; rintro e w1 ⟨s, rfl, hs, hF⟩ H; replace hF := hF.kp; skip)
      clear hx0
      go_wp2_with (first | refine x_q H ?_ | refine x_cm (fun h => ?_) (fun h => ?_) | (revert H; (first | (refine x_g ?_; intro g w1 hg hf H) | (refine x_s ?_; intro w1 hf H)); (first | replace hf := hf.kp | clear hf)))
      (refine x_c H (same_eq (bv HB2) (bv_zero _) rfl) ?_; clear H; rintro e w1 ⟨rfl, hF⟩ H; replace hF := hF.kp; skip)
      go_wp2_with (first | refine x_q H ?_ | refine x_cm (fun h => ?_) (fun h => ?_) | (revert H; (first | (refine x_g ?_; intro g w1 hg hf H) | (refine x_s ?_; intro w1 hf H)); (first | replace hf := hf.kp | clear hf)))
      ((refine x_c H (awake_any _ (TabIs.fr HT.out H.fr)) ?_; clear H; rintro e w1 ⟨rfl, hF⟩ H; replace hF := hF.kp; skip); go_wp2_with (first | refine x_q H ?_ | refine x_cm (fun h => ?_) (fun h => ?_) | (revert H; (first | (refine x_g ?_; intro g w1 hg hf H) | (refine x_s ?_; intro w1 hf H)); (first | replace hf := hf.kp | clear hf))); go_ret; exact ⟨rfl, H.fr⟩)
    · have hx1 : 0 ≤ x := by omega
      obtain ⟨rfl, rfl⟩ := hf0.out.2 hx1
      have HX := hid hx1
      (refine x_c H (rsign_ge (av HA1) (by omega) hx1) ?_; clear H; rintro e w1 ⟨s, rfl, hs, hF⟩ H; replace hF := hF.kp; skip)
      clear hx0 hx1
      go_wp2_with (first | refine x_q H ?_ | refine x_cm (fun h => ?_) (fun h => ?_) | (revert H; (first | (refine x_g ?_; intro g w1 hg hf H) | (refine x_s ?_; intro w1 hf H)); (first | replace hf := hf.kp | clear hf)))
      (revert H; refine w_pF 12 (.st 0 (.st 1 (.st 2 (.st 3 (.st 4 (.ld 5 (.ld 6 (.st 7 (.st 8 (.ld 9 (.st 10 (.st 11 .done)))))))))))) ?_; intro w1 hf H; (first | replace hf := hf.kp | clear hf))
      iterate 3 refine p_q ?_
      iterate 2 (first | refine p_q ?_ | refine p_n ?_)
      ((refine p_c H rfl rfl Tryd.func44 (rsqrt_ar r (av HA1) (by omega) HX.out HR.out) ?_; clear H; rintro e w1 ⟨v4, rfl, hF, hB⟩ H; refine p_r ?_; replace hF := hF.kp); have HB4 := hid hB; clear hB)
      ((refine p_c H rfl rfl Tryd.func12 (same_eq (bv HB2) (bv HB4) rfl) ?_; clear H; rintro e w1 ⟨rfl, hF⟩ H; refine p_r ?_; replace hF := hF.kp); skip)
      iterate 2 refine p_q ?_
      ((refine p_c H rfl rfl Tryd.func9 (awake_any _ (TabIs.fr HT.out H.fr)) ?_; clear H; rintro e w1 ⟨rfl, hF⟩ H; refine p_r ?_; replace hF := hF.kp); skip)
      iterate 2 refine p_q ?_
      (refine pl_done ?_)
      go_wp2_with (first | refine x_q H ?_ | refine x_cm (fun h => ?_) (fun h => ?_) | (revert H; (first | (refine x_g ?_; intro g w1 hg hf H) | (refine x_s ?_; intro w1 hf H)); (first | replace hf := hf.kp | clear hf)))
      go_ret
      exact ⟨rfl, H.fr⟩
end Go.Proofs.YtpmebjhlgdhchaaDoor
