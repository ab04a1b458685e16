/-
  Floats: the quotient of two dyads.
-/
import Derived.Test.YthbeeeclgbpopaaGreatDoorXEa5
import Derived.Test.YthbeeeclgbpopaaGreatDoorXEr1
namespace Go.Proofs.YthbeeeclgbpopaaGreatDoor
open Go.RowKit
set_option linter.unusedSimpArgs false
set_option linter.unusedVariables false
set_option maxHeartbeats 8000000
set_option maxRecDepth 100000

set_option maxHeartbeats 16000000 in
theorem quoF_any {w : World} {va vb : Value} {x e y f : Int} (mode : Int) (ha : Dn w va x e) (hb : Dn w vb y f) (hx : x ≠ 0) (hy : y ≠ 0) (hbx : bl x.natAbs ≤ 30000) (hby : bl y.natAbs ≤ 30000) (he : -30000 ≤ e ∧ e ≤ 30000) (hf : -30000 ≤ f ∧ f ≤ 30000) (hT : La w) :
    Calls Tryz.prog 45 #[va, vb, .int .i64 mode] w fun r w' => r = .returned (.int .u64 (rndF (!(decide (x < 0) == decide (y < 0))) mode x.natAbs y.natAbs (e - f) : Nat)) ∧ Fr [] w w' := by
  have HDA := hid ha
  have HDB := hid hb
  have HT := hid hT
  have HX := hid (sign_zero_iff hx)
  have HY := hid (sign_zero_iff hy)
  have hX := hid hx
  have hY := hid hy
  obtain ⟨m1, e1, b1, p1, n1, c1, rfl, _, _⟩ := ha
  obtain ⟨m2, e2, b2, p2, n2, c2, rfl, _, _⟩ := hb
  clear hT hx hy
  obtain ⟨s1, hs1⟩ : ∃ s, Int.sign x = s := ⟨_, rfl⟩
  obtain ⟨s2, hs2⟩ : ∃ s, Int.sign y = s := ⟨_, rfl⟩
  have HS1 := hid hs1
  have HS2 := hid hs2
  have hn1 : s1 ≠ 0 := by rw [← hs1]; exact HX.out
  have hn2 : s2 ≠ 0 := by rw [← hs2]; exact HY.out
  clear hs1 hs2
  have H := Hp.start [] w
  go_enter Tryz.func45, Tryz.ntmps45
  go_wp2_with (revert H; (first | (refine x_g ?_; intro g w1 hg hf H) | (refine x_s ?_; intro w1 hf H)); (first | replace hf := hf.kp | clear hf))
  (revert H; refine w_pF 4 (.st 0 (.st 2 (.ld 1 (.ld 3 (.ldf 4 (.ld 5 .done)))))) ?_; intro w1 hf H; (first | replace hf := hf.kp | clear hf))
  iterate 2 refine p_q ?_
  ((refine p_c H rfl rfl Tryz.func106 (normD_any (dn HDA) (by omega) (by omega) (by omega) (HT.out.fr H.fr)) ?_; clear H; rintro e w1 ⟨v3, rfl, hF, hD⟩ H; refine p_r ?_; replace hF := hF.kp); have HD3 := hid hD; obtain ⟨m3, e3, b3, p3, n3, c3, rfl, hN, hB⟩ := hD; have HN3 := hid hN; have HB3 := hid hB; clear hN hB)
  ((refine p_c H rfl rfl Tryz.func106 (normD_any (dn HDB) (by omega) (by omega) (by omega) (HT.out.fr H.fr)) ?_; clear H; rintro e w1 ⟨v4, rfl, hF, hD⟩ H; refine p_r ?_; replace hF := hF.kp); have HD4 := hid hD; obtain ⟨m4, e4, b4, p4, n4, c4, rfl, hN, hB⟩ := hD; have HN4 := hid hN; have HB4 := hid hB; clear hN hB)
  (revert H; refine p_sFf ?_; intro w1 hf H hk; clear hf; change Kp _ _ at hk)
  (revert H; refine p_sF ?_; intro w1 hf H hk; clear hf; change Kp _ _ at hk)
  (refine pl_done ?_)
  all_goals
    go_wp2_with (refine x_q H ?_)
    (refine x_c H (signD_any (dn HD4) (by omega) (by omega) (by omega) (HT.out.fr H.fr)) ?_; clear H; rintro e w1 ⟨rfl, hF⟩ H; replace hF := hF.kp; rw [HS2.out])
    go_wp2_with (refine x_q H ?_)
    (refine x_c H (signD_any (dn HD3) (by omega) (by omega) (by omega) (HT.out.fr H.fr)) ?_; clear H; rintro e w1 ⟨rfl, hF⟩ H; replace hF := hF.kp; rw [HS1.out])
    go_wp2_with (refine x_q H ?_)
    (refine x_c H (ratio_any (dn HD3) (dn HD4) hX.out hY.out hbx hby (by omega) (by omega)) ?_; clear H; rintro e w1 ⟨v6, rfl, hF, N, D, E, hR, hE⟩ H; replace hF := hF.kp; skip)
    have HE := hid (hE (!(decide (x < 0) == decide (y < 0))) mode)
    have HRL := hid hR
    clear hR hE
    go_wp2_with fail
    (refine x_c H (rounded_any mode (rl HRL) (HT.out.fr H.fr)) ?_; clear H; rintro e w1 ⟨rfl, hF⟩ H; replace hF := hF.kp; rw [HE.out])
    go_wp2_with fail
    go_ret
    exact ⟨rfl, H.fr⟩
end Go.Proofs.YthbeeeclgbpopaaGreatDoor
