/-
  Dyads: sum, difference, product, doubling, comparison; powers of ten.
-/
import Derived.Test.YthbeeeclgbpopaaGreatDoorGa1
namespace Go.Proofs.YthbeeeclgbpopaaGreatDoor
open Go.RowKit
set_option linter.unusedSimpArgs false
set_option linter.unusedVariables false
set_option maxHeartbeats 8000000
set_option maxRecDepth 100000

theorem bl_sum (x y : Int) : bl (x + y).natAbs ≤ bl x.natAbs + bl y.natAbs + 1 := bl_le (by
  have h1 := bl_lt x.natAbs
  have h2 := bl_lt y.natAbs
  have h3 : 2 ^ bl x.natAbs ≤ 2 ^ (bl x.natAbs + bl y.natAbs) := Nat.pow_le_pow_right (by decide) (by omega)
  have h4 : 2 ^ bl y.natAbs ≤ 2 ^ (bl x.natAbs + bl y.natAbs) := Nat.pow_le_pow_right (by decide) (by omega)
  rw [Nat.pow_succ]
  omega)
theorem bl_unit {x X : Int} {t : Nat} (h : x = X * 2 ^ t) : bl X.natAbs ≤ bl x.natAbs := by
  rw [h, abs_shift]
  exact bl_mono (Nat.le_mul_of_pos_right _ (pow2_pos t))
theorem cmpZ_unit {x y X Y : Int} {t : Nat} (hx : x = X * 2 ^ t) (hy : y = Y * 2 ^ t) : cmpZ X Y = cmpZ x y := by
  have hp := two_pos t
  rw [hx, hy]
  unfold cmpZ
  generalize (2 : Int) ^ t = P at hp
  rcases Int.lt_trichotomy X Y with h | h | h
  · have := Int.mul_lt_mul_of_pos_right h hp
    rw [if_pos h, if_pos this]
  · subst h; simp
  · have := Int.mul_lt_mul_of_pos_right h hp
    rw [if_neg (by omega), if_pos h, if_neg (by omega), if_pos this]
theorem addD_any {w : World} {u v : Value} {x y e : Int} (h : Dn w u x e) (k : Dn w v y e) (hb : bl x.natAbs ≤ 10000) (he : -10000 ≤ e ∧ e ≤ 0) (hc : bl y.natAbs ≤ 10000) (hT : La w) :
    Calls Tryz.prog 94 #[u, v] w fun r w' => ∃ v1, r = .returned v1 ∧ Fr [] w w' ∧ Dn w' v1 (x + y) e := by
  have HD1 := hid h
  have HD2 := hid k
  obtain ⟨m1, e1, b1, p1, n1, c1, rfl, h1, h2⟩ := h
  obtain ⟨m2, e2, b2, p2, n2, c2, rfl, k1, k2⟩ := k
  have HT := hid hT
  clear h1 h2 k1 k2 hT
  have H := Hp.start [] w
  go_enter Tryz.func94, Tryz.ntmps94
  go_wp2_with (first | refine x_q H ?_ | refine x_cm (fun h => ?_) (fun h => ?_) | refine x_l H ?_ | refine x_e (ev_dyad rfl rfl rfl) ?_ | (revert H; refine x_sF ?_; intro w1 hf H hk; clear hf; change Kp _ _ at hk) | (revert H; (first | (refine x_g ?_; intro g w1 hg hf H) | (refine x_s ?_; intro w1 hf H)); (first | replace hf := hf.kp | clear hf)))
  (refine x_c H (two_any (dn HD1) (dn HD2) (by omega) (by omega) (by omega) (by omega) (HT.out.fr H.fr)) ?_; clear H; rintro e w1 ⟨v3, v4, rfl, hF, hD, hD2⟩ H; replace hF := hF.kp; have HD3 := hid hD; have HD4 := hid hD2; obtain ⟨m3, e3, b3, p3, n3, c3, rfl, hN, hB⟩ := hD; have HN3 := hid hN; have HB3 := hid hB; clear hN hB; have hD := hD2; obtain ⟨m4, e4, b4, p4, n4, c4, rfl, hN, hB⟩ := hD; have HN4 := hid hN; have HB4 := hid hB; clear hN hB; clear hD2)
  go_wp2_with (first | refine x_q H ?_ | refine x_cm (fun h => ?_) (fun h => ?_) | refine x_l H ?_ | refine x_e (ev_dyad rfl rfl rfl) ?_ | (revert H; refine x_sF ?_; intro w1 hf H hk; clear hf; change Kp _ _ at hk) | (revert H; (first | (refine x_g ?_; intro g w1 hg hf H) | (refine x_s ?_; intro w1 hf H)); (first | replace hf := hf.kp | clear hf)))
  (refine x_c H (aligned_any (dn HD3) (dn HD4) (by omega) (by omega) (by omega)) ?_; clear H; rintro e w1 ⟨v5, v6, X, Y, E, rfl, hF, hB, hB2, hE1, hE2, hX, hY⟩ H; replace hF := hF.kp; obtain ⟨b5, p5, m5, c5, rfl⟩ := hB.form; have HB5 := hid hB; clear hB; obtain ⟨b6, p6, m6, c6, rfl⟩ := hB2.form; have HB6 := hid hB2; clear hB2; have hbX := bl_unit hX; have hbY := bl_unit hY; have HX := hid hX; have HY := hid hY; clear hX hY)
  have hbs := bl_sum X Y
  go_wp2_with (first | refine x_q H ?_ | refine x_cm (fun h => ?_) (fun h => ?_) | refine x_l H ?_ | refine x_e (ev_dyad rfl rfl rfl) ?_ | (revert H; refine x_sF ?_; intro w1 hf H hk; clear hf; change Kp _ _ at hk) | (revert H; (first | (refine x_g ?_; intro g w1 hg hf H) | (refine x_s ?_; intro w1 hf H)); (first | replace hf := hf.kp | clear hf)))
  (refine x_c H (add_ar (bv HB5).ar (bv HB6).ar (by omega) (by omega)) ?_; clear H; rintro e w1 ⟨v7, rfl, hF, hB⟩ H; replace hF := hF.kp; obtain ⟨b7, p7, m7, c7, rfl⟩ := hB.form; have HB7 := hid hB; clear hB)
  go_wp2_with (first | refine x_q H ?_ | refine x_cm (fun h => ?_) (fun h => ?_) | refine x_l H ?_ | refine x_e (ev_dyad rfl rfl rfl) ?_ | (revert H; refine x_sF ?_; intro w1 hf H hk; clear hf; change Kp _ _ at hk) | (revert H; (first | (refine x_g ?_; intro g w1 hg hf H) | (refine x_s ?_; intro w1 hf H)); (first | replace hf := hf.kp | clear hf)))
  (refine x_c H (make_any (bv HB7).ar (by omega) (by omega) (by omega) (HT.out.fr H.fr)) ?_; clear H; rintro e w1 ⟨v8, rfl, hF, hD⟩ H; replace hF := hF.kp; have HD8 := hid hD; obtain ⟨m8, e8, b8, p8, n8, c8, rfl, hN, hB⟩ := hD; have HN8 := hid hN; have HB8 := hid hB; clear hN hB)
  go_wp2_with (first | refine x_q H ?_ | refine x_cm (fun h => ?_) (fun h => ?_) | refine x_l H ?_ | refine x_e (ev_dyad rfl rfl rfl) ?_ | (revert H; refine x_sF ?_; intro w1 hf H hk; clear hf; change Kp _ _ at hk) | (revert H; (first | (refine x_g ?_; intro g w1 hg hf H) | (refine x_s ?_; intro w1 hf H)); (first | replace hf := hf.kp | clear hf)))
  refine c_post H rfl rfl rfl ?_
  refine ⟨_, rfl, H.fr, ?_⟩
  rw [HX.out, HY.out, ← Int.add_mul]
  exact (dn HD8).low hE1
theorem subD_any {w : World} {u v : Value} {x y e : Int} (h : Dn w u x e) (k : Dn w v y e) (hb : bl x.natAbs ≤ 10000) (he : -10000 ≤ e ∧ e ≤ 0) (hc : bl y.natAbs ≤ 10000) (hT : La w) :
    Calls Tryz.prog 38 #[u, v] w fun r w' => ∃ v1, r = .returned v1 ∧ Fr [] w w' ∧ Dn w' v1 (x - y) e := by
  have HD1 := hid h
  have HD2 := hid k
  obtain ⟨m1, e1, b1, p1, n1, c1, rfl, h1, h2⟩ := h
  obtain ⟨m2, e2, b2, p2, n2, c2, rfl, k1, k2⟩ := k
  have HT := hid hT
  have hcn : bl (-y).natAbs ≤ 10000 := by rw [Int.natAbs_neg]; exact hc
  clear h1 h2 k1 k2 hT
  have H := Hp.start [] w
  go_enter Tryz.func38, Tryz.ntmps38
  go_wp2_with (first | refine x_q H ?_ | refine x_cm (fun h => ?_) (fun h => ?_) | refine x_l H ?_ | refine x_e (ev_dyad rfl rfl rfl) ?_ | (revert H; refine x_sF ?_; intro w1 hf H hk; clear hf; change Kp _ _ at hk) | (revert H; (first | (refine x_g ?_; intro g w1 hg hf H) | (refine x_s ?_; intro w1 hf H)); (first | replace hf := hf.kp | clear hf)))
  (revert H; refine w_pF 4 (.st 0 (.st 1 (.ld 2 (.ld 3 (.ld 4 .done))))) ?_ (hs := (.cons _ (List.Sublist.refl _))); intro w1 hf H; (first | replace hf := hf.kp | clear hf))
  (refine p_l ?_)
  (refine p_l ?_)
  ((refine p_c H rfl rfl Tryz.func95 (negD_any (dn HD2) (by omega) (by omega) (HT.out.fr H.fr)) ?_; clear H; rintro e w1 ⟨v3, rfl, hF, hD⟩ H; refine p_r ?_; replace hF := hF.kp); have HD3 := hid hD; obtain ⟨m3, e3, b3, p3, n3, c3, rfl, hN, hB⟩ := hD; have HN3 := hid hN; have HB3 := hid hB; clear hN hB)
  ((refine p_c H rfl rfl Tryz.func94 (addD_any (dn HD1) (dn HD3) hb he hcn (HT.out.fr H.fr)) ?_; clear H; rintro e w1 ⟨v4, rfl, hF, hD⟩ H; refine p_r ?_; replace hF := hF.kp); have HD4 := hid hD; obtain ⟨m4, e4, b4, p4, n4, c4, rfl, hN, hB⟩ := hD; have HN4 := hid hN; have HB4 := hid hB; clear hN hB)
  (revert H; refine p_sF ?_; intro w1 hf H hk; clear hf; change Kp _ _ at hk)
  (refine pl_done ?_)
  all_goals
    go_wp2_with (first | refine x_q H ?_ | refine x_cm (fun h => ?_) (fun h => ?_) | refine x_l H ?_ | refine x_e (ev_dyad rfl rfl rfl) ?_ | (revert H; refine x_sF ?_; intro w1 hf H hk; clear hf; change Kp _ _ at hk) | (revert H; (first | (refine x_g ?_; intro g w1 hg hf H) | (refine x_s ?_; intro w1 hf H)); (first | replace hf := hf.kp | clear hf)))
    refine c_post H rfl rfl rfl ?_
    exact ⟨_, rfl, H.fr, by rw [Int.sub_eq_add_neg]; exact dn HD4⟩
theorem mulD_any {w : World} {u v : Value} {x e y f : Int} (h : Dn w u x e) (k : Dn w v y f) (hb : bl x.natAbs ≤ 10000) (he : -10000 ≤ e ∧ e ≤ 10000) (hc : bl y.natAbs ≤ 10000) (hf1 : -10000 ≤ f ∧ f ≤ 10000) (hT : La w) :
    Calls Tryz.prog 39 #[u, v] w fun r w' => ∃ v1, r = .returned v1 ∧ Fr [] w w' ∧ Dn w' v1 (x * y) (e + f) := by
  have HD1 := hid h
  have HD2 := hid k
  obtain ⟨m1, e1, b1, p1, n1, c1, rfl, h1, h2⟩ := h
  obtain ⟨m2, e2, b2, p2, n2, c2, rfl, k1, k2⟩ := k
  have HT := hid hT
  clear h1 h2 k1 k2 hT
  have H := Hp.start [] w
  go_enter Tryz.func39, Tryz.ntmps39
  go_wp2_with (first | refine x_q H ?_ | refine x_cm (fun h => ?_) (fun h => ?_) | refine x_l H ?_ | refine x_e (ev_dyad rfl rfl rfl) ?_ | (revert H; refine x_sF ?_; intro w1 hf H hk; clear hf; change Kp _ _ at hk) | (revert H; (first | (refine x_g ?_; intro g w1 hg hf H) | (refine x_s ?_; intro w1 hf H)); (first | replace hf := hf.kp | clear hf)))
  (refine x_c H (two_any (dn HD1) (dn HD2) (by omega) (by omega) (by omega) (by omega) (HT.out.fr H.fr)) ?_; clear H; rintro e w1 ⟨v3, v4, rfl, hF, hD, hD2⟩ H; replace hF := hF.kp; obtain ⟨m3, e3, b3, p3, n3, c3, rfl, hN, hB⟩ := hD; have HN3 := hid hN; have HB3 := hid hB; clear hN hB; have hD := hD2; obtain ⟨m4, e4, b4, p4, n4, c4, rfl, hN, hB⟩ := hD; have HN4 := hid hN; have HB4 := hid hB; clear hN hB; clear hD2)
  have l3 := HN3.out.le
  have l4 := HN4.out.le
  have hbm : bl (m3 * m4).natAbs ≤ bl m3.natAbs + bl m4.natAbs := by rw [Int.natAbs_mul]; exact bl_prod _ _
  have hex : -40000 ≤ e3 + e4 ∧ e3 + e4 ≤ 40000 := by omega
  have hex2 : bl (m3 * m4).natAbs + (e3 + e4) ≤ 65536 := by omega
  go_wp2_with (first | refine x_q H ?_ | refine x_cm (fun h => ?_) (fun h => ?_) | refine x_l H ?_ | refine x_e (ev_dyad rfl rfl rfl) ?_ | (revert H; refine x_sF ?_; intro w1 hf H hk; clear hf; change Kp _ _ at hk) | (revert H; (first | (refine x_g ?_; intro g w1 hg hf H) | (refine x_s ?_; intro w1 hf H)); (first | replace hf := hf.kp | clear hf)))
  (revert H; refine w_pF 11 (.st 0 (.st 1 (.st 2 (.st 3 (.st 5 (.st 6 (.st 7 (.st 8 (.st 9 (.ld 4 (.ld 10 (.ld 11 .done)))))))))))) ?_ (hs := (.cons _ (List.Sublist.refl _))); intro w1 hf H; (first | replace hf := hf.kp | clear hf))
  refine p_q ?_
  (refine p_l ?_)
  refine p_q ?_
  (refine p_l ?_)
  iterate 5 refine p_q ?_
  ((refine p_c H rfl rfl Tryz.func33 (mul_ar (bv HB3).ar (bv HB4).ar (by omega) (by omega)) ?_; clear H; rintro e w1 ⟨v5, rfl, hF, hB⟩ H; refine p_r ?_; replace hF := hF.kp); obtain ⟨b5, p5, m5, c5, rfl⟩ := hB.form; have HB5 := hid hB; clear hB)
  ((refine p_c H rfl rfl Tryz.func87 (make_any (bv HB5).ar (by omega) (by omega) (by omega) (HT.out.fr H.fr)) ?_; clear H; rintro e w1 ⟨v6, rfl, hF, hD⟩ H; refine p_r ?_; replace hF := hF.kp); have HD6 := hid hD; obtain ⟨m6, e6, b6, p6, n6, c6, rfl, hN, hB⟩ := hD; have HN6 := hid hN; have HB6 := hid hB; clear hN hB)
  (revert H; refine p_sF ?_; intro w1 hf H hk; clear hf; change Kp _ _ at hk)
  (refine pl_done ?_)
  all_goals
    go_wp2_with (first | refine x_q H ?_ | refine x_cm (fun h => ?_) (fun h => ?_) | refine x_l H ?_ | refine x_e (ev_dyad rfl rfl rfl) ?_ | (revert H; refine x_sF ?_; intro w1 hf H hk; clear hf; change Kp _ _ at hk) | (revert H; (first | (refine x_g ?_; intro g w1 hg hf H) | (refine x_s ?_; intro w1 hf H)); (first | replace hf := hf.kp | clear hf)))
    refine c_post H rfl rfl rfl ?_
    exact ⟨_, rfl, H.fr, _, _, _, _, _, _, rfl, HN3.out.mul HN4.out HN6.out, bv HB6⟩
theorem Nm.twice {x e m e' : Int} (h : Nm x e m e') {m2 e2 : Int} (g : Nm m (e' + 1) m2 e2) : Nm (x * 2) e m2 e2 := by
  rcases h with ⟨h1, h2, h3⟩ | ⟨h1, t, h2, h3⟩
  · subst h1 h2
    rcases g with ⟨_, a, b⟩ | ⟨a, _⟩
    · exact .inl ⟨rfl, a, b⟩
    · exact absurd rfl a
  · rcases g with ⟨a, _⟩ | ⟨a, s, b, c⟩
    · exact absurd (by rw [h2, a, Int.zero_mul]) h1
    · refine .inr ⟨by omega, s + t + 1, ?_, by omega⟩
      rw [h2, b, Int.pow_succ, Int.pow_add, Int.mul_assoc m2 (2 ^ s) (2 ^ t), Int.mul_assoc m2]
theorem scaleD_any {w : World} {v : Value} {x e : Int} (h : Dn w v x e) (hb : bl x.natAbs ≤ 20000) (he : -20000 ≤ e ∧ e ≤ 20000) (hT : La w) :
    Calls Tryz.prog 36 #[v, .int .i64 1] w fun r w' => ∃ v1, r = .returned v1 ∧ Fr [] w w' ∧ Dn w' v1 (x * 2) e := by
  have HD := hid h
  obtain ⟨m1, e1, b1, p1, n1, c1, rfl, h1, h2⟩ := h
  have HT := hid hT
  clear h1 h2 hT
  have H := Hp.start [] w
  go_enter Tryz.func36, Tryz.ntmps36
  go_wp2_with (first | refine x_q H ?_ | refine x_cm (fun h => ?_) (fun h => ?_) | refine x_l H ?_ | refine x_e (ev_dyad rfl rfl rfl) ?_ | (revert H; refine x_sF ?_; intro w1 hf H hk; clear hf; change Kp _ _ at hk) | (revert H; (first | (refine x_g ?_; intro g w1 hg hf H) | (refine x_s ?_; intro w1 hf H)); (first | replace hf := hf.kp | clear hf)))
  (refine x_c H (norm_dn (dn HD) (by omega) (by omega) (by omega) (HT.out.fr H.fr)) ?_; clear H; rintro e w1 ⟨v3, rfl, hF, hD⟩ H; replace hF := hF.kp; obtain ⟨m3, e3, b3, p3, n3, c3, rfl, hN, hB⟩ := hD; have HN3 := hid hN; have HB3 := hid hB; clear hN hB)
  have l3 := HN3.out.le
  go_wp2_with (first | refine x_q H ?_ | refine x_cm (fun h => ?_) (fun h => ?_) | refine x_l H ?_ | refine x_e (ev_dyad rfl rfl rfl) ?_ | (revert H; refine x_sF ?_; intro w1 hf H hk; clear hf; change Kp _ _ at hk) | refine x_e (ev_min (z := 1) rfl rfl rfl (by decide)) ?_ | refine x_e (ev_max (z := 1) rfl rfl rfl (by decide)) ?_ | (revert H; (first | (refine x_g ?_; intro g w1 hg hf H) | (refine x_s ?_; intro w1 hf H)); (first | replace hf := hf.kp | clear hf)))
  (refine x_c H (make_any (bv HB3).ar (by omega) (by omega) (by omega) (HT.out.fr H.fr)) ?_; clear H; rintro e w1 ⟨v6, rfl, hF, hD⟩ H; replace hF := hF.kp; obtain ⟨m6, e6, b6, p6, n6, c6, rfl, hN, hB⟩ := hD; have HN6 := hid hN; have HB6 := hid hB; clear hN hB)
  go_wp2_with (first | refine x_q H ?_ | refine x_cm (fun h => ?_) (fun h => ?_) | refine x_l H ?_ | refine x_e (ev_dyad rfl rfl rfl) ?_ | (revert H; refine x_sF ?_; intro w1 hf H hk; clear hf; change Kp _ _ at hk) | (revert H; (first | (refine x_g ?_; intro g w1 hg hf H) | (refine x_s ?_; intro w1 hf H)); (first | replace hf := hf.kp | clear hf)))
  refine c_post H rfl rfl rfl ?_
  exact ⟨_, rfl, H.fr, _, _, _, _, _, _, rfl, HN3.out.twice HN6.out, bv HB6⟩
theorem cmpD_any {w : World} {u v : Value} {x y e : Int} (h : Dn w u x e) (k : Dn w v y e) (hb : bl x.natAbs ≤ 20000) (he : -20000 ≤ e ∧ e ≤ 0) (hc : bl y.natAbs ≤ 20000) (hT : La w) {s : Int} (hs : Hid (cmpZ x y = s)) :
    Calls Tryz.prog 35 #[u, v] w fun r w' => r = .returned (.tuple #[.int .i64 s, .bool true]) ∧ Fr [] w w' := by
  have HD1 := hid h
  have HD2 := hid k
  obtain ⟨m1, e1, b1, p1, n1, c1, rfl, h1, h2⟩ := h
  obtain ⟨m2, e2, b2, p2, n2, c2, rfl, k1, k2⟩ := k
  have HT := hid hT
  clear h1 h2 k1 k2 hT
  have H := Hp.start [] w
  go_enter Tryz.func35, Tryz.ntmps35
  go_wp2_with (first | refine x_q H ?_ | refine x_cm (fun h => ?_) (fun h => ?_) | refine x_l H ?_ | refine x_e (ev_dyad rfl rfl rfl) ?_ | (revert H; refine x_sF ?_; intro w1 hf H hk; clear hf; change Kp _ _ at hk) | (revert H; (first | (refine x_g ?_; intro g w1 hg hf H) | (refine x_s ?_; intro w1 hf H)); (first | replace hf := hf.kp | clear hf)))
  (refine x_c H (two_any (dn HD1) (dn HD2) (by omega) (by omega) (by omega) (by omega) (HT.out.fr H.fr)) ?_; clear H; rintro e w1 ⟨v3, v4, rfl, hF, hD, hD2⟩ H; replace hF := hF.kp; have HD3 := hid hD; have HD4 := hid hD2; obtain ⟨m3, e3, b3, p3, n3, c3, rfl, hN, hB⟩ := hD; have HN3 := hid hN; have HB3 := hid hB; clear hN hB; have hD := hD2; obtain ⟨m4, e4, b4, p4, n4, c4, rfl, hN, hB⟩ := hD; have HN4 := hid hN; have HB4 := hid hB; clear hN hB; clear hD2)
  go_wp2_with (first | refine x_q H ?_ | refine x_cm (fun h => ?_) (fun h => ?_) | refine x_l H ?_ | refine x_e (ev_dyad rfl rfl rfl) ?_ | (revert H; refine x_sF ?_; intro w1 hf H hk; clear hf; change Kp _ _ at hk) | (revert H; (first | (refine x_g ?_; intro g w1 hg hf H) | (refine x_s ?_; intro w1 hf H)); (first | replace hf := hf.kp | clear hf)))
  (refine x_c H (aligned_any (dn HD3) (dn HD4) (by omega) (by omega) (by omega)) ?_; clear H; rintro e w1 ⟨v5, v6, X, Y, E, rfl, hF, hB, hB2, hE1, hE2, hX, hY⟩ H; replace hF := hF.kp; obtain ⟨b5, p5, m5, c5, rfl⟩ := hB.form; have HB5 := hid hB; clear hB; obtain ⟨b6, p6, m6, c6, rfl⟩ := hB2.form; have HB6 := hid hB2; clear hB2; have hbX := bl_unit hX; have hbY := bl_unit hY; have HC := hid ((cmpZ_unit hX hY).trans hs.out); clear hX hY)
  go_wp2_with (first | refine x_q H ?_ | refine x_cm (fun h => ?_) (fun h => ?_) | refine x_l H ?_ | refine x_e (ev_dyad rfl rfl rfl) ?_ | (revert H; refine x_sF ?_; intro w1 hf H hk; clear hf; change Kp _ _ at hk) | (revert H; (first | (refine x_g ?_; intro g w1 hg hf H) | (refine x_s ?_; intro w1 hf H)); (first | replace hf := hf.kp | clear hf)))
  (refine x_c H (cmp_ar (bv HB5).ar (bv HB6).ar (by omega) (by omega)) ?_; clear H; rintro e w1 ⟨rfl, hF⟩ H; replace hF := hF.kp; rw [HC.out])
  go_wp2_with (first | refine x_q H ?_ | refine x_cm (fun h => ?_) (fun h => ?_) | refine x_l H ?_ | refine x_e (ev_dyad rfl rfl rfl) ?_ | (revert H; refine x_sF ?_; intro w1 hf H hk; clear hf; change Kp _ _ at hk) | (revert H; (first | (refine x_g ?_; intro g w1 hg hf H) | (refine x_s ?_; intro w1 hf H)); (first | replace hf := hf.kp | clear hf)))
  refine bodyPost_ret (results_tmp2 rfl _ _ _) rfl ?_
  exact ⟨rfl, H.fr⟩
theorem tenTo_any (w : World) {z : Int} (n : Nat) (hz : z = (n : Int)) (hn : n ≤ 2000) :
    Calls Tryz.prog 34 #[.int .i64 z] w fun e w' => ∃ v1, e = .returned v1 ∧ Fr [] w w' ∧ Bv w' v1 ((10 ^ n : Nat) : Int) (bl (10 ^ n)) := by
  subst hz
  have H := Hp.start [] w
  go_enter Tryz.func34, Tryz.ntmps34
  go_wp2_with (first | refine x_q H ?_ | refine x_cm (fun h => ?_) (fun h => ?_) | refine x_l H ?_ | refine x_e (ev_dyad rfl rfl rfl) ?_ | (revert H; refine x_sF ?_; intro w1 hf H hk; clear hf; change Kp _ _ at hk) | (revert H; (first | (refine x_g ?_; intro g w1 hg hf H) | (refine x_s ?_; intro w1 hf H)); (first | replace hf := hf.kp | clear hf)))
  (refine x_c H (fromInt_ar _ 1 (by simp only [inr]; omega)) ?_; clear H; rintro e w1 ⟨v3, rfl, hF, hB⟩ H; replace hF := hF.kp; obtain ⟨b3, p3, m3, c3, rfl⟩ := hB.form; have HB3 := hid hB; clear hB)
  go_wp2_with (first | refine x_q H ?_ | refine x_cm (fun h => ?_) (fun h => ?_) | refine x_l H ?_ | refine x_e (ev_dyad rfl rfl rfl) ?_ | (revert H; refine x_sF ?_; intro w1 hf H hk; clear hf; change Kp _ _ at hk) | (revert H; (first | (refine x_g ?_; intro g w1 hg hf H) | (refine x_s ?_; intro w1 hf H)); (first | replace hf := hf.kp | clear hf)))
  rename_i ga wa ha fa wb wc xa xb
  go_loopw [0] (fun s0 wr => ∃ (i j : Nat) (b3 : Bool) (p3 : Option Addr) (m3 c3 : Nat), s0 = .int .i64 (i : Int) ∧ i ≤ 2000 ∧ j ≤ 2000 ∧ i + j = n ∧ Hp [] w wr [.blk g [.bool b3, .slice p3 m3 c3] 50, .blk ga [.bool false, .slice none 0 0] 50] ∧ Hid (Bv wr (.agg #[.bool b3, .slice p3 m3 c3]) ((10 ^ j : Nat) : Int) (bl (10 ^ j)))) (fun v _ => (intOf v).toNat)
  case atStart => exact ⟨n, 0, _, _, _, _, rfl, hn, by omega, by omega, H, hid (bv HB3).c⟩
  case round =>
    clear H HB3
    obtain ⟨i, j, b3, p3, m3, c3, rfl, hi, hj, hij, H, HB3⟩ := hrel
    have hbt := bl_ten j
    by_cases h0 : i = 0
    · subst h0
      obtain rfl : j = n := by omega
      go_wp2_with (first | refine x_q H ?_ | refine x_cm (fun h => ?_) (fun h => ?_) | refine x_l H ?_ | refine x_e (ev_dyad rfl rfl rfl) ?_ | (revert H; refine x_sF ?_; intro w1 hf H hk; clear hf; change Kp _ _ at hk) | (revert H; (first | (refine x_g ?_; intro g w1 hg hf H) | (refine x_s ?_; intro w1 hf H)); (first | replace hf := hf.kp | clear hf)))
      refine c_post H rfl rfl rfl ?_
      exact ⟨_, rfl, H.fr, bv HB3⟩
    · have HP : Hid (10 ^ j * 10 = 10 ^ (j + 1)) := hid (Nat.pow_succ _ _).symm
      go_wp2_with (first | refine x_q H ?_ | refine x_cm (fun h => ?_) (fun h => ?_) | refine x_l H ?_ | refine x_e (ev_dyad rfl rfl rfl) ?_ | (revert H; refine x_sF ?_; intro w1 hf H hk; clear hf; change Kp _ _ at hk) | (revert H; (first | (refine x_g ?_; intro g w1 hg hf H) | (refine x_s ?_; intro w1 hf H)); (first | replace hf := hf.kp | clear hf)))
      (revert H; refine w_pF 3 (.st 0 (.ld 1 (.ld 2 (.ld 3 .done)))) ?_; intro w1 hf H; (first | replace hf := hf.kp | clear hf))
      (refine p_l ?_)
      ((refine p_c H rfl rfl Tryz.func86 (fromInt_ar _ 10 (by simp only [inr]; omega)) ?_; clear H; rintro e w1 ⟨v4, rfl, hF, hB⟩ H; refine p_r ?_; replace hF := hF.kp); obtain ⟨b4, p4, m4, c4, rfl⟩ := hB.form; have HB4 := hid hB; clear hB)
      ((refine p_c H rfl rfl Tryz.func33 (mul_ar (bv HB3).ar (bv HB4).ar (by omega) (by omega)) ?_; clear H; rintro e w1 ⟨v5, rfl, hF, hB⟩ H; refine p_r ?_; replace hF := hF.kp); replace hB := hB.c; rw [show (10 : Int) = ((10 : Nat) : Int) from rfl, ← Int.natCast_mul, Int.natAbs_natCast, HP.out] at hB; obtain ⟨b5, p5, m5, c5, rfl⟩ := hB.form; have HB5 := hid hB; clear hB)
      (revert H; refine p_sF ?_; intro w1 hf H hk; clear hf; change Kp _ _ at hk)
      (refine pl_done ?_)
      all_goals
        go_wp2_with (first | refine x_q H ?_ | refine x_cm (fun h => ?_) (fun h => ?_) | refine x_l H ?_ | refine x_e (ev_dyad rfl rfl rfl) ?_ | (revert H; refine x_sF ?_; intro w1 hf H hk; clear hf; change Kp _ _ at hk) | (revert H; (first | (refine x_g ?_; intro g w1 hg hf H) | (refine x_s ?_; intro w1 hf H)); (first | replace hf := hf.kp | clear hf)))
        go_roundw
        case rel => exact ⟨i - 1, j + 1, _, _, _, _, by first | rfl | go_num, by omega, by omega, by omega, H, hid (bv HB5)⟩
        case measure => (simp [intOf]; try omega)
end Go.Proofs.YthbeeeclgbpopaaGreatDoor
