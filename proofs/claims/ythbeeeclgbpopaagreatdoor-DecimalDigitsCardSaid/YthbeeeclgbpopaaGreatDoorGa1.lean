/-
  Dyads: negation, magnitude, sum, difference, product, comparison.
-/
import Derived.Test.YthbeeeclgbpopaaGreatDoorFa8
namespace Go.Proofs.YthbeeeclgbpopaaGreatDoor
open Go.RowKit
set_option linter.unusedSimpArgs false
set_option linter.unusedVariables false
set_option maxHeartbeats 8000000
set_option maxRecDepth 100000

section
variable {P : Program} {ops : Array Oper} {Q : Exit → Act → World → Prop} {w w0 : World} {rest : List Oper} {a : Act} {K : Act → World → Prop} {o : Oper} {T : List Nat} {l : List Ent} {L : List Value} {ds : List Deferred}
/-- A store of a part of a struct that replaces no limb. -/
theorem c_stP (H : Hp T w0 w l) {t : TypeId} {x y : Operand} (ho : o.op = .store t x y) {b p : Nat} {vs : List Value} (hx : a.eval x = .pointer (some ⟨b, p, none⟩)) (hy : a.eval y = .agg vs.toArray) {n : Nat} [hs : Ro P t n] {cs ds : List Value} {t' : TypeId} {f : Nat → List Value → List Ent} [hm : In b cs t' l f] (hn : vs.length = n := by rfl) (hc : p + n ≤ cs.length := by simp only [List.length_cons, List.length_nil]; omega)
    (hd : over cs p vs = ds := by unfold over; simp only [List.take_succ_cons, List.take_zero, List.length_cons, List.length_nil, Nat.reduceAdd, Nat.zero_add, List.drop_succ_cons, List.drop_zero, List.cons_append, List.nil_append]; exact rfl)
    (h1 : ∀ v ∈ vs, v.oneCell' = true := by intro z hz; simp only [List.mem_cons, List.not_mem_nil, or_false] at hz; rcases hz with rfl | rfl | rfl | rfl | rfl | rfl <;> rfl) (h3 : ∀ u ∈ cs, ∀ x, u ≠ .int .u32 x := by intro z hz x; simp only [List.mem_cons, List.not_mem_nil, or_false] at hz; rcases hz with rfl | rfl | rfl | rfl | rfl | rfl <;> (intro h; cases h))
    (h : ∀ w', Fr [b] w w' → Hp T w0 w' (f b ds) → (∀ p c l, LR w p c l → LR w' p c l) → K (a.put o.dst undef) w') : o.wp P a w K Q :=
  c_stn H ho hx (vs := vs) hy hn h1 hc (fun w' hf H1 => h w' hf (by rw [hd] at H1; exact H1) (fun p c l hL => hL.keep (H.at b) h3 hf))
theorem x_sP {b : Nat} {l' : List Ent} {L' : List Value}
    (h : ∀ w', Fr [b] w w' → Hp T w0 w' l' → (∀ p c l, LR w p c l → LR w' p c l) → wpList P ops Q rest ⟨L'.toArray, ds⟩ w')
    (hw : Region.wanted o (yielded ops L.toArray) = true := by rfl)
    (he : Hp T w0 w l → ∀ K : Act → World → Prop, (∀ w', Fr [b] w w' → Hp T w0 w' l' → (∀ p c l, LR w p c l → LR w' p c l) → K (Act.put ⟨L.toArray, ds⟩ o.dst undef) w') → o.wp P ⟨L.toArray, ds⟩ w K Q := by intro H K hK; exact c_stP H rfl rfl rfl (h := hK))
    (hs : putL L o.dst undef = L' := by ((try simp only [nrm, putL_s, putL_n, ↓reduceIte, Nat.reduceAdd]); (try exact rfl))) (H : Hp T w0 w l) : wpList P ops Q (o :: rest) ⟨L.toArray, ds⟩ w :=
  wl_rw hw fun K hK => he H K fun w' h2 h3 h4 => hK _ _ (by rw [put_eq, hs]; exact h w' h2 h3 h4)
end
theorem Nm.minus {x e m e' : Int} (h : Nm x e m e') : Nm (-x) e (-m) e' := by
  rcases h with ⟨h1, h2, h3⟩ | ⟨h1, t, h2, h3⟩
  · exact .inl ⟨by omega, by omega, h3⟩
  · exact .inr ⟨by omega, t, by rw [h2, Int.neg_mul], h3⟩
theorem Nm.mag {x e m e' : Int} (h : Nm x e m e') : Nm (x.natAbs : Int) e (m.natAbs : Int) e' := by
  by_cases hm : x < 0
  · have h1 := h.neg
    rw [decide_eq_true hm, decide_eq_true_eq] at h1
    have := h.minus
    rw [show (x.natAbs : Int) = -x by omega, show (m.natAbs : Int) = -m by omega]
    exact this
  · have h1 := h.neg
    rw [decide_eq_false hm, decide_eq_false_iff_not] at h1
    rw [show (x.natAbs : Int) = x by omega, show (m.natAbs : Int) = m by omega]
    exact h
theorem Nm.low {x e m e' : Int} (h : Nm x e m e') {g : Int} (hg : g ≤ e) : Nm (x * 2 ^ (e - g).toNat) g m e' := by
  rcases h with ⟨h1, h2, h3⟩ | ⟨h1, t, h2, h3⟩
  · exact .inl ⟨by rw [h1, Int.zero_mul], h2, h3⟩
  · refine .inr ⟨?_, t + (e - g).toNat, by rw [h2, Int.mul_assoc, ← Int.pow_add], by omega⟩
    have := two_pos (e - g).toNat
    exact Int.mul_ne_zero h1 (by omega)
theorem Dn.low {w : World} {v : Value} {x e : Int} (h : Dn w v x e) {g : Int} (hg : g ≤ e) : Dn w v (x * 2 ^ (e - g).toNat) g := by
  obtain ⟨m, e', b, p, n, c, rfl, h1, h2⟩ := h
  exact ⟨m, e', b, p, n, c, rfl, h1.low hg, h2⟩
theorem Nm.mul {x e m e' y f k f' : Int} (h : Nm x e m e') (g : Nm y f k f') {z e2 : Int} (hz : Nm (m * k) (e' + f') z e2) : Nm (x * y) (e + f) z e2 := by
  rcases h with ⟨h1, h2, h3⟩ | ⟨h1, t, h2, h3⟩
  · subst h1 h2
    rw [Int.zero_mul] at hz ⊢
    rcases hz with ⟨_, a, b⟩ | ⟨a, _⟩
    · exact .inl ⟨rfl, a, b⟩
    · exact absurd rfl a
  · rcases g with ⟨g1, g2, g3⟩ | ⟨g1, s, g2, g3⟩
    · subst g1 g2
      rw [Int.mul_zero] at hz ⊢
      rcases hz with ⟨_, a, b⟩ | ⟨a, _⟩
      · exact .inl ⟨rfl, a, b⟩
      · exact absurd rfl a
    · rcases hz with ⟨a1, _, _⟩ | ⟨a1, r, a2, a3⟩
      · exfalso
        rcases Int.mul_eq_zero.1 a1 with a | a
        · exact h1 (by rw [h2, a, Int.zero_mul])
        · exact g1 (by rw [g2, a, Int.zero_mul])
      · refine .inr ⟨Int.mul_ne_zero h1 g1, r + (t + s), ?_, by omega⟩
        rw [Int.pow_add, Int.pow_add, ← Int.mul_assoc, ← a2, h2, g2]
        simp only [Int.mul_assoc, Int.mul_left_comm]
theorem negD_any {w : World} {v : Value} {x e : Int} (h : Dn w v x e) (hb : bl x.natAbs ≤ 30000) (he : -30000 ≤ e ∧ e ≤ 30000) (hT : La w) :
    Calls Tryz.prog 95 #[v] w fun r w' => ∃ v1, r = .returned v1 ∧ Fr [] w w' ∧ Dn w' v1 (-x) e := by
  have HD := hid h
  obtain ⟨m1, e1, b1, p1, n1, c1, rfl, h1, h2⟩ := h
  have HT := hid hT
  have hle := h1.le
  clear h1 h2 hT
  have H := Hp.start [] w
  go_enter Tryz.func95, Tryz.ntmps95
  go_wp2_with (first | refine x_q H ?_ | refine x_cm (fun h => ?_) (fun h => ?_) | refine x_l H ?_ | refine x_e (ev_dyad rfl rfl rfl) ?_ | (revert H; refine x_sF ?_; intro w1 hf H hk; clear hf; change Kp _ _ at hk) | (revert H; (first | (refine x_g ?_; intro g w1 hg hf H) | (refine x_s ?_; intro w1 hf H)); (first | replace hf := hf.kp | clear hf)))
  (refine x_c H (norm_dn (dn HD) (by omega) (by omega) (by omega) (HT.out.fr H.fr)) ?_; clear H; rintro e w1 ⟨v3, rfl, hF, hD⟩ H; replace hF := hF.kp; obtain ⟨m3, e3, b3, p3, n3, c3, rfl, hN, hB⟩ := hD; have HN3 := hid hN; have HB3 := hid hB; clear hN hB)
  have hl := HN3.out.le
  go_wp2_with (first | refine x_q H ?_ | refine x_cm (fun h => ?_) (fun h => ?_) | refine x_l H ?_ | refine x_e (ev_dyad rfl rfl rfl) ?_ | (revert H; refine x_sF ?_; intro w1 hf H hk; clear hf; change Kp _ _ at hk) | (revert H; (first | (refine x_g ?_; intro g w1 hg hf H) | (refine x_s ?_; intro w1 hf H)); (first | replace hf := hf.kp | clear hf)))
  (refine x_c H (neg_ar (bv HB3).ar (by omega)) ?_; clear H; rintro e w1 ⟨v4, rfl, hF, hB⟩ H; replace hF := hF.kp; obtain ⟨b4, p4, m4, c4, rfl⟩ := hB.form; have HB4 := hid hB; clear hB)
  go_wp2_with (first | refine x_q H ?_ | refine x_cm (fun h => ?_) (fun h => ?_) | refine x_l H ?_ | refine x_e (ev_dyad rfl rfl rfl) ?_ | (revert H; refine x_sF ?_; intro w1 hf H hk; clear hf; change Kp _ _ at hk) | (revert H; refine x_sP ?_; intro w1 hf H hk; clear hf; change Kp _ _ at hk) | (revert H; (first | (refine x_g ?_; intro g w1 hg hf H) | (refine x_s ?_; intro w1 hf H)); (first | replace hf := hf.kp | clear hf)))
  refine c_post H rfl rfl rfl ?_
  exact ⟨_, rfl, H.fr, _, _, _, _, _, _, rfl, HN3.out.minus, (bv HB4).c⟩
theorem absD_any {w : World} {v : Value} {x e : Int} (h : Dn w v x e) (hb : bl x.natAbs ≤ 30000) (he : -30000 ≤ e ∧ e ≤ 30000) (hT : La w) :
    Calls Tryz.prog 37 #[v] w fun r w' => ∃ v1, r = .returned v1 ∧ Fr [] w w' ∧ Dn w' v1 (x.natAbs : Int) e := by
  have HD := hid h
  obtain ⟨m1, e1, b1, p1, n1, c1, rfl, h1, h2⟩ := h
  have HT := hid hT
  have hle := h1.le
  clear h1 h2 hT
  have H := Hp.start [] w
  go_enter Tryz.func37, Tryz.ntmps37
  go_wp2_with (first | refine x_q H ?_ | refine x_cm (fun h => ?_) (fun h => ?_) | refine x_l H ?_ | refine x_e (ev_dyad rfl rfl rfl) ?_ | (revert H; refine x_sF ?_; intro w1 hf H hk; clear hf; change Kp _ _ at hk) | (revert H; (first | (refine x_g ?_; intro g w1 hg hf H) | (refine x_s ?_; intro w1 hf H)); (first | replace hf := hf.kp | clear hf)))
  (refine x_c H (norm_dn (dn HD) (by omega) (by omega) (by omega) (HT.out.fr H.fr)) ?_; clear H; rintro e w1 ⟨v3, rfl, hF, hD⟩ H; replace hF := hF.kp; obtain ⟨m3, e3, b3, p3, n3, c3, rfl, hN, hB⟩ := hD; have HN3 := hid hN; have HB3 := hid hB; clear hN hB)
  have hl := HN3.out.le
  go_wp2_with (first | refine x_q H ?_ | refine x_cm (fun h => ?_) (fun h => ?_) | refine x_l H ?_ | refine x_e (ev_dyad rfl rfl rfl) ?_ | (revert H; refine x_sF ?_; intro w1 hf H hk; clear hf; change Kp _ _ at hk) | (revert H; (first | (refine x_g ?_; intro g w1 hg hf H) | (refine x_s ?_; intro w1 hf H)); (first | replace hf := hf.kp | clear hf)))
  (refine x_c H (abs_ar (bv HB3).ar (by omega)) ?_; clear H; rintro e w1 ⟨v4, rfl, hF, hB⟩ H; replace hF := hF.kp; obtain ⟨b4, p4, m4, c4, rfl⟩ := hB.form; have HB4 := hid hB; clear hB)
  go_wp2_with (first | refine x_q H ?_ | refine x_cm (fun h => ?_) (fun h => ?_) | refine x_l H ?_ | refine x_e (ev_dyad rfl rfl rfl) ?_ | (revert H; refine x_sF ?_; intro w1 hf H hk; clear hf; change Kp _ _ at hk) | (revert H; refine x_sP ?_; intro w1 hf H hk; clear hf; change Kp _ _ at hk) | (revert H; (first | (refine x_g ?_; intro g w1 hg hf H) | (refine x_s ?_; intro w1 hf H)); (first | replace hf := hf.kp | clear hf)))
  refine c_post H rfl rfl rfl ?_
  exact ⟨_, rfl, H.fr, _, _, _, _, _, _, rfl, HN3.out.mag, (bv HB4).c⟩
theorem two_any {w : World} {u v : Value} {x e y f : Int} (h : Dn w u x e) (k : Dn w v y f) (hb : bl x.natAbs ≤ 30000) (he : -30000 ≤ e ∧ e ≤ 30000) (hc : bl y.natAbs ≤ 30000) (hf : -30000 ≤ f ∧ f ≤ 30000) (hT : La w) :
    Calls Tryz.prog 88 #[u, v] w fun r w' => ∃ v1 v2, r = .returned (.tuple #[v1, v2, .bool true]) ∧ Fr [] w w' ∧ Dn w' v1 x e ∧ Dn w' v2 y f := by
  have HD1 := hid h
  have HD2 := hid k
  obtain ⟨m1, e1, b1, p1, n1, c1, rfl, h1, h2⟩ := h
  obtain ⟨m2, e2, b2, p2, n2, c2, rfl, k1, k2⟩ := k
  have HT := hid hT
  clear h1 h2 k1 k2 hT
  have H := Hp.start [] w
  go_enter Tryz.func88, Tryz.ntmps88
  go_wp2_with (first | refine x_q H ?_ | refine x_cm (fun h => ?_) (fun h => ?_) | refine x_l H ?_ | refine x_e (ev_dyad rfl rfl rfl) ?_ | (revert H; refine x_sF ?_; intro w1 hf H hk; clear hf; change Kp _ _ at hk) | (revert H; (first | (refine x_g ?_; intro g w1 hg hf H) | (refine x_s ?_; intro w1 hf H)); (first | replace hf := hf.kp | clear hf)))
  (refine x_c H (norm_dn (dn HD1) (by omega) (by omega) (by omega) (HT.out.fr H.fr)) ?_; clear H; rintro e w1 ⟨v3, rfl, hF, hD⟩ H; replace hF := hF.kp; obtain ⟨m3, e3, b3, p3, n3, c3, rfl, hN, hB⟩ := hD; have HN3 := hid hN; have HB3 := hid hB; clear hN hB)
  go_wp2_with (first | refine x_q H ?_ | refine x_cm (fun h => ?_) (fun h => ?_) | refine x_l H ?_ | refine x_e (ev_dyad rfl rfl rfl) ?_ | (revert H; refine x_sF ?_; intro w1 hf H hk; clear hf; change Kp _ _ at hk) | (revert H; (first | (refine x_g ?_; intro g w1 hg hf H) | (refine x_s ?_; intro w1 hf H)); (first | replace hf := hf.kp | clear hf)))
  (refine x_c H (norm_dn (dn HD2) (by omega) (by omega) (by omega) (HT.out.fr H.fr)) ?_; clear H; rintro e w1 ⟨v4, rfl, hF, hD⟩ H; replace hF := hF.kp; obtain ⟨m4, e4, b4, p4, n4, c4, rfl, hN, hB⟩ := hD; have HN4 := hid hN; have HB4 := hid hB; clear hN hB)
  go_wp2_with (first | refine x_q H ?_ | refine x_cm (fun h => ?_) (fun h => ?_) | refine x_l H ?_ | refine x_e (ev_dyad rfl rfl rfl) ?_ | (revert H; refine x_sF ?_; intro w1 hf H hk; clear hf; change Kp _ _ at hk) | (revert H; (first | (refine x_g ?_; intro g w1 hg hf H) | (refine x_s ?_; intro w1 hf H)); (first | replace hf := hf.kp | clear hf)))
  (revert H; refine w_pF 9 (.st 2 (.st 3 (.st 4 (.st 5 (.ld2 0 (.ld2 1 (.ld 6 (.ld 7 (.st 8 .done))) 6 (.ld 1 (.ld 7 (.st 8 .done)))) 1 (.ld 0 (.ld 6 (.ld 7 (.st 8 .done))))))))) ?_ (hs := (List.nil_sublist _)); intro w1 hf H; (first | replace hf := hf.kp | clear hf))
  iterate 2 refine p_q ?_
  (first | refine p_q ?_ | refine p_n ?_)
  refine p_q ?_
  (refine pl_ld2 ?_ ?_)
  (refine p_ldq (H := H) ?_)
  (refine pl_ld2 ?_ ?_)
  (refine p_ldq (H := H) ?_)
  (revert H; refine p_sF ?_; intro w1 hf H hk; clear hf; change Kp _ _ at hk)
  (revert H; refine p_sF ?_; intro w1 hf H hk; clear hf; change Kp _ _ at hk)
  refine p_q ?_
  (refine pl_done ?_)
  rotate_left
  (revert H; refine p_sF ?_; intro w1 hf H hk; clear hf; change Kp _ _ at hk)
  (refine p_ldq (H := H) ?_)
  (revert H; refine p_sF ?_; intro w1 hf H hk; clear hf; change Kp _ _ at hk)
  refine p_q ?_
  (refine pl_done ?_)
  rotate_left
  (refine p_ldq (H := H) ?_)
  (refine p_ldq (H := H) ?_)
  (revert H; refine p_sF ?_; intro w1 hf H hk; clear hf; change Kp _ _ at hk)
  (revert H; refine p_sF ?_; intro w1 hf H hk; clear hf; change Kp _ _ at hk)
  refine p_q ?_
  (refine pl_done ?_)
  rotate_left
  all_goals
    go_wp2_with (first | refine x_q H ?_ | refine x_cm (fun h => ?_) (fun h => ?_) | refine x_l H ?_ | refine x_e (ev_dyad rfl rfl rfl) ?_ | (revert H; refine x_sF ?_; intro w1 hf H hk; clear hf; change Kp _ _ at hk) | (revert H; (first | (refine x_g ?_; intro g w1 hg hf H) | (refine x_s ?_; intro w1 hf H)); (first | replace hf := hf.kp | clear hf)))
    refine c_postCCT H rfl rfl rfl rfl rfl rfl ?_
    exact ⟨_, _, rfl, H.fr, ⟨_, _, _, _, _, _, rfl, HN3.out, bv HB3⟩, ⟨_, _, _, _, _, _, rfl, HN4.out, bv HB4⟩⟩
/-- Two dyads in units of a common power of two. -/
theorem Nm.unit {x e m e' E : Int} (h : Nm x e m e') (he : e ≤ 0) (hE : E ≤ e') (hE2 : e ≤ E) : x = m * 2 ^ (e' - E).toNat * 2 ^ (E - e).toNat := by
  rcases h with ⟨h1, h2, h3⟩ | ⟨h1, t, h2, h3⟩
  · rw [h1, h2]; simp
  · rw [h2, Int.mul_assoc, ← Int.pow_add]
    congr 2
    omega
theorem Nm.ge {x e m e' : Int} (h : Nm x e m e') (he : e ≤ 0) : e ≤ e' := by
  rcases h with ⟨h1, h2, h3⟩ | ⟨h1, t, h2, h3⟩ <;> omega
theorem leftI_any {w : World} {u : Value} {x z : Int} {n : Nat} (k : Nat) (hz : z = (k : Int)) (h : Av w u x n) (hn : n ≤ 200000) (hk : k ≤ 1048576) :
    Calls Tryz.prog 154 #[u, .int .i64 z] w fun e w' => ∃ v1, e = .returned v1 ∧ Fr [] w w' ∧ Bv w' v1 (x * 2 ^ k) (bl (x * 2 ^ k).natAbs) := by
  subst hz
  exact left_any k h hn hk
theorem aligned_any {w : World} {u v : Value} {x y e : Int} (h : Dn w u x e) (k : Dn w v y e) (hb : bl x.natAbs ≤ 30000) (he : -30000 ≤ e ∧ e ≤ 0) (hc : bl y.natAbs ≤ 30000) :
    Calls Tryz.prog 89 #[u, v] w fun r w' => ∃ v1 v2 X Y E, r = .returned (.tuple #[v1, v2, .int .i64 E]) ∧ Fr [] w w' ∧ Bv w' v1 X (bl X.natAbs) ∧ Bv w' v2 Y (bl Y.natAbs) ∧ e ≤ E ∧ E ≤ 30000 ∧ x = X * 2 ^ (E - e).toNat ∧ y = Y * 2 ^ (E - e).toNat := by
  obtain ⟨m1, e1, b1, p1, n1, c1, rfl, h1, h2⟩ := h
  obtain ⟨m2, e2, b2, p2, n2, c2, rfl, k1, k2⟩ := k
  have g1 := h1.ge he.2
  have g2 := k1.ge he.2
  have l1 := h1.le
  have l2 := k1.le
  obtain ⟨E, hE⟩ : ∃ E, min e1 e2 = E := ⟨_, rfl⟩
  have hE1 : E ≤ e1 := by omega
  have hE2 : E ≤ e2 := by omega
  have hE3 : e ≤ E := by omega
  have hE4 : E ≤ 30000 := by omega
  have HX := hid (h1.unit he.2 hE1 hE3)
  have HY := hid (k1.unit he.2 hE2 hE3)
  have HM := hid hE
  have HB1 := hid h2
  have HB2 := hid k2
  obtain ⟨j1, hj1⟩ := Int.eq_ofNat_of_zero_le (show 0 ≤ e1 - E by omega)
  obtain ⟨j2, hj2⟩ := Int.eq_ofNat_of_zero_le (show 0 ≤ e2 - E by omega)
  have HJ1 := hid hj1
  have HJ2 := hid hj2
  have hk1 : j1 ≤ 1048576 := by omega
  have hk2 : j2 ≤ 1048576 := by omega
  rw [hj1, Int.toNat_natCast] at HX
  rw [hj2, Int.toNat_natCast] at HY
  clear h1 h2 k1 k2 hE hj1 hj2
  have H := Hp.start [] w
  go_enter Tryz.func89, Tryz.ntmps89
  go_wp2_with (first | refine x_q H ?_ | refine x_cm (fun h => ?_) (fun h => ?_) | refine x_l H ?_ | refine x_e (ev_dyad rfl rfl rfl) ?_ | (revert H; refine x_sF ?_; intro w1 hf H hk; clear hf; change Kp _ _ at hk) | refine x_e (ev_min rfl rfl rfl HM.out) ?_ | (revert H; (first | (refine x_g ?_; intro g w1 hg hf H) | (refine x_s ?_; intro w1 hf H)); (first | replace hf := hf.kp | clear hf)))
  (revert H; refine w_pF 18 (.st 0 (.st 1 (.st 2 (.st 3 (.st 4 (.st 5 (.st 7 (.st 8 (.st 9 (.st 10 (.st 11 (.st 12 (.st 14 (.ld 6 (.ld 13 (.ld 15 (.ld 16 (.st 17 .done)))))))))))))))))) ?_ (hs := (.cons _ (.cons _ (List.Sublist.refl _)))); intro w1 hf H; (first | replace hf := hf.kp | clear hf))
  refine p_q ?_
  (refine p_l ?_)
  iterate 5 refine p_q ?_
  (refine p_l ?_)
  iterate 5 refine p_q ?_
  ((refine p_c H rfl rfl Tryz.func154 (leftI_any j1 HJ1.out (bv HB1).ar (by omega) hk1) ?_; clear H; rintro e w1 ⟨v3, rfl, hF, hB⟩ H; refine p_r ?_; replace hF := hF.kp); obtain ⟨b3, p3, m3, c3, rfl⟩ := hB.form; have HB3 := hid hB; clear hB)
  ((refine p_c H rfl rfl Tryz.func154 (leftI_any j2 HJ2.out (bv HB2).ar (by omega) hk2) ?_; clear H; rintro e w1 ⟨v4, rfl, hF, hB⟩ H; refine p_r ?_; replace hF := hF.kp); obtain ⟨b4, p4, m4, c4, rfl⟩ := hB.form; have HB4 := hid hB; clear hB)
  (revert H; refine p_sF ?_; intro w1 hf H hk; clear hf; change Kp _ _ at hk)
  (revert H; refine p_sF ?_; intro w1 hf H hk; clear hf; change Kp _ _ at hk)
  refine p_q ?_
  (refine pl_done ?_)
  all_goals
    go_wp2_with (first | refine x_q H ?_ | refine x_cm (fun h => ?_) (fun h => ?_) | refine x_l H ?_ | refine x_e (ev_dyad rfl rfl rfl) ?_ | (revert H; refine x_sF ?_; intro w1 hf H hk; clear hf; change Kp _ _ at hk) | (revert H; (first | (refine x_g ?_; intro g w1 hg hf H) | (refine x_s ?_; intro w1 hf H)); (first | replace hf := hf.kp | clear hf)))
    refine c_postCCT H rfl rfl rfl rfl rfl rfl ?_
    exact ⟨_, _, _, _, E, rfl, H.fr, bv HB3, bv HB4, hE3, hE4, HX.out, HY.out⟩
end Go.Proofs.YthbeeeclgbpopaaGreatDoor
