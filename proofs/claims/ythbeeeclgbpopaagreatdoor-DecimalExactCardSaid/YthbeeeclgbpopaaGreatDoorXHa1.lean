/-
  The document's dyads: the normal form and the constructors.
-/
import Derived.Test.YthbeeeclgbpopaaGreatDoorXEa2
import Derived.Test.YthbeeeclgbpopaaGreatDoorXIz9
namespace Go.Proofs.YthbeeeclgbpopaaGreatDoor
open Go.RowKit
set_option linter.unusedSimpArgs false
set_option linter.unusedVariables false
set_option maxHeartbeats 8000000
set_option maxRecDepth 100000

section
variable {P : Program} {ops : Array Oper} {Q : Exit → Act → World → Prop} {w w0 : World} {rest : List Oper} {o : Oper} {T : List Nat} {l : List Ent} {L : List Value} {ds : List Deferred} {K : Act → World → Prop}
/-- A store of one cell that replaces no limb. -/
theorem c_st1 (H : Hp T w0 w l) {t : TypeId} {x : Operand} {k : Nat} (ho : o.op = .store t x (.tmp k)) {b p : Nat} {v : Value} (hx : (Act.mk L.toArray ds).eval x = .pointer (some ⟨b, p, none⟩)) (hy : L[k]? = some v) (h1 : v.oneCell' = true := by rfl) [hs : Sc P t]
    {cs : List Value} {t' : TypeId} {f : Nat → List Value → List Ent} [hm : In b cs t' l f] (hp : p < cs.length := by first | decide | omega | (simp; done) | (simp; omega) | fail)
    (h3 : ∀ u ∈ cs, ∀ x, u ≠ .int .u32 x := by intro z hz x; simp only [List.mem_cons, List.not_mem_nil, or_false] at hz; rcases hz with rfl | rfl | rfl | rfl | rfl | rfl <;> (intro h; cases h))
    (h : ∀ w', Fr [b] w w' → Hp T w0 w' (f b (cs.set p v)) → (∀ p c l, LR w p c l → LR w' p c l) → K (Act.put (Act.mk L.toArray ds) o.dst undef) w') : o.wp P (Act.mk L.toArray ds) w K Q :=
  c_st H ho hx hy h1 hp (fun w' hf H1 => h w' hf H1 (fun p c l hL => hL.keep (H.at b) h3 hf))
theorem x_s1 {b : Nat} {l' : List Ent} {L' : List Value}
    (h : ∀ w', Fr [b] w w' → Hp T w0 w' l' → (∀ p c l, LR w p c l → LR w' p c l) → wpList P ops Q rest ⟨L'.toArray, ds⟩ w')
    (hw : Region.wanted o (yielded ops L.toArray) = true := by rfl)
    (he : Hp T w0 w l → ∀ K : Act → World → Prop, (∀ w', Fr [b] w w' → Hp T w0 w' l' → (∀ p c l, LR w p c l → LR w' p c l) → K (Act.put ⟨L.toArray, ds⟩ o.dst undef) w') → o.wp P ⟨L.toArray, ds⟩ w K Q := by intro H K hK; exact c_st1 H rfl rfl rfl (h := hK))
    (hs : putL L o.dst undef = L' := by ((try simp only [nrm, putL_s, putL_n, ↓reduceIte, Nat.reduceAdd]); (try exact rfl))) (H : Hp T w0 w l) : wpList P ops Q (o :: rest) ⟨L.toArray, ds⟩ w :=
  wl_rw hw fun K hK => he H K fun w' h2 h3 h4 => hK _ _ (by rw [put_eq, hs]; exact h w' h2 h3 h4)
end
theorem bv_sg {w : World} {b : Bool} {p : Option Addr} {n c M k : Nat} (neg : Bool) (h : Bv w (.agg #[.bool b, .slice p n c]) (M : Int) k) (hM : 0 < M) : Bv w (.agg #[.bool neg, .slice p n c]) (sg neg M) (bl (sg neg M).natAbs) := by
  obtain ⟨hl, hn, _, _⟩ := h.parts
  have e : (sg neg M).natAbs = M := sg_abs neg M
  have e2 : decide (sg neg M < 0) = neg := by unfold sg; cases neg <;> simp <;> omega
  rw [Int.natAbs_natCast] at hl hn
  exact ⟨⟨p, c, by rw [e, hn, e2], by rw [e]; exact hl⟩, dl_bl _⟩
theorem av_sg {w : World} {b : Bool} {p : Option Addr} {n c k : Nat} {x : Int} (h : Av w (.agg #[.bool b, .slice p n c]) x k) : sg b x.natAbs = x := by
  obtain ⟨neg, l, p', c', he, _, hz, _⟩ := h
  simp at he
  obtain ⟨rfl, -⟩ := he
  rw [← hz, zv_sg, sg_abs]
theorem rshD_any {w : World} {u : Value} {x z : Int} {n : Nat} (k : Nat) (hz : z = -(k : Int)) (h : Av w u x n) (hn : n ≤ 100000) (hk : k ≤ 1048576) :
    Calls Tryz.prog 64 #[u, .int .i64 z] w fun e w' => ∃ v1, e = .returned v1 ∧ Fr [] w w' ∧ Bv w' v1 (x / 2 ^ k) (bl (x / 2 ^ k).natAbs) := by
  subst hz
  by_cases h0 : k = 0
  · subst h0
    have e : -((0 : Nat) : Int) = ((0 : Nat) : Int) := rfl
    rw [e]
    refine Calls.mono (rshiftUp_ar 0 h hn (by omega)) ?_
    rintro e w' ⟨v1, rfl, hF, hB⟩
    rw [Int.pow_zero, Int.mul_one] at hB
    rw [Int.pow_zero, Int.ediv_one]
    exact ⟨v1, rfl, hF, hB.c⟩
  · refine Calls.mono (rshiftDown_ar k h hn (by omega) hk) ?_
    rintro e w' ⟨v1, rfl, hF, hB⟩
    exact ⟨v1, rfl, hF, hB.c⟩
theorem rdown_any {w : World} {u : Value} {m : Nat} {z : Int} {n : Nat} (k : Nat) (hz : z = (k : Int)) (h : Av w u (m : Int) n) (hn : n ≤ 100000) (hk : k ≤ 1048576) :
    Calls Tryz.prog 168 #[u, .int .i64 z] w fun e w' => ∃ v1, e = .returned v1 ∧ Fr [] w w' ∧ Bv w' v1 ((m / 2 ^ k : Nat) : Int) (bl (m / 2 ^ k)) := by
  subst hz
  obtain ⟨b1, p1, m1, c1, rfl⟩ := h.form
  have HA1 := hid h
  have HE : Hid ((m : Int) / 2 ^ k = ((m / 2 ^ k : Nat) : Int)) := hid (by rw [Int.natCast_ediv, Int.natCast_pow]; rfl)
  clear h
  have H := Hp.start [] w
  go_enter Tryz.func168, Tryz.ntmps168
  go_wp2_with (revert H; (first | (refine x_g ?_; intro g w1 hg hf H) | (refine x_s ?_; intro w1 hf H)); (first | replace hf := hf.kp | clear hf))
  rename_i ga wa hga hfa xa ya
  go_loopw [1] (fun s1 wr => s1 = .int .i64 (k : Int) ∧ Hp [] w wr [.blk g [.bool false, .slice none 0 0] 50, .blk ga [.bool b1, .slice p1 m1 c1] 50]) (fun _ _ => 0)
  case atStart => exact ⟨rfl, H⟩
  case round =>
    clear H
    obtain ⟨rfl, H⟩ := hrel
    go_wp2_with (refine x_q H ?_)
    (refine x_c H (rshD_any k rfl (HA1.out.fr H.fr) hn hk) ?_; clear H; rintro e w1 ⟨v3, rfl, hF, hB⟩ H; replace hF := hF.kp; rw [HE.out, Int.natAbs_natCast] at hB; obtain ⟨b3, p3, m3, c3, rfl⟩ := hB.form; have HB3 := hid hB; clear hB)
    go_wp2_with (revert H; refine x_sF ?_; intro w1 hf H hk; clear hf; change Kp _ _ at hk)
    refine c_post H rfl rfl rfl ?_
    exact ⟨_, rfl, H.fr, bv HB3⟩
theorem digs_none {x : Int} {m : Nat} (h : (digs x.natAbs).length = m) : (x = 0 → m = 0) ∧ (x ≠ 0 → 0 < m) := by
  constructor
  · rintro rfl
    have : (digs (0 : Int).natAbs).length ≤ 0 := digs_len_of (by decide)
    omega
  · intro hx
    apply Nat.pos_of_ne_zero
    intro h0
    have := digs_lt x.natAbs
    rw [h, h0] at this
    simp at this
    omega
theorem rmake_any {w : World} {u : Value} {x e : Int} {n : Nat} (h : Av w u x n) (hn : n ≤ 100000) (hb : bl x.natAbs ≤ 100000) (hx : bl x.natAbs + e ≤ 65536) (he : -65536 ≤ e) (hT : La w) :
    Calls Tryz.prog 111 #[u, .int .i64 e] w fun r w' => ∃ v1, r = .returned v1 ∧ Fr [] w w' ∧ Dn w' v1 x e := by
  obtain ⟨b1, p1, m1, c1, rfl⟩ := h.form
  have HA1 := hid h
  have HT := hid hT
  have hsg := av_sg h
  clear h hT
  have H := Hp.start [] w
  by_cases h0 : x = 0
  · subst h0
    go_enter Tryz.func111, Tryz.ntmps111
    go_wp2_with (first | refine x_q H ?_ | (revert H; (first | (refine x_g ?_; intro g w1 hg hf H) | (refine x_s ?_; intro w1 hf H)); (first | replace hf := hf.kp | clear hf)))
    (refine x_c H (rnorm_ar (av HA1) (by omega)) ?_; clear H; rintro e w1 ⟨v3, rfl, hF, hB⟩ H; replace hF := hF.kp; obtain ⟨b3, p3, m3, c3, rfl⟩ := hB.form; obtain ⟨_, hl3, _, _⟩ := hB.parts; have hm3 := (digs_none hl3).1 rfl; clear hl3 hB; subst hm3)
    go_wp2_with (first | refine x_q H ?_ | (revert H; refine x_sF ?_; intro w1 hf H hk; clear hf; change Kp _ _ at hk) | (revert H; (first | (refine x_g ?_; intro g w1 hg hf H) | (refine x_s ?_; intro w1 hf H)); (first | replace hf := hf.kp | clear hf)))
    refine c_post H rfl rfl rfl ?_
    exact ⟨_, rfl, H.fr, 0, 0, false, none, 0, 0, rfl, .inl ⟨rfl, rfl, rfl⟩, (bv_zero _)⟩
  · have hNM := Nm.norm (e := e) h0
    obtain ⟨z, hz⟩ : ∃ z, tz x.natAbs = z := ⟨_, rfl⟩
    obtain ⟨q, hq⟩ := tz_split x.natAbs (by omega)
    rw [hz] at hq hNM
    have hzb := tz_le _ _ (bl_lt x.natAbs)
    rw [hz] at hzb
    have hq0 : 0 < q := by
      apply Nat.pos_of_ne_zero
      intro e
      rw [e, Nat.zero_mul] at hq
      omega
    have hbq : bl x.natAbs = bl q + z := by rw [hq]; exact bl_mul_pow (by omega) z
    have hdq : x.natAbs / 2 ^ z = q := by rw [hq]; exact Nat.mul_div_cancel _ (pow2_pos z)
    have hxq : x / 2 ^ z = sg b1 q := by
      have e1 : x = sg b1 q * 2 ^ z := by rw [← sg_pow, ← hq, hsg]
      rw [e1, Int.mul_ediv_cancel _ (by have := two_pos z; omega)]
    rw [hxq] at hNM
    have HNM := hid hNM
    have HZ := hid hz
    have HDQ := hid hdq
    have HX0 := hid h0
    have hbq1 : bl x.natAbs ≤ bl q + z := by omega
    have hbq2 : bl q + z ≤ bl x.natAbs := by omega
    clear hNM hz hq hxq hdq h0 hbq hsg
    go_enter Tryz.func111, Tryz.ntmps111
    go_wp2_with (first | refine x_q H ?_ | (revert H; (first | (refine x_g ?_; intro g w1 hg hf H) | (refine x_s ?_; intro w1 hf H)); (first | replace hf := hf.kp | clear hf)))
    (refine x_c H (rnorm_ar (av HA1) (by omega)) ?_; clear H; rintro e w1 ⟨v3, rfl, hF, hB⟩ H; replace hF := hF.kp; obtain ⟨b3, p3, m3, c3, rfl⟩ := hB.form; obtain ⟨_, hl3, _, _⟩ := hB.parts; have hm3 := (digs_none hl3).2 HX0.out; clear hl3; have HB3 := hid hB; clear hB)
    go_wp2_with (first | refine x_q H ?_ | (revert H; refine x_sF ?_; intro w1 hf H hk; clear hf; change Kp _ _ at hk) | (revert H; (first | (refine x_g ?_; intro g w1 hg hf H) | (refine x_s ?_; intro w1 hf H)); (first | replace hf := hf.kp | clear hf)))
    (refine x_c H (rTrailing_ar (bv HB3).ar (by omega) (HT.out.fr H.fr).1) ?_; clear H; rintro e w1 ⟨rfl, hF⟩ H; replace hF := hF.kp; rw [HZ.out])
    go_wp2_with (refine x_q H ?_)
    (refine x_c H (rabs_ar (bv HB3).ar (by omega)) ?_; clear H; rintro e w1 ⟨v4, rfl, hF, hB⟩ H; replace hF := hF.kp; obtain ⟨b4, p4, m4, c4, rfl⟩ := hB.form; have HB4 := hid hB; clear hB)
    go_wp2_with (first | refine x_q H ?_ | (revert H; refine x_sF ?_; intro w1 hf H hk; clear hf; change Kp _ _ at hk))
    (refine x_c H (rdown_any z rfl (bv HB4).ar (by omega) (by omega)) ?_; clear H; rintro e w1 ⟨v5, rfl, hF, hB⟩ H; replace hF := hF.kp; rw [HDQ.out] at hB; obtain ⟨b5, p5, m5, c5, rfl⟩ := hB.form; have HB5 := hid hB; clear hB)
    go_wp2_with (first | refine x_q H ?_ | (revert H; refine x_sF ?_; intro w1 hf H hk; clear hf; change Kp _ _ at hk))
    (refine x_c H (rBitLen_ar (bv HB5).ar (by omega)) ?_; clear H; rintro e w1 ⟨rfl, hF⟩ H; replace hF := hF.kp; rw [Int.natAbs_natCast])
    go_wp2_with (first | refine x_q H ?_ | refine x_e (ev_dyad rfl rfl rfl) ?_ | (revert H; refine x_sF ?_; intro w1 hf H hk; clear hf; change Kp _ _ at hk) | (revert H; refine x_s1 ?_; intro w1 hf H hk; clear hf; change Kp _ _ at hk))
    refine c_post H rfl rfl rfl ?_
    exact ⟨_, rfl, H.fr, _, _, _, _, _, _, rfl, HNM.out, bv_sg b1 (bv HB5) hq0⟩
theorem rnormD_any {w : World} {v : Value} {x e : Int} (h : Dn w v x e) (hb : bl x.natAbs ≤ 65536) (hx : bl x.natAbs + e ≤ 65536) (he : -65536 ≤ e) (hT : La w) :
    Calls Tryz.prog 170 #[v] w fun r w' => ∃ v1, r = .returned v1 ∧ Fr [] w w' ∧ Dn w' v1 x e := by
  obtain ⟨m1, e1, b1, p1, n1, c1, rfl, h1, h2⟩ := h
  have hl := h1.le
  have HN1 := hid h1
  have HB1 := hid h2
  have HT := hid hT
  clear h1 h2 hT
  have H := Hp.start [] w
  go_enter Tryz.func170, Tryz.ntmps170
  go_wp2_with (first | refine x_q H ?_ | refine x_l H ?_ | (revert H; (first | (refine x_g ?_; intro g w1 hg hf H) | (refine x_s ?_; intro w1 hf H)); (first | replace hf := hf.kp | clear hf)))
  (refine x_c H (rmake_any (bv HB1).ar (by omega) (by omega) (by omega) (by omega) (HT.out.fr H.fr)) ?_; clear H; rintro e w1 ⟨v3, rfl, hF, hD⟩ H; replace hF := hF.kp; obtain ⟨m3, e3, b3, p3, n3, c3, rfl, hN, hB⟩ := hD; have HN3 := hid hN; have HB3 := hid hB; clear hN hB)
  go_wp2_with (revert H; refine x_sF ?_; intro w1 hf H hk; clear hf; change Kp _ _ at hk)
  refine c_post H rfl rfl rfl ?_
  exact ⟨_, rfl, H.fr, _, _, _, _, _, _, rfl, HN1.out.trans HN3.out, bv HB3⟩
theorem rfromBig_any {w : World} {u : Value} {x : Int} {n : Nat} (h : Av w u x n) (hn : n ≤ 100000) (hx : bl x.natAbs ≤ 65536) (hT : La w) :
    Calls Tryz.prog 112 #[u] w fun r w' => ∃ v1, r = .returned v1 ∧ Fr [] w w' ∧ Dn w' v1 x 0 := by
  obtain ⟨b1, p1, m1, c1, rfl⟩ := h.form
  have HA1 := hid h
  have HT := hid hT
  clear h hT
  have H := Hp.start [] w
  go_enter Tryz.func112, Tryz.ntmps112
  go_wp2_with (first | refine x_q H ?_ | (revert H; (first | (refine x_g ?_; intro g w1 hg hf H) | (refine x_s ?_; intro w1 hf H)); (first | replace hf := hf.kp | clear hf)))
  (refine x_c H (rmake_any (av HA1) hn (by omega) (by omega) (by omega) (HT.out.fr H.fr)) ?_; clear H; rintro e w1 ⟨v3, rfl, hF, hD⟩ H; replace hF := hF.kp; obtain ⟨m3, e3, b3, p3, n3, c3, rfl, hN, hB⟩ := hD; have HN3 := hid hN; have HB3 := hid hB; clear hN hB)
  go_wp2_with (revert H; refine x_sF ?_; intro w1 hf H hk; clear hf; change Kp _ _ at hk)
  refine c_post H rfl rfl rfl ?_
  exact ⟨_, rfl, H.fr, _, _, _, _, _, _, rfl, HN3.out, bv HB3⟩
end Go.Proofs.YthbeeeclgbpopaaGreatDoor
