/-
  The walk of IntegerOrder.
-/
import Derived.Test.YtpmebjhlgdhchaaDoorIz4
import Derived.Test.YtpmebjhlgdhchaaDoorPz3
import Derived.Test.YtpmebjhlgdhchaaDoorIw44
import Derived.Test.YtpmebjhlgdhchaaDoorIz13
namespace Go.Proofs.YtpmebjhlgdhchaaDoor
open Go.RowKit
set_option linter.unusedSimpArgs false
set_option linter.unusedVariables false
set_option maxHeartbeats 4000000
set_option maxRecDepth 100000

theorem ev_negK {P : Program} {a : Act} {w : World} {o : Oper} {t : TypeId} {x : Operand} (ho : o.op = .unOp .neg t x) {K : Int} (hx : a.eval x = .int .i64 (-K)) (h : inr .i64 K) : (execOp a.eval o).run P w = .ok (.value (.int .i64 K)) w := by
  unfold execOp
  simp [ho, hx, Op.unary, Op.intArith, wrap_inr h]
theorem ev_strEqV {P : Program} {a : Act} {w : World} {o : Oper} {t t' : TypeId} {x y : Operand} (ho : o.op = .binOp .eql t x y t') {s r : List UInt8} (hx : a.eval x = strV s) (hy : a.eval y = strV r) {b : Bool} (hs : Hid ((s == r) = b)) : (execOp a.eval o).run P w = .ok (.value (.bool b)) w := by
  rw [← hs.out]; exact ev_strEq ho hx hy
theorem cmp_is {w : World} {u v : Value} {x y : Int} {n m : Nat} {k : Int} (h : Av w u x n) (h' : Av w v y m) (hn : n ≤ 200000) (hm : m ≤ 200000) (hk : cmpZ x y = k) :
    Calls Tryd.prog 22 #[u, v] w fun e w' => e = .returned (.int .i64 k) ∧ Fr [] w w' := by
  subst hk; exact cmp_ar h h' hn hm
theorem sign_is {w : World} {u : Value} {x : Int} {n : Nat} {k : Int} (h : Av w u x n) (hn : n ≤ 200000) (hk : Int.sign x = k) :
    Calls Tryd.prog 24 #[u] w fun e w' => e = .returned (.int .i64 k) ∧ Fr [] w w' := by
  subst hk; exact sign_ar h hn
theorem int_is {w : World} {u : Value} {x : Int} {n : Nat} {v : Value} (h : Av w u x n) (hn : n ≤ 200000) (hv : intV x = v) :
    Calls Tryd.prog 18 #[u] w fun e w' => e = .returned v ∧ Fr [] w w' := by
  subst hv
  obtain ⟨na, la, p, c, rfl, h1, rfl, h3⟩ := h
  exact int_all na la rfl (by omega) h1
theorem intV_rng {z : Int} (h : -9223372036854775808 ≤ z ∧ z ≤ 9223372036854775807) : intV z = .tuple #[.int .i64 z, .bool true] := by rw [intV, if_pos h]
theorem sign_sub (x y : Int) : Int.sign (x - y) = cmpZ x y := by
  unfold cmpZ
  by_cases h : x < y
  · rw [if_pos h]; exact Int.sign_eq_neg_one_of_neg (by omega)
  · rw [if_neg h]
    by_cases h2 : y < x
    · rw [if_pos h2]; exact Int.sign_eq_one_of_pos (by omega)
    · rw [if_neg h2, show x - y = 0 by omega]; rfl
theorem cmp_add (x y z : Int) : cmpZ (x + z) (y + z) = cmpZ x y := by unfold cmpZ; (repeat' split) <;> omega
theorem cmp_swap (x y : Int) : cmpZ y x = -cmpZ x y := by unfold cmpZ; (repeat' split) <;> omega
theorem cmp_tran {x y z : Int} (h : cmpZ x y = cmpZ y z) : cmpZ x z = cmpZ x y := by unfold cmpZ at *; (repeat' split at h) <;> (repeat' split) <;> omega
theorem cmp_zero {x y : Int} : cmpZ x y = 0 ↔ x = y := by unfold cmpZ; (repeat' split) <;> omega
theorem fmt_len {x : Int} (h : dl x ≤ 40) : (fmt x).length ≤ 1024 := by
  have h4 := (padk_eq (10 * dl x) x.natAbs (Nat.lt_of_lt_of_le dl_lt (by
    rw [Nat.pow_succ, Nat.pow_mul]
    exact Nat.le_trans (Nat.pow_le_pow_left (by decide) _) (Nat.le_mul_of_pos_right _ (by decide))))).1
  unfold fmt
  split
  · rw [List.length_cons]; omega
  · omega
theorem parse_fmt (w : World) (x : Int) (h : dl x ≤ 40) :
    Calls Tryd.prog 45 #[strV (fmt x)] w fun e w' => ∃ v1, e = .returned (.tuple #[v1, .int .i64 0]) ∧ Fr [] w w' ∧ Bv w' v1 x 1024 := by
  have h1 := fmt_len h
  have h2 := parse_any w (fmt x) (by omega)
  rw [pz_fmt x h1] at h2
  exact h2
set_option maxHeartbeats 32000000 in
theorem integerOrder_walk (W : World) (hL : laidMetH Tryd.prog laid5 W) (v0 : Value) (o0 : IsBig W v0) (v1 : Value) (o1 : IsBig W v1) (v2 : Value) (o2 : IsBig W v2) (a9 : Int) (w9 : (Lit.int .i64 a9).wf = true) :
    Calls Tryd.prog 7 #[v0, v1, v2, .int .i64 a9] W fun e w' => e = .returned (.bool true) ∧ Fr [] W w' := by
  obtain ⟨na, p, c, la, rfl, hL0⟩ := o0
  obtain ⟨nb, q, d, lb, rfl, hL1⟩ := o1
  obtain ⟨nc, r, f, lc, rfl, hL2⟩ := o2
  have HT := hid (laid_pow5 hL)
  have w8 : -9223372036854775808 ≤ a9 ∧ a9 ≤ 9223372036854775807 := by have h := w9; simp [Lit.wf, IntKind.min, IntKind.max, IntKind.bits, IntKind.signed] at h; omega
  clear w9
  have H := Hp.start [] W
  have hll0 := hL0.len
  have hll1 := hL1.len
  have hll2 := hL2.len
  clear hL
  by_cases h1 : (40 : Int) < la.length
  · go_enter Tryd.func7, Tryd.ntmps7
    go_wp2_with (first | refine x_q H ?_ | refine x_cm (fun h => ?_) (fun h => ?_) | (revert H; (first | (refine x_g ?_; intro g w1 hg hf H) | (refine x_s ?_; intro w1 hf H)); (first | replace hf := hf.kp | clear hf)))
    (refine x_c H (slim_no (hL0.fr H.fr) h1) ?_; clear H; rintro e w1 ⟨rfl, hF⟩ H; replace hF := hF.kp; skip)
    go_wp2_with (first | refine x_q H ?_ | refine x_cm (fun h => ?_) (fun h => ?_) | (revert H; (first | (refine x_g ?_; intro g w1 hg hf H) | (refine x_s ?_; intro w1 hf H)); (first | replace hf := hf.kp | clear hf)))
    ((refine x_c H (awake_any _ (TabIs.fr HT.out H.fr)) ?_; clear H; rintro e w1 ⟨rfl, hF⟩ H; replace hF := hF.kp; skip); go_wp2_with (first | refine x_q H ?_ | refine x_cm (fun h => ?_) (fun h => ?_) | (revert H; (first | (refine x_g ?_; intro g w1 hg hf H) | (refine x_s ?_; intro w1 hf H)); (first | replace hf := hf.kp | clear hf))); go_ret; exact ⟨rfl, H.fr⟩)
  have HA1 : Hid (Av W (.agg #[.bool na, .slice p la.length c]) (zv na la) 40) := hid ⟨na, la, p, c, rfl, hL0, rfl, by omega⟩
  by_cases h2 : (40 : Int) < lb.length
  · go_enter Tryd.func7, Tryd.ntmps7
    go_wp2_with (first | refine x_q H ?_ | refine x_cm (fun h => ?_) (fun h => ?_) | (revert H; (first | (refine x_g ?_; intro g w1 hg hf H) | (refine x_s ?_; intro w1 hf H)); (first | replace hf := hf.kp | clear hf)))
    (refine x_c H (slim_ar (av HA1) (by omega) (by omega)) ?_; clear H; rintro e w1 ⟨rfl, hF⟩ H; replace hF := hF.kp; skip)
    go_wp2_with (first | refine x_q H ?_ | refine x_cm (fun h => ?_) (fun h => ?_) | (revert H; (first | (refine x_g ?_; intro g w1 hg hf H) | (refine x_s ?_; intro w1 hf H)); (first | replace hf := hf.kp | clear hf)))
    (refine x_c H (slim_no (hL1.fr H.fr) h2) ?_; clear H; rintro e w1 ⟨rfl, hF⟩ H; replace hF := hF.kp; skip)
    go_wp2_with (first | refine x_q H ?_ | refine x_cm (fun h => ?_) (fun h => ?_) | (revert H; (first | (refine x_g ?_; intro g w1 hg hf H) | (refine x_s ?_; intro w1 hf H)); (first | replace hf := hf.kp | clear hf)))
    ((refine x_c H (awake_any _ (TabIs.fr HT.out H.fr)) ?_; clear H; rintro e w1 ⟨rfl, hF⟩ H; replace hF := hF.kp; skip); go_wp2_with (first | refine x_q H ?_ | refine x_cm (fun h => ?_) (fun h => ?_) | (revert H; (first | (refine x_g ?_; intro g w1 hg hf H) | (refine x_s ?_; intro w1 hf H)); (first | replace hf := hf.kp | clear hf))); go_ret; exact ⟨rfl, H.fr⟩)
  have HA2 : Hid (Av W (.agg #[.bool nb, .slice q lb.length d]) (zv nb lb) 40) := hid ⟨nb, lb, q, d, rfl, hL1, rfl, by omega⟩
  by_cases h3 : (40 : Int) < lc.length
  · go_enter Tryd.func7, Tryd.ntmps7
    go_wp2_with (first | refine x_q H ?_ | refine x_cm (fun h => ?_) (fun h => ?_) | (revert H; (first | (refine x_g ?_; intro g w1 hg hf H) | (refine x_s ?_; intro w1 hf H)); (first | replace hf := hf.kp | clear hf)))
    (refine x_c H (slim_ar (av HA1) (by omega) (by omega)) ?_; clear H; rintro e w1 ⟨rfl, hF⟩ H; replace hF := hF.kp; skip)
    go_wp2_with (first | refine x_q H ?_ | refine x_cm (fun h => ?_) (fun h => ?_) | (revert H; (first | (refine x_g ?_; intro g w1 hg hf H) | (refine x_s ?_; intro w1 hf H)); (first | replace hf := hf.kp | clear hf)))
    (refine x_c H (slim_ar (av HA2) (by omega) (by omega)) ?_; clear H; rintro e w1 ⟨rfl, hF⟩ H; replace hF := hF.kp; skip)
    go_wp2_with (first | refine x_q H ?_ | refine x_cm (fun h => ?_) (fun h => ?_) | (revert H; (first | (refine x_g ?_; intro g w1 hg hf H) | (refine x_s ?_; intro w1 hf H)); (first | replace hf := hf.kp | clear hf)))
    (refine x_c H (slim_no (hL2.fr H.fr) h3) ?_; clear H; rintro e w1 ⟨rfl, hF⟩ H; replace hF := hF.kp; skip)
    go_wp2_with (first | refine x_q H ?_ | refine x_cm (fun h => ?_) (fun h => ?_) | (revert H; (first | (refine x_g ?_; intro g w1 hg hf H) | (refine x_s ?_; intro w1 hf H)); (first | replace hf := hf.kp | clear hf)))
    ((refine x_c H (awake_any _ (TabIs.fr HT.out H.fr)) ?_; clear H; rintro e w1 ⟨rfl, hF⟩ H; replace hF := hF.kp; skip); go_wp2_with (first | refine x_q H ?_ | refine x_cm (fun h => ?_) (fun h => ?_) | (revert H; (first | (refine x_g ?_; intro g w1 hg hf H) | (refine x_s ?_; intro w1 hf H)); (first | replace hf := hf.kp | clear hf))); go_ret; exact ⟨rfl, H.fr⟩)
  have HA3 : Hid (Av W (.agg #[.bool nc, .slice r lc.length f]) (zv nc lc) 40) := hid ⟨nc, lc, r, f, rfl, hL2, rfl, by omega⟩
  clear h1 hL0 hll0 h2 hL1 hll1 h3 hL2 hll2
  generalize zv na la = x at HA1
  generalize zv nb lb = y at HA2
  generalize zv nc lc = z at HA3
  generalize la.length = n1 at HA1 ⊢
  generalize lb.length = n2 at HA2 ⊢
  generalize lc.length = n3 at HA3 ⊢
  obtain ⟨k, hk⟩ : ∃ k, cmpZ x y = k := ⟨_, rfl⟩
  obtain ⟨j, hj⟩ : ∃ j, cmpZ y z = j := ⟨_, rfl⟩
  have hkb : -1 ≤ k ∧ k ≤ 1 := by rw [← hk]; exact cmpZ_le x y
  have K0 := hid hk
  have K1 := hid hj
  have K2 : Hid (Int.sign (x - y) = k) := hid (by rw [sign_sub, hk])
  have K3 : Hid (cmpZ (x + z) (y + z) = k) := hid (by rw [cmp_add, hk])
  have K4 : Hid (cmpZ y x = -k) := hid (by rw [cmp_swap, hk])
  have K5 : Hid (k = j → cmpZ x z = k) := hid (fun e => by rw [cmp_tran (by rw [hk, hj]; exact e), hk])
  have hdx := HA1.out.dl
  have Hdx := hid hdx
  obtain ⟨bb, hbb⟩ : ∃ b, (fmt x == fmt y) = b := ⟨_, rfl⟩
  have HBB := hid hbb
  have HB0 : (bb = true ∧ k = 0) ∨ (bb = false ∧ k ≠ 0) := by
    by_cases e : x = y
    · left
      exact ⟨by rw [← hbb, e]; simp, by rw [← hk]; exact cmp_zero.2 e⟩
    · right
      refine ⟨?_, by rw [← hk]; exact fun h => e (cmp_zero.1 h)⟩
      rw [← hbb]
      simp only [beq_eq_false_iff_ne, ne_eq]
      exact fun h => e (fmt_inj h (fmt_len hdx))
  have HB0 := hid HB0
  clear hk hj hbb hdx
  go_enter Tryd.func7, Tryd.ntmps7
  go_wp2_with (first | refine x_q H ?_ | refine x_cm (fun h => ?_) (fun h => ?_) | (revert H; (first | (refine x_g ?_; intro g w1 hg hf H) | (refine x_s ?_; intro w1 hf H)); (first | replace hf := hf.kp | clear hf)))
  (refine x_c H (slim_ar (av HA1) (by omega) (by omega)) ?_; clear H; rintro e w1 ⟨rfl, hF⟩ H; replace hF := hF.kp; skip)
  go_wp2_with (first | refine x_q H ?_ | refine x_cm (fun h => ?_) (fun h => ?_) | (revert H; (first | (refine x_g ?_; intro g w1 hg hf H) | (refine x_s ?_; intro w1 hf H)); (first | replace hf := hf.kp | clear hf)))
  (refine x_c H (slim_ar (av HA2) (by omega) (by omega)) ?_; clear H; rintro e w1 ⟨rfl, hF⟩ H; replace hF := hF.kp; skip)
  go_wp2_with (first | refine x_q H ?_ | refine x_cm (fun h => ?_) (fun h => ?_) | (revert H; (first | (refine x_g ?_; intro g w1 hg hf H) | (refine x_s ?_; intro w1 hf H)); (first | replace hf := hf.kp | clear hf)))
  (refine x_c H (slim_ar (av HA3) (by omega) (by omega)) ?_; clear H; rintro e w1 ⟨rfl, hF⟩ H; replace hF := hF.kp; skip)
  go_wp2_with (first | refine x_q H ?_ | refine x_cm (fun h => ?_) (fun h => ?_) | (revert H; (first | (refine x_g ?_; intro g w1 hg hf H) | (refine x_s ?_; intro w1 hf H)); (first | replace hf := hf.kp | clear hf)))
  (revert H; refine w_pF 8 (.st 0 (.st 1 (.st 3 (.st 4 (.ld 2 (.ld 5 (.st 6 (.st 7 .done)))))))) ?_; intro w1 hf H; (first | replace hf := hf.kp | clear hf))
  iterate 4 refine p_q ?_
  ((refine p_c H rfl rfl Tryd.func22 (cmp_is (av HA1) (av HA2) (by omega) (by omega) K0.out) ?_; clear H; rintro e w1 ⟨rfl, hF⟩ H; refine p_r ?_; replace hF := hF.kp); skip)
  ((refine p_c H rfl rfl Tryd.func22 (cmp_is (av HA2) (av HA3) (by omega) (by omega) K1.out) ?_; clear H; rintro e w1 ⟨rfl, hF⟩ H; refine p_r ?_; replace hF := hF.kp); skip)
  iterate 2 refine p_q ?_
  (refine pl_done ?_)
  go_wp2_with (first | refine x_q H ?_ | refine x_cm (fun h => ?_) (fun h => ?_) | (revert H; (first | (refine x_g ?_; intro g w1 hg hf H) | (refine x_s ?_; intro w1 hf H)); (first | replace hf := hf.kp | clear hf)))
  by_cases hkj : k = j
  · have K6 := hid (K5.out hkj)
    have hk1 : k ≤ j := by omega
    have hk2 : j ≤ k := by omega
    clear hkj
    (revert H; refine w_pF 37 (.st 0 (.st 1 (.st 2 (.ld 3 (.ld 4 (.st 5 (.st 6 (.st 7 (.st 8 (.st 9 (.st 11 (.st 12 (.ld 10 (.ld 13 (.ld 14 (.st 15 (.st 16 (.st 17 (.st 18 (.st 19 (.st 20 (.ld 21 (.st 22 (.st 23 (.st 24 (.st 25 (.st 26 (.st 27 (.st 28 (.st 29 (.st 30 (.st 31 (.st 33 (.ld 32 (.st 34 (.st 35 (.st 36 .done))))))))))))))))))))))))))))))))))))) ?_; intro w1 hf H; (first | replace hf := hf.kp | clear hf))
    iterate 3 refine p_q ?_
    ((refine p_c H rfl rfl Tryd.func33 (sub_ar (av HA1) (av HA2) (by omega) (by omega)) ?_; clear H; rintro e w1 ⟨v1, rfl, hF, hB⟩ H; refine p_r ?_; replace hF := hF.kp); have HB1 := hid hB; clear hB)
    ((refine p_c H rfl rfl Tryd.func24 (sign_is (bv HB1).ar (by omega) K2.out) ?_; clear H; rintro e w1 ⟨rfl, hF⟩ H; refine p_r ?_; replace hF := hF.kp); skip)
    iterate 2 refine p_q ?_
    iterate 5 (first | refine p_q ?_ | refine p_n ?_)
    ((refine p_c H rfl rfl Tryd.func31 (add_ar (av HA1) (av HA3) (by omega) (by omega)) ?_; clear H; rintro e w1 ⟨v2, rfl, hF, hB⟩ H; refine p_r ?_; replace hF := hF.kp); have HB2 := hid hB; clear hB)
    ((refine p_c H rfl rfl Tryd.func31 (add_ar (av HA2) (av HA3) (by omega) (by omega)) ?_; clear H; rintro e w1 ⟨v3, rfl, hF, hB⟩ H; refine p_r ?_; replace hF := hF.kp); have HB3 := hid hB; clear hB)
    ((refine p_c H rfl rfl Tryd.func22 (cmp_is (bv HB2).ar (bv HB3).ar (by omega) (by omega) K3.out) ?_; clear H; rintro e w1 ⟨rfl, hF⟩ H; refine p_r ?_; replace hF := hF.kp); skip)
    (first | refine p_q ?_ | refine p_n ?_)
    iterate 2 refine p_q ?_
    iterate 3 (first | refine p_q ?_ | refine p_n ?_)
    ((refine p_c H rfl rfl Tryd.func22 (cmp_is (av HA2) (av HA1) (by omega) (by omega) K4.out) ?_; clear H; rintro e w1 ⟨rfl, hF⟩ H; refine p_r ?_; replace hF := hF.kp); skip)
    (refine p_e rfl (fun w H => ev_negK rfl rfl (by simp only [inr]; omega)) ?_)
    (first | refine p_q ?_ | refine p_n ?_)
    iterate 2 refine p_q ?_
    iterate 7 (first | refine p_q ?_ | refine p_n ?_)
    ((refine p_c H rfl rfl Tryd.func22 (cmp_is (av HA1) (av HA3) (by omega) (by omega) K6.out) ?_; clear H; rintro e w1 ⟨rfl, hF⟩ H; refine p_r ?_; replace hF := hF.kp); skip)
    iterate 2 (first | refine p_q ?_ | refine p_n ?_)
    refine p_q ?_
    (refine pl_done ?_)
    clear HB1 HB2 HB3
    go_wp2_with (first | refine x_q H ?_ | refine x_cm (fun h => ?_) (fun h => ?_) | (revert H; (first | (refine x_g ?_; intro g w1 hg hf H) | (refine x_s ?_; intro w1 hf H)); (first | replace hf := hf.kp | clear hf)))
    (refine x_c H (format_ar (av HA1) (by omega) (TabIs.fr HT.out H.fr)) ?_; clear H; rintro e w1 ⟨rfl, hF⟩ H; replace hF := hF.kp; skip)
    go_wp2_with (first | refine x_q H ?_ | refine x_cm (fun h => ?_) (fun h => ?_) | (revert H; (first | (refine x_g ?_; intro g w1 hg hf H) | (refine x_s ?_; intro w1 hf H)); (first | replace hf := hf.kp | clear hf)))
    (refine x_c H (parse_fmt _ x Hdx.out) ?_; clear H; rintro e w1 ⟨v5, rfl, hF, hB⟩ H; replace hF := hF.kp; obtain ⟨b5, p5, m5, c5, rfl⟩ := hB.form; have HB5 := hid hB; clear hB)
    go_wp2_with (first | refine x_q H ?_ | refine x_cm (fun h => ?_) (fun h => ?_) | (revert H; refine x_s2 ?_; intro w1 hf H hk; clear hf; change Kp _ _ at hk) | (revert H; (first | (refine x_g ?_; intro g w1 hg hf H) | (refine x_s ?_; intro w1 hf H)); (first | replace hf := hf.kp | clear hf)))
    (refine x_c H (fromInt_ar _ a9 w8) ?_; clear H; rintro e w1 ⟨v6, rfl, hF, hB⟩ H; replace hF := hF.kp; have HB6 := hid hB; clear hB)
    go_wp2_with (first | refine x_q H ?_ | refine x_cm (fun h => ?_) (fun h => ?_) | (revert H; (first | (refine x_g ?_; intro g w1 hg hf H) | (refine x_s ?_; intro w1 hf H)); (first | replace hf := hf.kp | clear hf)))
    (refine x_c H (int_is (bv HB6).ar (by omega) (intV_rng w8)) ?_; clear H; rintro e w1 ⟨rfl, hF⟩ H; replace hF := hF.kp; skip)
    go_wp2_with (first | refine x_q H ?_ | refine x_cm (fun h => ?_) (fun h => ?_) | (revert H; (first | (refine x_g ?_; intro g w1 hg hf H) | (refine x_s ?_; intro w1 hf H)); (first | replace hf := hf.kp | clear hf)))
    clear HB6
    rcases HB0.out with ⟨rfl, hk0⟩ | ⟨rfl, hk0⟩
    · have hk3 : k ≤ 0 := by omega
      have hk4 : 0 ≤ k := by omega
      clear hk0
      (revert H; refine w_pF 30 (.st 0 (.st 1 (.st 2 (.st 3 (.st 4 (.ld 5 (.ld 6 (.st 7 (.st 8 (.st 9 (.st 10 (.st 11 (.st 12 (.st 13 (.st 14 (.st 15 (.st 16 (.st 17 (.st 19 (.st 22 (.st 23 (.ld 18 (.ld 20 (.st 21 (.st 24 (.st 25 (.st 26 (.ld 27 (.st 28 (.st 29 .done)))))))))))))))))))))))))))))) ?_; intro w1 hf H; (first | replace hf := hf.kp | clear hf))
      iterate 3 refine p_q ?_
      iterate 2 (first | refine p_q ?_ | refine p_n ?_)
      ((refine p_c H rfl rfl Tryd.func20 (norm_ar (av HA1) (by omega)) ?_; clear H; rintro e w1 ⟨v7, rfl, hF, hB⟩ H; refine p_r ?_; replace hF := hF.kp); have HB7 := hid hB; clear hB)
      ((refine p_c H rfl rfl Tryd.func12 (same_eq (bv HB5) (bv HB7) rfl) ?_; clear H; rintro e w1 ⟨rfl, hF⟩ H; refine p_r ?_; replace hF := hF.kp); skip)
      iterate 2 refine p_q ?_
      (first | refine p_q ?_ | refine p_n ?_)
      iterate 2 refine p_q ?_
      iterate 3 (first | refine p_q ?_ | refine p_n ?_)
      iterate 2 refine p_q ?_
      iterate 4 (first | refine p_q ?_ | refine p_n ?_)
      ((refine p_c H rfl rfl Tryd.func47 (format_ar (av HA1) (by omega) (TabIs.fr HT.out H.fr)) ?_; clear H; rintro e w1 ⟨rfl, hF⟩ H; refine p_r ?_; replace hF := hF.kp); skip)
      ((refine p_c H rfl rfl Tryd.func47 (format_ar (av HA2) (by omega) (TabIs.fr HT.out H.fr)) ?_; clear H; rintro e w1 ⟨rfl, hF⟩ H; refine p_r ?_; replace hF := hF.kp); skip)
      (refine p_e rfl (fun w H => ev_strEqV rfl rfl rfl HBB) ?_)
      (first | refine p_q ?_ | refine p_n ?_)
      iterate 2 refine p_q ?_
      ((refine p_c H rfl rfl Tryd.func9 (awake_any _ (TabIs.fr HT.out H.fr)) ?_; clear H; rintro e w1 ⟨rfl, hF⟩ H; refine p_r ?_; replace hF := hF.kp); skip)
      iterate 2 refine p_q ?_
      (refine pl_done ?_)
      go_wp2_with (first | refine x_q H ?_ | refine x_cm (fun h => ?_) (fun h => ?_) | (revert H; (first | (refine x_g ?_; intro g w1 hg hf H) | (refine x_s ?_; intro w1 hf H)); (first | replace hf := hf.kp | clear hf)))
      go_ret
      exact ⟨rfl, H.fr⟩
    · (revert H; refine w_pF 30 (.st 0 (.st 1 (.st 2 (.st 3 (.st 4 (.ld 5 (.ld 6 (.st 7 (.st 8 (.st 9 (.st 10 (.st 11 (.st 12 (.st 13 (.st 14 (.st 15 (.st 16 (.st 17 (.st 19 (.st 22 (.st 23 (.ld 18 (.ld 20 (.st 21 (.st 24 (.st 25 (.st 26 (.ld 27 (.st 28 (.st 29 .done)))))))))))))))))))))))))))))) ?_; intro w1 hf H; (first | replace hf := hf.kp | clear hf))
      iterate 3 refine p_q ?_
      iterate 2 (first | refine p_q ?_ | refine p_n ?_)
      ((refine p_c H rfl rfl Tryd.func20 (norm_ar (av HA1) (by omega)) ?_; clear H; rintro e w1 ⟨v7, rfl, hF, hB⟩ H; refine p_r ?_; replace hF := hF.kp); have HB7 := hid hB; clear hB)
      ((refine p_c H rfl rfl Tryd.func12 (same_eq (bv HB5) (bv HB7) rfl) ?_; clear H; rintro e w1 ⟨rfl, hF⟩ H; refine p_r ?_; replace hF := hF.kp); skip)
      iterate 2 refine p_q ?_
      (first | refine p_q ?_ | refine p_n ?_)
      iterate 2 refine p_q ?_
      iterate 3 (first | refine p_q ?_ | refine p_n ?_)
      iterate 2 refine p_q ?_
      iterate 4 (first | refine p_q ?_ | refine p_n ?_)
      ((refine p_c H rfl rfl Tryd.func47 (format_ar (av HA1) (by omega) (TabIs.fr HT.out H.fr)) ?_; clear H; rintro e w1 ⟨rfl, hF⟩ H; refine p_r ?_; replace hF := hF.kp); skip)
      ((refine p_c H rfl rfl Tryd.func47 (format_ar (av HA2) (by omega) (TabIs.fr HT.out H.fr)) ?_; clear H; rintro e w1 ⟨rfl, hF⟩ H; refine p_r ?_; replace hF := hF.kp); skip)
      (refine p_e rfl (fun w H => ev_strEqV rfl rfl rfl HBB) ?_)
      (first | refine p_q ?_ | refine p_n ?_)
      iterate 2 refine p_q ?_
      ((refine p_c H rfl rfl Tryd.func9 (awake_any _ (TabIs.fr HT.out H.fr)) ?_; clear H; rintro e w1 ⟨rfl, hF⟩ H; refine p_r ?_; replace hF := hF.kp); skip)
      iterate 2 refine p_q ?_
      (refine pl_done ?_)
      go_wp2_with (first | refine x_q H ?_ | refine x_cm (fun h => ?_) (fun h => ?_) | (revert H; (first | (refine x_g ?_; intro g w1 hg hf H) | (refine x_s ?_; intro w1 hf H)); (first | replace hf := hf.kp | clear hf)))
      go_ret
      exact ⟨rfl, H.fr⟩
  · (revert H; refine w_pF 37 (.st 0 (.st 1 (.st 2 (.ld 3 (.ld 4 (.st 5 (.st 6 (.st 7 (.st 8 (.st 9 (.st 11 (.st 12 (.ld 10 (.ld 13 (.ld 14 (.st 15 (.st 16 (.st 17 (.st 18 (.st 19 (.st 20 (.ld 21 (.st 22 (.st 23 (.st 24 (.st 25 (.st 26 (.st 27 (.st 28 (.st 29 (.st 30 (.st 31 (.st 33 (.ld 32 (.st 34 (.st 35 (.st 36 .done))))))))))))))))))))))))))))))))))))) ?_; intro w1 hf H; (first | replace hf := hf.kp | clear hf))
    iterate 3 refine p_q ?_
    ((refine p_c H rfl rfl Tryd.func33 (sub_ar (av HA1) (av HA2) (by omega) (by omega)) ?_; clear H; rintro e w1 ⟨v1, rfl, hF, hB⟩ H; refine p_r ?_; replace hF := hF.kp); have HB1 := hid hB; clear hB)
    ((refine p_c H rfl rfl Tryd.func24 (sign_is (bv HB1).ar (by omega) K2.out) ?_; clear H; rintro e w1 ⟨rfl, hF⟩ H; refine p_r ?_; replace hF := hF.kp); skip)
    iterate 2 refine p_q ?_
    iterate 5 (first | refine p_q ?_ | refine p_n ?_)
    ((refine p_c H rfl rfl Tryd.func31 (add_ar (av HA1) (av HA3) (by omega) (by omega)) ?_; clear H; rintro e w1 ⟨v2, rfl, hF, hB⟩ H; refine p_r ?_; replace hF := hF.kp); have HB2 := hid hB; clear hB)
    ((refine p_c H rfl rfl Tryd.func31 (add_ar (av HA2) (av HA3) (by omega) (by omega)) ?_; clear H; rintro e w1 ⟨v3, rfl, hF, hB⟩ H; refine p_r ?_; replace hF := hF.kp); have HB3 := hid hB; clear hB)
    ((refine p_c H rfl rfl Tryd.func22 (cmp_is (bv HB2).ar (bv HB3).ar (by omega) (by omega) K3.out) ?_; clear H; rintro e w1 ⟨rfl, hF⟩ H; refine p_r ?_; replace hF := hF.kp); skip)
    (first | refine p_q ?_ | refine p_n ?_)
    iterate 2 refine p_q ?_
    iterate 3 (first | refine p_q ?_ | refine p_n ?_)
    ((refine p_c H rfl rfl Tryd.func22 (cmp_is (av HA2) (av HA1) (by omega) (by omega) K4.out) ?_; clear H; rintro e w1 ⟨rfl, hF⟩ H; refine p_r ?_; replace hF := hF.kp); skip)
    (refine p_e rfl (fun w H => ev_negK rfl rfl (by simp only [inr]; omega)) ?_)
    (first | refine p_q ?_ | refine p_n ?_)
    iterate 2 refine p_q ?_
    iterate 7 (first | refine p_q ?_ | refine p_n ?_)
    (refine pl_ldno rfl rfl (fun _ => H) ?_; (simp only [nrm, ↓reduceIte, Nat.reduceAdd]))
    iterate 2 (first | refine p_q ?_ | refine p_n ?_)
    refine p_q ?_
    (refine pl_done ?_)
    clear HB1 HB2 HB3
    go_wp2_with (first | refine x_q H ?_ | refine x_cm (fun h => ?_) (fun h => ?_) | (revert H; (first | (refine x_g ?_; intro g w1 hg hf H) | (refine x_s ?_; intro w1 hf H)); (first | replace hf := hf.kp | clear hf)))
    (refine x_c H (format_ar (av HA1) (by omega) (TabIs.fr HT.out H.fr)) ?_; clear H; rintro e w1 ⟨rfl, hF⟩ H; replace hF := hF.kp; skip)
    go_wp2_with (first | refine x_q H ?_ | refine x_cm (fun h => ?_) (fun h => ?_) | (revert H; (first | (refine x_g ?_; intro g w1 hg hf H) | (refine x_s ?_; intro w1 hf H)); (first | replace hf := hf.kp | clear hf)))
    (refine x_c H (parse_fmt _ x Hdx.out) ?_; clear H; rintro e w1 ⟨v5, rfl, hF, hB⟩ H; replace hF := hF.kp; obtain ⟨b5, p5, m5, c5, rfl⟩ := hB.form; have HB5 := hid hB; clear hB)
    go_wp2_with (first | refine x_q H ?_ | refine x_cm (fun h => ?_) (fun h => ?_) | (revert H; refine x_s2 ?_; intro w1 hf H hk; clear hf; change Kp _ _ at hk) | (revert H; (first | (refine x_g ?_; intro g w1 hg hf H) | (refine x_s ?_; intro w1 hf H)); (first | replace hf := hf.kp | clear hf)))
    (refine x_c H (fromInt_ar _ a9 w8) ?_; clear H; rintro e w1 ⟨v6, rfl, hF, hB⟩ H; replace hF := hF.kp; have HB6 := hid hB; clear hB)
    go_wp2_with (first | refine x_q H ?_ | refine x_cm (fun h => ?_) (fun h => ?_) | (revert H; (first | (refine x_g ?_; intro g w1 hg hf H) | (refine x_s ?_; intro w1 hf H)); (first | replace hf := hf.kp | clear hf)))
    (refine x_c H (int_is (bv HB6).ar (by omega) (intV_rng w8)) ?_; clear H; rintro e w1 ⟨rfl, hF⟩ H; replace hF := hF.kp; skip)
    go_wp2_with (first | refine x_q H ?_ | refine x_cm (fun h => ?_) (fun h => ?_) | (revert H; (first | (refine x_g ?_; intro g w1 hg hf H) | (refine x_s ?_; intro w1 hf H)); (first | replace hf := hf.kp | clear hf)))
    clear HB6
    rcases HB0.out with ⟨rfl, hk0⟩ | ⟨rfl, hk0⟩
    · have hk3 : k ≤ 0 := by omega
      have hk4 : 0 ≤ k := by omega
      clear hk0
      (revert H; refine w_pF 30 (.st 0 (.st 1 (.st 2 (.st 3 (.st 4 (.ld 5 (.ld 6 (.st 7 (.st 8 (.st 9 (.st 10 (.st 11 (.st 12 (.st 13 (.st 14 (.st 15 (.st 16 (.st 17 (.st 19 (.st 22 (.st 23 (.ld 18 (.ld 20 (.st 21 (.st 24 (.st 25 (.st 26 (.ld 27 (.st 28 (.st 29 .done)))))))))))))))))))))))))))))) ?_; intro w1 hf H; (first | replace hf := hf.kp | clear hf))
      iterate 3 refine p_q ?_
      iterate 2 (first | refine p_q ?_ | refine p_n ?_)
      ((refine p_c H rfl rfl Tryd.func20 (norm_ar (av HA1) (by omega)) ?_; clear H; rintro e w1 ⟨v7, rfl, hF, hB⟩ H; refine p_r ?_; replace hF := hF.kp); have HB7 := hid hB; clear hB)
      ((refine p_c H rfl rfl Tryd.func12 (same_eq (bv HB5) (bv HB7) rfl) ?_; clear H; rintro e w1 ⟨rfl, hF⟩ H; refine p_r ?_; replace hF := hF.kp); skip)
      iterate 2 refine p_q ?_
      (first | refine p_q ?_ | refine p_n ?_)
      iterate 2 refine p_q ?_
      iterate 3 (first | refine p_q ?_ | refine p_n ?_)
      iterate 2 refine p_q ?_
      iterate 4 (first | refine p_q ?_ | refine p_n ?_)
      ((refine p_c H rfl rfl Tryd.func47 (format_ar (av HA1) (by omega) (TabIs.fr HT.out H.fr)) ?_; clear H; rintro e w1 ⟨rfl, hF⟩ H; refine p_r ?_; replace hF := hF.kp); skip)
      ((refine p_c H rfl rfl Tryd.func47 (format_ar (av HA2) (by omega) (TabIs.fr HT.out H.fr)) ?_; clear H; rintro e w1 ⟨rfl, hF⟩ H; refine p_r ?_; replace hF := hF.kp); skip)
      (refine p_e rfl (fun w H => ev_strEqV rfl rfl rfl HBB) ?_)
      (first | refine p_q ?_ | refine p_n ?_)
      iterate 2 refine p_q ?_
      ((refine p_c H rfl rfl Tryd.func9 (awake_any _ (TabIs.fr HT.out H.fr)) ?_; clear H; rintro e w1 ⟨rfl, hF⟩ H; refine p_r ?_; replace hF := hF.kp); skip)
      iterate 2 refine p_q ?_
      (refine pl_done ?_)
      go_wp2_with (first | refine x_q H ?_ | refine x_cm (fun h => ?_) (fun h => ?_) | (revert H; (first | (refine x_g ?_; intro g w1 hg hf H) | (refine x_s ?_; intro w1 hf H)); (first | replace hf := hf.kp | clear hf)))
      go_ret
      exact ⟨rfl, H.fr⟩
    · (revert H; refine w_pF 30 (.st 0 (.st 1 (.st 2 (.st 3 (.st 4 (.ld 5 (.ld 6 (.st 7 (.st 8 (.st 9 (.st 10 (.st 11 (.st 12 (.st 13 (.st 14 (.st 15 (.st 16 (.st 17 (.st 19 (.st 22 (.st 23 (.ld 18 (.ld 20 (.st 21 (.st 24 (.st 25 (.st 26 (.ld 27 (.st 28 (.st 29 .done)))))))))))))))))))))))))))))) ?_; intro w1 hf H; (first | replace hf := hf.kp | clear hf))
      iterate 3 refine p_q ?_
      iterate 2 (first | refine p_q ?_ | refine p_n ?_)
      ((refine p_c H rfl rfl Tryd.func20 (norm_ar (av HA1) (by omega)) ?_; clear H; rintro e w1 ⟨v7, rfl, hF, hB⟩ H; refine p_r ?_; replace hF := hF.kp); have HB7 := hid hB; clear hB)
      ((refine p_c H rfl rfl Tryd.func12 (same_eq (bv HB5) (bv HB7) rfl) ?_; clear H; rintro e w1 ⟨rfl, hF⟩ H; refine p_r ?_; replace hF := hF.kp); skip)
      iterate 2 refine p_q ?_
      (first | refine p_q ?_ | refine p_n ?_)
      iterate 2 refine p_q ?_
      iterate 3 (first | refine p_q ?_ | refine p_n ?_)
      iterate 2 refine p_q ?_
      iterate 4 (first | refine p_q ?_ | refine p_n ?_)
      ((refine p_c H rfl rfl Tryd.func47 (format_ar (av HA1) (by omega) (TabIs.fr HT.out H.fr)) ?_; clear H; rintro e w1 ⟨rfl, hF⟩ H; refine p_r ?_; replace hF := hF.kp); skip)
      ((refine p_c H rfl rfl Tryd.func47 (format_ar (av HA2) (by omega) (TabIs.fr HT.out H.fr)) ?_; clear H; rintro e w1 ⟨rfl, hF⟩ H; refine p_r ?_; replace hF := hF.kp); skip)
      (refine p_e rfl (fun w H => ev_strEqV rfl rfl rfl HBB) ?_)
      (first | refine p_q ?_ | refine p_n ?_)
      iterate 2 refine p_q ?_
      ((refine p_c H rfl rfl Tryd.func9 (awake_any _ (TabIs.fr HT.out H.fr)) ?_; clear H; rintro e w1 ⟨rfl, hF⟩ H; refine p_r ?_; replace hF := hF.kp); skip)
      iterate 2 refine p_q ?_
      (refine pl_done ?_)
      go_wp2_with (first | refine x_q H ?_ | refine x_cm (fun h => ?_) (fun h => ?_) | (revert H; (first | (refine x_g ?_; intro g w1 hg hf H) | (refine x_s ?_; intro w1 hf H)); (first | replace hf := hf.kp | clear hf)))
      go_ret
      exact ⟨rfl, H.fr⟩
end Go.Proofs.YtpmebjhlgdhchaaDoor
