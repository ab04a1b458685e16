/-
  The walk of IntegerExact.
-/
import Derived.Test.YtpmebjhlgdhchaaDoorIz11
import Derived.Test.YtpmebjhlgdhchaaDoorIz12
namespace Go.Proofs.YtpmebjhlgdhchaaDoor
open Go.RowKit
set_option linter.unusedSimpArgs false
set_option linter.unusedVariables false
set_option maxHeartbeats 4000000
set_option maxRecDepth 100000

theorem c_bNeS {P : Program} {w : World} {a : Act} {o : Oper} {t t' : TypeId} {x y : Operand} (ho : o.op = .binOp .neq t x y t') {p : Bool} (hx : a.eval x = .bool p) (hy : a.eval y = .bool p) [u : Bo P t] : (execOp a.eval o).run P w = .ok (.value (.bool false)) w :=
  c_bNe ho hx hy (by cases p <;> rfl)
theorem int_is {w : World} {u : Value} {x : Int} {n : Nat} {v : Value} (h : Av w u x n) (hn : n ≤ 200000) (hv : intV x = v) :
    Calls Tryd.prog 18 #[u] w fun e w' => e = .returned v ∧ Fr [] w w' := by
  subst hv
  obtain ⟨na, la, p, c, rfl, h1, rfl, h3⟩ := h
  exact int_all na la rfl (by omega) h1
theorem rint_is {w : World} {u : Value} {x : Int} {n : Nat} {v : Value} (h : Av w u x n) (hn : n ≤ 200000) (hv : intV x = v) :
    Calls Tryd.prog 19 #[u] w fun e w' => e = .returned v ∧ Fr [] w w' := by
  subst hv
  exact rint_ar h hn
theorem intV_ex (x : Int) : ∃ (k : Int) (ok : Bool), intV x = .tuple #[.int .i64 k, .bool ok] := by
  unfold intV
  split
  · exact ⟨_, _, rfl⟩
  · exact ⟨_, _, rfl⟩
theorem same_self {w : World} {p q : Option Addr} {n c d : Nat} (na : Bool) (la : List Nat) (hn : la.length = n) (h : LR w p c la) (k : LR w q d la) :
    Calls Tryd.prog 12 #[.agg #[.bool na, .slice p n c], .agg #[.bool na, .slice q n d]] w fun e w' => e = .returned (.bool true) ∧ Fr [] w w' := by
  have h1 := same_any na na la la hn hn h k
  rw [show decide (na = na ∧ la = la) = true from decide_eq_true ⟨rfl, rfl⟩] at h1
  exact h1
set_option maxHeartbeats 32000000 in
theorem integerExact_walk (W : World) (hL : laidMetH Tryd.prog laid3 W) (v0 : Value) (o0 : IsBig W v0) (v1 : Value) (o1 : IsBig W v1) (a9 : Int) (w9 : (Lit.int .i64 a9).wf = true) :
    Calls Tryd.prog 4 #[v0, v1, .int .i64 a9] W fun e w' => e = .returned (.bool true) ∧ Fr [] W w' := by
  obtain ⟨na, p, c, la, rfl, hL0⟩ := o0
  obtain ⟨nb, q, d, lb, rfl, hL1⟩ := o1
  have HT := hid (laid_pow hL)
  have w8 : -9223372036854775808 ≤ a9 ∧ a9 ≤ 9223372036854775807 := by have h := w9; simp [Lit.wf, IntKind.min, IntKind.max, IntKind.bits, IntKind.signed] at h; omega
  clear w9
  have H := Hp.start [] W
  have hll0 := hL0.len
  have hll1 := hL1.len
  clear hL
  by_cases h1 : (40 : Int) < la.length
  · go_enter Tryd.func4, Tryd.ntmps4
    go_wp2_with (first | refine x_q H ?_ | refine x_cm (fun h => ?_) (fun h => ?_) | (revert H; (first | (refine x_g ?_; intro g w1 hg hf H) | (refine x_s ?_; intro w1 hf H)); (first | replace hf := hf.kp | clear hf)))
    (refine x_c H (slim_no (hL0.fr H.fr) h1) ?_; clear H; rintro e w1 ⟨rfl, hF⟩ H; replace hF := hF.kp; skip)
    go_wp2_with (first | refine x_q H ?_ | refine x_cm (fun h => ?_) (fun h => ?_) | (revert H; (first | (refine x_g ?_; intro g w1 hg hf H) | (refine x_s ?_; intro w1 hf H)); (first | replace hf := hf.kp | clear hf)))
    ((refine x_c H (awake_any _ (TabIs.fr HT.out H.fr)) ?_; clear H; rintro e w1 ⟨rfl, hF⟩ H; replace hF := hF.kp; skip); go_wp2_with (first | refine x_q H ?_ | refine x_cm (fun h => ?_) (fun h => ?_) | (revert H; (first | (refine x_g ?_; intro g w1 hg hf H) | (refine x_s ?_; intro w1 hf H)); (first | replace hf := hf.kp | clear hf))); go_ret; exact ⟨rfl, H.fr⟩)
  have HA1 : Hid (Av W (.agg #[.bool na, .slice p la.length c]) (zv na la) 40) := hid ⟨na, la, p, c, rfl, hL0, rfl, by omega⟩
  by_cases h2 : (40 : Int) < lb.length
  · go_enter Tryd.func4, Tryd.ntmps4
    go_wp2_with (first | refine x_q H ?_ | refine x_cm (fun h => ?_) (fun h => ?_) | (revert H; (first | (refine x_g ?_; intro g w1 hg hf H) | (refine x_s ?_; intro w1 hf H)); (first | replace hf := hf.kp | clear hf)))
    (refine x_c H (slim_ar (av HA1) (by omega) (by omega)) ?_; clear H; rintro e w1 ⟨rfl, hF⟩ H; replace hF := hF.kp; skip)
    go_wp2_with (first | refine x_q H ?_ | refine x_cm (fun h => ?_) (fun h => ?_) | (revert H; (first | (refine x_g ?_; intro g w1 hg hf H) | (refine x_s ?_; intro w1 hf H)); (first | replace hf := hf.kp | clear hf)))
    (refine x_c H (slim_no (hL1.fr H.fr) h2) ?_; clear H; rintro e w1 ⟨rfl, hF⟩ H; replace hF := hF.kp; skip)
    go_wp2_with (first | refine x_q H ?_ | refine x_cm (fun h => ?_) (fun h => ?_) | (revert H; (first | (refine x_g ?_; intro g w1 hg hf H) | (refine x_s ?_; intro w1 hf H)); (first | replace hf := hf.kp | clear hf)))
    ((refine x_c H (awake_any _ (TabIs.fr HT.out H.fr)) ?_; clear H; rintro e w1 ⟨rfl, hF⟩ H; replace hF := hF.kp; skip); go_wp2_with (first | refine x_q H ?_ | refine x_cm (fun h => ?_) (fun h => ?_) | (revert H; (first | (refine x_g ?_; intro g w1 hg hf H) | (refine x_s ?_; intro w1 hf H)); (first | replace hf := hf.kp | clear hf))); go_ret; exact ⟨rfl, H.fr⟩)
  have HA2 : Hid (Av W (.agg #[.bool nb, .slice q lb.length d]) (zv nb lb) 40) := hid ⟨nb, lb, q, d, rfl, hL1, rfl, by omega⟩
  have HL1 := hid hL0
  have HL2 := hid hL1
  obtain ⟨n1, hn1⟩ : ∃ n, la.length = n := ⟨_, rfl⟩
  obtain ⟨n2, hn2⟩ : ∃ n, lb.length = n := ⟨_, rfl⟩
  obtain ⟨x, hx⟩ : ∃ x, zv na la = x := ⟨_, rfl⟩
  obtain ⟨y, hy⟩ : ∃ y, zv nb lb = y := ⟨_, rfl⟩
  rw [hn1, hx] at HA1
  rw [hn2, hy] at HA2
  rw [hn1, hn2]
  rw [hn1] at h1
  rw [hn2] at h2
  have Hn1 := hid hn1
  have Hn2 := hid hn2
  have HX := hid hx
  have HY := hid hy
  have hm1 : n1 ≤ 40 := by omega
  have hm2 : n2 ≤ 40 := by omega
  obtain ⟨kk, ok, hI⟩ := intV_ex x
  have HI := hid hI
  clear h1 hL0 hll0 h2 hL1 hll1 hn1 hn2 hx hy hI
  go_enter Tryd.func4, Tryd.ntmps4
  go_wp2_with (first | refine x_q H ?_ | refine x_cm (fun h => ?_) (fun h => ?_) | (revert H; (first | (refine x_g ?_; intro g w1 hg hf H) | (refine x_s ?_; intro w1 hf H)); (first | replace hf := hf.kp | clear hf)))
  (refine x_c H (slim_ar (av HA1) (by omega) (by omega)) ?_; clear H; rintro e w1 ⟨rfl, hF⟩ H; replace hF := hF.kp; skip)
  go_wp2_with (first | refine x_q H ?_ | refine x_cm (fun h => ?_) (fun h => ?_) | (revert H; (first | (refine x_g ?_; intro g w1 hg hf H) | (refine x_s ?_; intro w1 hf H)); (first | replace hf := hf.kp | clear hf)))
  (refine x_c H (slim_ar (av HA2) (by omega) (by omega)) ?_; clear H; rintro e w1 ⟨rfl, hF⟩ H; replace hF := hF.kp; skip)
  go_wp2_with (first | refine x_q H ?_ | refine x_cm (fun h => ?_) (fun h => ?_) | (revert H; (first | (refine x_g ?_; intro g w1 hg hf H) | (refine x_s ?_; intro w1 hf H)); (first | replace hf := hf.kp | clear hf)))
  go_cut [3, 4, 7, 8] (fun s3 s4 s7 s8 wx => ∃ (g1 g2 g3 g4 : Nat) (p3 : Option Addr) (c3 : Nat) (p4 : Option Addr) (c4 : Nat), s3 = .pointer (some ⟨g1, 0, none⟩) ∧ s4 = .pointer (some ⟨g2, 0, none⟩) ∧ s7 = .pointer (some ⟨g3, 0, none⟩) ∧ s8 = .pointer (some ⟨g4, 0, none⟩) ∧ Hid (LR wx p3 c3 la) ∧ Hid (LR wx p4 c4 lb) ∧ Hp [] W wx [.blk g4 [.bool nb, .slice p4 n2 c4] 24, .blk g3 [.bool na, .slice p3 n1 c3] 24, .blk g2 [.bool nb, .slice q n2 d] 24, .blk g1 [.bool na, .slice p n1 c] 24])
  case first =>
    (revert H; refine w_pF 7 (.st 0 (.st 2 (.ld3 1 (.ld3 3 (.ld2 4 (.ld 5 (.ld 6 (.ld 7 .done))) 5 (.ld 4 (.ld 6 (.ld 7 .done)))) 4 (.ld2 3 (.ld 5 (.ld 6 (.ld 7 .done))) 5 (.ld 3 (.ld 6 (.ld 7 .done)))) 5 (.ld2 3 (.ld 4 (.ld 6 (.ld 7 .done))) 4 (.ld 3 (.ld 6 (.ld 7 .done))))) 4 (.ld2 1 (.ld2 3 (.ld 5 (.ld 6 (.ld 7 .done))) 5 (.ld 3 (.ld 6 (.ld 7 .done)))) 5 (.ld 1 (.ld 3 (.ld 6 (.ld 7 .done))))) 5 (.ld2 1 (.ld2 3 (.ld 4 (.ld 6 (.ld 7 .done))) 4 (.ld 3 (.ld 6 (.ld 7 .done)))) 4 (.ld 1 (.ld 3 (.ld 6 (.ld 7 .done)))))))) ?_; intro w1 hf H; (first | replace hf := hf.kp | clear hf))
    iterate 2 refine p_q ?_
    (refine pl_ld3 ?_ ?_ ?_)
    ((refine p_c H rfl rfl Tryd.func17 (twin_any na la Hn1.out (by omega) (lr HL1)) ?_; clear H; rintro e w1 ⟨p3, c3, rfl, hF, hL⟩ H; refine p_r ?_; replace hF := hF.kp); have HL3 := hid hL; clear hL)
    (refine pl_ld3 ?_ ?_ ?_)
    ((refine p_c H rfl rfl Tryd.func17 (twin_any nb lb Hn2.out (by omega) (lr HL2)) ?_; clear H; rintro e w1 ⟨p4, c4, rfl, hF, hL⟩ H; refine p_r ?_; replace hF := hF.kp); have HL4 := hid hL; clear hL)
    (refine pl_ld2 ?_ ?_)
    (revert H; refine p_g ?_; intro g w1 hg hf H; (first | replace hf := hf.kp | clear hf))
    (revert H; refine p_g ?_; intro g w1 hg hf H; (first | replace hf := hf.kp | clear hf))
    (revert H; refine p_s2 ?_; intro w1 hf H hk; clear hf; change Kp _ _ at hk)
    (revert H; refine p_s2 ?_; intro w1 hf H hk; clear hf; change Kp _ _ at hk)
    (refine pl_done ?_)
    rotate_left
    (revert H; refine p_g ?_; intro g w1 hg hf H; (first | replace hf := hf.kp | clear hf))
    (revert H; refine p_g ?_; intro g w1 hg hf H; (first | replace hf := hf.kp | clear hf))
    (revert H; refine p_s2 ?_; intro w1 hf H hk; clear hf; change Kp _ _ at hk)
    (revert H; refine p_s2 ?_; intro w1 hf H hk; clear hf; change Kp _ _ at hk)
    (refine pl_done ?_)
    rotate_left
    (revert H; refine p_g ?_; intro g w1 hg hf H; (first | replace hf := hf.kp | clear hf))
    (refine pl_ld2 ?_ ?_)
    ((refine p_c H rfl rfl Tryd.func17 (twin_any nb lb Hn2.out (by omega) (lr HL2)) ?_; clear H; rintro e w1 ⟨p4, c4, rfl, hF, hL⟩ H; refine p_r ?_; replace hF := hF.kp); have HL4 := hid hL; clear hL)
    (revert H; refine p_g ?_; intro g w1 hg hf H; (first | replace hf := hf.kp | clear hf))
    (revert H; refine p_s2 ?_; intro w1 hf H hk; clear hf; change Kp _ _ at hk)
    (revert H; refine p_s2 ?_; intro w1 hf H hk; clear hf; change Kp _ _ at hk)
    (refine pl_done ?_)
    rotate_left
    (revert H; refine p_g ?_; intro g w1 hg hf H; (first | replace hf := hf.kp | clear hf))
    ((refine p_c H rfl rfl Tryd.func17 (twin_any nb lb Hn2.out (by omega) (lr HL2)) ?_; clear H; rintro e w1 ⟨p4, c4, rfl, hF, hL⟩ H; refine p_r ?_; replace hF := hF.kp); have HL4 := hid hL; clear hL)
    (revert H; refine p_s2 ?_; intro w1 hf H hk; clear hf; change Kp _ _ at hk)
    (revert H; refine p_s2 ?_; intro w1 hf H hk; clear hf; change Kp _ _ at hk)
    (refine pl_done ?_)
    rotate_left
    (revert H; refine p_g ?_; intro g w1 hg hf H; (first | replace hf := hf.kp | clear hf))
    (refine pl_ld2 ?_ ?_)
    ((refine p_c H rfl rfl Tryd.func17 (twin_any nb lb Hn2.out (by omega) (lr HL2)) ?_; clear H; rintro e w1 ⟨p4, c4, rfl, hF, hL⟩ H; refine p_r ?_; replace hF := hF.kp); have HL4 := hid hL; clear hL)
    (revert H; refine p_g ?_; intro g w1 hg hf H; (first | replace hf := hf.kp | clear hf))
    (revert H; refine p_s2 ?_; intro w1 hf H hk; clear hf; change Kp _ _ at hk)
    (revert H; refine p_s2 ?_; intro w1 hf H hk; clear hf; change Kp _ _ at hk)
    (refine pl_done ?_)
    rotate_left
    (revert H; refine p_g ?_; intro g w1 hg hf H; (first | replace hf := hf.kp | clear hf))
    ((refine p_c H rfl rfl Tryd.func17 (twin_any nb lb Hn2.out (by omega) (lr HL2)) ?_; clear H; rintro e w1 ⟨p4, c4, rfl, hF, hL⟩ H; refine p_r ?_; replace hF := hF.kp); have HL4 := hid hL; clear hL)
    (revert H; refine p_s2 ?_; intro w1 hf H hk; clear hf; change Kp _ _ at hk)
    (revert H; refine p_s2 ?_; intro w1 hf H hk; clear hf; change Kp _ _ at hk)
    (refine pl_done ?_)
    rotate_left
    (revert H; refine p_g ?_; intro g w1 hg hf H; (first | replace hf := hf.kp | clear hf))
    (refine pl_ld2 ?_ ?_)
    ((refine p_c H rfl rfl Tryd.func17 (twin_any na la Hn1.out (by omega) (lr HL1)) ?_; clear H; rintro e w1 ⟨p3, c3, rfl, hF, hL⟩ H; refine p_r ?_; replace hF := hF.kp); have HL3 := hid hL; clear hL)
    (refine pl_ld2 ?_ ?_)
    ((refine p_c H rfl rfl Tryd.func17 (twin_any nb lb Hn2.out (by omega) (lr HL2)) ?_; clear H; rintro e w1 ⟨p4, c4, rfl, hF, hL⟩ H; refine p_r ?_; replace hF := hF.kp); have HL4 := hid hL; clear hL)
    (revert H; refine p_g ?_; intro g w1 hg hf H; (first | replace hf := hf.kp | clear hf))
    (revert H; refine p_s2 ?_; intro w1 hf H hk; clear hf; change Kp _ _ at hk)
    (revert H; refine p_s2 ?_; intro w1 hf H hk; clear hf; change Kp _ _ at hk)
    (refine pl_done ?_)
    rotate_left
    (revert H; refine p_g ?_; intro g w1 hg hf H; (first | replace hf := hf.kp | clear hf))
    ((refine p_c H rfl rfl Tryd.func17 (twin_any nb lb Hn2.out (by omega) (lr HL2)) ?_; clear H; rintro e w1 ⟨p4, c4, rfl, hF, hL⟩ H; refine p_r ?_; replace hF := hF.kp); have HL4 := hid hL; clear hL)
    (revert H; refine p_s2 ?_; intro w1 hf H hk; clear hf; change Kp _ _ at hk)
    (revert H; refine p_s2 ?_; intro w1 hf H hk; clear hf; change Kp _ _ at hk)
    (refine pl_done ?_)
    rotate_left
    (revert H; refine p_g ?_; intro g w1 hg hf H; (first | replace hf := hf.kp | clear hf))
    ((refine p_c H rfl rfl Tryd.func17 (twin_any na la Hn1.out (by omega) (lr HL1)) ?_; clear H; rintro e w1 ⟨p3, c3, rfl, hF, hL⟩ H; refine p_r ?_; replace hF := hF.kp); have HL3 := hid hL; clear hL)
    ((refine p_c H rfl rfl Tryd.func17 (twin_any nb lb Hn2.out (by omega) (lr HL2)) ?_; clear H; rintro e w1 ⟨p4, c4, rfl, hF, hL⟩ H; refine p_r ?_; replace hF := hF.kp); have HL4 := hid hL; clear hL)
    (revert H; refine p_s2 ?_; intro w1 hf H hk; clear hf; change Kp _ _ at hk)
    (revert H; refine p_s2 ?_; intro w1 hf H hk; clear hf; change Kp _ _ at hk)
    (refine pl_done ?_)
    rotate_left
    (revert H; refine p_g ?_; intro g w1 hg hf H; (first | replace hf := hf.kp | clear hf))
    (refine pl_ld2 ?_ ?_)
    ((refine p_c H rfl rfl Tryd.func17 (twin_any na la Hn1.out (by omega) (lr HL1)) ?_; clear H; rintro e w1 ⟨p3, c3, rfl, hF, hL⟩ H; refine p_r ?_; replace hF := hF.kp); have HL3 := hid hL; clear hL)
    (refine pl_ld2 ?_ ?_)
    ((refine p_c H rfl rfl Tryd.func17 (twin_any nb lb Hn2.out (by omega) (lr HL2)) ?_; clear H; rintro e w1 ⟨p4, c4, rfl, hF, hL⟩ H; refine p_r ?_; replace hF := hF.kp); have HL4 := hid hL; clear hL)
    (revert H; refine p_g ?_; intro g w1 hg hf H; (first | replace hf := hf.kp | clear hf))
    (revert H; refine p_s2 ?_; intro w1 hf H hk; clear hf; change Kp _ _ at hk)
    (revert H; refine p_s2 ?_; intro w1 hf H hk; clear hf; change Kp _ _ at hk)
    (refine pl_done ?_)
    rotate_left
    (revert H; refine p_g ?_; intro g w1 hg hf H; (first | replace hf := hf.kp | clear hf))
    ((refine p_c H rfl rfl Tryd.func17 (twin_any nb lb Hn2.out (by omega) (lr HL2)) ?_; clear H; rintro e w1 ⟨p4, c4, rfl, hF, hL⟩ H; refine p_r ?_; replace hF := hF.kp); have HL4 := hid hL; clear hL)
    (revert H; refine p_s2 ?_; intro w1 hf H hk; clear hf; change Kp _ _ at hk)
    (revert H; refine p_s2 ?_; intro w1 hf H hk; clear hf; change Kp _ _ at hk)
    (refine pl_done ?_)
    rotate_left
    (revert H; refine p_g ?_; intro g w1 hg hf H; (first | replace hf := hf.kp | clear hf))
    ((refine p_c H rfl rfl Tryd.func17 (twin_any na la Hn1.out (by omega) (lr HL1)) ?_; clear H; rintro e w1 ⟨p3, c3, rfl, hF, hL⟩ H; refine p_r ?_; replace hF := hF.kp); have HL3 := hid hL; clear hL)
    ((refine p_c H rfl rfl Tryd.func17 (twin_any nb lb Hn2.out (by omega) (lr HL2)) ?_; clear H; rintro e w1 ⟨p4, c4, rfl, hF, hL⟩ H; refine p_r ?_; replace hF := hF.kp); have HL4 := hid hL; clear hL)
    (revert H; refine p_s2 ?_; intro w1 hf H hk; clear hf; change Kp _ _ at hk)
    (revert H; refine p_s2 ?_; intro w1 hf H hk; clear hf; change Kp _ _ at hk)
    (refine pl_done ?_)
    rotate_left
    all_goals
      go_wp2_with (first | refine x_q H ?_ | refine x_cm (fun h => ?_) (fun h => ?_) | (revert H; (first | (refine x_g ?_; intro g w1 hg hf H) | (refine x_s ?_; intro w1 hf H)); (first | replace hf := hf.kp | clear hf)))
      go_meet
      case rel => exact ⟨_, _, _, _, _, _, _, _, rfl, rfl, rfl, rfl, hid (lr HL3), hid (lr HL4), by (refine Hp.arr H ?_; repeat (first | exact Pm.nil _ | (apply Pm.cons; · (repeat first | exact Rm.here _ | apply Rm.there))))⟩
  case rest =>
    clear H
    obtain ⟨g1, g2, g3, g4, p3, c3, p4, c4, rfl, rfl, rfl, rfl, HL3, HL4, H⟩ := hcut
    have HA3 : Hid (Av _ (.agg #[.bool na, .slice p3 n1 c3]) x 40) := hid ⟨na, la, p3, c3, by rw [Hn1.out], HL3.out, HX.out, by rw [Hn1.out]; omega⟩
    have HA4 : Hid (Av _ (.agg #[.bool nb, .slice p4 n2 c4]) y 40) := hid ⟨nb, lb, p4, c4, by rw [Hn2.out], HL4.out, HY.out, by rw [Hn2.out]; omega⟩
    have hq := H.fr.kp
    go_wp2_with (first | refine x_q H ?_ | refine x_cm (fun h => ?_) (fun h => ?_) | (revert H; (first | (refine x_g ?_; intro g w1 hg hf H) | (refine x_s ?_; intro w1 hf H)); (first | replace hf := hf.kp | clear hf)))
    (refine x_c H (int_is (av HA3) (by omega) HI.out) ?_; clear H; rintro e w1 ⟨rfl, hF⟩ H; replace hF := hF.kp; skip)
    go_wp2_with (first | refine x_q H ?_ | refine x_cm (fun h => ?_) (fun h => ?_) | (revert H; (first | (refine x_g ?_; intro g w1 hg hf H) | (refine x_s ?_; intro w1 hf H)); (first | replace hf := hf.kp | clear hf)))
    (refine x_c H (rint_is (av HA1) (by omega) HI.out) ?_; clear H; rintro e w1 ⟨rfl, hF⟩ H; replace hF := hF.kp; skip)
    go_wp2_with (first | refine x_q H ?_ | refine x_cm (fun h => ?_) (fun h => ?_) | (revert H; (first | (refine x_g ?_; intro g w1 hg hf H) | (refine x_s ?_; intro w1 hf H)); (first | replace hf := hf.kp | clear hf)))
    (revert H; refine w_pF 32 (.st 0 (.st 1 (.st 2 (.st 3 (.st 4 (.st 5 (.st 6 (.st 7 (.st 8 (.st 9 (.st 11 (.ld 10 (.ld 12 (.ld 13 (.st 14 (.st 15 (.st 16 (.st 17 (.st 18 (.st 20 (.st 21 (.ld 19 (.ld 22 (.st 23 (.st 24 (.st 25 (.st 26 (.st 28 (.ld 27 (.ld 29 (.st 30 (.st 31 .done)))))))))))))))))))))))))))))))) ?_; intro w1 hf H; (first | replace hf := hf.kp | clear hf))
    iterate 4 refine p_q ?_
    iterate 2 (first | refine p_q ?_ | refine p_n ?_)
    (refine p_e rfl (fun w H => c_bNeS rfl rfl rfl) ?_)
    iterate 2 refine p_q ?_
    iterate 2 (first | refine p_q ?_ | refine p_n ?_)
    ((refine p_c H rfl rfl Tryd.func20 (norm_ar (av HA3) (by omega)) ?_; clear H; rintro e w1 ⟨v5, rfl, hF, hB⟩ H; refine p_r ?_; replace hF := hF.kp); have HB5 := hid hB; clear hB)
    ((refine p_c H rfl rfl Tryd.func21 (rnorm_ar (av HA1) (by omega)) ?_; clear H; rintro e w1 ⟨v6, rfl, hF, hB⟩ H; refine p_r ?_; replace hF := hF.kp); have HB6 := hid hB; clear hB)
    ((refine p_c H rfl rfl Tryd.func12 (same_eq (bv HB5) (bv HB6) rfl) ?_; clear H; rintro e w1 ⟨rfl, hF⟩ H; refine p_r ?_; replace hF := hF.kp); skip)
    (first | refine p_q ?_ | refine p_n ?_)
    iterate 2 refine p_q ?_
    iterate 4 (first | refine p_q ?_ | refine p_n ?_)
    ((refine p_c H rfl rfl Tryd.func22 (cmp_ar (av HA3) (av HA4) (by omega) (by omega)) ?_; clear H; rintro e w1 ⟨rfl, hF⟩ H; refine p_r ?_; replace hF := hF.kp); skip)
    ((refine p_c H rfl rfl Tryd.func23 (rcmp_ar (av HA1) (av HA2) (by omega) (by omega)) ?_; clear H; rintro e w1 ⟨rfl, hF⟩ H; refine p_r ?_; replace hF := hF.kp); skip)
    (first | refine p_q ?_ | refine p_n ?_)
    iterate 2 refine p_q ?_
    iterate 2 (first | refine p_q ?_ | refine p_n ?_)
    ((refine p_c H rfl rfl Tryd.func24 (sign_ar (av HA3) (by omega)) ?_; clear H; rintro e w1 ⟨rfl, hF⟩ H; refine p_r ?_; replace hF := hF.kp); skip)
    ((refine p_c H rfl rfl Tryd.func15 (rsign_ar (av HA1) (by omega)) ?_; clear H; rintro e w1 ⟨rfl, hF⟩ H; refine p_r ?_; replace hF := hF.kp); skip)
    (first | refine p_q ?_ | refine p_n ?_)
    refine p_q ?_
    (refine pl_done ?_)
    clear HB5 HB6
    go_wp2_with (first | refine x_q H ?_ | refine x_cm (fun h => ?_) (fun h => ?_) | (revert H; (first | (refine x_g ?_; intro g w1 hg hf H) | (refine x_s ?_; intro w1 hf H)); (first | replace hf := hf.kp | clear hf)))
    (revert H; refine w_pF 22 (.st 0 (.st 2 (.ld 1 (.ld 3 (.ld 4 (.st 5 (.st 6 (.st 7 (.st 9 (.ld 8 (.ld 10 (.ld 11 (.st 12 (.st 13 (.st 14 (.st 15 (.st 17 (.ld 16 (.ld 18 (.ld 19 (.st 20 (.st 21 .done)))))))))))))))))))))) ?_; intro w1 hf H; (first | replace hf := hf.kp | clear hf))
    iterate 2 refine p_q ?_
    ((refine p_c H rfl rfl Tryd.func25 (fromInt_ar _ a9 w8) ?_; clear H; rintro e w1 ⟨v5, rfl, hF, hB⟩ H; refine p_r ?_; replace hF := hF.kp); have HB5 := hid hB; clear hB)
    ((refine p_c H rfl rfl Tryd.func26 (rfromInt_ar _ a9 w8) ?_; clear H; rintro e w1 ⟨v6, rfl, hF, hB⟩ H; refine p_r ?_; replace hF := hF.kp); have HB6 := hid hB; clear hB)
    ((refine p_c H rfl rfl Tryd.func12 (same_eq (bv HB5) (bv HB6) rfl) ?_; clear H; rintro e w1 ⟨rfl, hF⟩ H; refine p_r ?_; replace hF := hF.kp); skip)
    iterate 2 refine p_q ?_
    iterate 2 (first | refine p_q ?_ | refine p_n ?_)
    ((refine p_c H rfl rfl Tryd.func27 (neg_ar (av HA3) (by omega)) ?_; clear H; rintro e w1 ⟨v7, rfl, hF, hB⟩ H; refine p_r ?_; replace hF := hF.kp); have HB7 := hid hB; clear hB)
    ((refine p_c H rfl rfl Tryd.func28 (rneg_ar (av HA1) (by omega)) ?_; clear H; rintro e w1 ⟨v8, rfl, hF, hB⟩ H; refine p_r ?_; replace hF := hF.kp); have HB8 := hid hB; clear hB)
    ((refine p_c H rfl rfl Tryd.func12 (same_eq (bv HB7) (bv HB8) rfl) ?_; clear H; rintro e w1 ⟨rfl, hF⟩ H; refine p_r ?_; replace hF := hF.kp); skip)
    (first | refine p_q ?_ | refine p_n ?_)
    iterate 2 refine p_q ?_
    iterate 2 (first | refine p_q ?_ | refine p_n ?_)
    ((refine p_c H rfl rfl Tryd.func29 (abs_ar (av HA3) (by omega)) ?_; clear H; rintro e w1 ⟨v9, rfl, hF, hB⟩ H; refine p_r ?_; replace hF := hF.kp); have HB9 := hid hB; clear hB)
    ((refine p_c H rfl rfl Tryd.func30 (rabs_ar (av HA1) (by omega)) ?_; clear H; rintro e w1 ⟨v10, rfl, hF, hB⟩ H; refine p_r ?_; replace hF := hF.kp); have HB10 := hid hB; clear hB)
    ((refine p_c H rfl rfl Tryd.func12 (same_eq (bv HB9) (bv HB10) rfl) ?_; clear H; rintro e w1 ⟨rfl, hF⟩ H; refine p_r ?_; replace hF := hF.kp); skip)
    (first | refine p_q ?_ | refine p_n ?_)
    refine p_q ?_
    (refine pl_done ?_)
    clear HB5 HB6 HB7 HB8 HB9 HB10
    go_wp2_with (first | refine x_q H ?_ | refine x_cm (fun h => ?_) (fun h => ?_) | (revert H; (first | (refine x_g ?_; intro g w1 hg hf H) | (refine x_s ?_; intro w1 hf H)); (first | replace hf := hf.kp | clear hf)))
    (revert H; refine w_pF 28 (.st 0 (.st 1 (.st 3 (.st 4 (.ld 2 (.ld 5 (.ld 6 (.st 7 (.st 8 (.st 9 (.st 10 (.st 12 (.st 13 (.ld 11 (.ld 14 (.ld 15 (.st 16 (.st 17 (.st 18 (.st 19 (.st 20 (.st 22 (.st 23 (.ld 21 (.ld 24 (.ld 25 (.st 26 (.st 27 .done)))))))))))))))))))))))))))) ?_; intro w1 hf H; (first | replace hf := hf.kp | clear hf))
    iterate 4 refine p_q ?_
    ((refine p_c H rfl rfl Tryd.func31 (add_ar (av HA3) (av HA4) (by omega) (by omega)) ?_; clear H; rintro e w1 ⟨v5, rfl, hF, hB⟩ H; refine p_r ?_; replace hF := hF.kp); have HB5 := hid hB; clear hB)
    ((refine p_c H rfl rfl Tryd.func32 (radd_ar (av HA1) (av HA2) (by omega) (by omega)) ?_; clear H; rintro e w1 ⟨v6, rfl, hF, hB⟩ H; refine p_r ?_; replace hF := hF.kp); have HB6 := hid hB; clear hB)
    ((refine p_c H rfl rfl Tryd.func12 (same_eq (bv HB5) (bv HB6) rfl) ?_; clear H; rintro e w1 ⟨rfl, hF⟩ H; refine p_r ?_; replace hF := hF.kp); skip)
    iterate 2 refine p_q ?_
    iterate 4 (first | refine p_q ?_ | refine p_n ?_)
    ((refine p_c H rfl rfl Tryd.func33 (sub_ar (av HA3) (av HA4) (by omega) (by omega)) ?_; clear H; rintro e w1 ⟨v7, rfl, hF, hB⟩ H; refine p_r ?_; replace hF := hF.kp); have HB7 := hid hB; clear hB)
    ((refine p_c H rfl rfl Tryd.func34 (rsub_ar (av HA1) (av HA2) (by omega) (by omega)) ?_; clear H; rintro e w1 ⟨v8, rfl, hF, hB⟩ H; refine p_r ?_; replace hF := hF.kp); have HB8 := hid hB; clear hB)
    ((refine p_c H rfl rfl Tryd.func12 (same_eq (bv HB7) (bv HB8) rfl) ?_; clear H; rintro e w1 ⟨rfl, hF⟩ H; refine p_r ?_; replace hF := hF.kp); skip)
    (first | refine p_q ?_ | refine p_n ?_)
    iterate 2 refine p_q ?_
    iterate 4 (first | refine p_q ?_ | refine p_n ?_)
    ((refine p_c H rfl rfl Tryd.func35 (mul_ar (av HA3) (av HA4) (by omega) (by omega)) ?_; clear H; rintro e w1 ⟨v9, rfl, hF, hB⟩ H; refine p_r ?_; replace hF := hF.kp); have HB9 := hid hB; clear hB)
    ((refine p_c H rfl rfl Tryd.func36 (rmul_ar (av HA1) (av HA2) (by omega) (by omega)) ?_; clear H; rintro e w1 ⟨v10, rfl, hF, hB⟩ H; refine p_r ?_; replace hF := hF.kp); have HB10 := hid hB; clear hB)
    ((refine p_c H rfl rfl Tryd.func12 (same_eq (bv HB9) (bv HB10) rfl) ?_; clear H; rintro e w1 ⟨rfl, hF⟩ H; refine p_r ?_; replace hF := hF.kp); skip)
    (first | refine p_q ?_ | refine p_n ?_)
    refine p_q ?_
    (refine pl_done ?_)
    clear HB5 HB6 HB7 HB8 HB9 HB10
    go_wp2_with (first | refine x_q H ?_ | refine x_cm (fun h => ?_) (fun h => ?_) | (revert H; (first | (refine x_g ?_; intro g w1 hg hf H) | (refine x_s ?_; intro w1 hf H)); (first | replace hf := hf.kp | clear hf)))
    (refine x_c H (same_self na la Hn1.out (lr HL3) (lr HL1)) ?_; clear H; rintro e w1 ⟨rfl, hF⟩ H; replace hF := hF.kp; skip)
    go_wp2_with (first | refine x_q H ?_ | refine x_cm (fun h => ?_) (fun h => ?_) | (revert H; (first | (refine x_g ?_; intro g w1 hg hf H) | (refine x_s ?_; intro w1 hf H)); (first | replace hf := hf.kp | clear hf)))
    (refine x_c H (same_self nb lb Hn2.out (lr HL4) (lr HL2)) ?_; clear H; rintro e w1 ⟨rfl, hF⟩ H; replace hF := hF.kp; skip)
    go_wp2_with (first | refine x_q H ?_ | refine x_cm (fun h => ?_) (fun h => ?_) | (revert H; (first | (refine x_g ?_; intro g w1 hg hf H) | (refine x_s ?_; intro w1 hf H)); (first | replace hf := hf.kp | clear hf)))
    ((refine x_c H (awake_any _ (TabIs.fr HT.out H.fr)) ?_; clear H; rintro e w1 ⟨rfl, hF⟩ H; replace hF := hF.kp; skip); go_wp2_with (first | refine x_q H ?_ | refine x_cm (fun h => ?_) (fun h => ?_) | (revert H; (first | (refine x_g ?_; intro g w1 hg hf H) | (refine x_s ?_; intro w1 hf H)); (first | replace hf := hf.kp | clear hf))); go_ret; exact ⟨rfl, H.fr⟩)
end Go.Proofs.YtpmebjhlgdhchaaDoor
