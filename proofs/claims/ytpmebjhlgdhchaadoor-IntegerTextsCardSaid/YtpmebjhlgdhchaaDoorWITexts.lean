/-
  The walk of IntegerTexts.
-/
import Derived.Test.YtpmebjhlgdhchaaDoorIz4
import Derived.Test.YtpmebjhlgdhchaaDoorPz6
import Derived.Test.YtpmebjhlgdhchaaDoorIz13
namespace Go.Proofs.YtpmebjhlgdhchaaDoor
open Go.RowKit
set_option linter.unusedSimpArgs false
set_option linter.unusedVariables false
set_option maxHeartbeats 4000000
set_option maxRecDepth 100000

theorem ev_strEqV {P : Program} {a : Act} {w : World} {o : Oper} {t t' : TypeId} {x y : Operand} (ho : o.op = .binOp .eql t x y t') {s r : List UInt8} (hx : a.eval x = strV s) (hy : a.eval y = strV r) {b : Bool} (hs : Hid ((s == r) = b)) : (execOp a.eval o).run P w = .ok (.value (.bool b)) w := by
  rw [← hs.out]; exact ev_strEq ho hx hy
theorem parse_is (w : World) (s : List UInt8) (hs : s.length ≤ 1000000) {z : Int} {q : Int} (h1 : Hid ((pz s).1 = z)) (h2 : Hid ((pz s).2 = q)) :
    Calls Tryd.prog 45 #[strV s] w fun e w' => ∃ v1, e = .returned (.tuple #[v1, .int .i64 q]) ∧ Fr [] w w' ∧ Bv w' v1 z 1024 := by
  rw [← h1.out, ← h2.out]; exact parse_any w s hs
theorem rparse_is (w : World) (s : List UInt8) (hs : s.length ≤ 1000000) {z : Int} {q : Int} (h1 : Hid ((pz s).1 = z)) (h2 : Hid ((pz s).2 = q)) :
    Calls Tryd.prog 46 #[strV s] w fun e w' => ∃ v1, e = .returned (.tuple #[v1, .int .i64 q]) ∧ Fr [] w w' ∧ Bv w' v1 z 1024 := by
  rw [← h1.out, ← h2.out]; exact rparse_any w s hs
set_option maxHeartbeats 32000000 in
theorem integerTexts_walk (W : World) (hL : laidMetH Tryd.prog laid5 W) (v0 : Value) (o0 : IsBig W v0) (s : List UInt8) :
    Calls Tryd.prog 6 #[v0, strV s] W fun e w' => e = .returned (.bool true) ∧ Fr [] W w' := by
  obtain ⟨na, p, c, la, rfl, hL0⟩ := o0
  have HT := hid (laid_pow5 hL)
  have H := Hp.start [] W
  have hll0 := hL0.len
  clear hL
  obtain ⟨z, hz⟩ : ∃ z, (pz s).1 = z := ⟨_, rfl⟩
  obtain ⟨q, hq⟩ : ∃ q, (pz s).2 = q := ⟨_, rfl⟩
  have HZ := hid hz
  have HQ := hid hq
  clear hz hq
  by_cases h1 : (40 : Int) < la.length
  · go_enter Tryd.func6, Tryd.ntmps6
    go_wp2_with (first | refine x_q H ?_ | refine x_cm (fun h => ?_) (fun h => ?_) | (revert H; (first | (refine x_g ?_; intro g w1 hg hf H) | (refine x_s ?_; intro w1 hf H)); (first | replace hf := hf.kp | clear hf)))
    (refine x_c H (slim_no (hL0.fr H.fr) h1) ?_; clear H; rintro e w1 ⟨rfl, hF⟩ H; replace hF := hF.kp; skip)
    go_wp2_with (first | refine x_q H ?_ | refine x_cm (fun h => ?_) (fun h => ?_) | (revert H; (first | (refine x_g ?_; intro g w1 hg hf H) | (refine x_s ?_; intro w1 hf H)); (first | replace hf := hf.kp | clear hf)))
    ((refine x_c H (awake_any _ (TabIs.fr HT.out H.fr)) ?_; clear H; rintro e w1 ⟨rfl, hF⟩ H; replace hF := hF.kp; skip); go_wp2_with (first | refine x_q H ?_ | refine x_cm (fun h => ?_) (fun h => ?_) | (revert H; (first | (refine x_g ?_; intro g w1 hg hf H) | (refine x_s ?_; intro w1 hf H)); (first | replace hf := hf.kp | clear hf))); go_ret; exact ⟨rfl, H.fr⟩)
  have HA1 : Hid (Av W (.agg #[.bool na, .slice p la.length c]) (zv na la) 40) := hid ⟨na, la, p, c, rfl, hL0, rfl, by omega⟩
  by_cases h2 : (2048 : Int) < s.length
  · go_enter Tryd.func6, Tryd.ntmps6
    go_wp2_with (first | refine x_q H ?_ | refine x_cm (fun h => ?_) (fun h => ?_) | (revert H; (first | (refine x_g ?_; intro g w1 hg hf H) | (refine x_s ?_; intro w1 hf H)); (first | replace hf := hf.kp | clear hf)))
    (refine x_c H (slim_ar (av HA1) (by omega) (by omega)) ?_; clear H; rintro e w1 ⟨rfl, hF⟩ H; replace hF := hF.kp; skip)
    go_wp2_with (first | refine x_q H ?_ | refine x_cm (fun h => ?_) (fun h => ?_) | refine x_e (ev_strLen rfl rfl) ?_ | (revert H; (first | (refine x_g ?_; intro g w1 hg hf H) | (refine x_s ?_; intro w1 hf H)); (first | replace hf := hf.kp | clear hf)))
    ((refine x_c H (awake_any _ (TabIs.fr HT.out H.fr)) ?_; clear H; rintro e w1 ⟨rfl, hF⟩ H; replace hF := hF.kp; skip); go_wp2_with (first | refine x_q H ?_ | refine x_cm (fun h => ?_) (fun h => ?_) | (revert H; (first | (refine x_g ?_; intro g w1 hg hf H) | (refine x_s ?_; intro w1 hf H)); (first | replace hf := hf.kp | clear hf))); go_ret; exact ⟨rfl, H.fr⟩)
  have hs : s.length ≤ 2048 := by omega
  clear h1 hL0 hll0 h2
  generalize zv na la = x at HA1
  have HBB : Hid ((fmt x == fmt x) = true) := hid (by simp)
  go_enter Tryd.func6, Tryd.ntmps6
  go_wp2_with (first | refine x_q H ?_ | refine x_cm (fun h => ?_) (fun h => ?_) | (revert H; (first | (refine x_g ?_; intro g w1 hg hf H) | (refine x_s ?_; intro w1 hf H)); (first | replace hf := hf.kp | clear hf)))
  (refine x_c H (slim_ar (av HA1) (by omega) (by omega)) ?_; clear H; rintro e w1 ⟨rfl, hF⟩ H; replace hF := hF.kp; skip)
  go_wp2_with (first | refine x_q H ?_ | refine x_cm (fun h => ?_) (fun h => ?_) | refine x_e (ev_strLen rfl rfl) ?_ | (revert H; (first | (refine x_g ?_; intro g w1 hg hf H) | (refine x_s ?_; intro w1 hf H)); (first | replace hf := hf.kp | clear hf)))
  (refine x_c H (parse_is _ s (by omega) HZ HQ) ?_; clear H; rintro e w1 ⟨v5, rfl, hF, hB⟩ H; replace hF := hF.kp; obtain ⟨b5, p5, m5, c5, rfl⟩ := hB.form; have HB5 := hid hB; clear hB)
  go_wp2_with (first | refine x_q H ?_ | refine x_cm (fun h => ?_) (fun h => ?_) | (revert H; refine x_s2 ?_; intro w1 hf H hk; clear hf; change Kp _ _ at hk) | (revert H; (first | (refine x_g ?_; intro g w1 hg hf H) | (refine x_s ?_; intro w1 hf H)); (first | replace hf := hf.kp | clear hf)))
  (refine x_c H (rparse_is _ s (by omega) HZ HQ) ?_; clear H; rintro e w1 ⟨v6, rfl, hF, hB⟩ H; replace hF := hF.kp; obtain ⟨b6, p6, m6, c6, rfl⟩ := hB.form; have HB6 := hid hB; clear hB)
  go_wp2_with (first | refine x_q H ?_ | refine x_cm (fun h => ?_) (fun h => ?_) | (revert H; refine x_s2 ?_; intro w1 hf H hk; clear hf; change Kp _ _ at hk) | (revert H; (first | (refine x_g ?_; intro g w1 hg hf H) | (refine x_s ?_; intro w1 hf H)); (first | replace hf := hf.kp | clear hf)))
  (revert H; refine w_pF 19 (.st 0 (.st 1 (.st 2 (.st 3 (.st 4 (.st 5 (.ld 6 (.st 7 (.st 8 (.st 9 (.st 11 (.ld 10 (.ld 12 (.st 13 (.st 14 (.st 15 (.ld 16 (.st 17 (.st 18 .done))))))))))))))))))) ?_; intro w1 hf H; (first | replace hf := hf.kp | clear hf))
  iterate 4 refine p_q ?_
  iterate 2 (first | refine p_q ?_ | refine p_n ?_)
  ((refine p_c H rfl rfl Tryd.func12 (same_eq (bv HB5) (bv HB6) rfl) ?_; clear H; rintro e w1 ⟨rfl, hF⟩ H; refine p_r ?_; replace hF := hF.kp); skip)
  iterate 2 refine p_q ?_
  iterate 2 (first | refine p_q ?_ | refine p_n ?_)
  ((refine p_c H rfl rfl Tryd.func47 (format_ar (av HA1) (by omega) (TabIs.fr HT.out H.fr)) ?_; clear H; rintro e w1 ⟨rfl, hF⟩ H; refine p_r ?_; replace hF := hF.kp); skip)
  ((refine p_c H rfl rfl Tryd.func48 (rformat_ar (av HA1) (by omega)) ?_; clear H; rintro e w1 ⟨rfl, hF⟩ H; refine p_r ?_; replace hF := hF.kp); skip)
  (refine p_e rfl (fun w H => ev_strEqV rfl rfl rfl HBB) ?_)
  iterate 2 refine p_q ?_
  ((refine p_c H rfl rfl Tryd.func9 (awake_any _ (TabIs.fr HT.out H.fr)) ?_; clear H; rintro e w1 ⟨rfl, hF⟩ H; refine p_r ?_; replace hF := hF.kp); skip)
  iterate 2 refine p_q ?_
  (refine pl_done ?_)
  go_wp2_with (first | refine x_q H ?_ | refine x_cm (fun h => ?_) (fun h => ?_) | (revert H; (first | (refine x_g ?_; intro g w1 hg hf H) | (refine x_s ?_; intro w1 hf H)); (first | replace hf := hf.kp | clear hf)))
  go_ret
  exact ⟨rfl, H.fr⟩
end Go.Proofs.YtpmebjhlgdhchaaDoor
