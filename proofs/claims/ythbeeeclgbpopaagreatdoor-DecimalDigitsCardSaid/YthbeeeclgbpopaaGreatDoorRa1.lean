/-
  The document's floats: kinds and magnitudes.
-/
import Derived.Test.YthbeeeclgbpopaaGreatDoorFa5
namespace Go.Proofs.YthbeeeclgbpopaaGreatDoor
open Go.RowKit
set_option linter.unusedSimpArgs false
set_option linter.unusedVariables false
set_option maxHeartbeats 8000000
set_option maxRecDepth 100000

theorem ev_m11I {P : Program} {w : World} {a : Act} {o : Oper} {t t' : TypeId} {x : Operand} (ho : o.op = .binOp .and t x (.const (.int .u64 2047)) t') {m z : Nat} (hx : a.eval x = .int .u64 (m : Int)) (hz : Hid (m % 2048 = z)) (hm : m < 18446744073709551616 := by omega) : (execOp a.eval o).run P w = .ok (.value (.int .u64 (z : Int))) w := by
  rw [← hz.out]; exact ev_m11 ho hx hm
theorem ev_m52I {P : Program} {w : World} {a : Act} {o : Oper} {t t' : TypeId} {x : Operand} (ho : o.op = .binOp .and t x (.const (.int .u64 4503599627370495)) t') {m z : Nat} (hx : a.eval x = .int .u64 (m : Int)) (hz : Hid (m % 4503599627370496 = z)) (hm : m < 18446744073709551616 := by omega) : (execOp a.eval o).run P w = .ok (.value (.int .u64 (z : Int))) w := by
  rw [← hz.out]; exact ev_m52 ho hx hm
theorem rkind_any (w : World) {b : Nat} {k : Int} (hb : b < 18446744073709551616) (hk : Hid (kindF b = k)) :
    Calls Tryz.prog 15 #[.int .u64 (b : Int)] w fun r w' => r = .returned (.int .i64 k) ∧ Fr [] w w' := by
  rw [← hk.out]
  have H := Hp.start [] w
  have HK : Hid (kindF b = if b / 4503599627370496 % 2048 = 2047 then (if b % 4503599627370496 = 0 then 2 else 3) else if b / 4503599627370496 % 2048 = 0 ∧ b % 4503599627370496 = 0 then 0 else 1) := hid rfl
  have hx : b / 4503599627370496 % 2048 < 2048 := Nat.mod_lt _ (by decide)
  have hq : b / 4503599627370496 < 18446744073709551616 := by omega
  obtain ⟨x, hX⟩ : ∃ x, b / 4503599627370496 % 2048 = x := ⟨_, rfl⟩
  obtain ⟨y, hY⟩ : ∃ x, b % 4503599627370496 = x := ⟨_, rfl⟩
  have hy : b % 4503599627370496 < 4503599627370496 := Nat.mod_lt _ (by decide)
  rw [hX, hY] at HK
  rw [hX] at hx
  rw [hY] at hy
  have HX := hid hX
  have HY := hid hY
  clear hX hY
  by_cases h1 : x = 2047
  · by_cases h2 : y = 0
    · have HV : Hid (kindF b = 2) := hid (HK.out.trans (by rw [if_pos h1, if_pos h2]))
      go_enter Tryz.func15, Tryz.ntmps15
      go_wp2_with (first | refine x_q H ?_ | refine x_cm (fun h => ?_) (fun h => ?_) | refine x_l H ?_ | refine x_e (ev_dyad rfl rfl rfl) ?_ | (revert H; refine x_sF ?_; intro w1 hf H hk; clear hf; change Kp _ _ at hk) | refine x_e (ev_s52 rfl rfl) ?_ | refine x_e (ev_m11I rfl rfl HX) ?_ | refine x_e (ev_m52I rfl rfl HY) ?_ | (revert H; (first | (refine x_g ?_; intro g w1 hg hf H) | (refine x_s ?_; intro w1 hf H)); (first | replace hf := hf.kp | clear hf)))
      go_ret
      exact ⟨by rw [HV.out]; rfl, H.fr⟩
    · have HV : Hid (kindF b = 3) := hid (HK.out.trans (by rw [if_pos h1, if_neg h2]))
      go_enter Tryz.func15, Tryz.ntmps15
      go_wp2_with (first | refine x_q H ?_ | refine x_cm (fun h => ?_) (fun h => ?_) | refine x_l H ?_ | refine x_e (ev_dyad rfl rfl rfl) ?_ | (revert H; refine x_sF ?_; intro w1 hf H hk; clear hf; change Kp _ _ at hk) | refine x_e (ev_s52 rfl rfl) ?_ | refine x_e (ev_m11I rfl rfl HX) ?_ | refine x_e (ev_m52I rfl rfl HY) ?_ | (revert H; (first | (refine x_g ?_; intro g w1 hg hf H) | (refine x_s ?_; intro w1 hf H)); (first | replace hf := hf.kp | clear hf)))
      go_ret
      exact ⟨by rw [HV.out]; rfl, H.fr⟩
  · by_cases h2 : x = 0
    · by_cases h3 : y = 0
      · have HV : Hid (kindF b = 0) := hid (HK.out.trans (by rw [if_neg h1, if_pos ⟨h2, h3⟩]))
        go_enter Tryz.func15, Tryz.ntmps15
        go_wp2_with (first | refine x_q H ?_ | refine x_cm (fun h => ?_) (fun h => ?_) | refine x_l H ?_ | refine x_e (ev_dyad rfl rfl rfl) ?_ | (revert H; refine x_sF ?_; intro w1 hf H hk; clear hf; change Kp _ _ at hk) | refine x_e (ev_s52 rfl rfl) ?_ | refine x_e (ev_m11I rfl rfl HX) ?_ | refine x_e (ev_m52I rfl rfl HY) ?_ | (revert H; (first | (refine x_g ?_; intro g w1 hg hf H) | (refine x_s ?_; intro w1 hf H)); (first | replace hf := hf.kp | clear hf)))
        go_ret
        exact ⟨by rw [HV.out]; rfl, H.fr⟩
      · have HV : Hid (kindF b = 1) := hid (HK.out.trans (by rw [if_neg h1, if_neg (fun h => h3 h.2)]))
        go_enter Tryz.func15, Tryz.ntmps15
        go_wp2_with (first | refine x_q H ?_ | refine x_cm (fun h => ?_) (fun h => ?_) | refine x_l H ?_ | refine x_e (ev_dyad rfl rfl rfl) ?_ | (revert H; refine x_sF ?_; intro w1 hf H hk; clear hf; change Kp _ _ at hk) | refine x_e (ev_s52 rfl rfl) ?_ | refine x_e (ev_m11I rfl rfl HX) ?_ | refine x_e (ev_m52I rfl rfl HY) ?_ | (revert H; (first | (refine x_g ?_; intro g w1 hg hf H) | (refine x_s ?_; intro w1 hf H)); (first | replace hf := hf.kp | clear hf)))
        go_ret
        exact ⟨by rw [HV.out]; rfl, H.fr⟩
    · have HV : Hid (kindF b = 1) := hid (HK.out.trans (by rw [if_neg h1, if_neg (fun h => h2 h.1)]))
      go_enter Tryz.func15, Tryz.ntmps15
      go_wp2_with (first | refine x_q H ?_ | refine x_cm (fun h => ?_) (fun h => ?_) | refine x_l H ?_ | refine x_e (ev_dyad rfl rfl rfl) ?_ | (revert H; refine x_sF ?_; intro w1 hf H hk; clear hf; change Kp _ _ at hk) | refine x_e (ev_s52 rfl rfl) ?_ | refine x_e (ev_m11I rfl rfl HX) ?_ | refine x_e (ev_m52I rfl rfl HY) ?_ | (revert H; (first | (refine x_g ?_; intro g w1 hg hf H) | (refine x_s ?_; intro w1 hf H)); (first | replace hf := hf.kp | clear hf)))
      go_ret
      exact ⟨by rw [HV.out]; rfl, H.fr⟩
theorem rnan_any (w : World) {b : Nat} {k : Int} (hb : b < 18446744073709551616) (hk : Hid (kindF b = k)) (h3 : k ≠ 3) :
    Calls Tryz.prog 48 #[.int .u64 (b : Int)] w fun r w' => r = .returned (.bool false) ∧ Fr [] w w' := by
  have H := Hp.start [] w
  go_enter Tryz.func48, Tryz.ntmps48
  go_wp2_with (first | refine x_q H ?_ | refine x_cm (fun h => ?_) (fun h => ?_) | refine x_l H ?_ | refine x_e (ev_dyad rfl rfl rfl) ?_ | (revert H; refine x_sF ?_; intro w1 hf H hk; clear hf; change Kp _ _ at hk) | (revert H; (first | (refine x_g ?_; intro g w1 hg hf H) | (refine x_s ?_; intro w1 hf H)); (first | replace hf := hf.kp | clear hf)))
  (refine x_c H (rkind_any _ hb hk) ?_; clear H; rintro e w1 ⟨rfl, hF⟩ H; replace hF := hF.kp; skip)
  go_wp2_with (first | refine x_q H ?_ | refine x_cm (fun h => ?_) (fun h => ?_) | refine x_l H ?_ | refine x_e (ev_dyad rfl rfl rfl) ?_ | (revert H; refine x_sF ?_; intro w1 hf H hk; clear hf; change Kp _ _ at hk) | (revert H; (first | (refine x_g ?_; intro g w1 hg hf H) | (refine x_s ?_; intro w1 hf H)); (first | replace hf := hf.kp | clear hf)))
  go_ret
  exact ⟨rfl, H.fr⟩
theorem rabs_anyF (w : World) {b z : Nat} {k : Int} (hb : b < 18446744073709551616) (hk : Hid (kindF b = k)) (h3 : k ≠ 3) (hz : Hid (b % 9223372036854775808 = z)) :
    Calls Tryz.prog 16 #[.int .u64 (b : Int)] w fun r w' => r = .returned (.int .u64 (z : Int)) ∧ Fr [] w w' := by
  have H := Hp.start [] w
  go_enter Tryz.func16, Tryz.ntmps16
  go_wp2_with (first | refine x_q H ?_ | refine x_cm (fun h => ?_) (fun h => ?_) | refine x_l H ?_ | refine x_e (ev_dyad rfl rfl rfl) ?_ | (revert H; refine x_sF ?_; intro w1 hf H hk; clear hf; change Kp _ _ at hk) | (revert H; (first | (refine x_g ?_; intro g w1 hg hf H) | (refine x_s ?_; intro w1 hf H)); (first | replace hf := hf.kp | clear hf)))
  (refine x_c H (rnan_any _ hb hk h3) ?_; clear H; rintro e w1 ⟨rfl, hF⟩ H; replace hF := hF.kp; skip)
  go_wp2_with (first | refine x_q H ?_ | refine x_cm (fun h => ?_) (fun h => ?_) | refine x_l H ?_ | refine x_e (ev_dyad rfl rfl rfl) ?_ | (revert H; refine x_sF ?_; intro w1 hf H hk; clear hf; change Kp _ _ at hk) | refine x_e (ev_an63 rfl rfl hz) ?_ | (revert H; (first | (refine x_g ?_; intro g w1 hg hf H) | (refine x_s ?_; intro w1 hf H)); (first | replace hf := hf.kp | clear hf)))
  go_ret
  exact ⟨rfl, H.fr⟩
end Go.Proofs.YthbeeeclgbpopaaGreatDoor
