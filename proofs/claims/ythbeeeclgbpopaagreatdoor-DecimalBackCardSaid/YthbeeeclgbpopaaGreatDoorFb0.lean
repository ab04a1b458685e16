/-
  The decimals: the exact value of a float, written.
-/
import Derived.Test.YthbeeeclgbpopaaGreatDoorFa8
namespace Go.Proofs.YthbeeeclgbpopaaGreatDoor
open Go.RowKit
set_option linter.unusedSimpArgs false
set_option linter.unusedVariables false
set_option maxHeartbeats 8000000
set_option maxRecDepth 100000

theorem nm_nat {X : Nat} {e m e' : Int} (h : Nm (X : Int) e m e') : ∃ M : Nat, m = (M : Int) := by
  by_cases hX : X = 0
  · rcases h with ⟨_, h2, _⟩ | ⟨h1, _⟩
    · exact ⟨0, h2⟩
    · exact absurd (by omega) h1
  · obtain ⟨M, _, h, _⟩ := nm_pos h (by omega)
    exact ⟨M, h⟩
theorem isFinite_any (w : World) {b : Nat} (hb : b < 18446744073709551616) {x y : Nat} (hx : Hid (b / 4503599627370496 % 2048 = x)) (hy : Hid (b % 4503599627370496 = y)) (hn : x ≠ 2047) :
    Calls Tryz.prog 70 #[.int .u64 (b : Int)] w fun r w' => r = .returned (.bool true) ∧ Fr [] w w' := by
  have H := Hp.start [] w
  go_enter Tryz.func70, Tryz.ntmps70
  go_wp2_with (first | refine x_q H ?_ | refine x_cm (fun h => ?_) (fun h => ?_) | refine x_l H ?_ | refine x_e (ev_dyad rfl rfl rfl) ?_ | (revert H; refine x_sF ?_; intro w1 hf H hk; clear hf; change Kp _ _ at hk) | (revert H; (first | (refine x_g ?_; intro g w1 hg hf H) | (refine x_s ?_; intro w1 hf H)); (first | replace hf := hf.kp | clear hf)))
  (refine x_c H (partsI_any _ hb hx hy) ?_; clear H; rintro e w1 ⟨rfl, hF⟩ H; replace hF := hF.kp; skip)
  go_wp2_with (first | refine x_q H ?_ | refine x_cm (fun h => ?_) (fun h => ?_) | refine x_l H ?_ | refine x_e (ev_dyad rfl rfl rfl) ?_ | (revert H; refine x_sF ?_; intro w1 hf H hk; clear hf; change Kp _ _ at hk) | (revert H; (first | (refine x_g ?_; intro g w1 hg hf H) | (refine x_s ?_; intro w1 hf H)); (first | replace hf := hf.kp | clear hf)))
  go_ret
  exact ⟨rfl, H.fr⟩
theorem shifted_any (w : World) (k : Nat) (hk : k ≤ 1048576) {z : Int} (hz : z = (k : Int)) :
    Calls Tryz.prog 73 #[.int .i64 z] w fun r w' => ∃ v1, r = .returned v1 ∧ Fr [] w w' ∧ Bv w' v1 ((2 ^ k : Nat) : Int) (bl (2 ^ k)) := by
  have HO := hid (one_shift k)
  have HZ := hid hz
  clear hz
  have H := Hp.start [] w
  go_enter Tryz.func73, Tryz.ntmps73
  go_wp2_with (first | refine x_q H ?_ | refine x_cm (fun h => ?_) (fun h => ?_) | refine x_l H ?_ | refine x_e (ev_dyad rfl rfl rfl) ?_ | (revert H; refine x_sF ?_; intro w1 hf H hk; clear hf; change Kp _ _ at hk) | (revert H; (first | (refine x_g ?_; intro g w1 hg hf H) | (refine x_s ?_; intro w1 hf H)); (first | replace hf := hf.kp | clear hf)))
  (refine x_c H (fromInt_ar _ 1 (by simp only [inr]; omega)) ?_; clear H; rintro e w1 ⟨v4, rfl, hF, hB⟩ H; replace hF := hF.kp; obtain ⟨b4, p4, m4, c4, rfl⟩ := hB.form; have HB4 := hid hB; clear hB)
  go_wp2_with (first | refine x_q H ?_ | refine x_cm (fun h => ?_) (fun h => ?_) | refine x_l H ?_ | refine x_e (ev_dyad rfl rfl rfl) ?_ | (revert H; refine x_sF ?_; intro w1 hf H hk; clear hf; change Kp _ _ at hk) | (revert H; (first | (refine x_g ?_; intro g w1 hg hf H) | (refine x_s ?_; intro w1 hf H)); (first | replace hf := hf.kp | clear hf)))
  (refine x_c H (shiftN_any (m := 1) (z := z) k HZ.out (bv HB4).ar (by omega) hk) ?_; clear H; rintro e w1 ⟨v5, rfl, hF, hB⟩ H; replace hF := hF.kp; rw [HO.out] at hB; obtain ⟨b5, p5, m5, c5, rfl⟩ := hB.form; have HB5 := hid hB; clear hB)
  go_wp2_with (first | refine x_q H ?_ | refine x_cm (fun h => ?_) (fun h => ?_) | refine x_l H ?_ | refine x_e (ev_dyad rfl rfl rfl) ?_ | (revert H; refine x_sF ?_; intro w1 hf H hk; clear hf; change Kp _ _ at hk) | (revert H; (first | (refine x_g ?_; intro g w1 hg hf H) | (refine x_s ?_; intro w1 hf H)); (first | replace hf := hf.kp | clear hf)))
  refine c_post H rfl rfl rfl ?_
  exact ⟨_, rfl, H.fr, bv HB5⟩
theorem five_pow (k : Nat) : 10 ^ k / 2 ^ k = 5 ^ k := by
  have e : 10 ^ k = 5 ^ k * 2 ^ k := by rw [← Nat.mul_pow]
  rw [e, Nat.mul_div_cancel _ (pow2_pos k)]
theorem bl_five (k : Nat) : bl (5 ^ k) ≤ 3 * k + 1 := bl_le (by
  have h1 : 5 ^ k ≤ 8 ^ k := Nat.pow_le_pow_left (by decide) k
  have h2 : (8 : Nat) ^ k = 2 ^ (3 * k) := by rw [Nat.pow_mul]
  rw [h2] at h1
  exact Nat.lt_of_le_of_lt h1 (Nat.pow_lt_pow_right (by decide) (by omega)))
theorem dec_short {n : Nat} (h : bl n ≤ 9000) : (dec n).length ≤ 1000000 := by
  by_cases h0 : n = 0
  · subst h0; rw [dec_small (by decide)]; decide
  · obtain ⟨a1, _, _⟩ := dec_pow (Nat.pos_of_ne_zero h0)
    have a2 := bl_lt n
    have a3 : 2 ^ ((dec n).length - 1) ≤ 10 ^ ((dec n).length - 1) := Nat.pow_le_pow_left (by decide) _
    have a4 : 2 ^ ((dec n).length - 1) < 2 ^ bl n := by omega
    have := (Nat.pow_lt_pow_iff_right (show 1 < 2 by decide)).1 a4
    omega
theorem repeatZ_any (w : World) {z : Int} (n : Nat) (hz : z = (n : Int)) (hn : n ≤ 1000000) {l : List UInt8} (hl : Hid (List.replicate n 48 = l)) :
    Calls Tryz.prog 74 #[.string (ByteArray.mk #[48]), .int .i64 z] w fun e w' => e = .returned (strV l) ∧ Fr [] w w' := by
  subst hz
  rw [← hl.out]
  exact repeat_any n hn w
/-- The digits with as many zeros ahead that one stands before the point. -/
def padE (k : Nat) (s : List UInt8) : List UInt8 := if s.length ≤ k then List.replicate (k + 1 - s.length) 48 ++ s else s
/-- What Exact writes. -/
def Ex (b z : Nat) (l : List UInt8) : Prop := ∃ (M : Nat) (e : Int), Nm (manF z : Int) (expoF z) (M : Int) e ∧ ((∃ j : Nat, e = (j : Int) ∧ l = mns b ++ dec (M * 2 ^ j)) ∨ (∃ k : Nat, e = -(k : Int) ∧ 0 < k ∧ l = mns b ++ ((padE k (dec (M * 5 ^ k))).take ((padE k (dec (M * 5 ^ k))).length - k) ++ 46 :: (padE k (dec (M * 5 ^ k))).drop ((padE k (dec (M * 5 ^ k))).length - k))))
end Go.Proofs.YthbeeeclgbpopaaGreatDoor
