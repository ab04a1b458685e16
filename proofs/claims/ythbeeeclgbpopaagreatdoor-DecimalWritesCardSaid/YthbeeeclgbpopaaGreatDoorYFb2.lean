import Derived.Test.YthbeeeclgbpopaaGreatDoorYHp
import Derived.Test.YthbeeeclgbpopaaGreatDoorYFa8
import Derived.Test.YthbeeeclgbpopaaGreatDoorYFa5
namespace Go.Proofs.YthbeeeclgbpopaaGreatDoor
open Go.RowKit
set_option linter.unusedSimpArgs false
set_option linter.unusedVariables false
set_option maxHeartbeats 8000000
set_option maxRecDepth 100000
theorem nm_nat {X : Nat} {e m e' : Int} (h : Nm (X : Int) e m e') : ∃ M : Nat, m = (M : Int) := by
 by_cases hX : X = 0
 ·rcases h with ⟨_, h2, _⟩ | ⟨h1, _⟩
  ·exact ⟨0, h2⟩
  ·exact absurd (by omega) h1
 ·obtain ⟨M, _, h, _⟩ := nm_pos h (by omega)
  exact ⟨M, h⟩
theorem isFinite_any (w : World) {b : Nat} (hb : b < 18446744073709551616) {x y : Nat} (hx : Hid (b / 4503599627370496 % 2048 = x)) (hy : Hid (b % 4503599627370496 = y)) (hn : x ≠ 2047) :
  Calls Tryz.prog 70 #[.int .u64 (b : Int)] w fun r w' => r = .returned (.bool true) ∧ Fr [] w w' := by
 have H := Hp.start [] w
 go_enter Tryz.func70, Tryz.ntmps70
 go_wp2_with fail
 (refine x_c H (partsI_any _ hb hx hy) ?_; clear H; rintro e w1 ⟨rfl, hF⟩ H; replace hF := hF.kp)
 go_wp2_with (refine x_q H ?_)
 go_ret
 exact ⟨rfl, H.fr⟩
theorem shifted_any (w : World) (k : Nat) (hk : k ≤ 1048576) {z : Int} (hz : z = (k : Int)) :
  Calls Tryz.prog 73 #[.int .i64 z] w fun r w' => ∃ v1, r = .returned v1 ∧ Fr [] w w' ∧ Bv w' v1 ((2 ^ k : Nat) : Int) (bl (2 ^ k)) := by
 have HO := hid (one_shift k)
 have HZ := hid hz
 clear hz
 have H := Hp.start [] w
 go_enter Tryz.func73, Tryz.ntmps73
 go_wp2_with (revert H; refine x_g ?_; intro g w1 hg hf H; replace hf := hf.kp)
 (refine x_c H (fromInt_ar _ 1 (by simp only [inr]; omega)) ?_; clear H; rintro e w1 ⟨v4, rfl, hF, hB⟩ H; replace hF := hF.kp; obtain ⟨b4, p4, m4, c4, rfl⟩ := hB.form; have HB4 := hid hB; clear hB)
 go_wp2_with fail
 (refine x_c H (shiftN_any (m := 1) (z := z) k HZ.out (bv HB4).ar (by omega) hk) ?_; clear H; rintro e w1 ⟨v5, rfl, hF, hB⟩ H; replace hF := hF.kp; rw [HO.out] at hB; obtain ⟨b5, p5, m5, c5, rfl⟩ := hB.form; have HB5 := hid hB; clear hB)
 go_wp2_with (first | refine x_q H ?_ | (revert H; refine xSF ?_; intro w1 H hk) | (revert H; refine x_g ?_; intro g w1 hg hf H; replace hf := hf.kp))
 refine c_post H rfl rfl rfl ?_
 exact ⟨_, rfl, H.fr, bv HB5⟩
theorem five_pow (k : Nat) : 10 ^ k / 2 ^ k = 5 ^ k := by
 have e : 10 ^ k = 5 ^ k * 2 ^ k := by rw [← Nat.mul_pow]
 rw [e, Nat.mul_div_cancel _ (pow2_pos k)]
theorem bl_five (k : Nat) : bl (5 ^ k) ≤ 3 * k + 1 := bl_le (by
 have h1 : 5 ^ k ≤ 8 ^ k := Nat.pow_le_pow_left (by decide) k
 have h2 : (8 : Nat) ^ k = 2 ^ (3 * k) := by rw [Nat.pow_mul]
 rw [h2] at h1
 exact Nat.lt_of_le_of_lt h1 (Nat.pow_lt_pow_right (by decide) (by omega)))
theorem dec_short {n : Nat} (h : bl n ≤ 9000) : (dec n).length ≤ 1000000 := by
 by_cases h0 : n = 0
 ·subst h0; rw [dec_small (by decide)]; decide
 ·obtain ⟨a1, _, _⟩ := dec_pow (Nat.pos_of_ne_zero h0)
  have a2 := bl_lt n
  have a3 : 2 ^ ((dec n).length - 1) ≤ 10 ^ ((dec n).length - 1) := Nat.pow_le_pow_left (by decide) _
  have a4 : 2 ^ ((dec n).length - 1) < 2 ^ bl n := by omega
  have := (Nat.pow_lt_pow_iff_right (show 1 < 2 by decide)).1 a4
  omega
theorem repeatZ_any (w : World) {z : Int} (n : Nat) (hz : z = (n : Int)) (hn : n ≤ 1000000) {l : List UInt8} (hl : Hid (List.replicate n 48 = l)) :
  Calls Tryz.prog 74 #[.string (ByteArray.mk #[48]), .int .i64 z] w fun e w' => e = .returned (strV l) ∧ Fr [] w w' := by
 subst hz
 rw [← hl.out]
 exact repeat_any n hn w
def padE (k : Nat) (s : List UInt8) : List UInt8 := if s.length ≤ k then List.replicate (k + 1 - s.length) 48 ++ s else s
theorem nm_zero {z M : Nat} {e : Int} (h0 : z = 0) (h : Nm (manF z : Int) (expoF z) (M : Int) e) : M = 0 ∧ e = 0 := by
 subst h0
 rcases h with ⟨h1, h2, h3⟩ | ⟨h1, _⟩
 ·exact ⟨by omega, h3⟩
 ·exact absurd rfl h1
theorem num_padE (k : Nat) (s : List UInt8) : num (padE k s) = num s := by
 have h : ∀ n, num (List.replicate n 48 ++ s) = num s := by
  intro n
  rw [num_app]
  have : num (List.replicate n (48 : UInt8)) = 0 := by
   induction n with
   | zero => rfl
   | succ n ih => rw [List.replicate_succ']; rw [num_app, ih]; rfl
  rw [this]; omega
 unfold padE
 split
 ·exact h _
 ·rfl
theorem padE_dig (k : Nat) {s : List UInt8} (h : s.all dig = true) : (padE k s).all dig = true := by
 unfold padE
 split
 ·rw [List.all_append, h, Bool.and_true, List.all_eq_true]
  intro x hx
  rw [(List.mem_replicate.1 hx).2]; decide
 ·exact h
theorem padE_len (k : Nat) (s : List UInt8) : k + 1 ≤ (padE k s).length := by
 unfold padE
 split
 ·rw [List.length_append, List.length_replicate]; omega
 ·omega

theorem isFiniteN_any (w : World) {b : Nat} (hb : b < 18446744073709551616) {x y : Nat} (hx : Hid (b / 4503599627370496 % 2048 = x)) (hy : Hid (b % 4503599627370496 = y)) (hn : x = 2047) :
  Calls Tryz.prog 70 #[.int .u64 (b : Int)] w fun r w' => r = .returned (.bool false) ∧ Fr [] w w' := by
 have H := Hp.start [] w
 go_enter Tryz.func70, Tryz.ntmps70
 go_wp2_with fail
 (refine x_c H (partsI_any _ hb hx hy) ?_; clear H; rintro e w1 ⟨rfl, hF⟩ H; replace hF := hF.kp)
 go_wp2_with (refine x_q H ?_)
 go_ret
 exact ⟨rfl, H.fr⟩
theorem exactN_any (w : World) {b : Nat} (hb : b < 18446744073709551616) {x y : Nat} (hx : Hid (b / 4503599627370496 % 2048 = x)) (hy : Hid (b % 4503599627370496 = y)) (hn : x = 2047) :
  Calls Tryz.prog 26 #[.int .u64 (b : Int)] w fun r w' => r = .returned (.tuple #[strV [], .int .i64 4]) ∧ Fr [] w w' := by
 have HN := hid hn
 clear hn
 have H := Hp.start [] w
 go_enter Tryz.func26, Tryz.ntmps26
 go_wp2_with fail
 (refine x_c H (isFiniteN_any _ hb hx hy HN.out) ?_; clear H; rintro e w1 ⟨rfl, hF⟩ H; replace hF := hF.kp)
 go_wp2_with fail
 refine bodyPost_ret (results_tmp2 rfl _ _ _) rfl ?_
 exact ⟨rfl, H.fr⟩
def fmtS (b : Nat) (k : Int) : List UInt8 := if k = 3 then [110, 97, 110] else if k = 2 then mns b ++ [105, 110, 102] else mns b ++ [48]
theorem formatS_any (w : World) {b : Nat} {k : Int} (hb : b < 18446744073709551616) (hk : Hid (kindF b = k)) (hk1 : k ≠ 1) {l : List UInt8} (hl : Hid (fmtS b k = l)) :
  Calls Tryz.prog 17 #[.int .u64 (b : Int)] w fun r w' => r = .returned (strV l) ∧ Fr [] w w' := by
 have hkr := kindF_range b
 rw [hk.out] at hkr
 obtain rfl | rfl | rfl : k = 0 ∨ k = 2 ∨ k = 3 := by omega
 all_goals clear hk1 hkr
 all_goals by_cases hm : 9223372036854775808 ≤ b
 ·have HI := hid (show (if 9223372036854775808 ≤ b then 9223372036854775808 else 0 : Nat) = 9223372036854775808 from (if_pos hm))
  have HM : Hid ([45] ++ [48] = l) := hid (hl.out.symm.trans (by unfold fmtS mns; rw [if_neg (by decide), if_neg (by decide), if_pos hm])).symm
  clear hm
  have H := Hp.start [] w
  go_enter Tryz.func17, Tryz.ntmps17
  go_wp2_with (first | refine x_q H ?_ | refine x_e (ev_m63I rfl rfl HI) ?_)
  (refine x_c H (kindI_any _ hb hk) ?_; clear H; rintro e w1 ⟨rfl, hF⟩ H; replace hF := hF.kp)
  go_wp2_with (first | refine x_q H ?_ | refine x_e (ev_strCat (s := [45]) (r := [48]) rfl rfl rfl HM (by decide)) ?_)
  first
  | (go_ret; exact ⟨rfl, H.fr⟩)
  | (go_ret; exact ⟨by rw [← HM.out]; rfl, H.fr⟩)
 ·have HI := hid (show (if 9223372036854775808 ≤ b then 9223372036854775808 else 0 : Nat) = 0 from (if_neg hm))
  have HM : Hid ([] ++ [48] = l) := hid (hl.out.symm.trans (by unfold fmtS mns; rw [if_neg (by decide), if_neg (by decide), if_neg hm])).symm
  clear hm
  have H := Hp.start [] w
  go_enter Tryz.func17, Tryz.ntmps17
  go_wp2_with (first | refine x_q H ?_ | refine x_e (ev_m63I rfl rfl HI) ?_)
  (refine x_c H (kindI_any _ hb hk) ?_; clear H; rintro e w1 ⟨rfl, hF⟩ H; replace hF := hF.kp)
  go_wp2_with (first | refine x_q H ?_ | refine x_e (ev_strCat (s := []) (r := [48]) rfl rfl rfl HM (by decide)) ?_)
  first
  | (go_ret; exact ⟨rfl, H.fr⟩)
  | (go_ret; exact ⟨by rw [← HM.out]; rfl, H.fr⟩)
 ·have HI := hid (show (if 9223372036854775808 ≤ b then 9223372036854775808 else 0 : Nat) = 9223372036854775808 from (if_pos hm))
  have HM : Hid ([45] ++ [105, 110, 102] = l) := hid (hl.out.symm.trans (by unfold fmtS mns; rw [if_neg (by decide), if_pos rfl, if_pos hm])).symm
  clear hm
  have H := Hp.start [] w
  go_enter Tryz.func17, Tryz.ntmps17
  go_wp2_with (first | refine x_q H ?_ | refine x_e (ev_m63I rfl rfl HI) ?_)
  (refine x_c H (kindI_any _ hb hk) ?_; clear H; rintro e w1 ⟨rfl, hF⟩ H; replace hF := hF.kp)
  go_wp2_with (first | refine x_q H ?_ | refine x_e (ev_strCat (s := [45]) (r := [105, 110, 102]) rfl rfl rfl HM (by decide)) ?_)
  first
  | (go_ret; exact ⟨rfl, H.fr⟩)
  | (go_ret; exact ⟨by rw [← HM.out]; rfl, H.fr⟩)
 ·have HI := hid (show (if 9223372036854775808 ≤ b then 9223372036854775808 else 0 : Nat) = 0 from (if_neg hm))
  have HM : Hid ([] ++ [105, 110, 102] = l) := hid (hl.out.symm.trans (by unfold fmtS mns; rw [if_neg (by decide), if_pos rfl, if_neg hm])).symm
  clear hm
  have H := Hp.start [] w
  go_enter Tryz.func17, Tryz.ntmps17
  go_wp2_with (first | refine x_q H ?_ | refine x_e (ev_m63I rfl rfl HI) ?_)
  (refine x_c H (kindI_any _ hb hk) ?_; clear H; rintro e w1 ⟨rfl, hF⟩ H; replace hF := hF.kp)
  go_wp2_with (first | refine x_q H ?_ | refine x_e (ev_strCat (s := []) (r := [105, 110, 102]) rfl rfl rfl HM (by decide)) ?_)
  first
  | (go_ret; exact ⟨rfl, H.fr⟩)
  | (go_ret; exact ⟨by rw [← HM.out]; rfl, H.fr⟩)
 ·have HI := hid (show (if 9223372036854775808 ≤ b then 9223372036854775808 else 0 : Nat) = 9223372036854775808 from (if_pos hm))
  have HM : Hid ([] ++ [110, 97, 110] = l) := hid (hl.out.symm.trans (by unfold fmtS; rw [if_pos rfl]; rfl)).symm
  clear hm
  have H := Hp.start [] w
  go_enter Tryz.func17, Tryz.ntmps17
  go_wp2_with (first | refine x_q H ?_ | refine x_e (ev_m63I rfl rfl HI) ?_)
  (refine x_c H (kindI_any _ hb hk) ?_; clear H; rintro e w1 ⟨rfl, hF⟩ H; replace hF := hF.kp)
  go_wp2_with (refine x_q H ?_)
  first
  | (go_ret; exact ⟨rfl, H.fr⟩)
  | (go_ret; exact ⟨by rw [← HM.out]; rfl, H.fr⟩)
 ·have HI := hid (show (if 9223372036854775808 ≤ b then 9223372036854775808 else 0 : Nat) = 0 from (if_neg hm))
  have HM : Hid ([] ++ [110, 97, 110] = l) := hid (hl.out.symm.trans (by unfold fmtS; rw [if_pos rfl]; rfl)).symm
  clear hm
  have H := Hp.start [] w
  go_enter Tryz.func17, Tryz.ntmps17
  go_wp2_with (first | refine x_q H ?_ | refine x_e (ev_m63I rfl rfl HI) ?_)
  (refine x_c H (kindI_any _ hb hk) ?_; clear H; rintro e w1 ⟨rfl, hF⟩ H; replace hF := hF.kp)
  go_wp2_with (refine x_q H ?_)
  first
  | (go_ret; exact ⟨rfl, H.fr⟩)
  | (go_ret; exact ⟨by rw [← HM.out]; rfl, H.fr⟩)
theorem kind_cases {b x y : Nat} (hb : b < 18446744073709551616) (hx : b / 4503599627370496 % 2048 = x) (hy : b % 4503599627370496 = y) : (x = 2047 ∧ (kindF b = 2 ∨ kindF b = 3)) ∨ (x ≠ 2047 ∧ b % 9223372036854775808 < 9218868437227405312 ∧ (kindF b = 1 ∧ 0 < b % 9223372036854775808 ∨ kindF b = 0 ∧ b % 9223372036854775808 = 0)) := by
 unfold kindF
 rw [hx, hy]
 by_cases h1 : x = 2047
 ·left
  refine ⟨h1, ?_⟩
  rw [if_pos h1]
  split
  ·exact .inl rfl
  ·exact .inr rfl
 ·right
  rw [if_neg h1]
  refine ⟨h1, by omega, ?_⟩
  split
  ·next h => exact .inr ⟨rfl, by omega⟩
  ·next h => exact .inl ⟨rfl, by omega⟩
theorem mns_of {b : Nat} {n : Bool} (h : decide (9223372036854775808 ≤ b) = n) : mns b = if n then [45] else [] := by
 unfold mns
 cases n
 ·rw [if_neg (of_decide_eq_false h)]; rfl
 ·rw [if_pos (of_decide_eq_true h)]; rfl
end Go.Proofs.YthbeeeclgbpopaaGreatDoor
