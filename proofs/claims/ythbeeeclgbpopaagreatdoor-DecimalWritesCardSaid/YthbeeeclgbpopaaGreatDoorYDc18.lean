import Derived.Test.YthbeeeclgbpopaaGreatDoorYDc14
namespace Go.Proofs.YthbeeeclgbpopaaGreatDoor
set_option linter.unusedSimpArgs false
set_option linter.unusedVariables false
theorem Dgs.num {b n : Nat} {ds : List UInt8} {x : Int} (h : Dgs b n ds x) (hn : 1 ≤ n) :
  ∃ k : Int, (Go.Proofs.YthbeeeclgbpopaaGreatDoor.num ds = near (nF b) (dF b) (n - 1 - k) ∧ x = k) ∨ (near (nF b) (dF b) (n - 1 - k) = Go.Proofs.YthbeeeclgbpopaaGreatDoor.num ds * 10 ∧ x = k + 1) := by
 obtain ⟨k, h1, h2, h3, h4⟩ := h
 obtain ⟨q1, q2⟩ := near_size (n := n) (dF_pos b) hn h1 h2
 refine ⟨k, ?_⟩
 generalize near (nF b) (dF b) (n - 1 - k) = q at *
 rcases Nat.lt_or_ge q (10 ^ n) with hq | hq
 ·have hl := dec_len_of hn q1 hq
  rw [List.take_of_length_le (by omega)] at h3
  rw [if_neg (by omega)] at h4
  subst h3 h4
  exact .inl ⟨(dec_digits q).2.1, rfl⟩
 ·obtain rfl : q = 10 ^ n := by omega
  have hl : (dec (10 ^ n)).length = n + 1 := dec_len_of (by omega) (by simp) (Nat.pow_lt_pow_right (by decide) (by omega))
  have hs : 10 ^ n = 10 ^ (n - 1) * 10 := by rw [← Nat.pow_succ]; congr 1; omega
  have hn1 : (dec (10 ^ (n - 1))).length = n := dec_len_of hn (Nat.le_refl _) (Nat.pow_lt_pow_right (by decide) (by omega))
  have e : (dec (10 ^ n)).take n = dec (10 ^ (n - 1)) := by
   rw [hs, dec_ten (by have := ten_pos (n - 1); omega), Nat.mul_div_cancel _ (by decide)]
   rw [List.take_append_of_le_length (by omega), List.take_of_length_le (by omega)]
  rw [e] at h3
  rw [if_pos (by omega)] at h4
  subst h3 h4
  refine .inr ⟨?_, rfl⟩
  rw [(dec_digits (10 ^ (n - 1))).2.1, ← hs]
def kD (e : Int) : Int := (e * 30103).tdiv 100000 + 2
theorem kD_all : ∀ i : Nat, i < 2200 → 2 ^ ((i : Int) - 1100 + 1).toNat * 10 ^ (-(kD ((i : Int) - 1100) + 1)).toNat ≤ 10 ^ (kD ((i : Int) - 1100) + 1).toNat * 2 ^ (-((i : Int) - 1100 + 1)).toNat := by decide +kernel
theorem kD_le {e : Int} (h1 : -1100 ≤ e) (h2 : e < 1100) : 2 ^ (e + 1).toNat * 10 ^ (-(kD e + 1)).toNat ≤ 10 ^ (kD e + 1).toNat * 2 ^ (-(e + 1)).toNat := by
 obtain ⟨i, hi⟩ := Int.eq_ofNat_of_zero_le (show 0 ≤ e + 1100 by omega)
 have h := kD_all i (by omega)
 rw [show (i : Int) - 1100 = e by omega] at h
 exact h
theorem kD_range {e : Int} (h1 : -1100 ≤ e) (h2 : e < 1100) : -340 ≤ kD e ∧ kD e ≤ 340 := by
 unfold kD
 rcases Int.le_total 0 e with h | h
 ·rw [Int.tdiv_eq_ediv_of_nonneg (by omega)]; omega
 ·obtain ⟨s, rfl⟩ : ∃ s, e = -s := ⟨-e, by omega⟩
  rw [show -s * 30103 = -(s * 30103) by omega, Int.neg_tdiv, Int.tdiv_eq_ediv_of_nonneg (by omega)]; omega
theorem kD_top {b : Nat} (hb : b < 9218868437227405312) (h0 : 0 < b) {e : Int} (he : expoF b + bl (manF b) - 1 = e) : ¬ tenLe (nF b) (dF b) (kD e + 1) := by
 obtain ⟨m1, m2, m3⟩ := man_bounds hb
 have hm := manF_pos h0
 have hbm : bl (manF b) ≤ 53 := bl_le (by omega)
 have hb1 : 1 ≤ bl (manF b) := (bl_ge (show manF b ≠ 0 by omega)).2
 have hlt := bl_lt (manF b)
 have hk := kD_le (e := e) (by omega) (by omega)
 intro ht
 rw [tenLe_iff] at ht
 generalize kD e + 1 = k at hk ht
 unfold nF dF at ht
 have hP := pow2_pos (-(e + 1)).toNat
 have hT := ten_pos (-k).toNat
 have a1 : manF b * 2 ^ (expoF b).toNat * 2 ^ (-(e + 1)).toNat < 2 ^ (-expoF b).toNat * 2 ^ (e + 1).toNat := by
  have : manF b * 2 ^ ((expoF b).toNat + (-(e + 1)).toNat) < 2 ^ bl (manF b) * 2 ^ ((expoF b).toNat + (-(e + 1)).toNat) := Nat.mul_lt_mul_of_pos_right hlt (pow2_pos _)
  rw [← Nat.pow_add] at this
  rw [Nat.mul_assoc, ← Nat.pow_add, ← Nat.pow_add]
  rw [show bl (manF b) + ((expoF b).toNat + (-(e + 1)).toNat) = (-expoF b).toNat + (e + 1).toNat by omega] at this
  exact this
 have a2 := Nat.mul_le_mul_left (2 ^ (-expoF b).toNat) hk
 have a3 := Nat.mul_le_mul_right (2 ^ (-(e + 1)).toNat) ht
 have a4 := Nat.mul_lt_mul_of_pos_right a1 hT
 generalize 2 ^ (-expoF b).toNat = p1 at *
 generalize manF b * 2 ^ (expoF b).toNat = p2 at *
 generalize 2 ^ (-(e + 1)).toNat = p3 at *
 generalize 2 ^ (e + 1).toNat = p4 at *
 generalize 10 ^ k.toNat = t1 at *
 generalize 10 ^ (-k).toNat = t2 at *
 have b1 : p1 * (p4 * t2) = p1 * p4 * t2 := (Nat.mul_assoc _ _ _).symm
 have b2 : p1 * (t1 * p3) = p1 * t1 * p3 := (Nat.mul_assoc _ _ _).symm
 have b3 : p2 * t2 * p3 = p2 * p3 * t2 := Nat.mul_right_comm _ _ _
 omega
theorem ten_low {b : Nat} (h0 : 0 < b) (hb : b < 9218868437227405312) : tenLe (nF b) (dF b) (-330) := by
 obtain ⟨a1, a2, a3⟩ := man_bounds hb
 rw [tenLe_iff]
 obtain ⟨K, hK⟩ : ∃ K : Nat, K = 1074 := ⟨_, rfl⟩
 have e1 : dF b ≤ 2 ^ K := dF_le (by omega)
 have e2 := two_1074 K hK
 have e3 : (-(-330 : Int)).toNat = 330 := rfl
 have e4 : (-330 : Int).toNat = 0 := rfl
 rw [e3, e4, Nat.pow_zero, Nat.mul_one]
 exact Nat.le_trans (Nat.le_trans e1 e2) (Nat.le_mul_of_pos_left _ (nF_pos h0))
end Go.Proofs.YthbeeeclgbpopaaGreatDoor
