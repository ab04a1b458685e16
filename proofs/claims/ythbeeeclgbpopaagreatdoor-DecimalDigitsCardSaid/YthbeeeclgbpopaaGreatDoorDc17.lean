/-
  The decimals, plain: the digits of a float differ from it by at most half a unit of the last one.
-/
import Derived.Test.YthbeeeclgbpopaaGreatDoorDc14
namespace Go.Proofs.YthbeeeclgbpopaaGreatDoor
set_option linter.unusedSimpArgs false
set_option linter.unusedVariables false
/-- The digits are the nearest integer, or a power of ten that has one digit more. -/
theorem Dgs.num {b n : Nat} {ds : List UInt8} {x : Int} (h : Dgs b n ds x) (hn : 1 ≤ n) :
    ∃ k : Int, (Go.Proofs.YthbeeeclgbpopaaGreatDoor.num ds = near (nF b) (dF b) (n - 1 - k) ∧ x = k) ∨ (near (nF b) (dF b) (n - 1 - k) = Go.Proofs.YthbeeeclgbpopaaGreatDoor.num ds * 10 ∧ x = k + 1) := by
  obtain ⟨k, h1, h2, h3, h4⟩ := h
  obtain ⟨q1, q2⟩ := near_size (n := n) (dF_pos b) hn h1 h2
  refine ⟨k, ?_⟩
  generalize near (nF b) (dF b) (n - 1 - k) = q at *
  rcases Nat.lt_or_ge q (10 ^ n) with hq | hq
  · have hl := dec_len_of hn q1 hq
    rw [List.take_of_length_le (by omega)] at h3
    rw [if_neg (by omega)] at h4
    subst h3 h4
    exact .inl ⟨(dec_digits q).2.1, rfl⟩
  · obtain rfl : q = 10 ^ n := by omega
    have hl : (dec (10 ^ n)).length = n + 1 := dec_len_of (by omega) (by simp) (Nat.pow_lt_pow_right (by decide) (by omega))
    have hs : 10 ^ n = 10 ^ (n - 1) * 10 := by rw [← Nat.pow_succ]; congr 1; omega
    have hn1 : (dec (10 ^ (n - 1))).length = n := dec_len_of hn (Nat.le_refl _) (Nat.pow_lt_pow_right (by decide) (by omega))
    have e : (dec (10 ^ n)).take n = dec (10 ^ (n - 1)) := by
      rw [hs, dec_ten (by have := ten_pos (n - 1); omega), Nat.mul_div_cancel _ (by decide)]
      rw [List.take_append_of_le_length (by omega), List.take_of_length_le (by omega)]
    rw [e] at h3
    rw [if_pos (by omega)] at h4
    subst h3 h4
    refine .inr ⟨?_, rfl⟩
    rw [(dec_digits (10 ^ (n - 1))).2.1, ← hs]
theorem dgs_half {b n : Nat} {ds : List UInt8} {x : Int} (h : Dgs b n ds x) (hn : 1 ≤ n) {k : Int} (hk : x - n + 1 = k) :
    2 * (nF b * 10 ^ (-k).toNat) ≤ 2 * (Go.Proofs.YthbeeeclgbpopaaGreatDoor.num ds * (dF b * 10 ^ k.toNat)) + dF b * 10 ^ k.toNat ∧ 2 * (Go.Proofs.YthbeeeclgbpopaaGreatDoor.num ds * (dF b * 10 ^ k.toNat)) ≤ 2 * (nF b * 10 ^ (-k).toNat) + dF b * 10 ^ k.toNat := by
  obtain ⟨j, h⟩ := h.num hn
  have hd := dF_pos b
  generalize Go.Proofs.YthbeeeclgbpopaaGreatDoor.num ds = d at *
  generalize nF b = N at *
  generalize dF b = D at *
  have hc := rm_close false (X := upN N (n - 1 - j)) (Y := dnD D (n - 1 - j)) (Nat.mul_pos hd (ten_pos _))
  rcases h with ⟨h, hx⟩ | ⟨h, hx⟩
  · unfold near at h
    rw [← h] at hc
    unfold upN dnD at hc
    have e1 : (n : Int) - 1 - j = -k := by omega
    rw [e1, Int.neg_neg] at hc
    exact hc
  · unfold near at h
    rw [h] at hc
    unfold upN dnD at hc
    by_cases hz : (n : Int) - 1 - j ≤ 0
    · have e1 : ((n : Int) - 1 - j).toNat = 0 := by omega
      have e2 : (-k).toNat = 0 := by omega
      have e3 : k.toNat = (-((n : Int) - 1 - j)).toNat + 1 := by omega
      rw [e1] at hc
      rw [e2, e3, Nat.pow_succ]
      generalize 10 ^ (-((n : Int) - 1 - j)).toNat = P at hc
      rw [← Nat.mul_assoc D P 10]
      generalize D * P = Q at hc
      have a1 : d * 10 * Q = d * (Q * 10) := by rw [Nat.mul_assoc, Nat.mul_comm 10]
      rw [a1] at hc
      omega
    · have e1 : ((n : Int) - 1 - j).toNat = (-k).toNat + 1 := by omega
      have e2 : (-((n : Int) - 1 - j)).toNat = 0 := by omega
      have e3 : k.toNat = 0 := by omega
      rw [e1, e2, Nat.pow_succ, Nat.pow_zero, Nat.mul_one] at hc
      rw [e3, Nat.pow_zero, Nat.mul_one]
      generalize 10 ^ (-k).toNat = P at hc
      rw [← Nat.mul_assoc N P 10] at hc
      generalize N * P = Q at hc
      have a1 : d * 10 * D = d * D * 10 := by rw [Nat.mul_right_comm]
      rw [a1] at hc
      generalize d * D = R at hc
      omega
/-- The first digit is not zero. -/
theorem first_ne {ds : List UInt8} {n : Nat} (hl : ds.length = n) (hn : 1 ≤ n) (hd : ds.all dig = true) (hq : 10 ^ (n - 1) ≤ num ds) : ∃ c r, ds = c :: r ∧ (c.toNat : Int) ≠ 48 := by
  cases ds with
  | nil => simp at hl; omega
  | cons c r =>
    refine ⟨c, r, rfl, fun h => ?_⟩
    rw [List.all_cons, Bool.and_eq_true] at hd
    rw [List.length_cons] at hl
    have e : num (c :: r) = num r := by
      unfold num
      rw [numF_cons]
      have : numS 0 c = 0 := by unfold numS; omega
      rw [this]
    rw [e] at hq
    have h2 := num_lt r hd.2
    have e2 : n - 1 = r.length := by omega
    rw [e2] at hq
    omega
/-- Texts of digits are read. -/
theorem pz_dig {ds : List UInt8} (hd : ds.all dig = true) (h0 : ds ≠ []) (hl : ds.length ≤ 1024) : pz ds = ((num ds : Int), 0) := by
  have hb : body ds = ds ∧ sgn ds = false := by
    cases ds with
    | nil => exact absurd rfl h0
    | cons c r =>
      rw [List.all_cons, Bool.and_eq_true] at hd
      have := dig_le hd.1
      have e1 : c ≠ 45 := by intro e; subst e; exact absurd this.1 (by decide)
      have e2 : c ≠ 43 := by intro e; subst e; exact absurd this.1 (by decide)
      unfold body sgn
      simp [e1, e2]
  unfold pz
  rw [if_neg (by omega), hb.1, hb.2, if_neg (by simp [h0, hd])]
  rfl
end Go.Proofs.YthbeeeclgbpopaaGreatDoor
