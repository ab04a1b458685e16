import Derived.Test.YtbiohhmpclnpgaaGreatDoorXIn5
import Derived.Test.YtbiohhmpclnpgaaGreatDoorXPz2
namespace Go.Proofs.YtbiohhmpclnpgaaGreatDoor
set_option linter.unusedSimpArgs false
set_option linter.unusedVariables false
def rup (neg : Bool) (mode : Int) (c : Int) (odd : Bool) : Bool :=
 if mode = 1 then neg else if mode = 2 then !neg else if mode = 3 then false else (decide (0 < c) || (decide (c = 0) && odd))
def cmpN (a b : Nat) : Int := if a < b then -1 else if a = b then 0 else 1
def rm (neg : Bool) (mode : Int) (N D : Nat) : Nat :=
 if N % D = 0 then N / D else if rup neg mode (cmpN (2 * (N % D)) D) (N / D % 2 == 1) then N / D + 1 else N / D
theorem cmpN_mul {a b c : Nat} (hc : 0 < c) : cmpN (c * a) (c * b) = cmpN a b := by
 unfold cmpN
 simp only [Nat.mul_lt_mul_left hc, Nat.mul_right_inj (Nat.pos_iff_ne_zero.1 hc)]
theorem rm_mul (neg : Bool) (mode : Int) (N D : Nat) {c : Nat} (hc : 0 < c) : rm neg mode (c * N) (c * D) = rm neg mode N D := by
 unfold rm
 rw [Nat.mul_mod_mul_left, Nat.mul_div_mul_left _ _ hc, Nat.mul_left_comm 2 c, cmpN_mul hc]
 simp only [Nat.mul_eq_zero, Nat.pos_iff_ne_zero.1 hc, false_or]
def half (m k : Nat) (more : Bool) : Int := if m % 2 ^ k < 2 ^ (k - 1) then -1 else if m % 2 ^ k = 2 ^ (k - 1) ∧ more = false then 0 else 1
theorem half_eq {X Y k : Nat} (hY : 0 < Y) (hk : 1 ≤ k) : half (X / Y) k (decide (X % Y ≠ 0)) = cmpN (2 * (X % (Y * 2 ^ k))) (Y * 2 ^ k) := by
 obtain ⟨j, rfl⟩ : ∃ j, k = j + 1 := ⟨k - 1, by omega⟩
 unfold half cmpN
 rw [Nat.mod_mul, Nat.add_sub_cancel]
 have hr := Nat.mod_lt X hY
 generalize X % Y = r at hr ⊢
 generalize X / Y % 2 ^ (j + 1) = q
 have hp : Y * 2 ^ (j + 1) = 2 * (Y * 2 ^ j) := by rw [Nat.pow_succ, ← Nat.mul_assoc, Nat.mul_comm _ 2]
 rw [hp]
 generalize 2 ^ j = P
 rcases Nat.lt_trichotomy q P with h | h | h
 ·have h1 : Y * (q + 1) ≤ Y * P := Nat.mul_le_mul_left _ h
  rw [Nat.mul_succ] at h1
  rw [if_pos h, if_pos (by omega)]
 ·subst h
  by_cases h0 : r = 0
  ·rw [if_neg (Nat.lt_irrefl _), if_pos (by simp [h0]), if_neg (by omega), if_pos (by omega)]
  ·rw [if_neg (Nat.lt_irrefl _), if_neg (by simp [h0]), if_neg (by omega), if_neg (by omega)]
 ·have h1 : Y * (P + 1) ≤ Y * q := Nat.mul_le_mul_left _ h
  rw [Nat.mul_succ] at h1
  rw [if_neg (by omega), if_neg (by omega), if_neg (by omega), if_neg (by omega)]
theorem rm_cut (neg : Bool) (mode : Int) {X Y k : Nat} (hY : 0 < Y) (hk : 1 ≤ k) :
  rm neg mode X (Y * 2 ^ k) = if X / Y % 2 ^ k = 0 ∧ X % Y = 0 then X / Y / 2 ^ k else if rup neg mode (half (X / Y) k (decide (X % Y ≠ 0))) (X / Y / 2 ^ k % 2 == 1) then X / Y / 2 ^ k + 1 else X / Y / 2 ^ k := by
 rw [half_eq hY hk]
 unfold rm
 rw [← Nat.div_div_eq_div_mul]
 have e : (X % (Y * 2 ^ k) = 0) = (X / Y % 2 ^ k = 0 ∧ X % Y = 0) := by
  rw [Nat.mod_mul, Nat.add_eq_zero_iff, Nat.mul_eq_zero]
  apply propext
  constructor
  ·rintro ⟨h1, h2 | h2⟩
   ·omega
   ·exact ⟨h2, h1⟩
  ·rintro ⟨h1, h2⟩
   exact ⟨h2, .inr h1⟩
 simp only [e]
theorem rm_exact (neg : Bool) (mode : Int) {X Y : Nat} (h : X % Y = 0) : rm neg mode X Y = X / Y := by unfold rm; rw [if_pos h]
theorem half_small {m k : Nat} {more : Bool} (h : bl m < k) : half m k more = -1 ∧ m / 2 ^ k = 0 ∧ m % 2 ^ k = m := by
 have h1 := bl_lt m
 have h2 : 2 ^ bl m ≤ 2 ^ (k - 1) := Nat.pow_le_pow_right (by decide) (by omega)
 have h3 : 2 ^ (k - 1) ≤ 2 ^ k := Nat.pow_le_pow_right (by decide) (by omega)
 have h4 : m % 2 ^ k = m := Nat.mod_eq_of_lt (by omega)
 refine ⟨?_, Nat.div_eq_of_lt (by omega), h4⟩
 unfold half
 rw [h4, if_pos (by omega)]
def lg (N D : Nat) : Int := (bl (N * 2 ^ bl D / D) : Int) - 1 - bl D
theorem bl_div_pow {m j : Nat} (h : m / 2 ^ j ≠ 0) : bl m = bl (m / 2 ^ j) + j := by
 obtain ⟨a1, a2⟩ := bl_ge h
 have a3 := bl_lt (m / 2 ^ j)
 have hp : 0 < 2 ^ j := Nat.pow_pos (by decide)
 rw [show bl (m / 2 ^ j) + j = (bl (m / 2 ^ j) - 1 + j) + 1 by omega]
 apply bl_of
 ·rw [Nat.pow_add]
  exact (Nat.le_div_iff_mul_le hp).1 a1
 ·rw [show bl (m / 2 ^ j) - 1 + j + 1 = bl (m / 2 ^ j) + j by omega, Nat.pow_add]
  exact (Nat.div_lt_iff_lt_mul hp).1 a3
theorem bl_up {N D n : Nat} (hD : 0 < D) (h : N * 2 ^ n / D ≠ 0) (j : Nat) : bl (N * 2 ^ (n + j) / D) = bl (N * 2 ^ n / D) + j := by
 have hp : 0 < 2 ^ j := Nat.pow_pos (by decide)
 have e : N * 2 ^ (n + j) / D / 2 ^ j = N * 2 ^ n / D := by
  rw [Nat.div_div_eq_div_mul, Nat.pow_add, ← Nat.mul_assoc, Nat.mul_comm D, Nat.mul_comm _ (2 ^ j), Nat.mul_div_mul_left _ _ hp]
 rw [bl_div_pow (j := j) (by rw [e]; exact h), e]
theorem lg_eq {N D n : Nat} (hN : 0 < N) (hD : 0 < D) (h : N * 2 ^ n / D ≠ 0) : (bl (N * 2 ^ n / D) : Int) - 1 - n = lg N D := by
 unfold lg
 have h2 : N * 2 ^ bl D / D ≠ 0 := by
  have := bl_lt D
  have h3 : D ≤ N * 2 ^ bl D := Nat.le_trans (Nat.le_of_lt this) (Nat.le_mul_of_pos_left _ hN)
  exact Nat.pos_iff_ne_zero.1 (Nat.div_pos h3 hD)
 rcases Nat.le_total n (bl D) with h1 | h1
 ·obtain ⟨j, hj⟩ := Nat.le.dest h1
  rw [← hj, bl_up hD h]
  omega
 ·obtain ⟨j, hj⟩ := Nat.le.dest h1
  have := bl_up hD h2 j
  rw [hj] at this
  rw [this]
  omega
theorem lg_mul {N D c : Nat} (hN : 0 < N) (hD : 0 < D) (hc : 0 < c) : lg (c * N) (c * D) = lg N D := by
 have h1 := bl_lt (c * D)
 have h2 : c * D ≤ c * N * 2 ^ bl (c * D) := Nat.le_trans (Nat.le_of_lt h1) (Nat.le_mul_of_pos_left _ (Nat.mul_pos hc hN))
 have e : c * N * 2 ^ bl (c * D) / (c * D) = N * 2 ^ bl (c * D) / D := by rw [Nat.mul_assoc, Nat.mul_div_mul_left _ _ hc]
 have h3 : N * 2 ^ bl (c * D) / D ≠ 0 := by rw [← e]; exact Nat.pos_iff_ne_zero.1 (Nat.div_pos h2 (Nat.mul_pos hc hD))
 rw [← lg_eq hN hD h3, ← lg_eq (Nat.mul_pos hc hN) (Nat.mul_pos hc hD) (by rw [e]; exact h3), e]
def sgnF (neg : Bool) (f : Nat) : Nat := if neg then f + 9223372036854775808 else f
def overF (neg : Bool) (mode : Int) : Nat := sgnF neg (if mode = 3 ∨ (mode = 1 ∧ neg = false) ∨ (mode = 2 ∧ neg = true) then 9218868437227405311 else 9218868437227405312)
def packF (neg : Bool) (mode : Int) (n : Nat) (u : Int) : Nat :=
 let m := if n = 9007199254740992 then 4503599627370496 else n
 let v := if n = 9007199254740992 then u + 1 else u
 if m < 4503599627370496 then sgnF neg m else if 2047 ≤ v + 1075 then overF neg mode else sgnF neg ((v + 1075).toNat * 4503599627370496 + (m - 4503599627370496))
def rndF (neg : Bool) (mode : Int) (N D : Nat) (e : Int) : Nat :=
 let u := max (lg N D + e - 52) (-1074)
 packF neg mode (rm neg mode (N * 2 ^ (e - u).toNat) (D * 2 ^ (u - e).toNat)) u
end Go.Proofs.YtbiohhmpclnpgaaGreatDoor
namespace Go.Proofs.YtbiohhmpclnpgaaGreatDoor
set_option linter.unusedSimpArgs false
set_option linter.unusedVariables false
theorem pow2_pos (n : Nat) : 0 < 2 ^ n := Nat.pow_pos (by decide)
theorem rm_shift (neg : Bool) (mode : Int) (N D : Nat) {k n : Nat} {e u : Int} (h : (k : Int) = u - e + n) : rm neg mode (N * 2 ^ n) (D * 2 ^ k) = rm neg mode (N * 2 ^ (e - u).toNat) (D * 2 ^ (u - e).toNat) := by
 rcases Int.le_total u e with h1 | h1
 ·have e1 : n = (e - u).toNat + k := by omega
  have e2 : (u - e).toNat = 0 := by omega
  rw [e2, e1, Nat.pow_add, ← Nat.mul_assoc, Nat.mul_comm (N * _), Nat.mul_comm D, rm_mul _ _ _ _ (pow2_pos k), Nat.pow_zero, Nat.mul_one]
 ·have e1 : k = (u - e).toNat + n := by omega
  have e2 : (e - u).toNat = 0 := by omega
  rw [e2, e1, Nat.pow_add, ← Nat.mul_assoc, Nat.mul_comm (D * _), Nat.mul_comm N, rm_mul _ _ _ _ (pow2_pos n), Nat.pow_zero, Nat.mul_one]
theorem rm_left (neg : Bool) (mode : Int) (N D : Nat) {j n : Nat} {e u : Int} (hD : 0 < D) (h : N * 2 ^ n % D = 0) (hj : (j : Int) = e - n - u) : N * 2 ^ n / D * 2 ^ j = rm neg mode (N * 2 ^ (e - u).toNat) (D * 2 ^ (u - e).toNat) := by
 have e1 : (e - u).toNat = n + j := by omega
 have e2 : (u - e).toNat = 0 := by omega
 obtain ⟨c, hc⟩ := Nat.dvd_of_mod_eq_zero h
 rw [e1, e2, Nat.pow_zero, Nat.mul_one, Nat.pow_add, ← Nat.mul_assoc, hc, Nat.mul_div_cancel_left _ hD, Nat.mul_assoc, rm_exact _ _ (Nat.mul_mod_right _ _), Nat.mul_div_cancel_left _ hD]
theorem rndF_mul (neg : Bool) (mode : Int) {N D c : Nat} (e : Int) (hN : 0 < N) (hD : 0 < D) (hc : 0 < c) : rndF neg mode (c * N) (c * D) e = rndF neg mode N D e := by
 unfold rndF
 rw [lg_mul hN hD hc]
 simp only [Nat.mul_assoc, rm_mul _ _ _ _ hc]
theorem lg_iff {N D : Nat} (hN : 0 < N) (hD : 0 < D) : D * 2 ^ (lg N D).toNat ≤ N * 2 ^ (-lg N D).toNat ∧ N * 2 ^ (-lg N D).toNat < 2 * (D * 2 ^ (lg N D).toNat) := by
 have h3 : D ≤ N * 2 ^ bl D := Nat.le_trans (Nat.le_of_lt (bl_lt D)) (Nat.le_mul_of_pos_left _ hN)
 have h0 : N * 2 ^ bl D / D ≠ 0 := Nat.pos_iff_ne_zero.1 (Nat.div_pos h3 hD)
 obtain ⟨a1, a2⟩ := bl_ge h0
 have a3 := bl_lt (N * 2 ^ bl D / D)
 obtain ⟨b, hb⟩ : ∃ b, bl (N * 2 ^ bl D / D) = b + 1 := ⟨bl (N * 2 ^ bl D / D) - 1, by omega⟩
 have ht : lg N D = (b : Int) - bl D := by unfold lg; rw [hb]; omega
 rw [hb] at a1 a3
 rw [Nat.add_sub_cancel] at a1
 rw [ht]
 have b1 := (Nat.le_div_iff_mul_le hD).1 a1
 have b2 := (Nat.div_lt_iff_lt_mul hD).1 a3
 generalize bl D = s at b1 b2
 rw [Nat.pow_succ] at b2
 rcases Nat.le_total s b with h1 | h1
 ·obtain ⟨j, rfl⟩ := Nat.le.dest h1
  rw [Nat.pow_add] at b1 b2
  have e1 : (((s + j : Nat) : Int) - s).toNat = j := by omega
  have e2 : (-(((s + j : Nat) : Int) - s)).toNat = 0 := by omega
  rw [e1, e2, Nat.pow_zero, Nat.mul_one]
  have hs := pow2_pos s
  constructor
  ·apply Nat.le_of_mul_le_mul_right _ hs
   calc D * 2 ^ j * 2 ^ s = 2 ^ s * 2 ^ j * D := by rw [Nat.mul_comm D, Nat.mul_right_comm, Nat.mul_comm (2 ^ j)]
    _ ≤ N * 2 ^ s := b1
  ·apply Nat.lt_of_mul_lt_mul_right (a := 2 ^ s)
   calc N * 2 ^ s < 2 ^ s * 2 ^ j * 2 * D := b2
    _ = 2 * (D * 2 ^ j) * 2 ^ s := by
     rw [Nat.mul_comm _ 2, Nat.mul_assoc 2, Nat.mul_assoc 2, Nat.mul_comm D, Nat.mul_right_comm (2 ^ j), Nat.mul_comm (2 ^ j) (2 ^ s)]
 ·obtain ⟨j, rfl⟩ := Nat.le.dest h1
  rw [Nat.pow_add] at b1 b2
  have e1 : ((b : Int) - ((b + j : Nat) : Int)).toNat = 0 := by omega
  have e2 : (-((b : Int) - ((b + j : Nat) : Int))).toNat = j := by omega
  rw [e1, e2, Nat.pow_zero, Nat.mul_one]
  have hs := pow2_pos b
  constructor
  ·apply Nat.le_of_mul_le_mul_left _ hs
   calc 2 ^ b * D ≤ N * (2 ^ b * 2 ^ j) := b1
    _ = 2 ^ b * (N * 2 ^ j) := by rw [Nat.mul_left_comm]
  ·apply Nat.lt_of_mul_lt_mul_left (a := 2 ^ b)
   calc 2 ^ b * (N * 2 ^ j) = N * (2 ^ b * 2 ^ j) := by rw [Nat.mul_left_comm]
    _ < 2 ^ b * 2 * D := b2
    _ = 2 ^ b * (2 * D) := Nat.mul_assoc _ _ _
theorem lg_nz {N D : Nat} (hN : 0 < N) (hD : 0 < D) : N * 2 ^ bl D / D ≠ 0 :=
 Nat.pos_iff_ne_zero.1 (Nat.div_pos (Nat.le_trans (Nat.le_of_lt (bl_lt D)) (Nat.le_mul_of_pos_left _ hN)) hD)
theorem lg_left {N D : Nat} (hN : 0 < N) (hD : 0 < D) (j : Nat) : lg (N * 2 ^ j) D = lg N D + j := by
 unfold lg
 rw [Nat.mul_assoc, ← Nat.pow_add, Nat.add_comm j, bl_up hD (lg_nz hN hD)]
 omega
theorem lg_right {N D : Nat} (hN : 0 < N) (hD : 0 < D) (j : Nat) : lg N (D * 2 ^ j) = lg N D - j := by
 have h1 := lg_left hN (Nat.mul_pos hD (pow2_pos j)) j
 have h2 := lg_mul hN hD (pow2_pos j)
 rw [Nat.mul_comm _ N, Nat.mul_comm _ D] at h2
 omega
theorem rndF_left (neg : Bool) (mode : Int) {N D : Nat} (e : Int) (hN : 0 < N) (hD : 0 < D) (j : Nat) : rndF neg mode (N * 2 ^ j) D e = rndF neg mode N D (e + j) := by
 unfold rndF
 rw [lg_left hN hD, Int.add_assoc, Int.add_comm (j : Int)]
 simp only []
 generalize max (lg N D + (e + j) - 52) (-1074) = u
 rw [Nat.mul_assoc, ← Nat.pow_add, rm_shift neg mode N D (e := e + j) (u := u) (by omega)]
theorem rndF_right (neg : Bool) (mode : Int) {N D : Nat} (e : Int) (hN : 0 < N) (hD : 0 < D) (j : Nat) : rndF neg mode N (D * 2 ^ j) e = rndF neg mode N D (e - j) := by
 unfold rndF
 rw [lg_right hN hD, show lg N D - j + e = lg N D + (e - j) by omega]
 simp only []
 generalize max (lg N D + (e - j) - 52) (-1074) = u
 rw [Nat.mul_assoc, ← Nat.pow_add, rm_shift neg mode N D (e := e - j) (u := u) (by omega)]
theorem rm_bounds (neg : Bool) (mode : Int) (N D : Nat) : N / D ≤ rm neg mode N D ∧ rm neg mode N D ≤ N / D + 1 := by
 unfold rm
 split
 ·omega
 ·split <;> omega
theorem lg_shift {N D : Nat} (hN : 0 < N) (hD : 0 < D) (e u : Int) : lg (N * 2 ^ (e - u).toNat) (D * 2 ^ (u - e).toNat) = lg N D + e - u := by
 rw [lg_right (Nat.mul_pos hN (pow2_pos _)) hD, lg_left hN hD]
 omega
theorem rndF_over (neg : Bool) (mode : Int) {N D : Nat} {e : Int} (hN : 0 < N) (hD : 0 < D) (h : 1024 ≤ lg N D + e) : rndF neg mode N D e = overF neg mode := by
 unfold rndF
 simp only []
 obtain ⟨u, hu⟩ : ∃ u, max (lg N D + e - 52) (-1074) = u := ⟨_, rfl⟩
 rw [hu]
 have hs := lg_shift hN hD e u
 have hN' := Nat.mul_pos hN (pow2_pos (e - u).toNat)
 have hD' := Nat.mul_pos hD (pow2_pos (u - e).toNat)
 generalize N * 2 ^ (e - u).toNat = X at hs hN' ⊢
 generalize D * 2 ^ (u - e).toNat = Y at hs hD' ⊢
 have hu2 : u = lg N D + e - 52 := by omega
 have ht : lg X Y = 52 := by omega
 obtain ⟨k1, k2⟩ := lg_iff hN' hD'
 rw [ht] at k1
 have k3 : 4503599627370496 ≤ X / Y := by
  rw [Nat.le_div_iff_mul_le hD', Nat.mul_comm]
  simpa using k1
 have k4 := (rm_bounds neg mode X Y).1
 generalize rm neg mode X Y = n at k4
 unfold packF
 simp only []
 by_cases h1 : n = 9007199254740992
 ·rw [if_pos h1, if_pos h1, if_neg (by omega), if_pos (by omega)]
 ·rw [if_neg h1, if_neg h1, if_neg (by omega), if_pos (by omega)]
theorem rndF_under (neg : Bool) (mode : Int) {N D : Nat} {e : Int} (hN : 0 < N) (hD : 0 < D) (h : lg N D + e ≤ -1076) : rndF neg mode N D e = sgnF neg (if rup neg mode (-1) false then 1 else 0) := by
 unfold rndF
 simp only []
 obtain ⟨u, hu⟩ : ∃ u, max (lg N D + e - 52) (-1074) = u := ⟨_, rfl⟩
 rw [hu]
 have hs := lg_shift hN hD e u
 have hN' := Nat.mul_pos hN (pow2_pos (e - u).toNat)
 have hD' := Nat.mul_pos hD (pow2_pos (u - e).toNat)
 generalize N * 2 ^ (e - u).toNat = X at hs hN' ⊢
 generalize D * 2 ^ (u - e).toNat = Y at hs hD' ⊢
 have ht : lg X Y ≤ -2 := by omega
 obtain ⟨k1, k2⟩ := lg_iff hN' hD'
 generalize lg X Y = t at ht k1 k2
 have e1 : t.toNat = 0 := by omega
 have e2 : 2 ^ 2 ≤ 2 ^ (-t).toNat := Nat.pow_le_pow_right (by decide) (by omega)
 have e3 : X * 2 ^ 2 ≤ X * 2 ^ (-t).toNat := Nat.mul_le_mul_left _ e2
 rw [e1, Nat.pow_zero, Nat.mul_one] at k2
 have hlt : 2 * X < Y := by omega
 have hr : rm neg mode X Y = if rup neg mode (-1) false then 1 else 0 := by
  unfold rm
  rw [Nat.mod_eq_of_lt (by omega), Nat.div_eq_of_lt (by omega), if_neg (by omega), show cmpN (2 * X) Y = -1 by unfold cmpN; rw [if_pos hlt]]
  rfl
 rw [hr]
 generalize rup neg mode (-1) false = b
 unfold packF
 cases b
 ·simp
 ·simp
end Go.Proofs.YtbiohhmpclnpgaaGreatDoor
namespace Go.Proofs.YtbiohhmpclnpgaaGreatDoor
set_option linter.unusedSimpArgs false
set_option linter.unusedVariables false
def mcut (neg : Bool) (mode : Int) (m k : Nat) (more : Bool) : Nat :=
 if m % 2 ^ k = 0 ∧ more = false then m / 2 ^ k else if rup neg mode (half m k more) (m / 2 ^ k % 2 == 1) then m / 2 ^ k + 1 else m / 2 ^ k
theorem mcut_rm (neg : Bool) (mode : Int) {N D n k : Nat} {e u : Int} (hD : 0 < D) (hk : 1 ≤ k) (h : (k : Int) = u - e + n) :
  mcut neg mode (N * 2 ^ n / D) k (decide (N * 2 ^ n % D ≠ 0)) = rm neg mode (N * 2 ^ (e - u).toNat) (D * 2 ^ (u - e).toNat) := by
 rw [← rm_shift neg mode N D h, rm_cut neg mode hD hk]
 unfold mcut
 simp
theorem lg_ge {N D t : Nat} (hN : 0 < N) (hD : 0 < D) (h : D * 2 ^ t ≤ N) : (t : Int) ≤ lg N D := by
 obtain ⟨k1, k2⟩ := lg_iff hN hD
 generalize lg N D = s at k1 k2
 apply Classical.byContradiction
 intro hs
 have h1 : N ≤ N * 2 ^ (-s).toNat := Nat.le_mul_of_pos_right _ (pow2_pos _)
 rcases Int.lt_or_le s 0 with h0 | h0
 ·have e1 : s.toNat = 0 := by omega
  have e2 : 2 ^ 1 ≤ 2 ^ (-s).toNat := Nat.pow_le_pow_right (by decide) (by omega)
  have e3 : N * 2 ^ 1 ≤ N * 2 ^ (-s).toNat := Nat.mul_le_mul_left _ e2
  have e4 : D * 1 ≤ D * 2 ^ t := Nat.mul_le_mul_left _ (pow2_pos t)
  rw [e1, Nat.pow_zero, Nat.mul_one] at k2
  omega
 ·have e2 : 2 ^ (s.toNat + 1) ≤ 2 ^ t := Nat.pow_le_pow_right (by decide) (by omega)
  have e3 : D * 2 ^ (s.toNat + 1) ≤ D * 2 ^ t := Nat.mul_le_mul_left _ e2
  rw [Nat.pow_succ, ← Nat.mul_assoc] at e3
  omega
theorem lg_lt {N D t : Nat} (hN : 0 < N) (hD : 0 < D) (h : N * 2 ^ t < D) : lg N D < -(t : Int) := by
 obtain ⟨k1, k2⟩ := lg_iff hN hD
 generalize lg N D = s at k1 k2
 apply Classical.byContradiction
 intro hs
 have e1 : D * 1 ≤ D * 2 ^ s.toNat := Nat.mul_le_mul_left _ (pow2_pos _)
 have e2 : 2 ^ (-s).toNat ≤ 2 ^ t := Nat.pow_le_pow_right (by decide) (by omega)
 have e3 : N * 2 ^ (-s).toNat ≤ N * 2 ^ t := Nat.mul_le_mul_left _ e2
 omega
theorem ten_two : 2 ^ 1300 ≤ 10 ^ 400 := by decide +kernel
def dvF (neg : Bool) (mode : Int) (N : Nat) (x : Int) : Nat := rndF neg mode (N * 10 ^ x.toNat) (10 ^ (-x).toNat) 0
theorem ten_pos (n : Nat) : 0 < 10 ^ n := Nat.pow_pos (by decide)
theorem dv_over (neg : Bool) (mode : Int) {N k : Nat} {x : Int} (h1 : 10 ^ k ≤ N) (h2 : 400 ≤ k + x) : dvF neg mode N x = overF neg mode := by
 have hN : 0 < N := Nat.lt_of_lt_of_le (ten_pos k) h1
 have hg := lg_ge (t := 1300) (Nat.mul_pos hN (ten_pos x.toNat)) (ten_pos (-x).toNat) (by
  calc 10 ^ (-x).toNat * 2 ^ 1300 ≤ 10 ^ (-x).toNat * 10 ^ 400 := Nat.mul_le_mul_left _ ten_two
   _ = 10 ^ ((-x).toNat + 400) := by rw [Nat.pow_add]
   _ ≤ 10 ^ (k + x.toNat) := Nat.pow_le_pow_right (by decide) (by omega)
   _ = 10 ^ k * 10 ^ x.toNat := Nat.pow_add _ _ _
   _ ≤ N * 10 ^ x.toNat := Nat.mul_le_mul_right _ h1)
 exact rndF_over neg mode (Nat.mul_pos hN (ten_pos _)) (ten_pos _) (by omega)
theorem dv_under (neg : Bool) (mode : Int) {N k : Nat} {x : Int} (hN : 0 < N) (h1 : N < 10 ^ k) (h2 : k + x ≤ -400) : dvF neg mode N x = sgnF neg (if rup neg mode (-1) false then 1 else 0) := by
 have hg := lg_lt (t := 1300) (Nat.mul_pos hN (ten_pos x.toNat)) (ten_pos (-x).toNat) (by
  have e0 : x.toNat = 0 := by omega
  rw [e0, Nat.pow_zero, Nat.mul_one]
  calc N * 2 ^ 1300 < 10 ^ k * 2 ^ 1300 := Nat.mul_lt_mul_of_pos_right h1 (pow2_pos _)
   _ ≤ 10 ^ k * 10 ^ 400 := Nat.mul_le_mul_left _ ten_two
   _ = 10 ^ (k + 400) := by rw [Nat.pow_add]
   _ ≤ 10 ^ (-x).toNat := Nat.pow_le_pow_right (by decide) (by omega))
 exact rndF_under neg mode (Nat.mul_pos hN (ten_pos _)) (ten_pos _) (by omega)
theorem dv_clamp (neg : Bool) (mode : Int) {N L : Nat} {x : Int} (hN : 0 < N) (h1 : N < 10 ^ L) : dvF neg mode N (max (min x 2000) (-2000 - L)) = dvF neg mode N x := by
 by_cases a : 2000 < x
 ·rw [dv_over neg mode (k := 0) (N := N) (x := x) (by rw [Nat.pow_zero]; exact hN) (by omega), dv_over neg mode (k := 0) (N := N) (by rw [Nat.pow_zero]; exact hN) (by omega)]
 ·by_cases b : x < -2000 - L
  ·rw [dv_under neg mode (k := L) (x := x) hN h1 (by omega), dv_under neg mode (k := L) hN h1 (by omega)]
  ·rw [show max (min x 2000) (-2000 - (L : Int)) = x by omega]
end Go.Proofs.YtbiohhmpclnpgaaGreatDoor
namespace Go.Proofs.YtbiohhmpclnpgaaGreatDoor
set_option linter.unusedSimpArgs false
set_option linter.unusedVariables false
def dsg : List UInt8 → Bool × List UInt8
 | [] => (false, [])
 | c :: r => if c = 45 then (true, r) else if c = 43 then (false, r) else (false, c :: r)
def scan : Bool → List UInt8 → List UInt8 × Nat × List UInt8
 | _, [] => ([], 0, [])
 | p, c :: r =>
  if dig c then (c :: (scan p r).1, (if p then 1 else 0) + (scan p r).2.1, (scan p r).2.2)
  else if c = 46 ∧ p = false then scan true r else ([], 0, c :: r)
def isE (c : UInt8) : Bool := c == 101 || c == 69 || c == 100 || c == 68
def dexp (t : List UInt8) : Option Int :=
 if (dsg t).2 ≠ [] ∧ (dsg t).2.all dig = true then some (if (dsg t).1 then -(num (dsg t).2 : Int) else num (dsg t).2) else none
def dread (s : List UInt8) : Option (Bool × List UInt8 × Nat × Int) :=
 if (scan false (dsg s).2).1 = [] then none else
 match (scan false (dsg s).2).2.2 with
 | [] => some ((dsg s).1, (scan false (dsg s).2).1, (scan false (dsg s).2).2.1, 0)
 | e :: t => if isE e then (dexp t).map (fun x => ((dsg s).1, (scan false (dsg s).2).1, (scan false (dsg s).2).2.1, x)) else none
def dval (neg : Bool) (mode : Int) (N : Nat) (x : Int) : Nat := if N = 0 then sgnF neg 0 else dvF neg mode N x
def dpz (M : Nat) (s : List UInt8) (mode : Int) : Nat × Int :=
 if M < s.length then (0, 2) else
 match dread s with
 | none => (0, 7)
 | some (neg, ds, b, x) => if x < -99999 ∨ 99999 < x then (0, 3) else (dval neg mode (num ds) (x - b), 0)
theorem scan_true : ∀ s : List UInt8, scan true s = (s.takeWhile dig, (s.takeWhile dig).length, s.dropWhile dig)
 | [] => rfl
 | c :: r => by
  rw [scan]
  cases h : dig c
  ·simp [h]
  ·simp [h, scan_true r, Nat.add_comm]
theorem scan_false : ∀ s : List UInt8, scan false s = (match s.dropWhile dig with
  | [] => (s.takeWhile dig, 0, [])
  | c :: t => if c = 46 then (s.takeWhile dig ++ t.takeWhile dig, (t.takeWhile dig).length, t.dropWhile dig) else (s.takeWhile dig, 0, c :: t))
 | [] => rfl
 | c :: r => by
  rw [scan]
  cases h : dig c
  ·rw [if_neg (by decide), List.dropWhile_cons_of_neg (by simp [h]), List.takeWhile_cons_of_neg (by simp [h])]
   simp only [and_true, scan_true, List.nil_append]
  ·rw [if_pos rfl, scan_false r, List.dropWhile_cons_of_pos h, List.takeWhile_cons_of_pos h]
   cases hr : r.dropWhile dig with
   | nil => simp
   | cons d t =>
    simp only []
    split <;> simp
def expF (B : Nat) (a : Nat) (l : List UInt8) : Nat := l.foldl (fun a b => min (10 * a + (b.toNat - 48)) B) a
theorem expF_num (B : Nat) : ∀ (l : List UInt8) (a : Nat), expF B (min a B) l = min (numF a l) B
 | [], a => rfl
 | b :: r, a => by
  rw [numF_cons]
  show expF B (min (10 * min a B + (b.toNat - 48)) B) r = _
  rw [← expF_num B r]
  congr 1
  unfold numS
  omega
def lead (l : List UInt8) : List UInt8 := l.dropWhile (· == 48)
theorem num_lead : ∀ l : List UInt8, num (lead l) = num l
 | [] => rfl
 | b :: r => by
  unfold lead
  by_cases h : b = 48
  ·subst h
   rw [List.dropWhile_cons_of_pos (by decide)]
   have e : num (48 :: r) = num r := by
    show numF 0 (48 :: r) = numF 0 r
    rw [numF_cons]
    rfl
   rw [e]
   exact num_lead r
  ·rw [List.dropWhile_cons_of_neg (by simpa using h)]
theorem num_ge {b : UInt8} {r : List UInt8} (hb : dig b = true) (h0 : b ≠ 48) : 10 ^ r.length ≤ num (b :: r) := by
 have e : num (b :: r) = num [b] * 10 ^ r.length + num r := num_app [b] r
 have h1 := dig_le hb
 have h2 : b.toNat ≠ 48 := fun h => h0 (UInt8.toNat_inj.1 h)
 have h3 : 1 ≤ num [b] := by rw [num_one]; omega
 have h4 : 1 * 10 ^ r.length ≤ num [b] * 10 ^ r.length := Nat.mul_le_mul_right _ h3
 omega
theorem lead_head {l : List UInt8} {b : UInt8} {r : List UInt8} (h : lead l = b :: r) : b ≠ 48 := by
 intro e
 have := List.head?_dropWhile_not (p := (· == (48 : UInt8))) l
 unfold lead at h
 rw [h] at this
 subst e
 simp at this
theorem lead_all {l : List UInt8} (h : l.all dig = true) : (lead l).all dig = true := by
 rw [List.all_eq_true] at h ⊢
 intro x hx
 exact h x ((List.dropWhile_sublist _).subset hx)
theorem small_iff {l : List UInt8} (h : l.all dig = true) : ((lead l).length ≤ 5 ∧ num (lead l) ≤ 99999) ↔ num l ≤ 99999 := by
 rw [num_lead]
 constructor
 ·exact fun h => h.2
 ·intro hn
  refine ⟨?_, hn⟩
  cases hl : lead l with
  | nil => simp
  | cons b r =>
   have ha := lead_all h
   rw [hl, List.all_cons, Bool.and_eq_true] at ha
   have h1 := num_ge (r := r) ha.1 (lead_head hl)
   rw [← hl, num_lead] at h1
   apply Classical.byContradiction
   intro hc
   have h2 : 10 ^ 5 ≤ 10 ^ r.length := Nat.pow_le_pow_right (by decide) (by simp at hc; omega)
   omega
theorem lead_nil {l : List UInt8} (h : l.all dig = true) : lead l = [] ↔ num l = 0 := by
 rw [← num_lead]
 constructor
 ·intro e; rw [e]; rfl
 ·intro e
  cases hl : lead l with
  | nil => rfl
  | cons b r =>
   have ha := lead_all h
   rw [hl, List.all_cons, Bool.and_eq_true] at ha
   have h1 := num_ge (r := r) ha.1 (lead_head hl)
   rw [← hl, e] at h1
   have := ten_pos r.length
   omega
end Go.Proofs.YtbiohhmpclnpgaaGreatDoor
namespace Go.Proofs.YtbiohhmpclnpgaaGreatDoor
set_option linter.unusedSimpArgs false
set_option linter.unusedVariables false
def upN (N : Nat) (x : Int) : Nat := N * 10 ^ x.toNat
def dnD (D : Nat) (x : Int) : Nat := D * 10 ^ (-x).toNat
def tenLe (N D : Nat) (k : Int) : Prop := dnD D (-k) ≤ upN N (-k)
instance (N D : Nat) (k : Int) : Decidable (tenLe N D k) := inferInstanceAs (Decidable (_ ≤ _))
theorem tenLe_iff (N D : Nat) (k : Int) : tenLe N D k ↔ D * 10 ^ k.toNat ≤ N * 10 ^ (-k).toNat := by
 unfold tenLe dnD upN
 rw [Int.neg_neg]
theorem tenLe_mono {N D : Nat} {k j : Int} (h : tenLe N D k) (hj : j ≤ k) : tenLe N D j := by
 rw [tenLe_iff] at h ⊢
 have p := ten_pos k.toNat
 have q := ten_pos (-k).toNat
 have h1 : D * 10 ^ k.toNat * 10 ^ (-j).toNat ≤ N * 10 ^ (-k).toNat * 10 ^ (-j).toNat := Nat.mul_le_mul_right _ h
 have h2 : 10 ^ j.toNat * 10 ^ (-k).toNat ≤ 10 ^ k.toNat * 10 ^ (-j).toNat := by
  rw [← Nat.pow_add, ← Nat.pow_add]
  exact Nat.pow_le_pow_right (by decide) (by omega)
 apply Nat.le_of_mul_le_mul_right _ q
 calc D * 10 ^ j.toNat * 10 ^ (-k).toNat = D * (10 ^ j.toNat * 10 ^ (-k).toNat) := Nat.mul_assoc _ _ _
  _ ≤ D * (10 ^ k.toNat * 10 ^ (-j).toNat) := Nat.mul_le_mul_left _ h2
  _ = D * 10 ^ k.toNat * 10 ^ (-j).toNat := (Nat.mul_assoc _ _ _).symm
  _ ≤ N * 10 ^ (-k).toNat * 10 ^ (-j).toNat := h1
  _ = N * 10 ^ (-j).toNat * 10 ^ (-k).toNat := Nat.mul_right_comm _ _ _
theorem ten_one {N D : Nat} {k j : Int} (h1 : tenLe N D k) (h2 : ¬ tenLe N D (k + 1)) (h3 : tenLe N D j) (h4 : ¬ tenLe N D (j + 1)) : k = j := by
 rcases Int.lt_trichotomy k j with h | h | h
 ·exact absurd (tenLe_mono h3 (by omega)) h2
 ·exact h
 ·exact absurd (tenLe_mono h1 (by omega)) h4
def near (N D : Nat) (x : Int) : Nat := rm false 0 (upN N x) (dnD D x)
theorem near_size {N D : Nat} {k : Int} {n : Nat} (hD : 0 < D) (hn : 1 ≤ n) (h1 : tenLe N D k) (h2 : ¬ tenLe N D (k + 1)) : 10 ^ (n - 1) ≤ near N D (n - 1 - k) ∧ near N D (n - 1 - k) ≤ 10 ^ n := by
 have hd : 0 < dnD D (n - 1 - k) := Nat.mul_pos hD (ten_pos _)
 have hb := rm_bounds false 0 (upN N (n - 1 - k)) (dnD D (n - 1 - k))
 rw [tenLe_iff] at h1 h2
 have e1 : dnD D (n - 1 - k) * 10 ^ (n - 1) ≤ upN N (n - 1 - k) := by
  unfold dnD upN
  have q := ten_pos ((-k).toNat)
  apply Nat.le_of_mul_le_mul_right _ q
  have a1 : 10 ^ (-(n - 1 - k : Int)).toNat * 10 ^ (n - 1) * 10 ^ (-k).toNat = 10 ^ k.toNat * 10 ^ ((n : Int) - 1 - k).toNat := by
   rw [← Nat.pow_add, ← Nat.pow_add, ← Nat.pow_add]
   congr 1
   omega
  calc D * 10 ^ (-(n - 1 - k : Int)).toNat * 10 ^ (n - 1) * 10 ^ (-k).toNat = D * (10 ^ (-(n - 1 - k : Int)).toNat * 10 ^ (n - 1) * 10 ^ (-k).toNat) := by simp only [Nat.mul_assoc]
   _ = D * 10 ^ k.toNat * 10 ^ ((n : Int) - 1 - k).toNat := by rw [a1, Nat.mul_assoc]
   _ ≤ N * 10 ^ (-k).toNat * 10 ^ ((n : Int) - 1 - k).toNat := Nat.mul_le_mul_right _ h1
   _ = N * 10 ^ ((n : Int) - 1 - k).toNat * 10 ^ (-k).toNat := Nat.mul_right_comm _ _ _
 have e2 : upN N (n - 1 - k) < dnD D (n - 1 - k) * 10 ^ n := by
  unfold dnD upN
  have q := ten_pos ((-(k + 1)).toNat)
  apply Nat.lt_of_mul_lt_mul_right (a := 10 ^ (-(k + 1)).toNat)
  have a1 : 10 ^ (-(n - 1 - k : Int)).toNat * 10 ^ n * 10 ^ (-(k + 1)).toNat = 10 ^ (k + 1).toNat * 10 ^ ((n : Int) - 1 - k).toNat := by
   rw [← Nat.pow_add, ← Nat.pow_add, ← Nat.pow_add]
   congr 1
   omega
  have h3 : N * 10 ^ (-(k + 1)).toNat < D * 10 ^ (k + 1).toNat := by omega
  calc N * 10 ^ ((n : Int) - 1 - k).toNat * 10 ^ (-(k + 1)).toNat = N * 10 ^ (-(k + 1)).toNat * 10 ^ ((n : Int) - 1 - k).toNat := Nat.mul_right_comm _ _ _
   _ < D * 10 ^ (k + 1).toNat * 10 ^ ((n : Int) - 1 - k).toNat := Nat.mul_lt_mul_of_pos_right h3 (ten_pos _)
   _ = D * (10 ^ (-(n - 1 - k : Int)).toNat * 10 ^ n * 10 ^ (-(k + 1)).toNat) := by rw [a1, Nat.mul_assoc]
   _ = D * 10 ^ (-(n - 1 - k : Int)).toNat * 10 ^ n * 10 ^ (-(k + 1)).toNat := by simp only [Nat.mul_assoc]
 have f1 : 10 ^ (n - 1) ≤ upN N (n - 1 - k) / dnD D (n - 1 - k) := by
  rw [Nat.le_div_iff_mul_le hd, Nat.mul_comm]
  exact e1
 have f2 : upN N (n - 1 - k) / dnD D (n - 1 - k) < 10 ^ n := by
  rw [Nat.div_lt_iff_lt_mul hd, Nat.mul_comm]
  exact e2
 unfold near
 omega
end Go.Proofs.YtbiohhmpclnpgaaGreatDoor
namespace Go.Proofs.YtbiohhmpclnpgaaGreatDoor
set_option linter.unusedSimpArgs false
set_option linter.unusedVariables false
def linF (n : Nat) (u : Int) : Nat := (u + 1074).toNat * 4503599627370496 + n
theorem packF_lin (neg : Bool) (mode : Int) {n : Nat} {u : Int} (hu : -1074 ≤ u) (hn : n ≤ 9007199254740992) (h : n < 4503599627370496 → u = -1074) :
  packF neg mode n u = if 9218868437227405312 ≤ linF n u then overF neg mode else sgnF neg (linF n u) := by
 obtain ⟨k, rfl⟩ : ∃ k : Nat, u = (k : Int) - 1074 := ⟨(u + 1074).toNat, by omega⟩
 have e0 : ((k : Int) - 1074 + 1074).toNat = k := by omega
 unfold packF linF
 rw [e0]
 simp only []
 by_cases h1 : n = 9007199254740992
 ·subst h1
  rw [if_pos rfl, if_pos rfl, if_neg (by omega)]
  have e1 : ((k : Int) - 1074 + 1 + 1075).toNat = k + 2 := by omega
  rw [e1]
  by_cases h2 : (2047 : Int) ≤ (k : Int) - 1074 + 1 + 1075
  ·rw [if_pos h2, if_pos (by omega)]
  ·rw [if_neg h2, if_neg (by omega)]
   exact congrArg (sgnF neg) (by omega)
 ·rw [if_neg h1, if_neg h1]
  have e1 : ((k : Int) - 1074 + 1075).toNat = k + 1 := by omega
  rw [e1]
  by_cases h3 : n < 4503599627370496
  ·have := h h3
   have hk : k = 0 := by omega
   subst hk
   rw [if_pos h3, if_neg (by omega)]
   exact congrArg (sgnF neg) (by omega)
  ·rw [if_neg h3]
   by_cases h2 : (2047 : Int) ≤ (k : Int) - 1074 + 1075
   ·rw [if_pos h2, if_pos (by omega)]
   ·rw [if_neg h2, if_neg (by omega)]
    exact congrArg (sgnF neg) (by omega)
theorem rnd_unit {N D : Nat} {e u : Int} (hN : 0 < N) (hD : 0 < D) (hu : max (lg N D + e - 52) (-1074) = u) :
  N * 2 ^ (e - u).toNat / (D * 2 ^ (u - e).toNat) < 9007199254740992 ∧ (N * 2 ^ (e - u).toNat / (D * 2 ^ (u - e).toNat) < 4503599627370496 → u = -1074) := by
 have hs := lg_shift hN hD e u
 have hN' := Nat.mul_pos hN (pow2_pos (e - u).toNat)
 have hD' := Nat.mul_pos hD (pow2_pos (u - e).toNat)
 generalize N * 2 ^ (e - u).toNat = X at hs hN' ⊢
 generalize D * 2 ^ (u - e).toNat = Y at hs hD' ⊢
 constructor
 ·apply Classical.byContradiction
  intro hc
  have h1 : 9007199254740992 ≤ X / Y := by omega
  rw [Nat.le_div_iff_mul_le hD', Nat.mul_comm] at h1
  have h2 := lg_ge (t := 53) hN' hD' (by simpa using h1)
  omega
 ·intro hc
  apply Classical.byContradiction
  intro h0
  have ht : lg X Y = 52 := by omega
  obtain ⟨k1, k2⟩ := lg_iff hN' hD'
  rw [ht] at k1
  have k3 : 4503599627370496 ≤ X / Y := by
   rw [Nat.le_div_iff_mul_le hD', Nat.mul_comm]
   simpa using k1
  omega
theorem rndF_lin (neg : Bool) (mode : Int) {N D : Nat} {e u : Int} (hN : 0 < N) (hD : 0 < D) (hu : max (lg N D + e - 52) (-1074) = u) :
  rndF neg mode N D e = if 9218868437227405312 ≤ linF (rm neg mode (N * 2 ^ (e - u).toNat) (D * 2 ^ (u - e).toNat)) u then overF neg mode else sgnF neg (linF (rm neg mode (N * 2 ^ (e - u).toNat) (D * 2 ^ (u - e).toNat)) u) := by
 obtain ⟨a1, a2⟩ := rnd_unit hN hD hu
 have hb := rm_bounds neg mode (N * 2 ^ (e - u).toNat) (D * 2 ^ (u - e).toNat)
 unfold rndF
 simp only []
 rw [hu]
 exact packF_lin neg mode (by omega) (by omega) (fun h => a2 (by omega))
end Go.Proofs.YtbiohhmpclnpgaaGreatDoor
namespace Go.Proofs.YtbiohhmpclnpgaaGreatDoor
set_option linter.unusedSimpArgs false
set_option linter.unusedVariables false
theorem scan_app {a : List UInt8} (ha : a.all dig = true) (p : Bool) (r : List UInt8) : scan p (a ++ r) = (a ++ (scan p r).1, (if p then a.length else 0) + (scan p r).2.1, (scan p r).2.2) := by
 induction a with
 | nil => cases p <;> simp
 | cons c t ih =>
  rw [List.all_cons, Bool.and_eq_true] at ha
  rw [List.cons_append, scan, if_pos ha.1, ih ha.2]
  cases p
  ·simp
  ·simp only [if_true, List.length_cons, List.cons_append]
   refine Prod.ext rfl (Prod.ext ?_ rfl)
   simp only []
   omega
theorem scan_stop {c : UInt8} (r : List UInt8) (p : Bool) (h1 : dig c = false) (h2 : c ≠ 46) : scan p (c :: r) = ([], 0, c :: r) := by
 rw [scan, if_neg (by simp [h1]), if_neg (by simp [h2])]
theorem isE_dig {c : UInt8} (h : isE c = true) : dig c = false ∧ c ≠ 46 := by
 unfold isE at h
 simp only [Bool.or_eq_true, beq_iff_eq] at h
 rcases h with ((h | h) | h) | h <;> subst h <;> decide
theorem dsg_cons {c : UInt8} (hc : dig c = true) (r : List UInt8) : dsg (c :: r) = (false, c :: r) := by
 have h := dig_le hc
 rw [dsg, if_neg (fun e => by subst e; have := h.1; simp at this), if_neg (fun e => by subst e; have := h.1; simp at this)]
theorem dsg_digs {a : List UInt8} (ha : a.all dig = true) : dsg a = (false, a) := by
 cases a with
 | nil => rfl
 | cons c t =>
  rw [List.all_cons, Bool.and_eq_true] at ha
  exact dsg_cons ha.1 t
theorem dread_plain {a t : List UInt8} {c : UInt8} {x : Int} (ha : a.all dig = true) (h0 : a ≠ []) (hc : isE c = true) (hx : dexp t = some x) : dread (a ++ c :: t) = some (false, a, 0, x) := by
 have hd : dsg (a ++ c :: t) = (false, a ++ c :: t) := by
  cases a with
  | nil => exact absurd rfl h0
  | cons d r =>
   rw [List.all_cons, Bool.and_eq_true] at ha
   exact dsg_cons ha.1 _
 obtain ⟨c1, c2⟩ := isE_dig hc
 unfold dread
 rw [hd]
 simp only [scan_app ha, scan_stop t false c1 c2, List.append_nil]
 rw [if_neg h0]
 simp [hc, hx]
theorem dexp_fmt (z : Int) : dexp (fmt z) = some z := by
 obtain ⟨h1, h2, h3⟩ := dec_digits z.natAbs
 unfold fmt
 split
 ·rename_i h
  unfold dexp
  rw [show dsg (45 :: dec z.natAbs) = (true, dec z.natAbs) from rfl, if_pos ⟨h3, h1⟩]
  simp only [if_true, h2]
  congr 1
  omega
 ·rename_i h
  unfold dexp
  rw [dsg_digs h1, if_pos ⟨h3, h1⟩]
  simp only [Bool.false_eq_true, if_false, h2]
  congr 1
  omega
end Go.Proofs.YtbiohhmpclnpgaaGreatDoor
namespace Go.Proofs.YtbiohhmpclnpgaaGreatDoor
set_option linter.unusedSimpArgs false
set_option linter.unusedVariables false
theorem dec_size : ∀ (k N : Nat), N < 10 ^ (k + 1) → 0 < N → 1 ≤ (dec N).length ∧ 10 ^ ((dec N).length - 1) ≤ N ∧ N < 10 ^ (dec N).length
 | 0, N, h, h0 => by
  rw [dec_small (by simpa using h)]
  simp only [List.length_cons, List.length_nil]
  omega
 | k + 1, N, h, h0 => by
  by_cases h10 : N < 10
  ·rw [dec_small h10]
   simp only [List.length_cons, List.length_nil]
   omega
  ·have hq : N / 10 < 10 ^ (k + 1) := by
    rw [Nat.pow_succ] at h
    exact Nat.div_lt_of_lt_mul (by rw [Nat.mul_comm]; exact h)
   obtain ⟨a1, a2, a3⟩ := dec_size k (N / 10) hq (by omega)
   rw [dec_ten (by omega)]
   simp only [List.length_append, List.length_cons, List.length_nil]
   generalize (dec (N / 10)).length = s at a1 a2 a3
   obtain ⟨j, rfl⟩ : ∃ j, s = j + 1 := ⟨s - 1, by omega⟩
   rw [Nat.add_sub_cancel] at a2
   refine ⟨by omega, ?_, ?_⟩
   ·show 10 ^ (j + 1 + 1 - 1) ≤ N
    rw [Nat.add_sub_cancel, Nat.pow_succ]
    omega
   ·show N < 10 ^ (j + 1 + 1)
    rw [Nat.pow_succ]
    omega
theorem dec_pow {N : Nat} (h : 0 < N) : 10 ^ ((dec N).length - 1) ≤ N ∧ N < 10 ^ (dec N).length ∧ 1 ≤ (dec N).length := by
 have h1 : N < 10 ^ (N + 1) := by
  have : N < 2 ^ N := Nat.lt_two_pow_self
  have h2 : 2 ^ N ≤ 10 ^ N := Nat.pow_le_pow_left (by decide) _
  have h3 : 10 ^ N ≤ 10 ^ (N + 1) := Nat.pow_le_pow_right (by decide) (by omega)
  omega
 obtain ⟨a1, a2, a3⟩ := dec_size N N h1 h
 exact ⟨a2, a3, a1⟩
theorem dvF_pos (neg : Bool) (mode : Int) (N n : Nat) : dvF neg mode N n = rndF neg mode (N * 10 ^ n) 1 0 := by
 unfold dvF
 rw [show (-(n : Int)).toNat = 0 by omega, Int.toNat_natCast, Nat.pow_zero]
theorem dvF_neg (neg : Bool) (mode : Int) (N n : Nat) : dvF neg mode N (-(n : Int)) = rndF neg mode N (10 ^ n) 0 := by
 unfold dvF
 rw [show (-(n : Int)).toNat = 0 by omega, show (-(-(n : Int))).toNat = n by omega, Nat.pow_zero, Nat.mul_one]
theorem pow_round {out ten n P : Nat} (h : out * ten ^ n = P) : (if n % 2 = 1 then out * ten else out) * (ten * ten) ^ (n / 2) = P := by
 rw [← h, ← Nat.pow_two, ← Nat.pow_mul]
 have e := Nat.div_add_mod n 2
 split
 ·rename_i h1
  rw [Nat.mul_assoc, ← Nat.pow_succ', show (2 * (n / 2)).succ = n by omega]
 ·rw [show 2 * (n / 2) = n by omega]
end Go.Proofs.YtbiohhmpclnpgaaGreatDoor
namespace Go.Proofs.YtbiohhmpclnpgaaGreatDoor
set_option linter.unusedSimpArgs false
set_option linter.unusedVariables false
theorem lg_le {N D t : Nat} (hN : 0 < N) (hD : 0 < D) (h : N < D * 2 ^ t) : lg N D < t := by
 obtain ⟨k1, k2⟩ := lg_iff hN hD
 generalize lg N D = s at k1 k2
 apply Classical.byContradiction
 intro hs
 have e1 : (-s).toNat = 0 := by omega
 rw [e1, Nat.pow_zero, Nat.mul_one] at k1
 have e2 : 2 ^ t ≤ 2 ^ s.toNat := Nat.pow_le_pow_right (by decide) (by omega)
 have e3 : D * 2 ^ t ≤ D * 2 ^ s.toNat := Nat.mul_le_mul_left _ e2
 omega
def manF (b : Nat) : Nat := if b / 4503599627370496 = 0 then b else b % 4503599627370496 + 4503599627370496
def expoF (b : Nat) : Int := if b / 4503599627370496 = 0 then -1074 else ((b / 4503599627370496 : Nat) : Int) - 1075
theorem rm_one (neg : Bool) (mode : Int) (N : Nat) : rm neg mode N 1 = N := by
 rw [rm_exact neg mode (Nat.mod_one N), Nat.div_one]
theorem unit_back {b : Nat} (h0 : 0 < b) : max (lg (manF b) 1 + expoF b - 52) (-1074) = expoF b := by
 unfold manF expoF
 by_cases hf : b / 4503599627370496 = 0
 ·rw [if_pos hf, if_pos hf]
  have h1 := lg_le (N := b) (D := 1) (t := 52) h0 (by decide) (by rw [Nat.one_mul]; show b < 4503599627370496; omega)
  omega
 ·rw [if_neg hf, if_neg hf]
  have h1 := lg_le (N := b % 4503599627370496 + 4503599627370496) (D := 1) (t := 53) (by omega) (by decide) (by rw [Nat.one_mul]; show _ < 9007199254740992; omega)
  have h2 := lg_ge (N := b % 4503599627370496 + 4503599627370496) (D := 1) (t := 52) (by omega) (by decide) (by rw [Nat.one_mul]; show 4503599627370496 ≤ _; omega)
  omega
theorem lin_back (b : Nat) : linF (manF b) (expoF b) = b := by
 unfold linF manF expoF
 by_cases hf : b / 4503599627370496 = 0
 ·rw [if_pos hf, if_pos hf]
  have e : ((-1074 : Int) + 1074).toNat = 0 := rfl
  rw [e]
  omega
 ·rw [if_neg hf, if_neg hf]
  have e : (((b / 4503599627370496 : Nat) : Int) - 1075 + 1074).toNat = b / 4503599627370496 - 1 := by omega
  rw [e]
  omega
theorem manF_pos {b : Nat} (h : 0 < b) : 0 < manF b := by
 unfold manF
 split <;> omega
theorem rnd_back (neg : Bool) (mode : Int) {b : Nat} (h0 : 0 < b) (hb : b < 9218868437227405312) : rndF neg mode (manF b) 1 (expoF b) = sgnF neg b := by
 rw [rndF_lin neg mode (manF_pos h0) (by decide) (unit_back h0)]
 rw [show (expoF b - expoF b).toNat = 0 by omega, Nat.pow_zero, Nat.mul_one, Nat.mul_one, rm_one, lin_back, if_neg (by omega)]
end Go.Proofs.YtbiohhmpclnpgaaGreatDoor
namespace Go.Proofs.YtbiohhmpclnpgaaGreatDoor
set_option linter.unusedSimpArgs false
set_option linter.unusedVariables false
end Go.Proofs.YtbiohhmpclnpgaaGreatDoor
namespace Go.Proofs.YtbiohhmpclnpgaaGreatDoor
set_option linter.unusedSimpArgs false
set_option linter.unusedVariables false
end Go.Proofs.YtbiohhmpclnpgaaGreatDoor
namespace Go.Proofs.YtbiohhmpclnpgaaGreatDoor
set_option linter.unusedSimpArgs false
set_option linter.unusedVariables false
end Go.Proofs.YtbiohhmpclnpgaaGreatDoor
namespace Go.Proofs.YtbiohhmpclnpgaaGreatDoor
set_option linter.unusedSimpArgs false
set_option linter.unusedVariables false
theorem fmt_short {x : Int} (h : -99999 ≤ x ∧ x ≤ 99999) : (fmt x).length ≤ 6 := by
 have h4 := (padk_eq 4 x.natAbs (by omega)).1
 unfold fmt
 split
 ·rw [List.length_cons]; omega
 ·omega
theorem dpz_of {s : List UInt8} {neg : Bool} {ds : List UInt8} {b : Nat} {x : Int} (mode : Int) (hl : s.length ≤ 1024) (hr : dread s = some (neg, ds, b, x)) (hx : -99999 ≤ x ∧ x ≤ 99999) : dpz 1024 s mode = (dval neg mode (num ds) (x - b), 0) := by
 unfold dpz
 rw [if_neg (by omega), hr]
 simp only []
 rw [if_neg (by omega)]
theorem spell_a {s : List UInt8} {c : UInt8} {x : Int} (mode : Int) (hs : s.all dig = true) (h0 : s ≠ []) (hc : isE c = true) (hl : s.length ≤ 1000) (hx : -99999 ≤ x ∧ x ≤ 99999) :
  dpz 1024 (s ++ c :: fmt x) mode = (dval false mode (num s) x, 0) := by
 have h := fmt_short hx
 rw [dpz_of mode (by rw [List.length_append, List.length_cons]; omega) (dread_plain hs h0 hc (dexp_fmt x)) hx]
 rw [show x - ((0 : Nat) : Int) = x by omega]
end Go.Proofs.YtbiohhmpclnpgaaGreatDoor
namespace Go.Proofs.YtbiohhmpclnpgaaGreatDoor
set_option linter.unusedSimpArgs false
set_option linter.unusedVariables false
def nF (b : Nat) : Nat := manF b * 2 ^ (expoF b).toNat
def dF (b : Nat) : Nat := 2 ^ (-expoF b).toNat
theorem dF_pos (b : Nat) : 0 < dF b := pow2_pos _
theorem dvF_ten (neg : Bool) (mode : Int) {N : Nat} (x : Int) (hN : 0 < N) : dvF neg mode (N * 10) x = dvF neg mode N (x + 1) := by
 unfold dvF
 by_cases h : 0 ≤ x
 ·have e1 : (x + 1).toNat = x.toNat + 1 := by omega
  have e2 : (-x).toNat = 0 := by omega
  have e3 : (-(x + 1)).toNat = 0 := by omega
  rw [e1, e2, e3, Nat.pow_succ, Nat.mul_assoc, Nat.mul_comm 10]
 ·have e1 : (x + 1).toNat = 0 := by omega
  have e2 : x.toNat = 0 := by omega
  have e3 : (-x).toNat = (-(x + 1)).toNat + 1 := by omega
  rw [e1, e2, e3, Nat.pow_succ, Nat.pow_zero, Nat.mul_one, Nat.mul_one, Nat.mul_comm N, Nat.mul_comm _ 10]
  exact rndF_mul neg mode 0 hN (ten_pos _) (by decide)
def Dgs (b n : Nat) (ds : List UInt8) (x : Int) : Prop := ∃ k : Int, tenLe (nF b) (dF b) k ∧ ¬ tenLe (nF b) (dF b) (k + 1) ∧ ds = (dec (near (nF b) (dF b) (n - 1 - k))).take n ∧ x = if n < (dec (near (nF b) (dF b) (n - 1 - k))).length then k + 1 else k
theorem Dgs.one {b n : Nat} {ds es : List UInt8} {x y : Int} (h : Dgs b n ds x) (g : Dgs b n es y) : ds = es ∧ x = y := by
 obtain ⟨k, h1, h2, h3, h4⟩ := h
 obtain ⟨j, g1, g2, g3, g4⟩ := g
 obtain rfl := ten_one h1 h2 g1 g2
 exact ⟨h3.trans g3.symm, h4.trans g4.symm⟩
theorem dec_len_of {q n : Nat} (hn : 1 ≤ n) (h1 : 10 ^ (n - 1) ≤ q) (h2 : q < 10 ^ n) : (dec q).length = n := by
 have h0 : 0 < q := Nat.lt_of_lt_of_le (ten_pos _) h1
 obtain ⟨a1, a2, a3⟩ := dec_pow h0
 have b1 : (dec q).length - 1 < n := (Nat.pow_lt_pow_iff_right (by decide)).1 (Nat.lt_of_le_of_lt a1 h2)
 have b2 : n - 1 < (dec q).length := (Nat.pow_lt_pow_iff_right (by decide)).1 (Nat.lt_of_le_of_lt h1 a2)
 omega
theorem Dgs.val {b n : Nat} {ds : List UInt8} {x : Int} (h : Dgs b n ds x) (h0 : 0 < b) (hn : 1 ≤ n) :
  ∃ k, tenLe (nF b) (dF b) k ∧ ¬ tenLe (nF b) (dF b) (k + 1) ∧ ds.length = n ∧ ds.all dig = true ∧ 10 ^ (n - 1) ≤ num ds ∧ (x = k ∨ x = k + 1) ∧ ∀ neg mode, dvF neg mode (num ds) (x - (n - 1)) = dvF neg mode (near (nF b) (dF b) (n - 1 - k)) (k - (n - 1)) := by
 obtain ⟨k, h1, h2, h3, h4⟩ := h
 obtain ⟨q1, q2⟩ := near_size (n := n) (dF_pos b) hn h1 h2
 refine ⟨k, h1, h2, ?_⟩
 generalize near (nF b) (dF b) (n - 1 - k) = q at *
 rcases Nat.lt_or_ge q (10 ^ n) with hq | hq
 ·have hl := dec_len_of hn q1 hq
  rw [List.take_of_length_le (by omega)] at h3
  rw [if_neg (by omega)] at h4
  subst h3 h4
  obtain ⟨d1, d2, d3⟩ := dec_digits q
  exact ⟨hl, d1, by rw [d2]; exact q1, .inl rfl, fun neg mode => by rw [d2]⟩
 ·obtain rfl : q = 10 ^ n := by omega
  have hl : (dec (10 ^ n)).length = n + 1 := dec_len_of (by omega) (by simp) (Nat.pow_lt_pow_right (by decide) (by omega))
  have hs : 10 ^ n = 10 ^ (n - 1) * 10 := by rw [← Nat.pow_succ]; congr 1; omega
  have hn1 : (dec (10 ^ (n - 1))).length = n := dec_len_of hn (Nat.le_refl _) (Nat.pow_lt_pow_right (by decide) (by omega))
  have e : (dec (10 ^ n)).take n = dec (10 ^ (n - 1)) := by
   rw [hs, dec_ten (by have := ten_pos (n - 1); omega), Nat.mul_div_cancel _ (by decide)]
   rw [List.take_append_of_le_length (by omega), List.take_of_length_le (by omega)]
  rw [e] at h3
  rw [if_pos (by omega)] at h4
  subst h3 h4
  obtain ⟨d1, d2, d3⟩ := dec_digits (10 ^ (n - 1))
  refine ⟨hn1, d1, by rw [d2]; exact Nat.le_refl _, .inr rfl, fun neg mode => ?_⟩
  rw [d2, hs, dvF_ten neg mode _ (ten_pos _)]
  congr 1
  omega
end Go.Proofs.YtbiohhmpclnpgaaGreatDoor
