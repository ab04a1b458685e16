/-
  Shifts, roots and bits on numbers, whatever form the arguments have.
-/
import Derived.Test.YtpmebjhlgdhchaaDoorIz4
import Derived.Test.YtpmebjhlgdhchaaDoorIw36
namespace Go.Proofs.YtpmebjhlgdhchaaDoor
open Go.RowKit
set_option linter.unusedSimpArgs false
set_option linter.unusedVariables false
set_option maxHeartbeats 4000000
set_option maxRecDepth 100000
theorem dl_shift {x : Int} {n : Nat} (k : Nat) (hx : dl x ≤ n) : dl (x * 2 ^ k) ≤ n + k := by
  apply dl_le
  have e : ((2 : Int) ^ k).natAbs = 2 ^ k := by rw [Int.natAbs_pow]; rfl
  rw [Int.natAbs_mul, e, Nat.pow_add]
  have h1 : x.natAbs < 4294967296 ^ n := Nat.lt_of_lt_of_le dl_lt (Nat.pow_le_pow_right (by decide) hx)
  have h2 : 2 ^ k ≤ 4294967296 ^ k := Nat.pow_le_pow_left (by decide) k
  exact Nat.lt_of_lt_of_le (Nat.mul_lt_mul_of_pos_right h1 (Nat.two_pow_pos k)) (Nat.mul_le_mul_left _ h2)
theorem shiftUp_ar {w : World} {u : Value} {x : Int} {n : Nat} (k : Nat) (h : Av w u x n) (hn : n ≤ 200000) (hk : k ≤ 1048576) :
    Calls Tryd.prog 37 #[u, .int .i64 (k : Int)] w fun e w' => ∃ v1, e = .returned (.tuple #[v1, .int .i64 0]) ∧ Fr [] w w' ∧ Bv w' v1 (x * 2 ^ k) (n + k) := by
  have hd := h.dl
  obtain ⟨na, la, p, c, rfl, h1, rfl, h3⟩ := h
  refine Calls.mono (shift_up k na la rfl (by omega) hk h1) ?_
  rintro e w' ⟨v1, rfl, hF, b1⟩
  exact ⟨v1, rfl, hF, b1, dl_shift k hd⟩
theorem shiftDown_ar {w : World} {u : Value} {x : Int} {n : Nat} (k : Nat) (h : Av w u x n) (hn : n ≤ 200000) (hk : k ≤ 1048576) :
    Calls Tryd.prog 37 #[u, .int .i64 (-(k : Int))] w fun e w' => ∃ v1, e = .returned (.tuple #[v1, .int .i64 0]) ∧ Fr [] w w' ∧ Bv w' v1 (x / 2 ^ k) n := by
  have hd := h.dl
  obtain ⟨na, la, p, c, rfl, h1, rfl, h3⟩ := h
  rcases Nat.eq_zero_or_pos k with h0 | h0
  · subst h0
    refine Calls.mono (shift_up 0 na la rfl (by omega) (by omega) h1) ?_
    rintro e w' ⟨v1, rfl, hF, b1⟩
    have e : zv na la / 2 ^ 0 = zv na la * 2 ^ 0 := by rw [Int.pow_zero, Int.ediv_one, Int.mul_one]
    exact ⟨v1, rfl, hF, by rw [e]; exact b1, by rw [Int.pow_zero, Int.ediv_one]; exact hd⟩
  · refine Calls.mono (shift_down k na la rfl (by omega) h0 hk h1) ?_
    rintro e w' ⟨v1, rfl, hF, b1⟩
    exact ⟨v1, rfl, hF, b1, dl_div hd⟩
theorem sqrt_ar {w : World} {u : Value} {x : Int} {n : Nat} (r : Nat) (h : Av w u x n) (hn : n ≤ 200000) (hx : 0 ≤ x) (hr : IsRoot x.natAbs r) :
    Calls Tryd.prog 38 #[u] w fun e w' => ∃ v1, e = .returned (.tuple #[v1, .int .i64 0]) ∧ Fr [] w w' ∧ Bv w' v1 (r : Int) n := by
  have hd := h.dl
  obtain ⟨na, la, p, c, rfl, h1, rfl, h3⟩ := h
  have hr2 := hr
  rw [zv_abs] at hr
  refine Calls.mono (sqrt_any na la r rfl (by omega) hx hr h1) ?_
  rintro e w' ⟨v1, rfl, hF, b1⟩
  refine ⟨v1, rfl, hF, b1, Nat.le_trans (dl_of (x := (zv na la).natAbs) ?_) hd⟩
  rw [Int.natAbs_natCast]
  have h1 := hr2.1
  have h2 := Nat.le_mul_self r
  omega
theorem bitLen_ar {w : World} {u : Value} {x : Int} {n : Nat} (h : Av w u x n) (hn : n ≤ 200000) :
    Calls Tryd.prog 39 #[u] w fun e w' => e = .returned (.int .i64 (bl x.natAbs : Int)) ∧ Fr [] w w' := by
  obtain ⟨na, la, p, c, rfl, h1, rfl, h3⟩ := h
  rw [zv_abs]
  exact bitLen_any na la rfl (by omega) h1
theorem trailing_ar {w : World} {u : Value} {x : Int} {n : Nat} (h : Av w u x n) (hn : n ≤ 200000) (hT : TabAt 0 Lib.deBruijn32tab w) :
    Calls Tryd.prog 41 #[u] w fun e w' => e = .returned (.int .i64 (tz x.natAbs : Int)) ∧ Fr [] w w' := by
  obtain ⟨na, la, p, c, rfl, h1, rfl, h3⟩ := h
  rw [zv_abs]
  exact trailing_any na la rfl (by omega) h1 hT
theorem abs_shift (x : Int) (k : Nat) : (x * 2 ^ k).natAbs = x.natAbs * 2 ^ k := by
  have e : ((2 : Int) ^ k).natAbs = 2 ^ k := by rw [Int.natAbs_pow]; rfl
  rw [Int.natAbs_mul, e]
theorem bl_bound {x : Int} {n : Nat} (h : dl x ≤ n) : bl x.natAbs ≤ 32 * n := bl_le (by
  have h1 : x.natAbs < 4294967296 ^ n := Nat.lt_of_lt_of_le dl_lt (Nat.pow_le_pow_right (by decide) h)
  rwa [powB] at h1)
theorem tz_le : ∀ (n x : Nat), x < 2 ^ n → tz x ≤ n
  | 0, x, h => by
    have : x = 0 := by simpa using h
    subst this; rw [tz_zero]; exact Nat.le_refl _
  | n + 1, x, h => by
    by_cases h0 : x = 0
    · subst h0; rw [tz_zero]; omega
    · by_cases h1 : x % 2 = 1
      · rw [tz_odd h1]; omega
      · rw [Nat.pow_succ] at h
        have e : x = 2 * (x / 2) := by omega
        have h2 := tz_le n (x / 2) (by omega)
        rw [e, tz_even (by omega)]
        omega
theorem tz_bound {x : Int} {n : Nat} (h : dl x ≤ n) : tz x.natAbs ≤ 32 * n := tz_le _ _ (by
  have h1 : x.natAbs < 4294967296 ^ n := Nat.lt_of_lt_of_le dl_lt (Nat.pow_le_pow_right (by decide) h)
  rwa [powB] at h1)
theorem cmp_le0 {w : World} {u v : Value} {x y : Int} {n m : Nat} (h : Av w u x n) (k : Av w v y m) (hn : n ≤ 200000) (hm : m ≤ 200000) (hx : x ≤ y) :
    Calls Tryd.prog 22 #[u, v] w fun e w' => ∃ s : Int, e = .returned (.int .i64 s) ∧ s ≤ 0 ∧ Fr [] w w' :=
  Calls.mono (cmp_ar h k hn hm) (fun e w' hb => ⟨_, hb.1, by
    rcases Int.lt_or_eq_of_le hx with h1 | h1
    · rw [cmpZ_lt h1]; decide
    · rw [h1, cmpZ_eq]; decide, hb.2⟩)
theorem cmp_gt0 {w : World} {u v : Value} {x y : Int} {n m : Nat} (h : Av w u x n) (k : Av w v y m) (hn : n ≤ 200000) (hm : m ≤ 200000) (hx : y < x) :
    Calls Tryd.prog 22 #[u, v] w fun e w' => ∃ s : Int, e = .returned (.int .i64 s) ∧ 0 < s ∧ Fr [] w w' :=
  Calls.mono (cmp_ar h k hn hm) (fun e w' hb => ⟨_, hb.1, by rw [cmpZ_gt hx]; decide, hb.2⟩)
theorem laid_tab32 {W : World} (h : laidMetH Tryd.prog laid3 W) : TabAt 0 Lib.deBruijn32tab W := by
  have h' : laidMet Tryd.prog laid3 W := h
  have e : (Rows.laid_math_bits_deBruijn32tab : DataW Unit) = Lib.tabData .u8 (Lib.deBruijn32tab.map Int.ofNat) := by kernel_rfl
  have hr := Lib.laidMet.reads h' (n := "math/bits.deBruijn32tab") (d := Rows.laid_math_bits_deBruijn32tab) (.head _)
  rw [e] at hr
  have ht := tabIs_of_reads (g := 0) (by kernel_rfl) (by kernel_rfl) Tryd.underlying86 Tryd.underlying5 (by kernel_rfl) (by kernel_rfl) hr
  intro j hj
  have h1 := Lib.TabIs.cell ht (g := 0) (by kernel_rfl) j (by simpa using hj)
  rw [h1]
  simp only [List.getD_eq_getElem?_getD, List.getElem?_map, List.getElem?_eq_getElem hj]
  rfl
end Go.Proofs.YtpmebjhlgdhchaaDoor
