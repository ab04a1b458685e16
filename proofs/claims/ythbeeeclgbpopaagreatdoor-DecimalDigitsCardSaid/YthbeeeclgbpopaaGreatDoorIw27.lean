/-
  The integers: division of whole numbers, plain.
-/
import Derived.Test.YthbeeeclgbpopaaGreatDoorIw26
namespace Go.Proofs.YthbeeeclgbpopaaGreatDoor
open Go.RowKit
set_option linter.unusedSimpArgs false
set_option linter.unusedVariables false
theorem dm_unique {a b q r : Int} (h : a = q * b + r) (h0 : 0 ≤ r) (h1 : r < b.natAbs) : a / b = q ∧ a % b = r := by
  rcases Int.lt_or_lt_of_ne (show b ≠ 0 by omega) with hb | hb
  · obtain ⟨c, rfl⟩ : ∃ c, b = -c := ⟨-b, by omega⟩
    have h2 := (Int.ediv_emod_unique (a := a) (r := r) (q := -q) (b := c) (by omega)).2 ⟨by rw [h, Int.mul_neg, Int.mul_neg, Int.mul_comm c]; omega, h0, by omega⟩
    rw [Int.ediv_neg, Int.emod_neg, h2.1, h2.2]
    omega
  · exact (Int.ediv_emod_unique hb).2 ⟨by rw [h, Int.mul_comm b]; omega, h0, by omega⟩
/-- A number of a sign and a magnitude. -/
def sg (neg : Bool) (n : Nat) : Int := if neg then -(n : Int) else (n : Int)
theorem zv_sg (neg : Bool) (l : List Nat) : zv neg l = sg neg (val l) := rfl
theorem sg_abs (neg : Bool) (n : Nat) : (sg neg n).natAbs = n := by unfold sg; split <;> omega
theorem sg_mul (a b : Bool) (n m : Nat) : sg a n * sg b m = sg (!(a == b)) (n * m) := by
  unfold sg; cases a <;> cases b <;> simp [Int.natCast_mul, Int.neg_mul, Int.mul_neg]
theorem sg_zero (a : Bool) : sg a 0 = 0 := by unfold sg; cases a <;> rfl
theorem sg_add (a : Bool) (n m : Nat) : sg a n + sg a m = sg a (n + m) := by unfold sg; cases a <;> simp <;> omega
theorem sg_canon (z : Int) : sg (decide (z < 0)) z.natAbs = z := by unfold sg; by_cases h : z < 0 <;> simp [h] <;> omega
theorem sg_eq_zero {a : Bool} {n : Nat} : sg a n = 0 ↔ n = 0 := by unfold sg; cases a <;> simp <;> omega
theorem dm_plain {na nb : Bool} {A B : Nat} (hB : B ≠ 0) (h : na = false ∨ A % B = 0) : sg na A / sg nb B = sg (!(na == nb)) (A / B) ∧ sg na A % sg nb B = ((A % B : Nat) : Int) := by
  refine dm_unique ?_ (by omega) (by rw [sg_abs]; exact Int.ofNat_lt.2 (Nat.mod_lt _ (Nat.pos_of_ne_zero hB)))
  rw [sg_mul]
  have h1 := Nat.div_add_mod A B
  rw [Nat.mul_comm] at h1
  generalize A / B * B = X at *
  generalize A % B = R at *
  unfold sg
  rcases h with rfl | h
  · cases nb <;> simp <;> omega
  · cases na <;> cases nb <;> simp <;> omega
theorem dm_down {nb : Bool} {A B : Nat} (hB : B ≠ 0) (h : A % B ≠ 0) : sg true A / sg nb B = sg (!(true == nb)) (A / B + 1) ∧ sg true A % sg nb B = ((B - A % B : Nat) : Int) := by
  have h2 := Nat.mod_lt A (Nat.pos_of_ne_zero hB)
  refine dm_unique ?_ (by omega) (by rw [sg_abs]; omega)
  rw [sg_mul]
  have h1 := Nat.div_add_mod A B
  rw [Nat.mul_comm] at h1
  rw [Nat.add_mul, Nat.one_mul]
  generalize A / B * B = X at *
  generalize A % B = R at *
  unfold sg
  cases nb <;> simp <;> omega
/-- A number in normal form, as a value. -/
def BigV (w : World) (v : Value) (z : Int) : Prop := ∃ p c, v = .agg #[.bool (decide (z < 0)), .slice p (digs z.natAbs).length c] ∧ LR w p c (digs z.natAbs)
theorem BigV.fr {w w' : World} {v : Value} {z : Int} (h : BigV w v z) (k : Fr [] w w') : BigV w' v z := by
  obtain ⟨p, c, rfl, hl⟩ := h
  exact ⟨p, c, rfl, hl.fr k⟩
theorem Big.iff {e : Ending} {w w' : World} {z : Int} : Big e w w' z ↔ ∃ v, e = .returned v ∧ Fr [] w w' ∧ BigV w' v z := by
  constructor
  · rintro ⟨p, c, rfl, h1, h2⟩
    exact ⟨_, rfl, h1, p, c, rfl, h2⟩
  · rintro ⟨v, rfl, h1, p, c, rfl, h2⟩
    exact ⟨p, c, rfl, h1, h2⟩
theorem BigV.zero (w : World) : BigV w (.agg #[.bool false, .slice none 0 0]) 0 := ⟨none, 0, by simp [digs_zero], by simpa [digs_zero] using LR.zero w⟩
end Go.Proofs.YthbeeeclgbpopaaGreatDoor
