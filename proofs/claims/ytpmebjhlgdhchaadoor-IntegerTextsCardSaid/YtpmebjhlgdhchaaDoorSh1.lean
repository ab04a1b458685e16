/-
  The shelf's contracts for the lengths of words (written by the kit's lay-plain), and what they say in this seat's words.
-/
import Derived.Test.YtpmebjhlgdhchaaDoorIw15
import Derived.Shelf.Small.Bits
namespace Go.Proofs
open Go.Shelf
set_option linter.unusedSimpArgs false
set_option linter.unusedVariables false
def Tryd.lays128_ren : Go.Shelf.Ren := ⟨fun | 128 => 69 | n => n, fun | 51 => 54 | 3 => 3 | 4 => 4 | 46 => 59 | 5 => 5 | 9 => 9 | n => n, fun | n => n⟩
theorem Tryd.lays128 : Go.Proofs.Lays.n128 Tryd.prog Tryd.lays128_ren := {
  mixed := by kernel_rfl
  f128 := Tryd.func69.trans (congrArg some (by kernel_rfl))
  t3 := Tryd.underlying3
  a3 := Tryd.isAgg3
  z3 := Tryd.sizeOf3
  v3 := Tryd.zeroValue3
  t4 := Tryd.underlying4
  a4 := Tryd.isAgg4
  z4 := Tryd.sizeOf4
  v4 := Tryd.zeroValue4
  t5 := Tryd.underlying5
  a5 := Tryd.isAgg5
  z5 := Tryd.sizeOf5
  v5 := Tryd.zeroValue5
  t9 := Tryd.underlying9
  a9 := Tryd.isAgg9
  z9 := Tryd.sizeOf9
  v9 := Tryd.zeroValue9
  t46 := Tryd.underlying59
  a46 := Tryd.isAgg59
  z46 := Tryd.sizeOf59
  v46 := Tryd.zeroValue59
  t51 := Tryd.underlying54
  a51 := Tryd.isAgg54
  z51 := Tryd.sizeOf54
  v51 := Tryd.zeroValue54 }
/-- bits.Len32: "Len32 returns the minimum number of bits required to represent x; the result is 0 for x == 0.": IT RETURNS 'Lib.bitLen x'; the world is as it was. ('h0', 'h1': x is a uint32.) (LAID: no walk: one application.) -/
theorem Tryd.bits_Len32 (x : Int) (w : World) (h0 : 0 ≤ x) (h1 : x ≤ 4294967295) :
    Calls Tryd.prog 69 #[.int .u32 x] w fun e w' => e = .returned (.int .i64 (Lib.bitLen x.toNat)) ∧ w' = w := Any.bits_Len32 Tryd.lays128 x w h0 h1
def Tryd.lays133_ren : Go.Shelf.Ren := ⟨fun | 133 => 82 | 128 => 69 | n => n, fun | 51 => 54 | 3 => 3 | 4 => 4 | 46 => 59 | 5 => 5 | 9 => 9 | n => n, fun | n => n⟩
theorem Tryd.lays133 : Go.Proofs.Lays.n133 Tryd.prog Tryd.lays133_ren := {
  mixed := by kernel_rfl
  f128 := Tryd.func69.trans (congrArg some (by kernel_rfl))
  f133 := Tryd.func82.trans (congrArg some (by kernel_rfl))
  t3 := Tryd.underlying3
  a3 := Tryd.isAgg3
  z3 := Tryd.sizeOf3
  v3 := Tryd.zeroValue3
  t4 := Tryd.underlying4
  a4 := Tryd.isAgg4
  z4 := Tryd.sizeOf4
  v4 := Tryd.zeroValue4
  t5 := Tryd.underlying5
  a5 := Tryd.isAgg5
  z5 := Tryd.sizeOf5
  v5 := Tryd.zeroValue5
  t9 := Tryd.underlying9
  a9 := Tryd.isAgg9
  z9 := Tryd.sizeOf9
  v9 := Tryd.zeroValue9
  t46 := Tryd.underlying59
  a46 := Tryd.isAgg59
  z46 := Tryd.sizeOf59
  v46 := Tryd.zeroValue59
  t51 := Tryd.underlying54
  a51 := Tryd.isAgg54
  z51 := Tryd.sizeOf54
  v51 := Tryd.zeroValue54 }
/-- bits.LeadingZeros32: "LeadingZeros32 returns the number of leading zero bits in x; the result is 32 for x == 0.": IT RETURNS '32 - Lib.bitLen x'; the world is as it was. ITS CALLEE bits.Len32 IS MET BY ITS OWN CONTRACT OFF THE SHELF (lay that first): entered in place it sends the kernel out of memory. (LAID: no walk: one application.) -/
theorem Tryd.bits_LeadingZeros32 (x : Int) (w : World) (h0 : 0 ≤ x) (h1 : x ≤ 4294967295) :
    Calls Tryd.prog 82 #[.int .u32 x] w fun e w' => e = .returned (.int .i64 (32 - (Lib.bitLen x.toNat : Int))) ∧ w' = w := Any.bits_LeadingZeros32 Tryd.lays133 x w h0 h1
end Go.Proofs
namespace Go.Proofs.YtpmebjhlgdhchaaDoor
open Go.RowKit
theorem bl_half {x : Nat} (h : x ≠ 0) : bl x = 1 + bl (x / 2) := by
  by_cases h1 : x = 1
  · subst h1; rfl
  · obtain ⟨a1, a2⟩ := bl_ge (n := x / 2) (by omega)
    have a3 := bl_lt (x / 2)
    have e : 2 ^ bl (x / 2) = 2 * 2 ^ (bl (x / 2) - 1) := by
      obtain ⟨k, hk⟩ : ∃ k, bl (x / 2) = k + 1 := ⟨bl (x / 2) - 1, by omega⟩
      rw [hk, Nat.pow_succ, Nat.add_sub_cancel, Nat.mul_comm]
    rw [Nat.add_comm]
    apply bl_of
    · omega
    · rw [Nat.pow_succ]; omega
theorem bitLen_bl : ∀ (f x : Nat), x < 2 ^ f → Lib.bitLenAux f x = bl x
  | 0, x, h => by
    have : x = 0 := by simpa using h
    subst this; rfl
  | f + 1, x, h => by
    unfold Lib.bitLenAux
    by_cases h0 : x = 0
    · subst h0; rfl
    · rw [if_neg h0, bitLen_bl f (x / 2) (by rw [Nat.pow_succ] at h; omega), bl_half h0]
theorem bl_32 {x : Nat} (h : x < 4294967296) : bl x ≤ 32 := by
  apply Classical.byContradiction
  intro hn
  have h0 : x ≠ 0 := fun e => by rw [e, bl_zero] at hn; omega
  obtain ⟨a1, _⟩ := bl_ge h0
  have : 2 ^ 32 ≤ 2 ^ (bl x - 1) := Nat.pow_le_pow_right (by decide) (by omega)
  omega
theorem Fr.same {T : List Nat} (w : World) : Fr T w w := (Hp.start T w).fr
theorem len32_any (w : World) {x : Nat} (h : x < 4294967296) : Calls Tryd.prog 69 #[.int .u32 (x : Int)] w fun e w' => e = .returned (.int .i64 (bl x : Int)) ∧ Fr [] w w' := by
  refine Calls.mono (Go.Proofs.Tryd.bits_Len32 (x : Int) w (by omega) (by omega)) ?_
  rintro e w' ⟨rfl, rfl⟩
  refine ⟨?_, Fr.same _⟩
  have : Lib.bitLen ((x : Int)).toNat = bl x := by rw [Int.toNat_natCast]; exact bitLen_bl 64 x (by omega)
  rw [this]
theorem lead32_any (w : World) {x : Nat} (h : x < 4294967296) : Calls Tryd.prog 82 #[.int .u32 (x : Int)] w fun e w' => e = .returned (.int .i64 ((32 - bl x : Nat) : Int)) ∧ Fr [] w w' := by
  refine Calls.mono (Go.Proofs.Tryd.bits_LeadingZeros32 (x : Int) w (by omega) (by omega)) ?_
  rintro e w' ⟨rfl, rfl⟩
  refine ⟨?_, Fr.same _⟩
  have : Lib.bitLen ((x : Int)).toNat = bl x := by rw [Int.toNat_natCast]; exact bitLen_bl 64 x (by omega)
  have h2 := bl_32 h
  rw [this, show (32 : Int) - (bl x : Int) = ((32 - bl x : Nat) : Int) by omega]
end Go.Proofs.YtpmebjhlgdhchaaDoor
