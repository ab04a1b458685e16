import Derived.Test.YtbiohhmpclnpgaaGreatDoorXIw15
import Derived.Shelf.Small.Bits
namespace Go.Proofs
open Go.Shelf
set_option linter.unusedSimpArgs false
set_option linter.unusedVariables false
def Tryz.lays128_ren : Go.Shelf.Ren := ⟨fun | 128 => 179 | n => n, fun | 51 => 104 | 3 => 3 | 4 => 4 | 46 => 43 | 5 => 5 | 9 => 9 | n => n, fun | n => n⟩
theorem Tryz.lays128 : Go.Proofs.Lays.n128 Tryz.prog Tryz.lays128_ren := {
 mixed := by kernel_rfl
 f128 := Tryz.func179.trans (congrArg some (by kernel_rfl))
 t3 := Tryz.underlying3
 a3 := Tryz.isAgg3
 z3 := Tryz.sizeOf3
 v3 := Tryz.zeroValue3
 t4 := Tryz.underlying4
 a4 := Tryz.isAgg4
 z4 := Tryz.sizeOf4
 v4 := Tryz.zeroValue4
 t5 := Tryz.underlying5
 a5 := Tryz.isAgg5
 z5 := Tryz.sizeOf5
 v5 := Tryz.zeroValue5
 t9 := Tryz.underlying9
 a9 := Tryz.isAgg9
 z9 := Tryz.sizeOf9
 v9 := Tryz.zeroValue9
 t46 := Tryz.underlying43
 a46 := Tryz.isAgg43
 z46 := Tryz.sizeOf43
 v46 := Tryz.zeroValue43
 t51 := Tryz.underlying104
 a51 := Tryz.isAgg104
 z51 := Tryz.sizeOf104
 v51 := Tryz.zeroValue104 }
theorem Tryz.bits_Len32 (x : Int) (w : World) (h0 : 0 ≤ x) (h1 : x ≤ 4294967295) :
  Calls Tryz.prog 179 #[.int .u32 x] w fun e w' => e = .returned (.int .i64 (Lib.bitLen x.toNat)) ∧ w' = w := Any.bits_Len32 Tryz.lays128 x w h0 h1
def Tryz.lays133_ren : Go.Shelf.Ren := ⟨fun | 133 => 181 | 128 => 179 | n => n, fun | 51 => 104 | 3 => 3 | 4 => 4 | 46 => 43 | 5 => 5 | 9 => 9 | n => n, fun | n => n⟩
theorem Tryz.lays133 : Go.Proofs.Lays.n133 Tryz.prog Tryz.lays133_ren := {
 mixed := by kernel_rfl
 f128 := Tryz.func179.trans (congrArg some (by kernel_rfl))
 f133 := Tryz.func181.trans (congrArg some (by kernel_rfl))
 t3 := Tryz.underlying3
 a3 := Tryz.isAgg3
 z3 := Tryz.sizeOf3
 v3 := Tryz.zeroValue3
 t4 := Tryz.underlying4
 a4 := Tryz.isAgg4
 z4 := Tryz.sizeOf4
 v4 := Tryz.zeroValue4
 t5 := Tryz.underlying5
 a5 := Tryz.isAgg5
 z5 := Tryz.sizeOf5
 v5 := Tryz.zeroValue5
 t9 := Tryz.underlying9
 a9 := Tryz.isAgg9
 z9 := Tryz.sizeOf9
 v9 := Tryz.zeroValue9
 t46 := Tryz.underlying43
 a46 := Tryz.isAgg43
 z46 := Tryz.sizeOf43
 v46 := Tryz.zeroValue43
 t51 := Tryz.underlying104
 a51 := Tryz.isAgg104
 z51 := Tryz.sizeOf104
 v51 := Tryz.zeroValue104 }
theorem Tryz.bits_LeadingZeros32 (x : Int) (w : World) (h0 : 0 ≤ x) (h1 : x ≤ 4294967295) :
  Calls Tryz.prog 181 #[.int .u32 x] w fun e w' => e = .returned (.int .i64 (32 - (Lib.bitLen x.toNat : Int))) ∧ w' = w := Any.bits_LeadingZeros32 Tryz.lays133 x w h0 h1
end Go.Proofs
namespace Go.Proofs.YtbiohhmpclnpgaaGreatDoor
open Go.RowKit
theorem bl_half {x : Nat} (h : x ≠ 0) : bl x = 1 + bl (x / 2) := by
 by_cases h1 : x = 1
 ·subst h1; rfl
 ·obtain ⟨a1, a2⟩ := bl_ge (n := x / 2) (by omega)
  have a3 := bl_lt (x / 2)
  have e : 2 ^ bl (x / 2) = 2 * 2 ^ (bl (x / 2) - 1) := by
   obtain ⟨k, hk⟩ : ∃ k, bl (x / 2) = k + 1 := ⟨bl (x / 2) - 1, by omega⟩
   rw [hk, Nat.pow_succ, Nat.add_sub_cancel, Nat.mul_comm]
  rw [Nat.add_comm]
  apply bl_of
  ·omega
  ·rw [Nat.pow_succ]; omega
theorem bitLen_bl : ∀ (f x : Nat), x < 2 ^ f → Lib.bitLenAux f x = bl x
 | 0, x, h => by
  have : x = 0 := by simpa using h
  subst this; rfl
 | f + 1, x, h => by
  unfold Lib.bitLenAux
  by_cases h0 : x = 0
  ·subst h0; rfl
  ·rw [if_neg h0, bitLen_bl f (x / 2) (by rw [Nat.pow_succ] at h; omega), bl_half h0]
theorem bl_32 {x : Nat} (h : x < 4294967296) : bl x ≤ 32 := by
 apply Classical.byContradiction
 intro hn
 have h0 : x ≠ 0 := fun e => by rw [e, bl_zero] at hn; omega
 obtain ⟨a1, _⟩ := bl_ge h0
 have : 2 ^ 32 ≤ 2 ^ (bl x - 1) := Nat.pow_le_pow_right (by decide) (by omega)
 omega
theorem Fr.same {T : List Nat} (w : World) : Fr T w w := (Hp.start T w).fr
theorem len32_any (w : World) {x : Nat} (h : x < 4294967296) : Calls Tryz.prog 179 #[.int .u32 (x : Int)] w fun e w' => e = .returned (.int .i64 (bl x : Int)) ∧ Fr [] w w' := by
 refine Calls.mono (Go.Proofs.Tryz.bits_Len32 (x : Int) w (by omega) (by omega)) ?_
 rintro e w' ⟨rfl, rfl⟩
 refine ⟨?_, Fr.same _⟩
 have : Lib.bitLen ((x : Int)).toNat = bl x := by rw [Int.toNat_natCast]; exact bitLen_bl 64 x (by omega)
 rw [this]
theorem lead32_any (w : World) {x : Nat} (h : x < 4294967296) : Calls Tryz.prog 181 #[.int .u32 (x : Int)] w fun e w' => e = .returned (.int .i64 ((32 - bl x : Nat) : Int)) ∧ Fr [] w w' := by
 refine Calls.mono (Go.Proofs.Tryz.bits_LeadingZeros32 (x : Int) w (by omega) (by omega)) ?_
 rintro e w' ⟨rfl, rfl⟩
 refine ⟨?_, Fr.same _⟩
 have : Lib.bitLen ((x : Int)).toNat = bl x := by rw [Int.toNat_natCast]; exact bitLen_bl 64 x (by omega)
 have h2 := bl_32 h
 rw [this, show (32 : Int) - (bl x : Int) = ((32 - bl x : Nat) : Int) by omega]
end Go.Proofs.YtbiohhmpclnpgaaGreatDoor
