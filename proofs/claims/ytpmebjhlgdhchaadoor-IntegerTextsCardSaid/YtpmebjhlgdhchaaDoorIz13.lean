/-
  The condition with five laid variables (two of them errors), and a world that meets it.
-/
import Derived.Test.YtpmebjhlgdhchaaDoorIz4

namespace Go.Proofs.YtpmebjhlgdhchaaDoor
open Go.ChangeShapes Go.WideShapes Go.RowKit
set_option linter.unusedSimpArgs false
set_option linter.unusedVariables false
def laid5 : List (String × DataW Unit) := [("math/bits.deBruijn32tab", Rows.laid_math_bits_deBruijn32tab), ("math/bits.deBruijn64tab", Rows.laid_math_bits_deBruijn64tab), ("internal/strconv.uint64pow10", Rows.laid_internal_strconv_uint64pow10), ("strconv.ErrRange", Rows.laid_strconv_ErrRange), ("strconv.ErrSyntax", Rows.laid_strconv_ErrSyntax)]
noncomputable def low5 : Nat := (World.holding Tryd.prog default ⟨#[], #[], []⟩).heap.size
/-- A world that meets the condition. -/
noncomputable def laidWorld5 (os : Os) : World :=
  let w0 := World.holding Tryd.prog os ⟨#[.cells #[.string (ByteArray.mk #[118, 97, 108, 117, 101, 32, 111, 117, 116, 32, 111, 102, 32, 114, 97, 110, 103, 101])] 130, .cells #[.string (ByteArray.mk #[105, 110, 118, 97, 108, 105, 100, 32, 115, 121, 110, 116, 97, 120])] 130], #[], []⟩
  { w0 with heap := ((((w0.heap.modify 0 fun
      | .cells _ t frozen => .cells (vals .u8 (lits Rows.laid_math_bits_deBruijn32tab)) t frozen
      | o => o).modify 5 fun
      | .cells _ t frozen => .cells (vals .u8 (lits Rows.laid_math_bits_deBruijn64tab)) t frozen
      | o => o).modify 3 fun
      | .cells _ t frozen => .cells (vals .u64 (lits Rows.laid_internal_strconv_uint64pow10)) t frozen
      | o => o).modify 2 fun
      | .cells _ t frozen => .cells #[.iface 128 (.pointer (some ⟨low5, 0, none⟩))] t frozen
      | o => o).modify 1 fun
      | .cells _ t frozen => .cells #[.iface 128 (.pointer (some ⟨low5 + 1, 0, none⟩))] t frozen
      | o => o }
theorem laid_met5' (os : Os) (args : Array Value) : laidMet Tryd.prog laid5 ((laidWorld5 os).forCall (fun _ _ => 0) ⟨#[], args, []⟩).memory :=
  laidMet_of_run' 8 (by kernel_rfl) (by kernel_rfl)
theorem laid_met5 (os : Os) (args : Array Value) : laidMetH Tryd.prog laid5 ((laidWorld5 os).forCall (fun _ _ => 0) ⟨#[], args, []⟩).memory := laid_met5' os args
theorem laid_pow5 {W : World} (h : laidMetH Tryd.prog laid5 W) : Lib.TabIs Tryd.prog W "internal/strconv.uint64pow10" .u64 Lib.pow10Tab := by
  have h' : laidMet Tryd.prog laid5 W := h
  have e : (Rows.laid_internal_strconv_uint64pow10 : DataW Unit) = Lib.tabData .u64 Lib.pow10Tab := by kernel_rfl
  have hr := Lib.laidMet.reads h' (n := "internal/strconv.uint64pow10") (d := Rows.laid_internal_strconv_uint64pow10) (.tail _ (.tail _ (.head _)))
  rw [e] at hr
  exact tabIs_of_reads (g := 3) (by kernel_rfl) (by kernel_rfl) Tryd.underlying133 Tryd.underlying57 (by kernel_rfl) (by kernel_rfl) hr
end Go.Proofs.YtpmebjhlgdhchaaDoor
