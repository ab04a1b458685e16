import Derived.Test.YtoiebebjgnpkmaaGreatDoorYJ46
import Derived.Test.YtoiebebjgnpkmaaGreatDoorYJ16
namespace Go.Proofs.YtoiebebjgnpkmaaGreatDoor
open Go.ChangeShapes Go.WideShapes Go.RowKit
set_option linter.unusedSimpArgs false
set_option linter.unusedVariables false
def laid7:List (String×DataW Unit):=[("math/bits.deBruijn32tab",Rows.laid_math_bits_deBruijn32tab),("math/bits.deBruijn64tab",Rows.laid_math_bits_deBruijn64tab),("internal/strconv.uint64pow10",Rows.laid_internal_strconv_uint64pow10),("unicode/utf8.acceptRanges",Rows.laid_unicode_utf8_acceptRanges),("strconv.ErrRange",Rows.laid_strconv_ErrRange),("strconv.ErrSyntax",Rows.laid_strconv_ErrSyntax),("unicode/utf8.first",Rows.laid_unicode_utf8_first)]
noncomputable def low7:Nat:=(World.holding Tryz.prog default ⟨#[],#[],[]⟩).heap.size
def lits2:DataW Unit→List Int
 | .agg l=>l.flatMap lits
 | _ =>[]
noncomputable def laidWorld7 (os:Os):World:=
 let w0:=World.holding Tryz.prog os ⟨#[.cells #[.string (ByteArray.mk #[118,97,108,117,101,32,111,117,116,32,111,102,32,114,97,110,103,101])] 283, .cells #[.string (ByteArray.mk #[105,110,118,97,108,105,100,32,115,121,110,116,97,120])] 283],#[],[]⟩
 {w0 with heap:=((((((w0.heap.modify 6 fun
  | .cells _ t frozen=> .cells (vals .u8 (lits Rows.laid_math_bits_deBruijn32tab)) t frozen
  | o=>o).modify 7 fun
  | .cells _ t frozen=> .cells (vals .u8 (lits Rows.laid_math_bits_deBruijn64tab)) t frozen
  | o=>o).modify 0 fun
  | .cells _ t frozen=> .cells (vals .u64 (lits Rows.laid_internal_strconv_uint64pow10)) t frozen
  | o=>o).modify 5 fun
  | .cells _ t frozen=> .cells (vals .u8 (lits2 Rows.laid_unicode_utf8_acceptRanges)) t frozen
  | o=>o).modify 4 fun
  | .cells _ t frozen=> .cells (vals .u8 (lits Rows.laid_unicode_utf8_first)) t frozen
  | o=>o).modify 3 fun
  | .cells _ t frozen=> .cells #[.iface 281 (.pointer (some ⟨low7,0,none⟩))] t frozen
  | o=>o).modify 2 fun
  | .cells _ t frozen=> .cells #[.iface 281 (.pointer (some ⟨low7+1,0,none⟩))] t frozen
  | o=>o}
theorem laid_met7' (os:Os) (args:Array Value):laidMet Tryz.prog laid7 ((laidWorld7 os).forCall (fun _ _ =>0) ⟨#[],args,[]⟩).memory:=
 laidMet_of_run' 8 (by kernel_rfl) (by kernel_rfl)
theorem laid_met7 (os:Os) (args:Array Value):laidMetH Tryz.prog laid7 ((laidWorld7 os).forCall (fun _ _ =>0) ⟨#[],args,[]⟩).memory:=laid_met7' os args
theorem laid_pow7 {W:World} (h:laidMetH Tryz.prog laid7 W):Lib.TabIs Tryz.prog W "internal/strconv.uint64pow10" .u64 Lib.pow10Tab:=by
 have h':laidMet Tryz.prog laid7 W:=h
 have e:(Rows.laid_internal_strconv_uint64pow10:DataW Unit)=Lib.tabData .u64 Lib.pow10Tab:=by kernel_rfl
 have hr:=Lib.laidMet.reads h' (n:= "internal/strconv.uint64pow10") (d:=Rows.laid_internal_strconv_uint64pow10) (.tail _ (.tail _ (.head _)))
 rw [e] at hr
 exact tabIs_of_reads (g:=0) (by kernel_rfl) (by kernel_rfl) Tryz.underlying211 Tryz.underlying22 (by kernel_rfl) (by kernel_rfl) hr
theorem laid_tab7 {W:World} (h:laidMetH Tryz.prog laid7 W):TabAt 6 Lib.deBruijn32tab W:=by
 have h':laidMet Tryz.prog laid7 W:=h
 have e:(Rows.laid_math_bits_deBruijn32tab:DataW Unit)=Lib.tabData .u8 (Lib.deBruijn32tab.map Int.ofNat):=by kernel_rfl
 have hr:=Lib.laidMet.reads h' (n:= "math/bits.deBruijn32tab") (d:=Rows.laid_math_bits_deBruijn32tab) (.head _)
 rw [e] at hr
 have ht:=tabIs_of_reads (g:=6) (by kernel_rfl) (by kernel_rfl) Tryz.underlying272 Tryz.underlying5 (by kernel_rfl) (by kernel_rfl) hr
 intro j hj
 have h1:=Lib.TabIs.cell ht (g:=6) (by kernel_rfl) j (by simpa using hj)
 rw [h1]
 simp only [List.getD_eq_getElem?_getD,List.getElem?_map,List.getElem?_eq_getElem hj]
 rfl
end Go.Proofs.YtoiebebjgnpkmaaGreatDoor
