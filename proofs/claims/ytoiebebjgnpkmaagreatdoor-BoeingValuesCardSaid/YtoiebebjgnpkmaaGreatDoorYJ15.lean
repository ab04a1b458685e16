import Derived.Test.YtoiebebjgnpkmaaGreatDoorYJ16
import Derived.Shelf.Strings.Split
import Derived.Shelf.Strings.Prefix
namespace Go.Proofs
open Go.Shelf
set_option linter.unusedSimpArgs false
set_option linter.unusedVariables false
def Tryz.lays143_ren:Go.Shelf.Ren:=⟨fun | 143=>94 | 219=>134 | 217=>176 | 225=>177 | 224=>178 | 267=>179 | 266=>224 | 314=>225 | n=>n,fun | 9=>9 | 3=>3 | 4=>4 | 5=>5 | 46=>135 | 146=>193 | 51=>162 | n=>n,fun | 1=>1 | n=>n⟩
theorem Tryz.lays143:Go.Proofs.Lays.n143 Tryz.prog Tryz.lays143_ren:={
 mixed:=by kernel_rfl
 f143:=Tryz.func94.trans (congrArg some (by kernel_rfl))
 f217:=Tryz.func176.trans (congrArg some (by kernel_rfl))
 f219:=Tryz.func134.trans (congrArg some (by kernel_rfl))
 f224:=Tryz.func178.trans (congrArg some (by kernel_rfl))
 f225:=Tryz.func177.trans (congrArg some (by kernel_rfl))
 f266:=Tryz.func224.trans (congrArg some (by kernel_rfl))
 f267:=Tryz.func179.trans (congrArg some (by kernel_rfl))
 f314:=Tryz.func225.trans (congrArg some (by kernel_rfl))
 t3:=Tryz.underlying3
 a3:=Tryz.isAgg3
 z3:=Tryz.sizeOf3
 v3:=Tryz.zeroValue3
 t4:=Tryz.underlying4
 a4:=Tryz.isAgg4
 z4:=Tryz.sizeOf4
 v4:=Tryz.zeroValue4
 t5:=Tryz.underlying5
 a5:=Tryz.isAgg5
 z5:=Tryz.sizeOf5
 v5:=Tryz.zeroValue5
 t9:=Tryz.underlying9
 a9:=Tryz.isAgg9
 z9:=Tryz.sizeOf9
 v9:=Tryz.zeroValue9
 t46:=Tryz.underlying135
 a46:=Tryz.isAgg135
 z46:=Tryz.sizeOf135
 v46:=Tryz.zeroValue135
 t51:=Tryz.underlying162
 a51:=Tryz.isAgg162
 z51:=Tryz.sizeOf162
 v51:=Tryz.zeroValue162
 t146:=Tryz.underlying193
 a146:=Tryz.isAgg193
 z146:=Tryz.sizeOf193
 v146:=Tryz.zeroValue193
 g1:=by kernel_rfl}
open Go.RowKit Go.Lib in
theorem Tryz.strings_Index_one (s:ByteArray) (c:UInt8) (w:World):
 Calls Tryz.prog 94 #[.string s, .string ⟨#[c]⟩] w fun e w'=>e= .returned (.int .i64 (Lib.indexByte s.data.toList c))∧w'=w:=Any.strings_Index_one Tryz.lays143 s c w
def Tryz.lays138_ren:Go.Shelf.Ren:=⟨fun | 138=>154 | 195=>200 | 218=>201 | 143=>94 | 219=>134 | 217=>176 | 225=>177 | 224=>178 | 267=>179 | 266=>224 | 314=>225 | n=>n,fun | 9=>9 | 3=>3 | 4=>4 | 5=>5 | 0=>0 | 46=>135 | 146=>193 | 51=>162 | n=>n,fun | 1=>1 | n=>n⟩
theorem Tryz.lays138:Go.Proofs.Lays.n138 Tryz.prog Tryz.lays138_ren:={
 mixed:=by kernel_rfl
 f138:=Tryz.func154.trans (congrArg some (by kernel_rfl))
 f143:=Tryz.func94.trans (congrArg some (by kernel_rfl))
 f195:=Tryz.func200.trans (congrArg some (by kernel_rfl))
 f217:=Tryz.func176.trans (congrArg some (by kernel_rfl))
 f218:=Tryz.func201.trans (congrArg some (by kernel_rfl))
 f219:=Tryz.func134.trans (congrArg some (by kernel_rfl))
 f224:=Tryz.func178.trans (congrArg some (by kernel_rfl))
 f225:=Tryz.func177.trans (congrArg some (by kernel_rfl))
 f266:=Tryz.func224.trans (congrArg some (by kernel_rfl))
 f267:=Tryz.func179.trans (congrArg some (by kernel_rfl))
 f314:=Tryz.func225.trans (congrArg some (by kernel_rfl))
 t0:=Tryz.underlying0
 a0:=Tryz.isAgg0
 z0:=Tryz.sizeOf0
 v0:=Tryz.zeroValue0
 t3:=Tryz.underlying3
 a3:=Tryz.isAgg3
 z3:=Tryz.sizeOf3
 v3:=Tryz.zeroValue3
 t4:=Tryz.underlying4
 a4:=Tryz.isAgg4
 z4:=Tryz.sizeOf4
 v4:=Tryz.zeroValue4
 t5:=Tryz.underlying5
 a5:=Tryz.isAgg5
 z5:=Tryz.sizeOf5
 v5:=Tryz.zeroValue5
 t9:=Tryz.underlying9
 a9:=Tryz.isAgg9
 z9:=Tryz.sizeOf9
 v9:=Tryz.zeroValue9
 t46:=Tryz.underlying135
 a46:=Tryz.isAgg135
 z46:=Tryz.sizeOf135
 v46:=Tryz.zeroValue135
 t51:=Tryz.underlying162
 a51:=Tryz.isAgg162
 z51:=Tryz.sizeOf162
 v51:=Tryz.zeroValue162
 t146:=Tryz.underlying193
 a146:=Tryz.isAgg193
 z146:=Tryz.sizeOf193
 v146:=Tryz.zeroValue193
 g1:=by kernel_rfl}
open Go.RowKit Go.Lib in
theorem Tryz.strings_Count_one (s:ByteArray) (c:UInt8) (w:World):
 Calls Tryz.prog 154 #[.string s, .string ⟨#[c]⟩] w fun e w'=>e= .returned (.int .i64 (Lib.countByte s.data.toList c))∧w'=w:=Any.strings_Count_one Tryz.lays138 s c w
def Tryz.lays102_ren:Go.Shelf.Ren:=⟨fun | 102=>60 | 209=>102 | 207=>127 | n=>n,fun | 9=>9 | 4=>4 | 3=>3 | n=>n,fun | n=>n⟩
theorem Tryz.lays102:Go.Proofs.Lays.n102 Tryz.prog Tryz.lays102_ren:={
 mixed:=by kernel_rfl
 f102:=Tryz.func60.trans (congrArg some (by kernel_rfl))
 f207:=Tryz.func127.trans (congrArg some (by kernel_rfl))
 f209:=Tryz.func102.trans (congrArg some (by kernel_rfl))
 t3:=Tryz.underlying3
 a3:=Tryz.isAgg3
 z3:=Tryz.sizeOf3
 v3:=Tryz.zeroValue3
 t4:=Tryz.underlying4
 a4:=Tryz.isAgg4
 z4:=Tryz.sizeOf4
 v4:=Tryz.zeroValue4
 t9:=Tryz.underlying9
 a9:=Tryz.isAgg9
 z9:=Tryz.sizeOf9
 v9:=Tryz.zeroValue9}
open Go.RowKit Go.Lib in
theorem Tryz.strings_TrimSuffix (s p:ByteArray) (w:World) (hs:s.size≤9223372036854775807):
 Calls Tryz.prog 60 #[.string s, .string p] w fun e w'=>e= .returned (.string ⟨(Lib.trimSuffix s.data.toList p.data.toList).toArray⟩)∧w'=w:=Any.strings_TrimSuffix Tryz.lays102 s p w hs
def Tryz.lays146_ren:Go.Shelf.Ren:=⟨fun | 146=>59 | 221=>101 | 268=>153 | 138=>154 | 143=>94 | 195=>200 | 197=>164 | 218=>201 | 219=>134 | 260=>212 | 217=>176 | 225=>177 | 224=>178 | 267=>179 | 266=>224 | 314=>225 | n=>n,fun | 9=>9 | 31=>44 | 3=>3 | 4=>4 | 0=>0 | 105=>165 | 21=>21 | 5=>5 | 46=>135 | 119=>267 | 139=>270 | 138=>269 | 146=>193 | 51=>162 | n=>n,fun | 1=>1 | 3=>4 | 4=>5 | n=>n⟩
theorem Tryz.lays146:Go.Proofs.Lays.n146 Tryz.prog Tryz.lays146_ren:={
 mixed:=by kernel_rfl
 f138:=Tryz.func154.trans (congrArg some (by kernel_rfl))
 f143:=Tryz.func94.trans (congrArg some (by kernel_rfl))
 f146:=Tryz.func59.trans (congrArg some (by kernel_rfl))
 f195:=Tryz.func200.trans (congrArg some (by kernel_rfl))
 f197:=Tryz.func164.trans (congrArg some (by kernel_rfl))
 f217:=Tryz.func176.trans (congrArg some (by kernel_rfl))
 f218:=Tryz.func201.trans (congrArg some (by kernel_rfl))
 f219:=Tryz.func134.trans (congrArg some (by kernel_rfl))
 f221:=Tryz.func101.trans (congrArg some (by kernel_rfl))
 f224:=Tryz.func178.trans (congrArg some (by kernel_rfl))
 f225:=Tryz.func177.trans (congrArg some (by kernel_rfl))
 f260:=Tryz.func212.trans (congrArg some (by kernel_rfl))
 f266:=Tryz.func224.trans (congrArg some (by kernel_rfl))
 f267:=Tryz.func179.trans (congrArg some (by kernel_rfl))
 f268:=Tryz.func153.trans (congrArg some (by kernel_rfl))
 f314:=Tryz.func225.trans (congrArg some (by kernel_rfl))
 t0:=Tryz.underlying0
 a0:=Tryz.isAgg0
 z0:=Tryz.sizeOf0
 v0:=Tryz.zeroValue0
 t3:=Tryz.underlying3
 a3:=Tryz.isAgg3
 z3:=Tryz.sizeOf3
 v3:=Tryz.zeroValue3
 t4:=Tryz.underlying4
 a4:=Tryz.isAgg4
 z4:=Tryz.sizeOf4
 v4:=Tryz.zeroValue4
 t5:=Tryz.underlying5
 a5:=Tryz.isAgg5
 z5:=Tryz.sizeOf5
 v5:=Tryz.zeroValue5
 t9:=Tryz.underlying9
 a9:=Tryz.isAgg9
 z9:=Tryz.sizeOf9
 v9:=Tryz.zeroValue9
 t21:=Tryz.underlying21
 a21:=Tryz.isAgg21
 z21:=Tryz.sizeOf21
 v21:=Tryz.zeroValue21
 t31:=Tryz.underlying44
 a31:=Tryz.isAgg44
 z31:=Tryz.sizeOf44
 v31:=Tryz.zeroValue44
 t46:=Tryz.underlying135
 a46:=Tryz.isAgg135
 z46:=Tryz.sizeOf135
 v46:=Tryz.zeroValue135
 t51:=Tryz.underlying162
 a51:=Tryz.isAgg162
 z51:=Tryz.sizeOf162
 v51:=Tryz.zeroValue162
 t105:=Tryz.underlying165
 a105:=Tryz.isAgg165
 z105:=Tryz.sizeOf165
 v105:=Tryz.zeroValue165
 t119:=Tryz.underlying267
 a119:=Tryz.isAgg267
 z119:=Tryz.sizeOf267
 t138:=Tryz.underlying269
 a138:=Tryz.isAgg269
 z138:=Tryz.sizeOf269
 v138:=Tryz.zeroValue269
 t139:=Tryz.underlying270
 a139:=Tryz.isAgg270
 z139:=Tryz.sizeOf270
 v139:=Tryz.zeroValue270
 t146:=Tryz.underlying193
 a146:=Tryz.isAgg193
 z146:=Tryz.sizeOf193
 v146:=Tryz.zeroValue193
 g1:=by kernel_rfl
 g3:=by kernel_rfl
 g4:=by kernel_rfl}
end Go.Proofs
