import Derived.Test.YtaijhllckmndhaaGreatDoorYJ0
import Derived.Test.YtaijhllckmndhaaGreatDoorYJ16
import Derived.Shelf.Strings.Split
import Derived.Shelf.Strings.FieldsFuncAny
import Derived.Shelf.Strings.Prefix
set_option linter.all false
set_option maxHeartbeats 64000000
set_option maxRecDepth 100000
namespace Go.Proofs
open Go.Shelf
def Tryz.lays143_ren:Go.Shelf.Ren:=⟨fun| 143=>167| 219=>236| 217=>285| 225=>286| 224=>287| 267=>288| 266=>307| 314=>308|n=>n,fun| 9=>9| 3=>3| 4=>4| 5=>5| 46=>103| 146=>270| 51=>160|n=>n,fun| 1=>3|n=>n⟩
def Tryz.lays143:Go.Proofs.Lays.n143 Tryz.prog Tryz.lays143_ren:={
 mixed:=by kernel_rfl
 f143:=Tryz.func167.trans (congrArg some (by kernel_rfl))
 f217:=Tryz.func285.trans (congrArg some (by kernel_rfl))
 f219:=Tryz.func236.trans (congrArg some (by kernel_rfl))
 f224:=Tryz.func287.trans (congrArg some (by kernel_rfl))
 f225:=Tryz.func286.trans (congrArg some (by kernel_rfl))
 f266:=Tryz.func307.trans (congrArg some (by kernel_rfl))
 f267:=Tryz.func288.trans (congrArg some (by kernel_rfl))
 f314:=Tryz.func308.trans (congrArg some (by kernel_rfl))
 t3:=Tryz.underlying3
 a3:=Tryz.isAgg3
 z3:=Tryz.sizeOf3
 v3:=Tryz.zeroValue3
 t4:=Tryz.underlying4
 a4:=Tryz.isAgg4
 z4:=Tryz.sizeOf4
 v4:=Tryz.zeroValue4
 t5:=Tryz.underlying5
 a5:=Tryz.isAgg5
 z5:=Tryz.sizeOf5
 v5:=Tryz.zeroValue5
 t9:=Tryz.underlying9
 a9:=Tryz.isAgg9
 z9:=Tryz.sizeOf9
 v9:=Tryz.zeroValue9
 t46:=Tryz.underlying103
 a46:=Tryz.isAgg103
 z46:=Tryz.sizeOf103
 v46:=Tryz.zeroValue103
 t51:=Tryz.underlying160
 a51:=Tryz.isAgg160
 z51:=Tryz.sizeOf160
 v51:=Tryz.zeroValue160
 t146:=Tryz.underlying270
 a146:=Tryz.isAgg270
 z146:=Tryz.sizeOf270
 v146:=Tryz.zeroValue270
 g1:=by kernel_rfl}
open Go.RowKit Go.Lib in
def Tryz.strings_Index_one(s:ByteArray)(c:UInt8)(w:World):
 Calls Tryz.prog 167 #[.string s, .string ⟨#[c]⟩] w fun e w'=>e= .returned (.int .i64 (Lib.indexByte s.data.toList c))∧w'=w:=Any.strings_Index_one Tryz.lays143 s c w
def Tryz.lays138_ren:Go.Shelf.Ren:=⟨fun| 138=>166| 195=>234| 218=>235| 143=>167| 219=>236| 217=>285| 225=>286| 224=>287| 267=>288| 266=>307| 314=>308|n=>n,fun| 9=>9| 3=>3| 4=>4| 5=>5| 0=>0| 46=>103| 146=>270| 51=>160|n=>n,fun| 1=>3|n=>n⟩
def Tryz.lays138:Go.Proofs.Lays.n138 Tryz.prog Tryz.lays138_ren:={
 mixed:=by kernel_rfl
 f138:=Tryz.func166.trans (congrArg some (by kernel_rfl))
 f143:=Tryz.func167.trans (congrArg some (by kernel_rfl))
 f195:=Tryz.func234.trans (congrArg some (by kernel_rfl))
 f217:=Tryz.func285.trans (congrArg some (by kernel_rfl))
 f218:=Tryz.func235.trans (congrArg some (by kernel_rfl))
 f219:=Tryz.func236.trans (congrArg some (by kernel_rfl))
 f224:=Tryz.func287.trans (congrArg some (by kernel_rfl))
 f225:=Tryz.func286.trans (congrArg some (by kernel_rfl))
 f266:=Tryz.func307.trans (congrArg some (by kernel_rfl))
 f267:=Tryz.func288.trans (congrArg some (by kernel_rfl))
 f314:=Tryz.func308.trans (congrArg some (by kernel_rfl))
 t0:=Tryz.underlying0
 a0:=Tryz.isAgg0
 z0:=Tryz.sizeOf0
 v0:=Tryz.zeroValue0
 t3:=Tryz.underlying3
 a3:=Tryz.isAgg3
 z3:=Tryz.sizeOf3
 v3:=Tryz.zeroValue3
 t4:=Tryz.underlying4
 a4:=Tryz.isAgg4
 z4:=Tryz.sizeOf4
 v4:=Tryz.zeroValue4
 t5:=Tryz.underlying5
 a5:=Tryz.isAgg5
 z5:=Tryz.sizeOf5
 v5:=Tryz.zeroValue5
 t9:=Tryz.underlying9
 a9:=Tryz.isAgg9
 z9:=Tryz.sizeOf9
 v9:=Tryz.zeroValue9
 t46:=Tryz.underlying103
 a46:=Tryz.isAgg103
 z46:=Tryz.sizeOf103
 v46:=Tryz.zeroValue103
 t51:=Tryz.underlying160
 a51:=Tryz.isAgg160
 z51:=Tryz.sizeOf160
 v51:=Tryz.zeroValue160
 t146:=Tryz.underlying270
 a146:=Tryz.isAgg270
 z146:=Tryz.sizeOf270
 v146:=Tryz.zeroValue270
 g1:=by kernel_rfl}
open Go.RowKit Go.Lib in
def Tryz.strings_Count_one(s:ByteArray)(c:UInt8)(w:World):
 Calls Tryz.prog 166 #[.string s, .string ⟨#[c]⟩] w fun e w'=>e= .returned (.int .i64 (Lib.countByte s.data.toList c))∧w'=w:=Any.strings_Count_one Tryz.lays138 s c w
def Tryz.lays102_ren:Go.Shelf.Ren:=⟨fun| 102=>66| 209=>110| 207=>168|n=>n,fun| 9=>9| 4=>4| 3=>3|n=>n,fun|n=>n⟩
def Tryz.lays102:Go.Proofs.Lays.n102 Tryz.prog Tryz.lays102_ren:={
 mixed:=by kernel_rfl
 f102:=Tryz.func66.trans (congrArg some (by kernel_rfl))
 f207:=Tryz.func168.trans (congrArg some (by kernel_rfl))
 f209:=Tryz.func110.trans (congrArg some (by kernel_rfl))
 t3:=Tryz.underlying3
 a3:=Tryz.isAgg3
 z3:=Tryz.sizeOf3
 v3:=Tryz.zeroValue3
 t4:=Tryz.underlying4
 a4:=Tryz.isAgg4
 z4:=Tryz.sizeOf4
 v4:=Tryz.zeroValue4
 t9:=Tryz.underlying9
 a9:=Tryz.isAgg9
 z9:=Tryz.sizeOf9
 v9:=Tryz.zeroValue9}
open Go.RowKit Go.Lib in
def Tryz.strings_TrimSuffix(s p:ByteArray)(w:World)(hs:s.size≤9223372036854775807):
 Calls Tryz.prog 66 #[.string s, .string p] w fun e w'=>e= .returned (.string ⟨(Lib.trimSuffix s.data.toList p.data.toList).toArray⟩)∧w'=w:=Any.strings_TrimSuffix Tryz.lays102 s p w hs
def Tryz.lays146_ren:Go.Shelf.Ren:=⟨fun| 146=>65| 221=>109| 268=>165| 138=>166| 143=>167| 195=>234| 197=>170| 218=>235| 219=>236| 260=>237| 217=>285| 225=>286| 224=>287| 267=>288| 266=>307| 314=>308|n=>n,fun| 9=>9| 31=>42| 3=>3| 4=>4| 0=>0| 105=>201| 21=>21| 5=>5| 46=>103| 119=>280| 139=>283| 138=>282| 146=>270| 51=>160|n=>n,fun| 1=>3| 3=>4| 4=>5|n=>n⟩
def Tryz.lays146:Go.Proofs.Lays.n146 Tryz.prog Tryz.lays146_ren:={
 mixed:=by kernel_rfl
 f138:=Tryz.func166.trans (congrArg some (by kernel_rfl))
 f143:=Tryz.func167.trans (congrArg some (by kernel_rfl))
 f146:=Tryz.func65.trans (congrArg some (by kernel_rfl))
 f195:=Tryz.func234.trans (congrArg some (by kernel_rfl))
 f197:=Tryz.func170.trans (congrArg some (by kernel_rfl))
 f217:=Tryz.func285.trans (congrArg some (by kernel_rfl))
 f218:=Tryz.func235.trans (congrArg some (by kernel_rfl))
 f219:=Tryz.func236.trans (congrArg some (by kernel_rfl))
 f221:=Tryz.func109.trans (congrArg some (by kernel_rfl))
 f224:=Tryz.func287.trans (congrArg some (by kernel_rfl))
 f225:=Tryz.func286.trans (congrArg some (by kernel_rfl))
 f260:=Tryz.func237.trans (congrArg some (by kernel_rfl))
 f266:=Tryz.func307.trans (congrArg some (by kernel_rfl))
 f267:=Tryz.func288.trans (congrArg some (by kernel_rfl))
 f268:=Tryz.func165.trans (congrArg some (by kernel_rfl))
 f314:=Tryz.func308.trans (congrArg some (by kernel_rfl))
 t0:=Tryz.underlying0
 a0:=Tryz.isAgg0
 z0:=Tryz.sizeOf0
 v0:=Tryz.zeroValue0
 t3:=Tryz.underlying3
 a3:=Tryz.isAgg3
 z3:=Tryz.sizeOf3
 v3:=Tryz.zeroValue3
 t4:=Tryz.underlying4
 a4:=Tryz.isAgg4
 z4:=Tryz.sizeOf4
 v4:=Tryz.zeroValue4
 t5:=Tryz.underlying5
 a5:=Tryz.isAgg5
 z5:=Tryz.sizeOf5
 v5:=Tryz.zeroValue5
 t9:=Tryz.underlying9
 a9:=Tryz.isAgg9
 z9:=Tryz.sizeOf9
 v9:=Tryz.zeroValue9
 t21:=Tryz.underlying21
 a21:=Tryz.isAgg21
 z21:=Tryz.sizeOf21
 v21:=Tryz.zeroValue21
 t31:=Tryz.underlying42
 a31:=Tryz.isAgg42
 z31:=Tryz.sizeOf42
 v31:=Tryz.zeroValue42
 t46:=Tryz.underlying103
 a46:=Tryz.isAgg103
 z46:=Tryz.sizeOf103
 v46:=Tryz.zeroValue103
 t51:=Tryz.underlying160
 a51:=Tryz.isAgg160
 z51:=Tryz.sizeOf160
 v51:=Tryz.zeroValue160
 t105:=Tryz.underlying201
 a105:=Tryz.isAgg201
 z105:=Tryz.sizeOf201
 v105:=Tryz.zeroValue201
 t119:=Tryz.underlying280
 a119:=Tryz.isAgg280
 z119:=Tryz.sizeOf280
 t138:=Tryz.underlying282
 a138:=Tryz.isAgg282
 z138:=Tryz.sizeOf282
 v138:=Tryz.zeroValue282
 t139:=Tryz.underlying283
 a139:=Tryz.isAgg283
 z139:=Tryz.sizeOf283
 v139:=Tryz.zeroValue283
 t146:=Tryz.underlying270
 a146:=Tryz.isAgg270
 z146:=Tryz.sizeOf270
 v146:=Tryz.zeroValue270
 g1:=by kernel_rfl
 g3:=by kernel_rfl
 g4:=by kernel_rfl}
open Go.RowKit Go.Lib in
def Tryz.lays229_ren:Go.Shelf.Ren:=⟨fun| 229=>111|n=>n,fun| 9=>9| 40=>149| 31=>42| 152=>197| 3=>3| 0=>0| 4=>4| 21=>21| 154=>199|n=>n,fun|n=>n⟩
def Tryz.lays229:Go.Proofs.Lays.n229 Tryz.prog Tryz.lays229_ren:={
 mixed:=by kernel_rfl
 f229:=Tryz.func111.trans (congrArg some (by kernel_rfl))
 t0:=Tryz.underlying0
 a0:=Tryz.isAgg0
 z0:=Tryz.sizeOf0
 v0:=Tryz.zeroValue0
 t3:=Tryz.underlying3
 a3:=Tryz.isAgg3
 z3:=Tryz.sizeOf3
 v3:=Tryz.zeroValue3
 t4:=Tryz.underlying4
 a4:=Tryz.isAgg4
 z4:=Tryz.sizeOf4
 v4:=Tryz.zeroValue4
 t9:=Tryz.underlying9
 a9:=Tryz.isAgg9
 z9:=Tryz.sizeOf9
 v9:=Tryz.zeroValue9
 t21:=Tryz.underlying21
 a21:=Tryz.isAgg21
 z21:=Tryz.sizeOf21
 v21:=Tryz.zeroValue21
 t31:=Tryz.underlying42
 a31:=Tryz.isAgg42
 z31:=Tryz.sizeOf42
 v31:=Tryz.zeroValue42
 t40:=Tryz.underlying149
 a40:=Tryz.isAgg149
 z40:=Tryz.sizeOf149
 v40:=Tryz.zeroValue149
 t152:=Tryz.underlying197
 a152:=Tryz.isAgg197
 z152:=Tryz.sizeOf197
 v152:=Tryz.zeroValue197
 t154:=Tryz.underlying199
 a154:=Tryz.isAgg199
 z154:=Tryz.sizeOf199
 v154:=Tryz.zeroValue199}
open Go.RowKit Go.Lib in
def Tryz.strings_FieldsFunc_runes(g:Nat)(lb:Array Value)(eg:∀args w,(callFunc g args).run Tryz.prog w= .ok (.enter g args) w)(p:Nat→Bool)(s:ByteArray)(w:World)(hs:s.size≤4294967296)(hp:PredAtRunes Tryz.prog g lb p w):
 Calls Tryz.prog 111 #[.string s, .func (.func g) #[] lb] w fun e w'=>∃A,e= .returned (.slice (some ⟨A,0,none⟩) (Lib.goFieldsP p s).length (Lib.goFieldsP p s).length)∧w.heap.size≤A∧
  w'.ownsRow w.heap.size 9 1 (.slice (some ⟨A,0,none⟩) (Lib.goFieldsP p s).length (Lib.goFieldsP p s).length) (Lib.goFieldsP p s).length ((Lib.goFieldsP p s).map Value.string)∧Below w.heap.size w w':=Any.strings_FieldsFunc_runes Tryz.lays229 g lb eg p s w hs hp (by kernel_rfl) (by kernel_rfl)
end Go.Proofs
