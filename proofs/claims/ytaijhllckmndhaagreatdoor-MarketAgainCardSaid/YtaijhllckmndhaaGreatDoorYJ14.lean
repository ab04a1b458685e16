import Derived.Test.YtaijhllckmndhaaGreatDoorYJ0
import Derived.Test.YtaijhllckmndhaaGreatDoorYJ13
import Derived.Shelf.Strings.Builder1
import Derived.Shelf.Strings.Builder2
import Derived.Shelf.Strings.OnBuilder
import Derived.Shelf.Strings.BuilderF
import Derived.Shelf.Strconv.Itoa0
import Derived.Shelf.Strconv.Itoa1
import Derived.Shelf.LaysM
import Derived.Shelf.Strconv.Itoa2
import Derived.Shelf.Strconv.Itoa3
import Derived.Shelf.Strings.Repeat
import Derived.Ground.Names2Prog
import Derived.Shelf.Slices.ReverseS
import Derived.Shelf.Slices.Cells
import Derived.Shelf.Strconv.Atoi
import Derived.Shelf.GgClosure.StringsIndexFunc
import Derived.Ground.GgwProg
import Derived.Shelf.GgClosure.StringsIndexFuncTop
import Derived.Shelf.GgClosure.StringsRunes
import Derived.Shelf.Strings.Prefix
set_option linter.all false
set_option maxHeartbeats 64000000
set_option maxRecDepth 100000
namespace Go.Proofs
open Go.Shelf
def Tryz.lays156_ren:Go.Shelf.Ren:=⟨fun| 156=>50| 165=>99| 166=>100| 169=>101| 240=>153| 241=>154| 276=>223| 277=>224|n=>n,fun| 31=>42| 9=>9| 3=>3| 4=>4| 0=>0| 20=>20| 72=>138| 76=>142| 70=>136| 37=>22| 75=>141| 127=>189| 164=>238| 5=>5| 80=>144|n=>n,fun|n=>n⟩
def Tryz.lays156:Go.Proofs.Lays.n156 Tryz.prog Tryz.lays156_ren:={
 mixed:=by kernel_rfl
 f156:=Tryz.func50.trans (congrArg some (by kernel_rfl))
 f165:=Tryz.func99.trans (congrArg some (by kernel_rfl))
 f166:=Tryz.func100.trans (congrArg some (by kernel_rfl))
 f169:=Tryz.func101.trans (congrArg some (by kernel_rfl))
 f240:=Tryz.func153.trans (congrArg some (by kernel_rfl))
 f241:=Tryz.func154.trans (congrArg some (by kernel_rfl))
 f276:=Tryz.func223.trans (congrArg some (by kernel_rfl))
 f277:=Tryz.func224.trans (congrArg some (by kernel_rfl))
 t0:=Tryz.underlying0
 a0:=Tryz.isAgg0
 z0:=Tryz.sizeOf0
 v0:=Tryz.zeroValue0
 t3:=Tryz.underlying3
 a3:=Tryz.isAgg3
 z3:=Tryz.sizeOf3
 v3:=Tryz.zeroValue3
 t4:=Tryz.underlying4
 a4:=Tryz.isAgg4
 z4:=Tryz.sizeOf4
 v4:=Tryz.zeroValue4
 t9:=Tryz.underlying9
 a9:=Tryz.isAgg9
 z9:=Tryz.sizeOf9
 v9:=Tryz.zeroValue9
 t20:=Tryz.underlying20
 a20:=Tryz.isAgg20
 z20:=Tryz.sizeOf20
 v20:=Tryz.zeroValue20
 t31:=Tryz.underlying42
 a31:=Tryz.isAgg42
 z31:=Tryz.sizeOf42
 v31:=Tryz.zeroValue42
 t37:=Tryz.underlying22
 a37:=Tryz.isAgg22
 z37:=Tryz.sizeOf22
 v37:=Tryz.zeroValue22
 t70:=Tryz.underlying136
 a70:=Tryz.isAgg136
 z70:=Tryz.sizeOf136
 v70:=Tryz.zeroValue136
 t72:=Tryz.underlying138
 a72:=Tryz.isAgg138
 z72:=Tryz.sizeOf138
 v72:=Tryz.zeroValue138
 t75:=Tryz.underlying141
 a75:=Tryz.isAgg141
 z75:=Tryz.sizeOf141
 v75:=Tryz.zeroValue141
 t76:=Tryz.underlying142
 a76:=Tryz.isAgg142
 z76:=Tryz.sizeOf142
 v76:=Tryz.zeroValue142
 t127:=Tryz.underlying189
 a127:=Tryz.isAgg189
 z127:=Tryz.sizeOf189
 v127:=Tryz.zeroValue189
 t164:=Tryz.underlying238
 a164:=Tryz.isAgg238
 z164:=Tryz.sizeOf238
 v164:=Tryz.zeroValue238}
def Tryz.Builder_Extra_156:Builder.Extra Tryz.prog Tryz.lays156_ren:={
 sizeBuilder:=by kernel_rfl
 liesBuilder:=by kernel_rfl
 t5:=Tryz.underlying5
 a5:=Tryz.isAgg5
 z5:=Tryz.sizeOf5
 v5:=Tryz.zeroValue5
 infoByte:=by kernel_rfl
 cellsByte:=by kernel_rfl
 sizeByte:=by kernel_rfl
 neB5:=by decide}
open Go.RowKit in
def Tryz.strings_Join(bk o c:Nat)(xs:List ByteArray)(sep:ByteArray)(w:World)(hcells:∀(j:Nat) x,xs[j]? =some x→w.cell? ⟨bk,o+j,none⟩=some (.string x))(hbk:bk<w.heap.size)(hN:xs.length≤140737488355328)(hcap:xs.length≤c)(hlen:(Lib.join (xs.map (·.data.toList)) sep.data.toList).length≤140737488355328):
 Calls Tryz.prog 50 #[.slice (some ⟨bk,o,none⟩) xs.length c, .string sep] w fun e w'=>e= .returned (.string ⟨(Lib.join (xs.map (·.data.toList)) sep.data.toList).toArray⟩)∧Below w.heap.size w w':=Any.strings_Join Tryz.lays156 Tryz.Builder_Extra_156 bk o c xs sep w hcells hbk hN hcap hlen
def Tryz.laysM171_ren:Go.Shelf.Ren:=⟨fun| 171=>48| 243=>95| 246=>142| 283=>205| 284=>206| 285=>207| 286=>208| 129=>268| 317=>267| 318=>269| 319=>270| 320=>271| 337=>263| 338=>302|n=>n,fun| 3=>3| 9=>9| 2=>2| 4=>4| 171=>223| 0=>0| 53=>50| 37=>22| 5=>5| 173=>226| 212=>264| 51=>160| 20=>20| 213=>265| 46=>103| 232=>293| 233=>305|n=>n,fun| 17=>2| 18=>6| 19=>9|n=>n⟩
def Tryz.laysM171:Go.Proofs.LaysM.n171 Tryz.prog Tryz.laysM171_ren:={
 mixed:=by kernel_rfl
 f129:=Tryz.func268.trans (congrArg some (by kernel_rfl))
 f171:=Tryz.func48.trans (congrArg some (by kernel_rfl))
 f243:=Tryz.func95.trans (congrArg some (by kernel_rfl))
 f246:=Tryz.func142.trans (congrArg some (by kernel_rfl))
 f283:=Tryz.func205.trans (congrArg some (by kernel_rfl))
 f284:=Tryz.func206.trans (congrArg some (by kernel_rfl))
 f285:=Tryz.func207.trans (congrArg some (by kernel_rfl))
 f286:=Tryz.func208.trans (congrArg some (by kernel_rfl))
 f317:=Tryz.func267.trans (congrArg some (by kernel_rfl))
 f318:=Tryz.func269.trans (congrArg some (by kernel_rfl))
 f319:=Tryz.func270.trans (congrArg some (by kernel_rfl))
 f320:=Tryz.func271.trans (congrArg some (by kernel_rfl))
 f337:=Tryz.func263.trans (congrArg some (by kernel_rfl))
 f338:=Tryz.func302.trans (congrArg some (by kernel_rfl))
 t0:=Tryz.underlying0
 a0:=Tryz.isAgg0
 z0:=Tryz.sizeOf0
 v0:=Tryz.zeroValue0
 t2:=Tryz.underlying2
 a2:=Tryz.isAgg2
 z2:=Tryz.sizeOf2
 v2:=Tryz.zeroValue2
 t3:=Tryz.underlying3
 a3:=Tryz.isAgg3
 z3:=Tryz.sizeOf3
 v3:=Tryz.zeroValue3
 t4:=Tryz.underlying4
 a4:=Tryz.isAgg4
 z4:=Tryz.sizeOf4
 v4:=Tryz.zeroValue4
 t5:=Tryz.underlying5
 a5:=Tryz.isAgg5
 z5:=Tryz.sizeOf5
 v5:=Tryz.zeroValue5
 t9:=Tryz.underlying9
 a9:=Tryz.isAgg9
 z9:=Tryz.sizeOf9
 v9:=Tryz.zeroValue9
 t20:=Tryz.underlying20
 a20:=Tryz.isAgg20
 z20:=Tryz.sizeOf20
 v20:=Tryz.zeroValue20
 t37:=Tryz.underlying22
 a37:=Tryz.isAgg22
 z37:=Tryz.sizeOf22
 v37:=Tryz.zeroValue22
 t46:=Tryz.underlying103
 a46:=Tryz.isAgg103
 z46:=Tryz.sizeOf103
 v46:=Tryz.zeroValue103
 t51:=Tryz.underlying160
 a51:=Tryz.isAgg160
 z51:=Tryz.sizeOf160
 v51:=Tryz.zeroValue160
 t53:=Tryz.underlying50
 a53:=Tryz.isAgg50
 z53:=Tryz.sizeOf50
 v53:=Tryz.zeroValue50
 t171:=Tryz.underlying223
 a171:=Tryz.isAgg223
 z171:=Tryz.sizeOf223
 v171:=Tryz.zeroValue223
 t173:=Tryz.underlying226
 a173:=Tryz.isAgg226
 z173:=Tryz.sizeOf226
 v173:=Tryz.zeroValue226
 t212:=Tryz.underlying264
 a212:=Tryz.isAgg264
 z212:=Tryz.sizeOf264
 v212:=Tryz.zeroValue264
 t213:=Tryz.underlying265
 a213:=Tryz.isAgg265
 z213:=Tryz.sizeOf265
 t232:=Tryz.underlying293
 a232:=Tryz.isAgg293
 z232:=Tryz.sizeOf293
 v232:=Tryz.zeroValue293
 t233:=Tryz.underlying305
 a233:=Tryz.isAgg305
 z233:=Tryz.sizeOf305
 v233:=Tryz.zeroValue305
 g17:=by kernel_rfl
 g18:=by kernel_rfl
 g19:=by kernel_rfl
 i0:=by kernel_rfl
 i2:=by kernel_rfl
 i3:=by kernel_rfl
 i4:=by kernel_rfl
 i5:=by kernel_rfl
 i9:=by kernel_rfl
 i20:=by kernel_rfl
 i37:=by kernel_rfl
 i46:=by kernel_rfl
 i51:=by kernel_rfl
 i53:=by kernel_rfl
 i171:=by kernel_rfl
 i173:=by kernel_rfl
 i212:=by kernel_rfl
 i232:=by kernel_rfl
 i233:=by kernel_rfl
 m17:=by kernel_rfl
 m18:=by kernel_rfl
 m19:=by kernel_rfl}
open Go.RowKit Go.Sort Go.Lib in
def Tryz.strconv_Itoa(n:Int)(h0: -9223372036854775808≤n)(h1:n≤9223372036854775807)(w:World)(htab:Lib.TabIs Tryz.prog w "internal/strconv.uint64pow10" .u64 Lib.pow10Tab):
 Calls Tryz.prog 48 #[.int .i64 n] w fun e w'=>e= .returned (.string ⟨(Lib.itoa n).toArray⟩)∧∃k os,w'=grow (w.drewN k) os:=Any.strconv_Itoa Tryz.laysM171 n h0 h1 w htab
def Tryz.lays105_ren:Go.Shelf.Ren:=⟨fun| 105=>148| 212=>217| 99=>172| 165=>99| 166=>100| 170=>218| 169=>101| 263=>275| 264=>276| 206=>239| 240=>153| 241=>154| 276=>223| 277=>224|n=>n,fun| 9=>9| 3=>3| 4=>4| 20=>20| 0=>0| 46=>103| 109=>231| 5=>5| 72=>138| 76=>142| 51=>160| 146=>270| 53=>50| 148=>272| 70=>136| 37=>22| 75=>141| 127=>189| 164=>238| 80=>144|n=>n,fun|n=>n⟩
def Tryz.lays105:Go.Proofs.Lays.n105 Tryz.prog Tryz.lays105_ren:={
 mixed:=by kernel_rfl
 f99:=Tryz.func172.trans (congrArg some (by kernel_rfl))
 f105:=Tryz.func148.trans (congrArg some (by kernel_rfl))
 f165:=Tryz.func99.trans (congrArg some (by kernel_rfl))
 f166:=Tryz.func100.trans (congrArg some (by kernel_rfl))
 f169:=Tryz.func101.trans (congrArg some (by kernel_rfl))
 f170:=Tryz.func218.trans (congrArg some (by kernel_rfl))
 f206:=Tryz.func239.trans (congrArg some (by kernel_rfl))
 f212:=Tryz.func217.trans (congrArg some (by kernel_rfl))
 f240:=Tryz.func153.trans (congrArg some (by kernel_rfl))
 f241:=Tryz.func154.trans (congrArg some (by kernel_rfl))
 f263:=Tryz.func275.trans (congrArg some (by kernel_rfl))
 f264:=Tryz.func276.trans (congrArg some (by kernel_rfl))
 f276:=Tryz.func223.trans (congrArg some (by kernel_rfl))
 f277:=Tryz.func224.trans (congrArg some (by kernel_rfl))
 t0:=Tryz.underlying0
 a0:=Tryz.isAgg0
 z0:=Tryz.sizeOf0
 v0:=Tryz.zeroValue0
 t3:=Tryz.underlying3
 a3:=Tryz.isAgg3
 z3:=Tryz.sizeOf3
 v3:=Tryz.zeroValue3
 t4:=Tryz.underlying4
 a4:=Tryz.isAgg4
 z4:=Tryz.sizeOf4
 v4:=Tryz.zeroValue4
 t5:=Tryz.underlying5
 a5:=Tryz.isAgg5
 z5:=Tryz.sizeOf5
 v5:=Tryz.zeroValue5
 t9:=Tryz.underlying9
 a9:=Tryz.isAgg9
 z9:=Tryz.sizeOf9
 v9:=Tryz.zeroValue9
 t20:=Tryz.underlying20
 a20:=Tryz.isAgg20
 z20:=Tryz.sizeOf20
 v20:=Tryz.zeroValue20
 t37:=Tryz.underlying22
 a37:=Tryz.isAgg22
 z37:=Tryz.sizeOf22
 v37:=Tryz.zeroValue22
 t46:=Tryz.underlying103
 a46:=Tryz.isAgg103
 z46:=Tryz.sizeOf103
 v46:=Tryz.zeroValue103
 t51:=Tryz.underlying160
 a51:=Tryz.isAgg160
 z51:=Tryz.sizeOf160
 v51:=Tryz.zeroValue160
 t53:=Tryz.underlying50
 a53:=Tryz.isAgg50
 z53:=Tryz.sizeOf50
 v53:=Tryz.zeroValue50
 t70:=Tryz.underlying136
 a70:=Tryz.isAgg136
 z70:=Tryz.sizeOf136
 v70:=Tryz.zeroValue136
 t72:=Tryz.underlying138
 a72:=Tryz.isAgg138
 z72:=Tryz.sizeOf138
 v72:=Tryz.zeroValue138
 t75:=Tryz.underlying141
 a75:=Tryz.isAgg141
 z75:=Tryz.sizeOf141
 v75:=Tryz.zeroValue141
 t76:=Tryz.underlying142
 a76:=Tryz.isAgg142
 z76:=Tryz.sizeOf142
 v76:=Tryz.zeroValue142
 t109:=Tryz.underlying231
 a109:=Tryz.isAgg231
 z109:=Tryz.sizeOf231
 v109:=Tryz.zeroValue231
 t127:=Tryz.underlying189
 a127:=Tryz.isAgg189
 z127:=Tryz.sizeOf189
 v127:=Tryz.zeroValue189
 t146:=Tryz.underlying270
 a146:=Tryz.isAgg270
 z146:=Tryz.sizeOf270
 v146:=Tryz.zeroValue270
 t148:=Tryz.underlying272
 a148:=Tryz.isAgg272
 z148:=Tryz.sizeOf272
 v148:=Tryz.zeroValue272
 t164:=Tryz.underlying238
 a164:=Tryz.isAgg238
 z164:=Tryz.sizeOf238
 v164:=Tryz.zeroValue238}
def Tryz.Builder_Extra_105:Builder.Extra Tryz.prog Tryz.lays105_ren:={
 sizeBuilder:=by kernel_rfl
 liesBuilder:=by kernel_rfl
 t5:=Tryz.underlying5
 a5:=Tryz.isAgg5
 z5:=Tryz.sizeOf5
 v5:=Tryz.zeroValue5
 infoByte:=by kernel_rfl
 cellsByte:=by kernel_rfl
 sizeByte:=by kernel_rfl
 neB5:=by decide}
open Go.RowKit Go.Lib in
def Tryz.strings_Repeat(s:ByteArray)(c:Nat)(w:World)(hc:c≤9223372036854775807)(hlen:s.size*c≤140737488355328):
 Calls Tryz.prog 148 #[.string s, .int .i64 c] w fun e w'=>e= .returned (.string ⟨(Lib.repeatL s.data.toList c).toArray⟩)∧Below w.heap.size w w':=Any.strings_Repeat Tryz.lays105 Tryz.Builder_Extra_105 s c w hc hlen
def Tryz.laysNm217_ren:Go.Shelf.Ren:=⟨fun| 17=>149|n=>n,fun| 24=>42| 9=>9| 3=>3| 4=>4| 0=>0|n=>n,fun|n=>n⟩
def Tryz.laysNm217:Go.Proofs.Lays2.n17 Tryz.prog Tryz.laysNm217_ren:={
 mixed:=by kernel_rfl
 f17:=Tryz.func149.trans (congrArg some (by kernel_rfl))
 t0:=Tryz.underlying0
 a0:=Tryz.isAgg0
 z0:=Tryz.sizeOf0
 v0:=Tryz.zeroValue0
 t3:=Tryz.underlying3
 a3:=Tryz.isAgg3
 z3:=Tryz.sizeOf3
 v3:=Tryz.zeroValue3
 t4:=Tryz.underlying4
 a4:=Tryz.isAgg4
 z4:=Tryz.sizeOf4
 v4:=Tryz.zeroValue4
 t9:=Tryz.underlying9
 a9:=Tryz.isAgg9
 z9:=Tryz.sizeOf9
 v9:=Tryz.zeroValue9
 t24:=Tryz.underlying42
 a24:=Tryz.isAgg42
 z24:=Tryz.sizeOf42
 v24:=Tryz.zeroValue42}
open Go.RowKit Go.Lib Go.Sort in
def Tryz.slices_Reverse_string_cells(b off n c:Nat)(Sx:Nat→ByteArray)(w:World)(hbig:n≤9223372036854775807)(hc:∀i,i<n→w.cell? ⟨b,off+i,none⟩=some (.string (Sx i)))(hf:∀j,j<n→w.frozen? ⟨b,off+j,none⟩=false):
 Calls Tryz.prog 149 #[.slice (some ⟨b,off,none⟩) n c] w fun e w'=>e= .returned (.tuple #[])∧∃q,w'=(w.drewN q).setCells b off ((Lib.strsOf Sx n).reverse.map encStr):=Any.slices_Reverse_string_cells Tryz.laysNm217 b off n c Sx w hbig hc hf
end Go.Proofs
namespace Go.Proofs.YtaijhllckmndhaaGreatDoor
open Go.RowKit
def Fr.grow(w:World)(k:Nat)(os:Array Obj):Fr [] w (Sort.grow (w.drewN k) os):=by
 refine⟨rfl,rfl,rfl,?_,fun i hi _=>?_⟩
 ·show w.heap.size≤(w.heap++os).size
  simp
 ·show(w.heap++os)[i]? =w.heap[i]?
  rw[Array.getElem?_append_left hi]
def TabIs.fr{P:Program}{w w':World}{n:String}{k:IntKind}{zs:List Int}(h:Lib.TabIs P w n k zs)(hf:Fr [] w w'):Lib.TabIs P w' n k zs:=by
 unfold Lib.TabIs World.var? at*
 cases hg:P.globalNamed n with
 | none=>rw[hg]at h;simp at h
 | some g=>
  rw[hg]at h;simp only[Option.bind_some]at h ⊢
  cases hb:w.heap[g]? with
  | none=>rw[hb]at h;simp at h
  | some o=>
   have hlt:g<w.heap.size:=(Array.getElem?_eq_some_iff.1 hb).1;rw[hf.block g hlt (by simp),hb];rw[hb]at h;exact h
def zqx(x:Nat)(hx:x≤9223372036854775807)(w:World)(ht:Lib.TabIs Tryz.prog w "internal/strconv.uint64pow10" .u64 Lib.pow10Tab):
 Calls Tryz.prog 48 #[.int .i64 (x:Int)] w fun e w'=>e= .returned (ze (Lib.decDigits x))∧Fr [] w w':=by
 refine Calls.mono (Tryz.strconv_Itoa (x:Int) (by omega) (by omega) w ht) ?_;rintro e w' ⟨rfl,k,os,rfl⟩;refine⟨?_,Fr.grow w k os⟩;rw[Lib.itoa,if_neg (by omega)]
 rfl
end Go.Proofs.YtaijhllckmndhaaGreatDoor
namespace Go.Proofs.YtaijhllckmndhaaGreatDoor
open Go.RowKit
end Go.Proofs.YtaijhllckmndhaaGreatDoor
namespace Go.Proofs.YtaijhllckmndhaaGreatDoor
open Go.RowKit
section
variable {P:Program} {w:World} {a:Act} {o:Oper}
end
def zpT{m n s x:Nat}(hm:m<2^s)(hn:n=x*2^s)(h:m+n<18446744073709551616):bits .or .u64 (m:Int) (n:Int)=((m+n:Nat):Int):=by
 have h1:(BitVec.ofInt 64 (m:Int)).toNat=m:=by
  rw[BitVec.ofInt_natCast,BitVec.toNat_ofNat];exact Nat.mod_eq_of_lt yb
 have h2:(BitVec.ofInt 64 (n:Int)).toNat=n:=by
  rw[BitVec.ofInt_natCast,BitVec.toNat_ofNat];exact Nat.mod_eq_of_lt yb
 show IntKind.u64.wrap ((BitVec.ofInt 64 (m:Int)||| BitVec.ofInt 64 (n:Int)).toNat:Int)=_
 have e:m||| n=m+n:=by
  rw[hn,Nat.mul_comm x,Nat.or_comm,←Nat.two_pow_add_eq_or_of_lt hm]
  omega
 rw[BitVec.toNat_or,h1,h2,e];exact zX yl
def zny{l:List Nat}(h:Lim l)(hl:l.length≤2):val l<18446744073709551616:=by
 have h1:=zaA h;have h2:4294967296^l.length≤4294967296^2:=Nat.pow_le_pow_right yf hl;have h3:(4294967296:Nat)^2=18446744073709551616:=by decide
 omega
def ztt{A:Nat}(h:2<(zd A).length):18446744073709551616≤A:=by
 have h0:A≠0:=fun e=>by rw[e,zn]at h;simp at h
 have h1:=zhr h0;have h2:4294967296^2≤4294967296^((zd A).length-1):=Nat.pow_le_pow_right yf yb;have h3:(4294967296:Nat)^2=18446744073709551616:=by decide
 omega
def zgs(z:Int):Value:=if -9223372036854775808≤z∧z≤9223372036854775807 then .tuple #[.int .i64 z, .bool true]else .tuple #[.int .i64 0, .bool false]
def zsO{w:World}{p:Option Addr}{n c:Nat}(neg:Bool)(l:List Nat)(hl:l.length=n)(hn:n≤1000000)(h:LR w p c l)(hz:2<(zd (val l)).length∨(-9223372036854775808≤zv neg l∧zv neg l≤9223372036854775807)):
 Calls Tryz.prog 244 #[.agg #[.bool neg, .slice p n c]] w fun e w'=>e= .returned (zgs (zv neg l))∧Fr [] w w':=by
 subst hl;have Hh:=hid h;have hA:=hid (h.trim);have Hz:=hid hz;clear hz;have hzv:Hid (zv neg l=if neg then -((val l:Nat):Int)else(val l:Int)):=hid rfl;have H:=Hp.start [] w;clear h;obtain⟨A,hAe⟩:∃A,val l=A:=⟨_,rfl⟩;have Hv:=hid hAe;rw[hAe]at hzv hA Hz;clear hAe
 by_cases h2:2<(zd A).length
 ·have hr:=hid (ztt h2)
  go_enter Tryz.func244,Tryz.ntmps244
  go_wp2_with(first|refine x_q H ?_|refine zm ?_ ?_<;>intro h|(revert H;(first|(refine x_g ?_;intro g w1 hg hf H)|(refine x_s ?_;intro w1 hf H));(try clear hf)))
  (refine x_c H (zt l rfl (Hh.out.fr H.fr)) ?_;clear H;rintro e w1 ⟨rfl,hF⟩ H;skip);rw[Hv.out]
  go_wp2_with(first|refine x_q H ?_|refine zm ?_ ?_<;>intro h|(revert H;(first|(refine x_g ?_;intro g w1 hg hf H)|(refine x_s ?_;intro w1 hf H));(try clear hf)))
  ((try simp only[Exit.inBlock,Exit.then]);refine bodyPost_ret (results_tmp2 rfl _ _ _) rfl ?_)
  refine⟨?_,H.fr⟩;have h3:=hzv.out;have h4:=hr.out
  have:¬(-9223372036854775808≤zv neg l∧zv neg l≤9223372036854775807):=by rw[h3];cases neg<;>simp<;>omega
  rw[zgs,if_neg this]
  rfl
 ·have hA64:=zny (zaO A) yb;rw[zg]at hA64
  go_enter Tryz.func244,Tryz.ntmps244
  go_wp2_with(first|refine x_q H ?_|refine zm ?_ ?_<;>intro h|(revert H;(first|(refine x_g ?_;intro g w1 hg hf H)|(refine x_s ?_;intro w1 hf H));(try clear hf)))
  (refine x_c H (zt l rfl (Hh.out.fr H.fr)) ?_;clear H;rintro e w1 ⟨rfl,hF⟩ H;skip);rw[Hv.out]
  go_wp2_with(first|refine x_q H ?_|refine zm ?_ ?_<;>intro h|(revert H;(first|(refine x_g ?_;intro g w1 hg hf H)|(refine x_s ?_;intro w1 hf H));(try clear hf)))
  go_loopw [5,16] (fun s5 s16 wr=>∃i u:Nat,i≤(zd A).length∧s16= .int .i64 (i:Int)∧s5= .int .u64 (u:Int)∧Hid (u=val ((zd A).take i))∧Hp [] w wr [.blk g [.bool neg, .slice p l.length c] 118]) (fun _ v _=>(zd A).length-(intOf v).toNat)
  case atStart=>exact⟨0,0,Nat.zero_le _,rfl,rfl,hid rfl,H⟩
  case round=>
   clear H;obtain⟨i,u,hi,rfl,rfl,Hu,H⟩:=hrel
   by_cases hin:i<(zd A).length
   ·obtain⟨x,hx⟩:∃x,(zd A)[i]? =some x:=⟨_,List.getElem?_eq_getElem hin⟩;have hxv:=limbs_at hx;have hxB:=hA.out.lim.at hx;have Hx:=hid hx;obtain⟨b0,off,rfl,hb0,hcell⟩:=hA.out.rd.rng (zH (i:=i) hin);have H1:=H.pushRng (b:=b0) (off:=off) hb0 yg hcell;clear H hcell;have H:=H1;clear H1;have hi1:i≤1:=by omega
    obtain⟨z,hz⟩:∃z,x*4294967296^i=z:=⟨_,rfl⟩;have hsum:Hid (val ((zd A).take (i+1))=u+z):=hid (by rw[zw hx,←Hu.out,←hz,Nat.mul_comm])
    have hS64:u+z<18446744073709551616:=by
     rw[←hsum.out];exact zny ((zaO A).take _) yS
    have hz64:z<18446744073709551616:=by omega
    have hor:bits .or .u64 (u:Int) (z:Int)=((u+z:Nat):Int):=zpT (s:=32*i) (x:=x) (by
     rw[Hu.out,←zeP];have h1:=zaA ((zaO A).take i)
     rwa [List.length_take,Nat.min_eq_left hi]at h1) (by rw[←hz,zeP]) hS64
    have HOR:Hid (bits .or .u64 (u:Int) (IntKind.u64.wrap ((x:Int)*2^(32*i)))=((u+z:Nat):Int)):=hid (by
     rw[zdO z (by rw[←hz,zeP,Int.natCast_mul,Int.natCast_pow];rfl) hz64,hor])
    clear hx hor hz
    go_wp2_with(first|refine x_q H ?_|refine zm ?_ ?_<;>intro h|(revert H;(first|(refine x_g ?_;intro g w1 hg hf H)|(refine x_s ?_;intro w1 hf H));(try clear hf)))
    go_roundw
    case rel=>exact⟨i+1,u+z,by omega,by go_num,by rw[HOR.out],hid hsum.out.symm,H.sub yd⟩
    case measure=>(simp[intOf];try omega)
   ·have hu:u=A:=by rw[Hu.out,List.take_of_length_le yb,zg]
    subst hu;have hii:i=(zd u).length:=by omega
    have h3:=hzv.out;have fin:∀z:Int,zv neg l=z→ -9223372036854775808≤z∧z≤9223372036854775807→(Value.tuple #[.int .i64 z, .bool true])=zgs (zv neg l):=fun z e hz=>by rw[e,zgs,if_pos hz]
    have bad:¬(-9223372036854775808≤zv neg l∧zv neg l≤9223372036854775807)→(Value.tuple #[.int .i64 0, .bool false])=zgs (zv neg l):=fun hz=>by rw[zgs,if_neg hz]
    have FIN:=hid fin;have BAD:=hid bad;have H3:=hid h3;have HZ:=hid (Hz.out.resolve_left yb);clear fin bad h3 hzv hii
    by_cases h63:u≤9223372036854775808
    ·by_cases hlt:u<9223372036854775808
     ·by_cases hu0:u=0
      ·cases neg
       ·go_wp2_with(first|refine x_q H ?_|refine zm ?_ ?_<;>intro h|(revert H;(first|(refine x_g ?_;intro g w1 hg hf H)|(refine x_s ?_;intro w1 hf H));(try clear hf)))
        ((try simp only[Exit.inBlock,Exit.then]);refine bodyPost_ret (results_tmp2 rfl _ _ _) rfl ?_)
        refine⟨?_,H.fr⟩;rw[←FIN.out _ (by simpa using H3.out) yb];rfl
       ·go_wp2_with(first|refine x_q H ?_|refine zm ?_ ?_<;>intro h|(revert H;(first|(refine x_g ?_;intro g w1 hg hf H)|(refine x_s ?_;intro w1 hf H));(try clear hf)))
        ((try simp only[Exit.inBlock,Exit.then]);refine bodyPost_ret (results_tmp2 rfl _ _ _) rfl ?_)
        refine⟨?_,H.fr⟩;rw[←FIN.out (0:Int) yK yb];rfl
      ·cases neg
       ·go_wp2_with(first|refine x_q H ?_|refine zm ?_ ?_<;>intro h|(revert H;(first|(refine x_g ?_;intro g w1 hg hf H)|(refine x_s ?_;intro w1 hf H));(try clear hf)))
        ((try simp only[Exit.inBlock,Exit.then]);refine bodyPost_ret (results_tmp2 rfl _ _ _) rfl ?_)
        refine⟨?_,H.fr⟩;rw[←FIN.out _ (by simpa using H3.out) yb];rfl
       ·go_wp2_with(first|refine x_q H ?_|refine zm ?_ ?_<;>intro h|(revert H;(first|(refine x_g ?_;intro g w1 hg hf H)|(refine x_s ?_;intro w1 hf H));(try clear hf)))
        ((try simp only[Exit.inBlock,Exit.then]);refine bodyPost_ret (results_tmp2 rfl _ _ _) rfl ?_)
        refine⟨?_,H.fr⟩;rw[←FIN.out (-((u:Int)-1)-1) yK yb];rfl
     ·cases neg
      ·exact absurd HZ.out yK
      ·go_wp2_with(first|refine x_q H ?_|refine zm ?_ ?_<;>intro h|(revert H;(first|(refine x_g ?_;intro g w1 hg hf H)|(refine x_s ?_;intro w1 hf H));(try clear hf)))
       ((try simp only[Exit.inBlock,Exit.then]);refine bodyPost_ret (results_tmp2 rfl _ _ _) rfl ?_)
       refine⟨?_,H.fr⟩;rw[←FIN.out (-((u:Int)-1)-1) yK yb];rfl
    ·cases neg
     ·exact absurd HZ.out yK
     ·exact absurd HZ.out yK
end Go.Proofs.YtaijhllckmndhaaGreatDoor
namespace Go.Proofs
open Go.Shelf
def Tryz.lays172_ren:Go.Shelf.Ren:=⟨fun| 172=>175| 244=>241| 245=>242| 247=>292| 279=>293| 280=>294| 281=>295| 282=>296| 287=>309| 316=>310| 171=>48| 205=>311| 321=>318| 322=>319| 243=>95| 246=>142| 283=>205| 284=>206| 285=>207| 286=>208| 129=>268| 317=>267| 318=>269| 319=>270| 320=>271| 337=>263| 338=>302|n=>n,fun| 9=>9| 3=>3| 75=>141| 76=>142| 4=>4| 5=>5| 167=>285| 37=>22| 0=>0| 85=>286| 2=>2| 168=>288| 53=>50| 175=>297| 46=>103| 210=>300| 127=>189| 145=>310| 143=>308| 21=>21| 171=>223| 173=>226| 212=>264| 51=>160| 20=>20| 213=>265| 232=>293| 233=>305| 80=>144|n=>n,fun| 15=>7| 16=>8| 17=>2| 18=>6| 19=>9|n=>n⟩
def Tryz.lays172:Go.Proofs.Lays.n172 Tryz.prog Tryz.lays172_ren:={
 mixed:=by kernel_rfl
 f129:=Tryz.func268.trans (congrArg some (by kernel_rfl))
 f171:=Tryz.func48.trans (congrArg some (by kernel_rfl))
 f172:=Tryz.func175.trans (congrArg some (by kernel_rfl))
 f205:=Tryz.func311.trans (congrArg some (by kernel_rfl))
 f243:=Tryz.func95.trans (congrArg some (by kernel_rfl))
 f244:=Tryz.func241.trans (congrArg some (by kernel_rfl))
 f245:=Tryz.func242.trans (congrArg some (by kernel_rfl))
 f246:=Tryz.func142.trans (congrArg some (by kernel_rfl))
 f247:=Tryz.func292.trans (congrArg some (by kernel_rfl))
 f279:=Tryz.func293.trans (congrArg some (by kernel_rfl))
 f280:=Tryz.func294.trans (congrArg some (by kernel_rfl))
 f281:=Tryz.func295.trans (congrArg some (by kernel_rfl))
 f282:=Tryz.func296.trans (congrArg some (by kernel_rfl))
 f283:=Tryz.func205.trans (congrArg some (by kernel_rfl))
 f284:=Tryz.func206.trans (congrArg some (by kernel_rfl))
 f285:=Tryz.func207.trans (congrArg some (by kernel_rfl))
 f286:=Tryz.func208.trans (congrArg some (by kernel_rfl))
 f287:=Tryz.func309.trans (congrArg some (by kernel_rfl))
 f316:=Tryz.func310.trans (congrArg some (by kernel_rfl))
 f317:=Tryz.func267.trans (congrArg some (by kernel_rfl))
 f318:=Tryz.func269.trans (congrArg some (by kernel_rfl))
 f319:=Tryz.func270.trans (congrArg some (by kernel_rfl))
 f320:=Tryz.func271.trans (congrArg some (by kernel_rfl))
 f321:=Tryz.func318.trans (congrArg some (by kernel_rfl))
 f322:=Tryz.func319.trans (congrArg some (by kernel_rfl))
 f337:=Tryz.func263.trans (congrArg some (by kernel_rfl))
 f338:=Tryz.func302.trans (congrArg some (by kernel_rfl))
 t0:=Tryz.underlying0
 a0:=Tryz.isAgg0
 z0:=Tryz.sizeOf0
 v0:=Tryz.zeroValue0
 t2:=Tryz.underlying2
 a2:=Tryz.isAgg2
 z2:=Tryz.sizeOf2
 v2:=Tryz.zeroValue2
 t3:=Tryz.underlying3
 a3:=Tryz.isAgg3
 z3:=Tryz.sizeOf3
 v3:=Tryz.zeroValue3
 t4:=Tryz.underlying4
 a4:=Tryz.isAgg4
 z4:=Tryz.sizeOf4
 v4:=Tryz.zeroValue4
 t5:=Tryz.underlying5
 a5:=Tryz.isAgg5
 z5:=Tryz.sizeOf5
 v5:=Tryz.zeroValue5
 t9:=Tryz.underlying9
 a9:=Tryz.isAgg9
 z9:=Tryz.sizeOf9
 v9:=Tryz.zeroValue9
 t20:=Tryz.underlying20
 a20:=Tryz.isAgg20
 z20:=Tryz.sizeOf20
 v20:=Tryz.zeroValue20
 t21:=Tryz.underlying21
 a21:=Tryz.isAgg21
 z21:=Tryz.sizeOf21
 v21:=Tryz.zeroValue21
 t37:=Tryz.underlying22
 a37:=Tryz.isAgg22
 z37:=Tryz.sizeOf22
 v37:=Tryz.zeroValue22
 t46:=Tryz.underlying103
 a46:=Tryz.isAgg103
 z46:=Tryz.sizeOf103
 v46:=Tryz.zeroValue103
 t51:=Tryz.underlying160
 a51:=Tryz.isAgg160
 z51:=Tryz.sizeOf160
 v51:=Tryz.zeroValue160
 t53:=Tryz.underlying50
 a53:=Tryz.isAgg50
 z53:=Tryz.sizeOf50
 v53:=Tryz.zeroValue50
 t75:=Tryz.underlying141
 a75:=Tryz.isAgg141
 z75:=Tryz.sizeOf141
 v75:=Tryz.zeroValue141
 t76:=Tryz.underlying142
 a76:=Tryz.isAgg142
 z76:=Tryz.sizeOf142
 v76:=Tryz.zeroValue142
 t85:=Tryz.underlying286
 a85:=Tryz.isAgg286
 z85:=Tryz.sizeOf286
 v85:=Tryz.zeroValue286
 t127:=Tryz.underlying189
 a127:=Tryz.isAgg189
 z127:=Tryz.sizeOf189
 v127:=Tryz.zeroValue189
 t143:=Tryz.underlying308
 a143:=Tryz.isAgg308
 z143:=Tryz.sizeOf308
 v143:=Tryz.zeroValue308
 t145:=Tryz.underlying310
 a145:=Tryz.isAgg310
 z145:=Tryz.sizeOf310
 v145:=Tryz.zeroValue310
 t167:=Tryz.underlying285
 a167:=Tryz.isAgg285
 z167:=Tryz.sizeOf285
 v167:=Tryz.zeroValue285
 t168:=Tryz.underlying288
 a168:=Tryz.isAgg288
 z168:=Tryz.sizeOf288
 v168:=Tryz.zeroValue288
 t171:=Tryz.underlying223
 a171:=Tryz.isAgg223
 z171:=Tryz.sizeOf223
 v171:=Tryz.zeroValue223
 t173:=Tryz.underlying226
 a173:=Tryz.isAgg226
 z173:=Tryz.sizeOf226
 v173:=Tryz.zeroValue226
 t175:=Tryz.underlying297
 a175:=Tryz.isAgg297
 z175:=Tryz.sizeOf297
 v175:=Tryz.zeroValue297
 t210:=Tryz.underlying300
 a210:=Tryz.isAgg300
 z210:=Tryz.sizeOf300
 v210:=Tryz.zeroValue300
 t212:=Tryz.underlying264
 a212:=Tryz.isAgg264
 z212:=Tryz.sizeOf264
 v212:=Tryz.zeroValue264
 t213:=Tryz.underlying265
 a213:=Tryz.isAgg265
 z213:=Tryz.sizeOf265
 t232:=Tryz.underlying293
 a232:=Tryz.isAgg293
 z232:=Tryz.sizeOf293
 v232:=Tryz.zeroValue293
 t233:=Tryz.underlying305
 a233:=Tryz.isAgg305
 z233:=Tryz.sizeOf305
 v233:=Tryz.zeroValue305
 g15:=by kernel_rfl
 g16:=by kernel_rfl
 g17:=by kernel_rfl
 g18:=by kernel_rfl
 g19:=by kernel_rfl}
open Go.RowKit in
def Tryz.strconv_Atoi(s:ByteArray)(n:Int)(hl:s.size≤18)(h:Lib.atoi s.data.toList=some n)(w:World):
 Calls Tryz.prog 175 #[.string s] w fun e w'=>e= .returned (.tuple #[.int .i64 n, .nilIface])∧∃t,w'=Lib.bytesWorld w 5 t:=Any.strconv_Atoi Tryz.lays172 s n hl h w
def Tryz.laysGw17_ren:Go.Shelf.Ren:=⟨fun| 17=>173| 15=>240| 20=>291|n=>n,fun| 9=>9| 23=>149| 4=>4| 3=>3| 0=>0| 21=>21|n=>n,fun|n=>n⟩
def Tryz.laysGw17:Go.Proofs.LaysGw.n17 Tryz.prog Tryz.laysGw17_ren:={
 mixed:=by kernel_rfl
 f15:=Tryz.func240.trans (congrArg some (by kernel_rfl))
 f17:=Tryz.func173.trans (congrArg some (by kernel_rfl))
 f20:=Tryz.func291.trans (congrArg some (by kernel_rfl))
 t0:=Tryz.underlying0
 a0:=Tryz.isAgg0
 z0:=Tryz.sizeOf0
 v0:=Tryz.zeroValue0
 i0:=by kernel_rfl
 t3:=Tryz.underlying3
 a3:=Tryz.isAgg3
 z3:=Tryz.sizeOf3
 v3:=Tryz.zeroValue3
 i3:=by kernel_rfl
 t4:=Tryz.underlying4
 a4:=Tryz.isAgg4
 z4:=Tryz.sizeOf4
 v4:=Tryz.zeroValue4
 i4:=by kernel_rfl
 t9:=Tryz.underlying9
 a9:=Tryz.isAgg9
 z9:=Tryz.sizeOf9
 v9:=Tryz.zeroValue9
 i9:=by kernel_rfl
 t21:=Tryz.underlying21
 a21:=Tryz.isAgg21
 z21:=Tryz.sizeOf21
 v21:=Tryz.zeroValue21
 i21:=by kernel_rfl
 t23:=Tryz.underlying149
 a23:=Tryz.isAgg149
 z23:=Tryz.sizeOf149
 v23:=Tryz.zeroValue149
 i23:=by kernel_rfl}
open Go.RowKit Go.Lib in
def Tryz.strings_ContainsFunc_runes(g:Nat)(lb:Array Value)(eg:∀args w,(callFunc g args).run Tryz.prog w= .ok (.enter g args) w)(p:Nat→Bool)(s:ByteArray)(w:World)(hp:PredAtRunes Tryz.prog g lb p w):
 Calls Tryz.prog 173 #[.string s, .func (.func g) #[] lb] w fun e w'=>e= .returned (.bool (decide (0≤Lib.idxFunc p true s)))∧Below w.heap.size w w':=Any.strings_ContainsFunc_runes Tryz.laysGw17 g lb eg p s w hp
def Tryz.lays99_ren:Go.Shelf.Ren:=⟨fun| 99=>172| 206=>239|n=>n,fun| 9=>9| 4=>4| 3=>3|n=>n,fun|n=>n⟩
def Tryz.lays99:Go.Proofs.Lays.n99 Tryz.prog Tryz.lays99_ren:={
 mixed:=by kernel_rfl
 f99:=Tryz.func172.trans (congrArg some (by kernel_rfl))
 f206:=Tryz.func239.trans (congrArg some (by kernel_rfl))
 t3:=Tryz.underlying3
 a3:=Tryz.isAgg3
 z3:=Tryz.sizeOf3
 v3:=Tryz.zeroValue3
 t4:=Tryz.underlying4
 a4:=Tryz.isAgg4
 z4:=Tryz.sizeOf4
 v4:=Tryz.zeroValue4
 t9:=Tryz.underlying9
 a9:=Tryz.isAgg9
 z9:=Tryz.sizeOf9
 v9:=Tryz.zeroValue9}
open Go.RowKit Go.Lib in
def Tryz.strings_HasPrefix(s p:ByteArray)(w:World):
 Calls Tryz.prog 172 #[.string s, .string p] w fun e w'=>e= .returned (.bool (Lib.hasPrefix s.data.toList p.data.toList))∧w'=w:=Any.strings_HasPrefix Tryz.lays99 s p w
end Go.Proofs
