import Derived.Test.YtoiebebjgnpkmaaGreatDoorYJ10
import Derived.Shelf.Strings.Builder1
import Derived.Shelf.Strings.Builder2
import Derived.Shelf.Strings.OnBuilder
import Derived.Shelf.Strings.BuilderF
import Derived.Shelf.Strconv.Itoa0
import Derived.Shelf.Strconv.Itoa1
import Derived.Shelf.LaysM
import Derived.Shelf.Strconv.Itoa2
import Derived.Shelf.Strconv.Itoa3
import Derived.Shelf.Strings.Repeat
import Derived.Ground.Names2Prog
import Derived.Shelf.Slices.ReverseS
import Derived.Shelf.Slices.Cells
import Derived.Test.YtoiebebjgnpkmaaGreatDoorYJ3
import Derived.Test.YtoiebebjgnpkmaaGreatDoorRows
import Derived.ChangeSame
import Derived.ChangeVars
import Derived.JoinedOf
import Derived.RowKit
import Derived.LaidLaws
import Derived.LaidHandle
import Derived.Stop.Joined
import Derived.Lib.LaidU8
import Derived.Lib.LaidTab
import Derived.Test.YtoiebebjgnpkmaaGreatDoorYJ0
import Derived.Shelf.Strconv.Atoi
import Derived.Shelf.GgClosure.StringsIndexFunc
import Derived.Ground.GgwProg
import Derived.Shelf.GgClosure.StringsIndexFuncTop
import Derived.Shelf.GgClosure.StringsRunes
import Derived.Shelf.Strings.Prefix
import Derived.Lib.AtoiErrMem
import Derived.Deep.LoopGhost
import Derived.Lib.FieldsP
import Derived.Lib.DecodeN
namespace Go.Proofs.YtoiebebjgnpkmaaGreatDoor
open Go.RowKit
set_option linter.unusedSimpArgs false
set_option linter.unusedVariables false
set_option maxHeartbeats 4000000
set_option maxRecDepth 100000
end Go.Proofs.YtoiebebjgnpkmaaGreatDoor
namespace Go.Proofs
open Go.Shelf
set_option linter.unusedSimpArgs false
set_option linter.unusedVariables false
def Tryz.lays156_ren:Go.Shelf.Ren:=⟨fun | 156=>19 | 165=>52 | 166=>53 | 169=>54 | 240=>99 | 241=>100 | 276=>151 | 277=>152 | n=>n,fun | 31=>44 | 9=>9 | 3=>3 | 4=>4 | 0=>0 | 20=>20 | 72=>91 | 76=>95 | 70=>89 | 37=>28 | 75=>94 | 127=>148 | 164=>197 | 5=>5 | 80=>97 | n=>n,fun | n=>n⟩
theorem Tryz.lays156:Go.Proofs.Lays.n156 Tryz.prog Tryz.lays156_ren:={
 mixed:=by kernel_rfl
 f156:=Tryz.func19.trans (congrArg some (by kernel_rfl))
 f165:=Tryz.func52.trans (congrArg some (by kernel_rfl))
 f166:=Tryz.func53.trans (congrArg some (by kernel_rfl))
 f169:=Tryz.func54.trans (congrArg some (by kernel_rfl))
 f240:=Tryz.func99.trans (congrArg some (by kernel_rfl))
 f241:=Tryz.func100.trans (congrArg some (by kernel_rfl))
 f276:=Tryz.func151.trans (congrArg some (by kernel_rfl))
 f277:=Tryz.func152.trans (congrArg some (by kernel_rfl))
 t0:=Tryz.underlying0
 a0:=Tryz.isAgg0
 z0:=Tryz.sizeOf0
 v0:=Tryz.zeroValue0
 t3:=Tryz.underlying3
 a3:=Tryz.isAgg3
 z3:=Tryz.sizeOf3
 v3:=Tryz.zeroValue3
 t4:=Tryz.underlying4
 a4:=Tryz.isAgg4
 z4:=Tryz.sizeOf4
 v4:=Tryz.zeroValue4
 t9:=Tryz.underlying9
 a9:=Tryz.isAgg9
 z9:=Tryz.sizeOf9
 v9:=Tryz.zeroValue9
 t20:=Tryz.underlying20
 a20:=Tryz.isAgg20
 z20:=Tryz.sizeOf20
 v20:=Tryz.zeroValue20
 t31:=Tryz.underlying44
 a31:=Tryz.isAgg44
 z31:=Tryz.sizeOf44
 v31:=Tryz.zeroValue44
 t37:=Tryz.underlying28
 a37:=Tryz.isAgg28
 z37:=Tryz.sizeOf28
 v37:=Tryz.zeroValue28
 t70:=Tryz.underlying89
 a70:=Tryz.isAgg89
 z70:=Tryz.sizeOf89
 v70:=Tryz.zeroValue89
 t72:=Tryz.underlying91
 a72:=Tryz.isAgg91
 z72:=Tryz.sizeOf91
 v72:=Tryz.zeroValue91
 t75:=Tryz.underlying94
 a75:=Tryz.isAgg94
 z75:=Tryz.sizeOf94
 v75:=Tryz.zeroValue94
 t76:=Tryz.underlying95
 a76:=Tryz.isAgg95
 z76:=Tryz.sizeOf95
 v76:=Tryz.zeroValue95
 t127:=Tryz.underlying148
 a127:=Tryz.isAgg148
 z127:=Tryz.sizeOf148
 v127:=Tryz.zeroValue148
 t164:=Tryz.underlying197
 a164:=Tryz.isAgg197
 z164:=Tryz.sizeOf197
 v164:=Tryz.zeroValue197}
theorem Tryz.Builder_Extra_156:Builder.Extra Tryz.prog Tryz.lays156_ren:={
 sizeBuilder:=by kernel_rfl
 liesBuilder:=by kernel_rfl
 t5:=Tryz.underlying5
 a5:=Tryz.isAgg5
 z5:=Tryz.sizeOf5
 v5:=Tryz.zeroValue5
 infoByte:=by kernel_rfl
 cellsByte:=by kernel_rfl
 sizeByte:=by kernel_rfl
 neB5:=by decide}
open Go.RowKit in
theorem Tryz.strings_Join (bk o c:Nat) (xs:List ByteArray) (sep:ByteArray) (w:World) (hcells:∀ (j:Nat) x,xs[j]? =some x→w.cell? ⟨bk,o+j,none⟩=some (.string x)) (hbk:bk<w.heap.size) (hN:xs.length≤140737488355328) (hcap:xs.length≤c) (hlen:(Lib.join (xs.map (·.data.toList)) sep.data.toList).length≤140737488355328):
 Calls Tryz.prog 19 #[.slice (some ⟨bk,o,none⟩) xs.length c, .string sep] w fun e w'=>e= .returned (.string ⟨(Lib.join (xs.map (·.data.toList)) sep.data.toList).toArray⟩)∧Below w.heap.size w w':=Any.strings_Join Tryz.lays156 Tryz.Builder_Extra_156 bk o c xs sep w hcells hbk hN hcap hlen
def Tryz.laysM171_ren:Go.Shelf.Ren:=⟨fun | 171=>13 | 243=>45 | 246=>88 | 283=>130 | 284=>131 | 285=>132 | 286=>133 | 129=>172 | 317=>171 | 318=>173 | 319=>174 | 320=>175 | 337=>222 | 338=>223 | n=>n,fun | 3=>3 | 9=>9 | 2=>2 | 4=>4 | 171=>171 | 0=>0 | 53=>22 | 37=>28 | 5=>5 | 173=>174 | 212=>211 | 51=>162 | 20=>20 | 213=>212 | 46=>135 | 232=>272 | 233=>273 | n=>n,fun | 17=>0 | 18=>6 | 19=>7 | n=>n⟩
theorem Tryz.laysM171:Go.Proofs.LaysM.n171 Tryz.prog Tryz.laysM171_ren:={
 mixed:=by kernel_rfl
 f129:=Tryz.func172.trans (congrArg some (by kernel_rfl))
 f171:=Tryz.func13.trans (congrArg some (by kernel_rfl))
 f243:=Tryz.func45.trans (congrArg some (by kernel_rfl))
 f246:=Tryz.func88.trans (congrArg some (by kernel_rfl))
 f283:=Tryz.func130.trans (congrArg some (by kernel_rfl))
 f284:=Tryz.func131.trans (congrArg some (by kernel_rfl))
 f285:=Tryz.func132.trans (congrArg some (by kernel_rfl))
 f286:=Tryz.func133.trans (congrArg some (by kernel_rfl))
 f317:=Tryz.func171.trans (congrArg some (by kernel_rfl))
 f318:=Tryz.func173.trans (congrArg some (by kernel_rfl))
 f319:=Tryz.func174.trans (congrArg some (by kernel_rfl))
 f320:=Tryz.func175.trans (congrArg some (by kernel_rfl))
 f337:=Tryz.func222.trans (congrArg some (by kernel_rfl))
 f338:=Tryz.func223.trans (congrArg some (by kernel_rfl))
 t0:=Tryz.underlying0
 a0:=Tryz.isAgg0
 z0:=Tryz.sizeOf0
 v0:=Tryz.zeroValue0
 t2:=Tryz.underlying2
 a2:=Tryz.isAgg2
 z2:=Tryz.sizeOf2
 v2:=Tryz.zeroValue2
 t3:=Tryz.underlying3
 a3:=Tryz.isAgg3
 z3:=Tryz.sizeOf3
 v3:=Tryz.zeroValue3
 t4:=Tryz.underlying4
 a4:=Tryz.isAgg4
 z4:=Tryz.sizeOf4
 v4:=Tryz.zeroValue4
 t5:=Tryz.underlying5
 a5:=Tryz.isAgg5
 z5:=Tryz.sizeOf5
 v5:=Tryz.zeroValue5
 t9:=Tryz.underlying9
 a9:=Tryz.isAgg9
 z9:=Tryz.sizeOf9
 v9:=Tryz.zeroValue9
 t20:=Tryz.underlying20
 a20:=Tryz.isAgg20
 z20:=Tryz.sizeOf20
 v20:=Tryz.zeroValue20
 t37:=Tryz.underlying28
 a37:=Tryz.isAgg28
 z37:=Tryz.sizeOf28
 v37:=Tryz.zeroValue28
 t46:=Tryz.underlying135
 a46:=Tryz.isAgg135
 z46:=Tryz.sizeOf135
 v46:=Tryz.zeroValue135
 t51:=Tryz.underlying162
 a51:=Tryz.isAgg162
 z51:=Tryz.sizeOf162
 v51:=Tryz.zeroValue162
 t53:=Tryz.underlying22
 a53:=Tryz.isAgg22
 z53:=Tryz.sizeOf22
 v53:=Tryz.zeroValue22
 t171:=Tryz.underlying171
 a171:=Tryz.isAgg171
 z171:=Tryz.sizeOf171
 v171:=Tryz.zeroValue171
 t173:=Tryz.underlying174
 a173:=Tryz.isAgg174
 z173:=Tryz.sizeOf174
 v173:=Tryz.zeroValue174
 t212:=Tryz.underlying211
 a212:=Tryz.isAgg211
 z212:=Tryz.sizeOf211
 v212:=Tryz.zeroValue211
 t213:=Tryz.underlying212
 a213:=Tryz.isAgg212
 z213:=Tryz.sizeOf212
 t232:=Tryz.underlying272
 a232:=Tryz.isAgg272
 z232:=Tryz.sizeOf272
 v232:=Tryz.zeroValue272
 t233:=Tryz.underlying273
 a233:=Tryz.isAgg273
 z233:=Tryz.sizeOf273
 v233:=Tryz.zeroValue273
 g17:=by kernel_rfl
 g18:=by kernel_rfl
 g19:=by kernel_rfl
 i0:=by kernel_rfl
 i2:=by kernel_rfl
 i3:=by kernel_rfl
 i4:=by kernel_rfl
 i5:=by kernel_rfl
 i9:=by kernel_rfl
 i20:=by kernel_rfl
 i37:=by kernel_rfl
 i46:=by kernel_rfl
 i51:=by kernel_rfl
 i53:=by kernel_rfl
 i171:=by kernel_rfl
 i173:=by kernel_rfl
 i212:=by kernel_rfl
 i232:=by kernel_rfl
 i233:=by kernel_rfl
 m17:=by kernel_rfl
 m18:=by kernel_rfl
 m19:=by kernel_rfl}
open Go.RowKit Go.Sort Go.Lib in
theorem Tryz.strconv_Itoa (n:Int) (h0: -9223372036854775808≤n) (h1:n≤9223372036854775807) (w:World) (htab:Lib.TabIs Tryz.prog w "internal/strconv.uint64pow10" .u64 Lib.pow10Tab):
 Calls Tryz.prog 13 #[.int .i64 n] w fun e w'=>e= .returned (.string ⟨(Lib.itoa n).toArray⟩)∧∃ k os,w'=grow (w.drewN k) os:=Any.strconv_Itoa Tryz.laysM171 n h0 h1 w htab
def Tryz.lays105_ren:Go.Shelf.Ren:=⟨fun | 105=>51 | 212=>96 | 99=>97 | 165=>52 | 166=>53 | 170=>98 | 169=>54 | 263=>148 | 264=>149 | 206=>150 | 240=>99 | 241=>100 | 276=>151 | 277=>152 | n=>n,fun | 9=>9 | 3=>3 | 4=>4 | 20=>20 | 0=>0 | 46=>135 | 109=>146 | 5=>5 | 72=>91 | 76=>95 | 51=>162 | 146=>193 | 53=>22 | 148=>195 | 70=>89 | 37=>28 | 75=>94 | 127=>148 | 164=>197 | 80=>97 | n=>n,fun | n=>n⟩
theorem Tryz.lays105:Go.Proofs.Lays.n105 Tryz.prog Tryz.lays105_ren:={
 mixed:=by kernel_rfl
 f99:=Tryz.func97.trans (congrArg some (by kernel_rfl))
 f105:=Tryz.func51.trans (congrArg some (by kernel_rfl))
 f165:=Tryz.func52.trans (congrArg some (by kernel_rfl))
 f166:=Tryz.func53.trans (congrArg some (by kernel_rfl))
 f169:=Tryz.func54.trans (congrArg some (by kernel_rfl))
 f170:=Tryz.func98.trans (congrArg some (by kernel_rfl))
 f206:=Tryz.func150.trans (congrArg some (by kernel_rfl))
 f212:=Tryz.func96.trans (congrArg some (by kernel_rfl))
 f240:=Tryz.func99.trans (congrArg some (by kernel_rfl))
 f241:=Tryz.func100.trans (congrArg some (by kernel_rfl))
 f263:=Tryz.func148.trans (congrArg some (by kernel_rfl))
 f264:=Tryz.func149.trans (congrArg some (by kernel_rfl))
 f276:=Tryz.func151.trans (congrArg some (by kernel_rfl))
 f277:=Tryz.func152.trans (congrArg some (by kernel_rfl))
 t0:=Tryz.underlying0
 a0:=Tryz.isAgg0
 z0:=Tryz.sizeOf0
 v0:=Tryz.zeroValue0
 t3:=Tryz.underlying3
 a3:=Tryz.isAgg3
 z3:=Tryz.sizeOf3
 v3:=Tryz.zeroValue3
 t4:=Tryz.underlying4
 a4:=Tryz.isAgg4
 z4:=Tryz.sizeOf4
 v4:=Tryz.zeroValue4
 t5:=Tryz.underlying5
 a5:=Tryz.isAgg5
 z5:=Tryz.sizeOf5
 v5:=Tryz.zeroValue5
 t9:=Tryz.underlying9
 a9:=Tryz.isAgg9
 z9:=Tryz.sizeOf9
 v9:=Tryz.zeroValue9
 t20:=Tryz.underlying20
 a20:=Tryz.isAgg20
 z20:=Tryz.sizeOf20
 v20:=Tryz.zeroValue20
 t37:=Tryz.underlying28
 a37:=Tryz.isAgg28
 z37:=Tryz.sizeOf28
 v37:=Tryz.zeroValue28
 t46:=Tryz.underlying135
 a46:=Tryz.isAgg135
 z46:=Tryz.sizeOf135
 v46:=Tryz.zeroValue135
 t51:=Tryz.underlying162
 a51:=Tryz.isAgg162
 z51:=Tryz.sizeOf162
 v51:=Tryz.zeroValue162
 t53:=Tryz.underlying22
 a53:=Tryz.isAgg22
 z53:=Tryz.sizeOf22
 v53:=Tryz.zeroValue22
 t70:=Tryz.underlying89
 a70:=Tryz.isAgg89
 z70:=Tryz.sizeOf89
 v70:=Tryz.zeroValue89
 t72:=Tryz.underlying91
 a72:=Tryz.isAgg91
 z72:=Tryz.sizeOf91
 v72:=Tryz.zeroValue91
 t75:=Tryz.underlying94
 a75:=Tryz.isAgg94
 z75:=Tryz.sizeOf94
 v75:=Tryz.zeroValue94
 t76:=Tryz.underlying95
 a76:=Tryz.isAgg95
 z76:=Tryz.sizeOf95
 v76:=Tryz.zeroValue95
 t109:=Tryz.underlying146
 a109:=Tryz.isAgg146
 z109:=Tryz.sizeOf146
 v109:=Tryz.zeroValue146
 t127:=Tryz.underlying148
 a127:=Tryz.isAgg148
 z127:=Tryz.sizeOf148
 v127:=Tryz.zeroValue148
 t146:=Tryz.underlying193
 a146:=Tryz.isAgg193
 z146:=Tryz.sizeOf193
 v146:=Tryz.zeroValue193
 t148:=Tryz.underlying195
 a148:=Tryz.isAgg195
 z148:=Tryz.sizeOf195
 v148:=Tryz.zeroValue195
 t164:=Tryz.underlying197
 a164:=Tryz.isAgg197
 z164:=Tryz.sizeOf197
 v164:=Tryz.zeroValue197}
theorem Tryz.Builder_Extra_105:Builder.Extra Tryz.prog Tryz.lays105_ren:={
 sizeBuilder:=by kernel_rfl
 liesBuilder:=by kernel_rfl
 t5:=Tryz.underlying5
 a5:=Tryz.isAgg5
 z5:=Tryz.sizeOf5
 v5:=Tryz.zeroValue5
 infoByte:=by kernel_rfl
 cellsByte:=by kernel_rfl
 sizeByte:=by kernel_rfl
 neB5:=by decide}
open Go.RowKit Go.Lib in
theorem Tryz.strings_Repeat (s:ByteArray) (c:Nat) (w:World) (hc:c≤9223372036854775807) (hlen:s.size*c≤140737488355328):
 Calls Tryz.prog 51 #[.string s, .int .i64 c] w fun e w'=>e= .returned (.string ⟨(Lib.repeatL s.data.toList c).toArray⟩)∧Below w.heap.size w w':=Any.strings_Repeat Tryz.lays105 Tryz.Builder_Extra_105 s c w hc hlen
def Tryz.laysNm217_ren:Go.Shelf.Ren:=⟨fun | 17=>186 | n=>n,fun | 24=>44 | 9=>9 | 3=>3 | 4=>4 | 0=>0 | n=>n,fun | n=>n⟩
theorem Tryz.laysNm217:Go.Proofs.Lays2.n17 Tryz.prog Tryz.laysNm217_ren:={
 mixed:=by kernel_rfl
 f17:=Tryz.func186.trans (congrArg some (by kernel_rfl))
 t0:=Tryz.underlying0
 a0:=Tryz.isAgg0
 z0:=Tryz.sizeOf0
 v0:=Tryz.zeroValue0
 t3:=Tryz.underlying3
 a3:=Tryz.isAgg3
 z3:=Tryz.sizeOf3
 v3:=Tryz.zeroValue3
 t4:=Tryz.underlying4
 a4:=Tryz.isAgg4
 z4:=Tryz.sizeOf4
 v4:=Tryz.zeroValue4
 t9:=Tryz.underlying9
 a9:=Tryz.isAgg9
 z9:=Tryz.sizeOf9
 v9:=Tryz.zeroValue9
 t24:=Tryz.underlying44
 a24:=Tryz.isAgg44
 z24:=Tryz.sizeOf44
 v24:=Tryz.zeroValue44}
open Go.RowKit Go.Lib Go.Sort in
theorem Tryz.slices_Reverse_string_cells (b off n c:Nat) (Sx:Nat→ByteArray) (w:World) (hbig:n≤9223372036854775807) (hc:∀ i,i<n→w.cell? ⟨b,off+i,none⟩=some (.string (Sx i))) (hf:∀ j,j<n→w.frozen? ⟨b,off+j,none⟩=false):
 Calls Tryz.prog 186 #[.slice (some ⟨b,off,none⟩) n c] w fun e w'=>e= .returned (.tuple #[])∧∃ q,w'=(w.drewN q).setCells b off ((Lib.strsOf Sx n).reverse.map encStr):=Any.slices_Reverse_string_cells Tryz.laysNm217 b off n c Sx w hbig hc hf
end Go.Proofs
namespace Go.Proofs.YtoiebebjgnpkmaaGreatDoor
set_option linter.unusedSimpArgs false
set_option linter.unusedVariables false
open Go.RowKit
theorem Fr.grow (w:World) (k:Nat) (os:Array Obj):Fr [] w (Sort.grow (w.drewN k) os):=by
 refine ⟨rfl,rfl,rfl, ?_,fun i hi _ => ?_⟩
 ·show w.heap.size≤(w.heap++os).size
  simp
 ·show (w.heap++os)[i]? =w.heap[i]?
  rw [Array.getElem?_append_left hi]
theorem TabIs.fr {P:Program} {w w':World} {n:String} {k:IntKind} {zs:List Int} (h:Lib.TabIs P w n k zs) (hf:Fr [] w w'):Lib.TabIs P w' n k zs:=by
 unfold Lib.TabIs World.var? at*
 cases hg:P.globalNamed n with
 | none=>rw [hg] at h;simp at h
 | some g=>
  rw [hg] at h
  simp only [Option.bind_some] at h ⊢
  cases hb:w.heap[g]? with
  | none=>rw [hb] at h;simp at h
  | some o=>
   have hlt:g<w.heap.size:=(Array.getElem?_eq_some_iff.1 hb).1
   rw [hf.block g hlt (by simp),hb]
   rw [hb] at h
   exact h
theorem itoa_any (x:Nat) (hx:x≤9223372036854775807) (w:World) (ht:Lib.TabIs Tryz.prog w "internal/strconv.uint64pow10" .u64 Lib.pow10Tab):
 Calls Tryz.prog 13 #[.int .i64 (x:Int)] w fun e w'=>e= .returned (strV (Lib.decDigits x))∧Fr [] w w':=by
 refine Calls.mono (Tryz.strconv_Itoa (x:Int) (by omega) (by omega) w ht) ?_
 rintro e w' ⟨rfl,k,os,rfl⟩
 refine ⟨?_,Fr.grow w k os⟩
 rw [Lib.itoa,if_neg (by omega)]
 rfl
end Go.Proofs.YtoiebebjgnpkmaaGreatDoor
namespace Go.Proofs.YtoiebebjgnpkmaaGreatDoor
open Go.RowKit
set_option linter.unusedSimpArgs false
set_option linter.unusedVariables false
abbrev dec (n:Nat):List UInt8:=Lib.decDigits n
theorem dec_small {n:Nat} (h:n<10):dec n=[UInt8.ofNat (48+n)]:=by unfold dec;rw [Lib.decDigits,dif_pos h]
theorem dec_ten {n:Nat} (h:10≤n):dec n=dec (n / 10)++[UInt8.ofNat (48+n % 10)]:=by unfold dec;rw [Lib.decDigits,dif_neg (by omega)]
def padk:Nat→Nat→List UInt8
 | 0,_ =>[]
 | k+1,r=>padk k (r / 10)++[UInt8.ofNat (48+r % 10)]
theorem dec_join {q:Nat} (hq:0<q):∀ (k r:Nat),r<10 ^ k→dec (q*10 ^ k+r)=dec q++padk k r
 | 0,r,h=>by
  have:r=0:=by simpa using h
  subst this
  simp [padk]
 | k+1,r,h=>by
  have hp:1≤10 ^ k:=Nat.one_le_pow _ _ (by decide)
  have h1:1*(10 ^ k*10)≤q*(10 ^ k*10):=Nat.mul_le_mul_right _ hq
  rw [Nat.pow_succ] at h ⊢
  have e:q*(10 ^ k*10)+r=10*(q*10 ^ k+r / 10)+r % 10:=by
   rw [Nat.mul_add,Nat.mul_comm (10 ^ k),Nat.mul_left_comm]
   omega
  generalize hQ:q*10 ^ k=Q at e
  have e1:(q*(10 ^ k*10)+r) / 10=q*10 ^ k+r / 10:=by rw [e,hQ];omega
  have e2:(q*(10 ^ k*10)+r) % 10=r % 10:=by rw [e];omega
  rw [dec_ten (by omega),e1,e2,padk,← List.append_assoc,← dec_join hq k (r / 10) (by omega)]
theorem padk_eq:∀ (k r:Nat),r<10 ^ (k+1)→(dec r).length≤k+1∧padk (k+1) r=List.replicate (k+1 - (dec r).length) 48++dec r
 | 0,r,h=>by
  have h:r<10:=by simpa using h
  rw [dec_small h]
  refine ⟨by simp, ?_⟩
  simp [padk,Nat.mod_eq_of_lt h]
 | k+1,r,h=>by
  by_cases h10:r<10
  ·rw [dec_small h10]
   refine ⟨by simp, ?_⟩
   have h0:=(padk_eq k 0 (Nat.pow_pos (by decide))).2
   rw [padk,show r / 10=0 by omega,h0,dec_small (by decide),Nat.mod_eq_of_lt h10]
   simp only [List.length_cons,List.length_nil,Nat.add_sub_cancel,Nat.zero_add]
   rw [show UInt8.ofNat 48=48 from rfl,show k+1=k+1 from rfl,List.replicate_succ']
  ·rw [Nat.pow_succ] at h
   obtain ⟨h1,h2⟩:=padk_eq k (r / 10) (by omega)
   rw [dec_ten (by omega)]
   refine ⟨by simp only [List.length_append,List.length_cons,List.length_nil];omega, ?_⟩
   rw [padk,h2]
   simp only [List.length_append,List.length_cons,List.length_nil,List.append_assoc]
   rw [show k+1+1 - ((dec (r / 10)).length+(0+1))=k+1 - (dec (r / 10)).length by omega]
def pad9 (r:Nat):List UInt8:=List.replicate (9 - (dec r).length) 48++dec r
theorem dec_len9 {r:Nat} (h:r<1000000000):(dec r).length≤9:=(padk_eq 8 r (by simpa using h)).1
theorem dec_group {q r:Nat} (hq:0<q) (h:r<1000000000):dec (q*1000000000+r)=dec q++pad9 r:=by
 have h1:=dec_join hq 9 r (by simpa using h)
 rw [(padk_eq 8 r (by simpa using h)).2] at h1
 exact h1
theorem pad9_len {r:Nat} (h:r<1000000000):(pad9 r).length=9:=by
 have:=dec_len9 h
 unfold pad9
 rw [List.length_append,List.length_replicate]
 omega
structure Dg (N n X:Nat) (gs:List (List UInt8)):Prop where
 len:gs.length≤32*n
 one:∀ g∈gs,g.length≤9
 x:X=N / 1000000000 ^ gs.length
 nz:gs≠[]→N≠0
 d:dec N=(if X=0∧gs≠[] then [] else dec X)++gs.reverse.flatten
theorem Dg.start (N n:Nat):Dg N n N []:=⟨by simp,fun g hg=>(by cases hg),by simp,fun h=>absurd rfl h,by simp⟩
def grp (X:Nat):List UInt8:=if X / 1000000000=0 then dec (X % 1000000000) else pad9 (X % 1000000000)
theorem pow9_ge (k:Nat):2 ^ k≤1000000000 ^ k:=Nat.pow_le_pow_left (by decide) k
theorem Dg.next {N n X:Nat} {gs:List (List UInt8)} (h:Dg N n X gs) (hN:N<4294967296 ^ n) (hX:X≠0):Dg N n (X / 1000000000) (gs++[grp X]):=by
 have hN0:N≠0:=fun e=>by have:=h.x;rw [e,Nat.zero_div] at this;exact hX this
 have hr:X % 1000000000<1000000000:=Nat.mod_lt _ (by decide)
 refine ⟨?_, ?_, ?_,fun _ =>hN0, ?_⟩
 ·have h1:1000000000 ^ gs.length≤N:=by
   apply Classical.byContradiction
   intro hn
   have:=h.x
   rw [Nat.div_eq_of_lt (by omega)] at this
   exact hX this
  have h2:=pow9_ge gs.length
  rw [powB] at hN
  have h3:2 ^ gs.length<2 ^ (32*n):=by omega
  have h4:=(Nat.pow_lt_pow_iff_right (show 1<2 by decide)).1 h3
  rw [List.length_append,List.length_cons,List.length_nil]
  omega
 ·intro g hg
  rcases List.mem_append.1 hg with h1 | h1
  ·exact h.one g h1
  ·simp only [List.mem_singleton] at h1
   subst h1
   unfold grp
   split
   ·exact dec_len9 hr
   ·exact Nat.le_of_eq (pad9_len hr)
 ·rw [List.length_append,List.length_cons,List.length_nil,Nat.pow_succ,← Nat.div_div_eq_div_mul,← h.x]
 ·rw [h.d,if_neg (fun e=>hX e.1),List.reverse_append,List.reverse_singleton,List.singleton_append,List.flatten_cons,← List.append_assoc]
  congr 1
  unfold grp
  by_cases hq:X / 1000000000=0
  ·rw [if_pos ⟨hq,by simp⟩,if_pos hq,List.nil_append]
   congr 1
   omega
  ·rw [if_neg (fun e=>hq e.1),if_neg hq,← dec_group (by omega) hr]
   congr 1
   omega
theorem Dg.bytes {N n X:Nat} {gs:List (List UInt8)} (h:Dg N n X gs):gs.flatten.length≤9*gs.length:=by
 have:∀ (l:List (List UInt8)),(∀ g∈l,g.length≤9)→l.flatten.length≤9*l.length:=by
  intro l
  induction l with
  | nil=>intro _;simp
  | cons a l ih=>
   intro h
   have h1:=ih (fun g hg=>h g (List.mem_cons_of_mem _ hg))
   have h2:=h a List.mem_cons_self
   rw [List.flatten_cons,List.length_append,List.length_cons]
   omega
 exact this gs h.one
section
variable {P:Program} {w:World} {a:Act} {o:Oper}
theorem ev_strAdd {t t':TypeId} {x y:Operand} (ho:o.op= .binOp .add t x y t') {s r:List UInt8} (hx:a.eval x=strV s) (hy:a.eval y=strV r) (hl:s.length+r.length≤1000000000):(execOp a.eval o).run P w= .ok (.value (strV (s++r))) w:=by
 have e1:(eqGuard .add t x y (strV s) (strV r)).run P w= .ok () w:=by unfold eqGuard;simp
 unfold execOp
 simp only [ho,hx,hy,Sem.run_bind,e1,Result.andThen_ok,binOp]
 have e:(⟨s.toArray⟩:ByteArray)++⟨r.toArray⟩=⟨(s++r).toArray⟩:=by
  apply ByteArray.ext
  simp [ByteArray.data_append]
 have e2:(Op.stringOp .add ⟨s.toArray⟩ ⟨r.toArray⟩).run P w= .ok (strV (s++r)) w:=by
  unfold Op.stringOp
  have hn:¬ (((ByteArray.mk s.toArray).size+(ByteArray.mk r.toArray).size:Nat):Int)>IntKind.i64.max:=by
   show ¬ (((s.toArray.size+r.toArray.size:Nat):Int)>9223372036854775807)
   simp only [List.size_toArray]
   omega
  simp only [if_neg hn,e]
  rfl
 show ((Op.stringOp .add ⟨s.toArray⟩ ⟨r.toArray⟩).run P w).andThen _ =_
 rw [e2]
 rfl
end
end Go.Proofs.YtoiebebjgnpkmaaGreatDoor
namespace Go.Proofs.YtoiebebjgnpkmaaGreatDoor
open Go.RowKit
set_option linter.unusedSimpArgs false
set_option linter.unusedVariables false
def fmt (z:Int):List UInt8:=if z<0 then 45::dec z.natAbs else dec z.natAbs
theorem LR.frS {w w':World} {p:Option Addr} {c:Nat} {l:List Nat} {S:List Nat} (h:LR w p c l) (k:Fr S w w') (hn:∀ b off,p=some ⟨b,off,none⟩→b∉S):LR w' p c l:=by
 cases l with
 | nil=>exact h.empty
 | cons x l=>
  obtain ⟨b,off,rfl,hb,hcell⟩:=h.rd.rng (by simp [limbs])
  refine ⟨h.nil,h.cap,h.max,h.lim,h.rd.fr k (fun b' hb'=> ?_)⟩
  have e:b'=b:=by
   simp [Value.ownBlock] at hb'
   omega
  subst e
  exact hn _ _ rfl
theorem fmt_zero:fmt 0=[48]:=by
 unfold fmt
 rw [if_neg (by decide)]
 exact dec_small (by decide)
end Go.Proofs.YtoiebebjgnpkmaaGreatDoor
namespace Go.Proofs.YtoiebebjgnpkmaaGreatDoor
open Go.ChangeShapes Go.WideShapes Go.RowKit
set_option linter.unusedSimpArgs false
set_option linter.unusedVariables false
section
variable {H:Type} {enc:TypeId×Value→H} {P:Program} {w:World} {base:Nat} {held:Bool}
end
theorem tabIs_of_reads {P:Program} {W:World} {name:String} {k:IntKind} {zs:List Int} {g:Nat} {t e:TypeId} {n:Nat}
 (hg:P.globalNamed name=some g) (hty:(P.globals[g]?).map (·.type)=some t) (ht:P.underlying t=some (.array n e)) (he:P.underlying e=some (.int k)) (hce:P.cellsOf e=1) (hct:P.cellsOf t=n)
 (h:Lib.VarReads P W name (Lib.tabData k zs)):Lib.TabIs P W name k zs:=by
 obtain ⟨g',t',cs,fuel,p,hg',ht',hvar,hd⟩:=h
 obtain rfl:=Option.some.inj (hg.symm.trans hg')
 obtain rfl:=Option.some.inj (hty.symm.trans ht')
 unfold Lib.TabIs
 rw [hvar,← Lib.cells_of_tab ht he hce hct hd]
end Go.Proofs.YtoiebebjgnpkmaaGreatDoor
namespace Go.Proofs
open Go.Shelf
set_option linter.unusedSimpArgs false
set_option linter.unusedVariables false
def Tryz.lays28_ren:Go.Shelf.Ren:=⟨fun | 28=>222 | n=>n,fun | 0=>0 | 3=>3 | 4=>4 | 5=>5 | 25=>135 | 27=>162 | 53=>272 | n=>n,fun | 0=>6 | n=>n⟩
theorem Tryz.lays28:Go.Proofs.Lays7.n28 Tryz.prog Tryz.lays28_ren:={
 mixed:=by kernel_rfl
 f28:=Tryz.func222.trans (congrArg some (by kernel_rfl))
 t0:=Tryz.underlying0
 a0:=Tryz.isAgg0
 z0:=Tryz.sizeOf0
 v0:=Tryz.zeroValue0
 i0:=by kernel_rfl
 t3:=Tryz.underlying3
 a3:=Tryz.isAgg3
 z3:=Tryz.sizeOf3
 v3:=Tryz.zeroValue3
 i3:=by kernel_rfl
 t4:=Tryz.underlying4
 a4:=Tryz.isAgg4
 z4:=Tryz.sizeOf4
 v4:=Tryz.zeroValue4
 i4:=by kernel_rfl
 t5:=Tryz.underlying5
 a5:=Tryz.isAgg5
 z5:=Tryz.sizeOf5
 v5:=Tryz.zeroValue5
 i5:=by kernel_rfl
 t25:=Tryz.underlying135
 a25:=Tryz.isAgg135
 z25:=Tryz.sizeOf135
 v25:=Tryz.zeroValue135
 i25:=by kernel_rfl
 t27:=Tryz.underlying162
 a27:=Tryz.isAgg162
 z27:=Tryz.sizeOf162
 v27:=Tryz.zeroValue162
 i27:=by kernel_rfl
 t53:=Tryz.underlying272
 a53:=Tryz.isAgg272
 z53:=Tryz.sizeOf272
 v53:=Tryz.zeroValue272
 i53:=by kernel_rfl
 g0:=by kernel_rfl}
end Go.Proofs
namespace Go.Proofs.YtoiebebjgnpkmaaGreatDoor
open Go.RowKit
set_option linter.unusedSimpArgs false
set_option linter.unusedVariables false
set_option maxHeartbeats 4000000
set_option maxRecDepth 100000
theorem ctz_tz:∀ (f x:Nat),0<x→x<2 ^ f→Lib.ctzFrom f x=tz x
 | 0,x,h0,h=>by simp at h;omega
 | f+1,x,h0,h=>by
  rw [Lib.ctzFrom]
  by_cases h1:x % 2=1
  ·rw [if_pos h1,tz_odd h1]
  ·rw [Nat.pow_succ] at h
   have e:x=2*(x / 2):=by omega
   rw [if_neg h1,ctz_tz f (x / 2) (by omega) (by omega)]
   conv=>rhs;rw [e,tz_even (by omega)]
   omega
theorem tz32_any (w:World) (x:Nat) (h0:x≠0) (hx:x<4294967296) (hT:TabAt 6 Lib.deBruijn32tab w):
 Calls Tryz.prog 222 #[.int .u32 (x:Int)] w fun e w'=>e= .returned (.int .i64 (tz x:Int))∧Fr [] w w':=by
 refine Calls.mono (Any7.bits_TrailingZeros32 Tryz.lays28 x hx w (fun _ =>hT)) ?_
 rintro e w' ⟨rfl,rfl⟩
 refine ⟨?_,Fr.refl _ _⟩
 rw [Lib.ctz,if_neg h0,ctz_tz 32 x (by omega) (by omega)]
theorem TabAt.fr {g:Nat} {tab:List Nat} {w w':World} (h:TabAt g tab w) (k:Fr [] w w'):TabAt g tab w':=fun j hj=>k.cell (h j hj) (by simp)
set_option maxHeartbeats 8000000 in
theorem bitLen_any {w:World} {p:Option Addr} {n c:Nat} (neg:Bool) (l:List Nat) (hl:l.length=n) (hn:n≤1000000) (h:LR w p c l):
 Calls Tryz.prog 182 #[.agg #[.bool neg, .slice p n c]] w fun e w'=>e= .returned (.int .i64 (bl (val l):Int))∧Fr [] w w':=by
 subst hl
 have Hh:=hid h
 have hA:=hid (h.trim)
 have hlen:=digs_len_le h.lim
 have H:=Hp.start [] w
 clear h
 go_enter Tryz.func182,Tryz.ntmps182
 (revert H;refine Wcade ?_ <;>unhygienic intros)
 (refine x_c H (trim_any l rfl (Hh.out.fr H.fr)) ?_;clear H;rintro e w1 ⟨rfl,hF⟩ H;skip)
 (revert H;refine Wcade ?_ <;>unhygienic intros)
 (refine x_c H (length_any (val l) rfl (by omega) (hA.out.fr H.fr)) ?_;clear H;rintro e w1 ⟨rfl,hF⟩ H;skip)
 (revert H;refine Wcade ?_ <;>unhygienic intros)
 go_ret
 exact ⟨rfl,H.fr⟩
set_option maxHeartbeats 8000000 in
theorem trailing_any {w:World} {p:Option Addr} {n c:Nat} (neg:Bool) (l:List Nat) (hl:l.length=n) (hn:n≤1000000) (h:LR w p c l) (hT:TabAt 6 Lib.deBruijn32tab w):
 Calls Tryz.prog 190 #[.agg #[.bool neg, .slice p n c]] w fun e w'=>e= .returned (.int .i64 (tz (val l):Int))∧Fr [] w w':=by
 subst hl
 have Hh:=hid h
 have HT:=hid hT
 have H:=Hp.start [] w
 clear h hT
 go_enter Tryz.func190,Tryz.ntmps190
 (revert H;refine Wcade ?_ <;>unhygienic intros)
 go_loopw [8] (fun s8 wr=>∃ i:Nat,i≤l.length∧s8= .int .i64 (i:Int)∧Hid (∀ j,j<i→l[j]? =some 0)∧Hp [] w wr [.blk g [.bool neg, .slice p l.length c] 112]) (fun v _ =>l.length - (intOf v).toNat)
 case atStart=>exact ⟨0,Nat.zero_le _,rfl,hid (fun j hj=>absurd hj (Nat.not_lt_zero _)),H⟩
 case round=>
  clear H
  obtain ⟨i,hi,rfl,Hz,H⟩:=hrel
  by_cases hin:i<l.length
  ·obtain ⟨x,hx⟩:∃ x,l[i]? =some x:=⟨_,List.getElem?_eq_getElem hin⟩
   have hxv:=limbs_at hx
   have hxB:=Hh.out.lim.at hx
   have Hx:=hid hx
   obtain ⟨b0,off,rfl,hb0,hcell⟩:=Hh.out.rd.rng (limbs_ne (i:=i) hin)
   have H1:=H.pushRng (b:=b0) (off:=off) hb0 (by simp) hcell
   clear H hcell
   have H:=H1
   clear H1
   clear hx
   by_cases h0:x=0
   ·have Hx0:=hid h0
    have hx0:(x:Int)=0:=by omega
    clear h0
    rw [hx0] at hxv
    clear hx0
    (revert H;refine Wcade ?_ <;>unhygienic intros)
    go_roundw
    case rel=>exact ⟨i+1,by omega,by go_num,hid (upto_step Hz.out (by have:=Hx.out;rw [Hx0.out] at this;exact this)),H.sub (by repeat first | exact List.Sublist.refl _ | exact List.nil_sublist _ | apply List.Sublist.cons_cons | apply List.Sublist.cons)⟩
    case measure=>(simp [intOf];try omega)
   ·have hx0:0<x:=Nat.pos_of_ne_zero h0
    have Hx0:=hid h0
    have HR:Hid (tz (val l)=32*i+tz x):=hid (tz_digs Hx.out h0 Hh.out.lim Hz.out)
    clear h0
    (revert H;refine Wcade ?_ <;>unhygienic intros)
    (refine x_c H (tz32_any _ x Hx0.out hxB (TabAt.fr HT.out H.fr)) ?_;clear H;rintro e w1 ⟨rfl,hF⟩ H;skip)
    have ht:tz x≤64:=by
     have h1:=ctz_tz 32 x hx0 (by omega)
     obtain ⟨_,_,h2⟩:=Lib.ctzFrom_spec 32 x hx0 (by omega)
     omega
    (revert H;refine Wcade ?_ <;>unhygienic intros)
    go_ret
    refine ⟨?_,H.fr⟩
    rw [HR.out,show ((32*i+tz x:Nat):Int)=(i:Int)*32+(tz x:Int) by omega]
    rfl
  ·have e:val l=0:=by
    apply zeros_tail
    intro k x hk
    have h1:=(List.getElem?_eq_some_iff.1 hk).1
    have h2:=Hz.out k (by omega)
    rw [hk] at h2
    exact Option.some.inj h2
   have He:=hid e
   clear e
   (revert H;refine Wcade ?_ <;>unhygienic intros)
   go_ret
   exact ⟨by rw [He.out,tz_zero];rfl,H.fr⟩
end Go.Proofs.YtoiebebjgnpkmaaGreatDoor
namespace Go.Proofs
open Go.Shelf
set_option linter.unusedSimpArgs false
set_option linter.unusedVariables false
def Tryz.lays172_ren:Go.Shelf.Ren:=⟨fun | 172=>114 | 244=>160 | 245=>161 | 247=>205 | 279=>206 | 280=>207 | 281=>208 | 282=>209 | 287=>237 | 316=>238 | 171=>13 | 205=>239 | 321=>250 | 322=>251 | 243=>45 | 246=>88 | 283=>130 | 284=>131 | 285=>132 | 286=>133 | 129=>172 | 317=>171 | 318=>173 | 319=>174 | 320=>175 | 337=>222 | 338=>223 | n=>n,fun | 9=>9 | 3=>3 | 75=>94 | 76=>95 | 4=>4 | 5=>5 | 167=>235 | 37=>28 | 0=>0 | 85=>236 | 2=>2 | 168=>238 | 53=>22 | 175=>262 | 46=>135 | 210=>265 | 127=>148 | 145=>283 | 143=>281 | 21=>21 | 171=>171 | 173=>174 | 212=>211 | 51=>162 | 20=>20 | 213=>212 | 232=>272 | 233=>273 | 80=>97 | n=>n,fun | 15=>2 | 16=>3 | 17=>0 | 18=>6 | 19=>7 | n=>n⟩
theorem Tryz.lays172:Go.Proofs.Lays.n172 Tryz.prog Tryz.lays172_ren:={
 mixed:=by kernel_rfl
 f129:=Tryz.func172.trans (congrArg some (by kernel_rfl))
 f171:=Tryz.func13.trans (congrArg some (by kernel_rfl))
 f172:=Tryz.func114.trans (congrArg some (by kernel_rfl))
 f205:=Tryz.func239.trans (congrArg some (by kernel_rfl))
 f243:=Tryz.func45.trans (congrArg some (by kernel_rfl))
 f244:=Tryz.func160.trans (congrArg some (by kernel_rfl))
 f245:=Tryz.func161.trans (congrArg some (by kernel_rfl))
 f246:=Tryz.func88.trans (congrArg some (by kernel_rfl))
 f247:=Tryz.func205.trans (congrArg some (by kernel_rfl))
 f279:=Tryz.func206.trans (congrArg some (by kernel_rfl))
 f280:=Tryz.func207.trans (congrArg some (by kernel_rfl))
 f281:=Tryz.func208.trans (congrArg some (by kernel_rfl))
 f282:=Tryz.func209.trans (congrArg some (by kernel_rfl))
 f283:=Tryz.func130.trans (congrArg some (by kernel_rfl))
 f284:=Tryz.func131.trans (congrArg some (by kernel_rfl))
 f285:=Tryz.func132.trans (congrArg some (by kernel_rfl))
 f286:=Tryz.func133.trans (congrArg some (by kernel_rfl))
 f287:=Tryz.func237.trans (congrArg some (by kernel_rfl))
 f316:=Tryz.func238.trans (congrArg some (by kernel_rfl))
 f317:=Tryz.func171.trans (congrArg some (by kernel_rfl))
 f318:=Tryz.func173.trans (congrArg some (by kernel_rfl))
 f319:=Tryz.func174.trans (congrArg some (by kernel_rfl))
 f320:=Tryz.func175.trans (congrArg some (by kernel_rfl))
 f321:=Tryz.func250.trans (congrArg some (by kernel_rfl))
 f322:=Tryz.func251.trans (congrArg some (by kernel_rfl))
 f337:=Tryz.func222.trans (congrArg some (by kernel_rfl))
 f338:=Tryz.func223.trans (congrArg some (by kernel_rfl))
 t0:=Tryz.underlying0
 a0:=Tryz.isAgg0
 z0:=Tryz.sizeOf0
 v0:=Tryz.zeroValue0
 t2:=Tryz.underlying2
 a2:=Tryz.isAgg2
 z2:=Tryz.sizeOf2
 v2:=Tryz.zeroValue2
 t3:=Tryz.underlying3
 a3:=Tryz.isAgg3
 z3:=Tryz.sizeOf3
 v3:=Tryz.zeroValue3
 t4:=Tryz.underlying4
 a4:=Tryz.isAgg4
 z4:=Tryz.sizeOf4
 v4:=Tryz.zeroValue4
 t5:=Tryz.underlying5
 a5:=Tryz.isAgg5
 z5:=Tryz.sizeOf5
 v5:=Tryz.zeroValue5
 t9:=Tryz.underlying9
 a9:=Tryz.isAgg9
 z9:=Tryz.sizeOf9
 v9:=Tryz.zeroValue9
 t20:=Tryz.underlying20
 a20:=Tryz.isAgg20
 z20:=Tryz.sizeOf20
 v20:=Tryz.zeroValue20
 t21:=Tryz.underlying21
 a21:=Tryz.isAgg21
 z21:=Tryz.sizeOf21
 v21:=Tryz.zeroValue21
 t37:=Tryz.underlying28
 a37:=Tryz.isAgg28
 z37:=Tryz.sizeOf28
 v37:=Tryz.zeroValue28
 t46:=Tryz.underlying135
 a46:=Tryz.isAgg135
 z46:=Tryz.sizeOf135
 v46:=Tryz.zeroValue135
 t51:=Tryz.underlying162
 a51:=Tryz.isAgg162
 z51:=Tryz.sizeOf162
 v51:=Tryz.zeroValue162
 t53:=Tryz.underlying22
 a53:=Tryz.isAgg22
 z53:=Tryz.sizeOf22
 v53:=Tryz.zeroValue22
 t75:=Tryz.underlying94
 a75:=Tryz.isAgg94
 z75:=Tryz.sizeOf94
 v75:=Tryz.zeroValue94
 t76:=Tryz.underlying95
 a76:=Tryz.isAgg95
 z76:=Tryz.sizeOf95
 v76:=Tryz.zeroValue95
 t85:=Tryz.underlying236
 a85:=Tryz.isAgg236
 z85:=Tryz.sizeOf236
 v85:=Tryz.zeroValue236
 t127:=Tryz.underlying148
 a127:=Tryz.isAgg148
 z127:=Tryz.sizeOf148
 v127:=Tryz.zeroValue148
 t143:=Tryz.underlying281
 a143:=Tryz.isAgg281
 z143:=Tryz.sizeOf281
 v143:=Tryz.zeroValue281
 t145:=Tryz.underlying283
 a145:=Tryz.isAgg283
 z145:=Tryz.sizeOf283
 v145:=Tryz.zeroValue283
 t167:=Tryz.underlying235
 a167:=Tryz.isAgg235
 z167:=Tryz.sizeOf235
 v167:=Tryz.zeroValue235
 t168:=Tryz.underlying238
 a168:=Tryz.isAgg238
 z168:=Tryz.sizeOf238
 v168:=Tryz.zeroValue238
 t171:=Tryz.underlying171
 a171:=Tryz.isAgg171
 z171:=Tryz.sizeOf171
 v171:=Tryz.zeroValue171
 t173:=Tryz.underlying174
 a173:=Tryz.isAgg174
 z173:=Tryz.sizeOf174
 v173:=Tryz.zeroValue174
 t175:=Tryz.underlying262
 a175:=Tryz.isAgg262
 z175:=Tryz.sizeOf262
 v175:=Tryz.zeroValue262
 t210:=Tryz.underlying265
 a210:=Tryz.isAgg265
 z210:=Tryz.sizeOf265
 v210:=Tryz.zeroValue265
 t212:=Tryz.underlying211
 a212:=Tryz.isAgg211
 z212:=Tryz.sizeOf211
 v212:=Tryz.zeroValue211
 t213:=Tryz.underlying212
 a213:=Tryz.isAgg212
 z213:=Tryz.sizeOf212
 t232:=Tryz.underlying272
 a232:=Tryz.isAgg272
 z232:=Tryz.sizeOf272
 v232:=Tryz.zeroValue272
 t233:=Tryz.underlying273
 a233:=Tryz.isAgg273
 z233:=Tryz.sizeOf273
 v233:=Tryz.zeroValue273
 g15:=by kernel_rfl
 g16:=by kernel_rfl
 g17:=by kernel_rfl
 g18:=by kernel_rfl
 g19:=by kernel_rfl}
open Go.RowKit in
theorem Tryz.strconv_Atoi (s:ByteArray) (n:Int) (hl:s.size≤18) (h:Lib.atoi s.data.toList=some n) (w:World):
 Calls Tryz.prog 114 #[.string s] w fun e w'=>e= .returned (.tuple #[.int .i64 n, .nilIface])∧∃ t,w'=Lib.bytesWorld w 5 t:=Any.strconv_Atoi Tryz.lays172 s n hl h w
def Tryz.laysGw17_ren:Go.Shelf.Ren:=⟨fun | 17=>112 | 15=>159 | 20=>204 | n=>n,fun | 9=>9 | 23=>160 | 4=>4 | 3=>3 | 0=>0 | 21=>21 | n=>n,fun | n=>n⟩
theorem Tryz.laysGw17:Go.Proofs.LaysGw.n17 Tryz.prog Tryz.laysGw17_ren:={
 mixed:=by kernel_rfl
 f15:=Tryz.func159.trans (congrArg some (by kernel_rfl))
 f17:=Tryz.func112.trans (congrArg some (by kernel_rfl))
 f20:=Tryz.func204.trans (congrArg some (by kernel_rfl))
 t0:=Tryz.underlying0
 a0:=Tryz.isAgg0
 z0:=Tryz.sizeOf0
 v0:=Tryz.zeroValue0
 i0:=by kernel_rfl
 t3:=Tryz.underlying3
 a3:=Tryz.isAgg3
 z3:=Tryz.sizeOf3
 v3:=Tryz.zeroValue3
 i3:=by kernel_rfl
 t4:=Tryz.underlying4
 a4:=Tryz.isAgg4
 z4:=Tryz.sizeOf4
 v4:=Tryz.zeroValue4
 i4:=by kernel_rfl
 t9:=Tryz.underlying9
 a9:=Tryz.isAgg9
 z9:=Tryz.sizeOf9
 v9:=Tryz.zeroValue9
 i9:=by kernel_rfl
 t21:=Tryz.underlying21
 a21:=Tryz.isAgg21
 z21:=Tryz.sizeOf21
 v21:=Tryz.zeroValue21
 i21:=by kernel_rfl
 t23:=Tryz.underlying160
 a23:=Tryz.isAgg160
 z23:=Tryz.sizeOf160
 v23:=Tryz.zeroValue160
 i23:=by kernel_rfl}
open Go.RowKit Go.Lib in
theorem Tryz.strings_ContainsFunc_runes (g:Nat) (lb:Array Value) (eg:∀ args w,(callFunc g args).run Tryz.prog w= .ok (.enter g args) w) (p:Nat→Bool) (s:ByteArray) (w:World) (hp:PredAtRunes Tryz.prog g lb p w):
 Calls Tryz.prog 112 #[.string s, .func (.func g) #[] lb] w fun e w'=>e= .returned (.bool (decide (0≤Lib.idxFunc p true s)))∧Below w.heap.size w w':=Any.strings_ContainsFunc_runes Tryz.laysGw17 g lb eg p s w hp
def Tryz.lays99_ren:Go.Shelf.Ren:=⟨fun | 99=>97 | 206=>150 | n=>n,fun | 9=>9 | 4=>4 | 3=>3 | n=>n,fun | n=>n⟩
theorem Tryz.lays99:Go.Proofs.Lays.n99 Tryz.prog Tryz.lays99_ren:={
 mixed:=by kernel_rfl
 f99:=Tryz.func97.trans (congrArg some (by kernel_rfl))
 f206:=Tryz.func150.trans (congrArg some (by kernel_rfl))
 t3:=Tryz.underlying3
 a3:=Tryz.isAgg3
 z3:=Tryz.sizeOf3
 v3:=Tryz.zeroValue3
 t4:=Tryz.underlying4
 a4:=Tryz.isAgg4
 z4:=Tryz.sizeOf4
 v4:=Tryz.zeroValue4
 t9:=Tryz.underlying9
 a9:=Tryz.isAgg9
 z9:=Tryz.sizeOf9
 v9:=Tryz.zeroValue9}
open Go.RowKit Go.Lib in
theorem Tryz.strings_HasPrefix (s p:ByteArray) (w:World):
 Calls Tryz.prog 97 #[.string s, .string p] w fun e w'=>e= .returned (.bool (Lib.hasPrefix s.data.toList p.data.toList))∧w'=w:=Any.strings_HasPrefix Tryz.lays99 s p w
end Go.Proofs
namespace Go.Proofs.YtoiebebjgnpkmaaGreatDoor
open Go.RowKit
set_option linter.unusedSimpArgs false
set_option linter.unusedVariables false
def dig (b:UInt8):Bool:=48≤b.toNat&&b.toNat≤57
def notDig (x:Nat):Bool:=decide (x<48)||decide (57<x)
def numS (a:Nat) (b:UInt8):Nat:=a*10+(b.toNat - 48)
def numF (a:Nat) (l:List UInt8):Nat:=l.foldl numS a
def num (l:List UInt8):Nat:=numF 0 l
theorem numF_cons (a:Nat) (b:UInt8) (r:List UInt8):numF a (b::r)=numF (numS a b) r:=by unfold numF;rw [List.foldl_cons]
theorem numF_eq (l:List UInt8):∀ a:Nat,numF a l=a*10 ^ l.length+numF 0 l:=by
 induction l with
 | nil=>
  intro a
  show a=a*1+0
  omega
 | cons b r ih=>
  intro a
  have h1:=ih (numS a b)
  have h2:=ih (numS 0 b)
  have e1:numS a b=a*10+numS 0 b:=by unfold numS;omega
  have e2:a*10*10 ^ r.length=a*10 ^ (r.length+1):=by rw [Nat.pow_succ,Nat.mul_assoc,Nat.mul_comm 10]
  rw [e1,Nat.add_mul,e2] at h1
  rw [numF_cons,numF_cons,List.length_cons,e1,h1,Nat.add_assoc,h2]
theorem numF_app (l m:List UInt8) (a:Nat):numF a (l++m)=numF (numF a l) m:=List.foldl_append
theorem num_app (l m:List UInt8):num (l++m)=num l*10 ^ m.length+num m:=by
 unfold num
 rw [numF_app,numF_eq m]
theorem dig_le {b:UInt8} (h:dig b=true):48≤b.toNat∧b.toNat≤57:=by unfold dig at h;simpa using h
theorem num_one (b:UInt8):num [b]=b.toNat - 48:=by
 show numS 0 b=_
 unfold numS
 omega
theorem num_lt:∀ (l:List UInt8),l.all dig=true→num l<10 ^ l.length
 | [],_ =>Nat.one_pos
 | b::r,h=>by
  rw [List.all_cons,Bool.and_eq_true] at h
  have h1:=dig_le h.1
  have h2:=num_lt r h.2
  rw [show b::r=[b]++r from rfl,num_app,num_one,List.length_append,List.length_cons,List.length_nil,Nat.pow_add,Nat.zero_add,Nat.pow_one]
  have h3:(b.toNat - 48)*10 ^ r.length≤9*10 ^ r.length:=Nat.mul_le_mul_right _ (by omega)
  omega
theorem decFrom_num:∀ (l:List UInt8) (a:Nat),l.all dig=true→Lib.decFrom a l=some (numF a l)
 | [],a,_ =>rfl
 | b::r,a,h=>by
  rw [List.all_cons,Bool.and_eq_true] at h
  have h1:=dig_le h.1
  rw [Lib.decFrom,Lib.digitVal,if_pos h1]
  exact decFrom_num r _ h.2
theorem atoi_num {l:List UInt8} (h:l.all dig=true) (hn:l≠[]):Lib.atoi l=some (num l:Int):=by
 cases l with
 | nil=>exact absurd rfl hn
 | cons b r=>
  have h0:=h
  rw [List.all_cons,Bool.and_eq_true] at h
  have h1:=dig_le h.1
  have e1:(b==45)=false:=by
   rw [beq_eq_false_iff_ne]
   intro e
   subst e
   have h2:=h1.1
   simp at h2
  have e2:(b==43)=false:=by
   rw [beq_eq_false_iff_ne]
   intro e
   subst e
   have h2:=h1.1
   simp at h2
  rw [Lib.atoi,e1,e2]
  simp only [Bool.false_eq_true,if_false,Lib.decNat,List.isEmpty_cons,decFrom_num _ 0 h0,Option.map_some]
  rfl
theorem decode_low {s:ByteArray} {i:Nat} (h:(s.get! i).toNat<128):Utf8.decode s i=((s.get! i).toNat,1):=by
 unfold Utf8.decode
 simp only [Nat.add_zero]
 rw [if_pos h]
theorem decode_high {s:ByteArray} {i:Nat} (h:¬ (s.get! i).toNat<128):57<(Utf8.decode s i).1:=by
 unfold Utf8.decode
 simp only [Nat.add_zero]
 rw [if_neg h]
 have hr:57<Utf8.runeError:=by decide
 repeat' split
 all_goals first | exact hr | (simp only;omega) | skip
 all_goals
  rename_i hc
  simp only [Bool.and_eq_true,decide_eq_true_eq,ge_iff_le] at hc
  simp only
  omega
theorem get_list (s:List UInt8) (i:Nat) (b:UInt8) (h:s[i]? =some b):(ByteArray.mk s.toArray).get! i=b:=by
 obtain ⟨h1,e⟩:=List.getElem?_eq_some_iff.1 h
 show (s.toArray)[i]! =b
 simp [h1,e]
theorem idx_from (s:List UInt8):∀ (f pos:Nat),s.length≤pos+f→decide (0≤Lib.idxFuncFrom notDig true ⟨s.toArray⟩ f pos)= !((s.drop pos).all dig)
 | 0,pos,hf=>by
  rw [List.drop_eq_nil_of_le (by omega)]
  rfl
 | f+1,pos,hf=>by
  have hsz:(ByteArray.mk s.toArray).size=s.length:=by simp [ByteArray.size]
  rw [Lib.idxFuncFrom]
  by_cases hp:pos<s.length
  ·rw [if_pos (by rw [hsz];exact hp)]
   have hg:=get_list s pos s[pos] (List.getElem?_eq_getElem hp)
   rw [List.drop_eq_getElem_cons hp,List.all_cons]
   by_cases hd:dig s[pos]=true
   ·have h1:=dig_le hd
    have hl:((ByteArray.mk s.toArray).get! pos).toNat<128:=by rw [hg];omega
    rw [decode_low hl,hg,hd,Bool.true_and]
    have hn:notDig s[pos].toNat=false:=by unfold notDig;simp;omega
    rw [hn,if_neg (by decide)]
    exact idx_from s f (pos+1) (by omega)
   ·have hn:notDig (Utf8.decode ⟨s.toArray⟩ pos).1=true:=by
     by_cases hl:((ByteArray.mk s.toArray).get! pos).toNat<128
     ·rw [decode_low hl,hg]
      unfold dig at hd
      unfold notDig
      simp at hd ⊢
      omega
     ·have:=decode_high hl
      unfold notDig
      simp
      omega
    rw [hn,if_pos rfl]
    have hf:dig s[pos]=false:=by simpa using hd
    rw [hf]
    simp
  ·rw [if_neg (by rw [hsz];exact hp),List.drop_eq_nil_of_le (by omega)]
   rfl
theorem idx_digits (s:List UInt8):decide (0≤Lib.idxFunc notDig true ⟨s.toArray⟩)= !(s.all dig):=by
 have h:=idx_from s s.length 0 (by omega)
 rw [List.drop_zero] at h
 have hsz:(ByteArray.mk s.toArray).size=s.length:=by simp [ByteArray.size]
 unfold Lib.idxFunc
 rw [hsz]
 exact h
def sgn (s:List UInt8):Bool:=s.head? ==some 45
def body (s:List UInt8):List UInt8:=if s.head? =some 45∨s.head? =some 43 then s.tail else s
def pz (s:List UInt8):Int×Int:=
 if 1024<s.length then (0,2)
 else if body s=[]∨(body s).all dig=false then (0,7)
 else (sg (sgn s) (num (body s)),0)
theorem dec_digits (n:Nat):(dec n).all dig=true∧num (dec n)=n∧dec n≠[]:=by
 induction n using Nat.strongRecOn with
 | _ n ih=>
  have hb:∀ d,d<10→(UInt8.ofNat (48+d)).toNat=48+d:=fun d hd=>by
   rw [UInt8.toNat_ofNat']
   exact Nat.mod_eq_of_lt (by omega)
  by_cases h:n<10
  ·rw [dec_small h]
   refine ⟨?_, ?_,by simp⟩
   ·simp [dig,hb n h];omega
   ·rw [num_one,hb n h];omega
  ·obtain ⟨h1,h2,h3⟩:=ih (n / 10) (by omega)
   have hm:n % 10<10:=Nat.mod_lt _ (by decide)
   rw [dec_ten (by omega)]
   refine ⟨?_, ?_,by simp⟩
   ·rw [List.all_append,h1]
    simp [dig,hb _ hm];omega
   ·rw [num_app,h2,num_one,hb _ hm]
    simp
    omega
end Go.Proofs.YtoiebebjgnpkmaaGreatDoor
namespace Go.Proofs.YtoiebebjgnpkmaaGreatDoor
open Go.RowKit
set_option linter.unusedSimpArgs false
set_option linter.unusedVariables false
set_option maxHeartbeats 16000000
set_option maxRecDepth 100000
section
variable {P:Program} {a:Act} {w:World} {o:Oper}
theorem ba_extract (s:List UInt8) (i j:Nat):(ByteArray.mk s.toArray).extract i j=⟨((s.take j).drop i).toArray⟩:=by
 apply ByteArray.ext
 simp [ByteArray.data_extract,List.extract_eq_take_drop,List.drop_take]
theorem ba_size (s:List UInt8):(ByteArray.mk s.toArray).size=s.length:=by simp [ByteArray.size]
theorem ev_strLen {x:Operand} {t:TypeId} (ho:o.op= .call {callee:= .builtin .len,args:=#[x],argTypes:=#[t]}) {s:List UInt8} (hx:a.eval x=strV s) [h:Sy P t]:(execOp a.eval o).run P w= .ok (.value (.int .i64 s.length)) w:=by
 have:=c_lens (P:=P) (w:=w) ho (s:=⟨s.toArray⟩) hx
 rw [ba_size] at this
 exact this
theorem ev_strHead {t:TypeId} {x y:Operand} (ho:o.op= .slice t x none (some y) none) {s r:List UInt8} (hx:a.eval x=strV s) {k:IntKind} {i:Int} (hy:a.eval y= .int k i) [h:Sy P t] (hr:Hid (s.take i.toNat=r)) (h0:0≤i:=by omega) (h1:i≤s.length:=by omega):(execOp a.eval o).run P w= .ok (.value (strV r)) w:=by
 rw [← hr.out]
 unfold strV at hx
 have e:=run_slice_string_h (P:=P) w t ⟨s.toArray⟩ h.h k i h0 (by rw [ba_size];exact h1)
 rw [ba_extract,List.drop_zero] at e
 unfold execOp
 simp only [ho,hx,hy,Option.map_none,Option.map_some,Sem.run_bind,run_sliceAt_string _ _ _ _ _ _ h.h,e,Result.andThen_ok,Sem.run_pure]
 rfl
theorem ev_strTail {t:TypeId} {x y:Operand} (ho:o.op= .slice t x (some y) none none) {s r:List UInt8} (hx:a.eval x=strV s) {k:IntKind} {i:Int} (hy:a.eval y= .int k i) [h:Sy P t] (hr:Hid (s.drop i.toNat=r)) (h0:0≤i:=by omega) (h1:i≤s.length:=by omega):(execOp a.eval o).run P w= .ok (.value (strV r)) w:=by
 rw [← hr.out]
 unfold strV at hx
 have e:=run_slice_string_l (P:=P) w t ⟨s.toArray⟩ h.h k i h0 (by rw [ba_size];exact h1)
 rw [ba_extract,ba_size,List.take_length] at e
 unfold execOp
 simp only [ho,hx,hy,Option.map_none,Option.map_some,Sem.run_bind,run_sliceAt_string _ _ _ _ _ _ h.h,e,Result.andThen_ok,Sem.run_pure]
 rfl
theorem ev_strEq0 {t t':TypeId} {x y:Operand} (ho:o.op= .binOp .eql t x y t') {s:List UInt8} (hx:a.eval x=strV s) (hy:a.eval y=strV []) {b:Bool} (hs:Hid ((s==[])=b)):(execOp a.eval o).run P w= .ok (.value (.bool b)) w:=by
 rw [← hs.out];exact ev_strEq ho hx hy
theorem ev_strNe0 {t t':TypeId} {x y:Operand} (ho:o.op= .binOp .neq t x y t') {s:List UInt8} (hx:a.eval x=strV s) (hy:a.eval y=strV []) {b:Bool} (hs:Hid ((s==[])=b)):(execOp a.eval o).run P w= .ok (.value (.bool (!b))) w:=by
 rw [← hs.out];exact ev_strNe ho hx hy
end
theorem prefix_any (w:World) (s:List UInt8) (c:UInt8) {b:Bool} (hb:Hid ((s.head? ==some c)=b)):Calls Tryz.prog 97 #[strV s, .string (ByteArray.mk #[c])] w fun e w'=>e= .returned (.bool b)∧Fr [] w w':=by
 refine Calls.mono (Tryz.strings_HasPrefix ⟨s.toArray⟩ (ByteArray.mk #[c]) w) ?_
 rintro e w' ⟨rfl,rfl⟩
 refine ⟨?_,Fr.refl _ _⟩
 rw [← hb.out]
 cases s with
 | nil=>rfl
 | cons x r=>
  show Ending.returned (.bool (List.isPrefixOf [c] (x::r)))=_
  have e:List.isPrefixOf [c] (x::r)=((x::r).head? ==some c):=by
   rw [List.isPrefixOf_cons_cons,List.head?_cons,Option.some_beq_some,Bool.beq_comm]
   simp [List.isPrefixOf]
  rw [e]
theorem atoi_any (w:World) (s:List UInt8) (hs:Hid (s.all dig=true)) (hn:Hid (s≠[])) (hl:s.length≤18):Calls Tryz.prog 114 #[strV s] w fun e w'=>e= .returned (.tuple #[.int .i64 (num s:Int), .nilIface])∧Fr [] w w':=by
 refine Calls.mono (Tryz.strconv_Atoi ⟨s.toArray⟩ (num s:Int) (by rw [ba_size];exact hl) (atoi_num hs.out hn.out) w) ?_
 rintro e w' ⟨rfl,t,rfl⟩
 exact ⟨rfl,Fr.of_below (Lib.bytesWorld_below _ _ _)⟩
theorem notDig_any (w:World) (x:Nat) (hx:x≤1114111):Calls Tryz.prog 113 #[.int .i32 (x:Int)] w fun e w'=>e= .returned (.bool (notDig x))∧∃ q,w'=w.drewN q:=by
 by_cases h1:x<48
 ·have HB:=hid (show notDig x=true by unfold notDig;simp;omega)
  have H4:=hid (show decide ((57:Int)<(x:Int))=false from decide_eq_false (by omega))
  go_enter Tryz.func113,Tryz.ntmps113;go_wp2;go_ret;exact ⟨by rw [HB.out];first | rfl | (show Ending.returned (.bool (decide ((57:Int)<(x:Int))))=_;rw [H4.out]),0,rfl⟩
 ·by_cases h2:57<x
  ·have HB:=hid (show notDig x=true by unfold notDig;simp;omega)
   have H4:=hid (decide_eq_true (show (57:Int)<(x:Int) by omega))
   have h3:¬ (x:Int)<48:=by omega
   go_enter Tryz.func113,Tryz.ntmps113;go_wp2;go_ret;exact ⟨by rw [HB.out];first | rfl | (show Ending.returned (.bool (decide ((57:Int)<(x:Int))))=_;rw [H4.out]),0,rfl⟩
  ·have HB:=hid (show notDig x=false by unfold notDig;simp;omega)
   have h3:¬ (x:Int)<48:=by omega
   have H4:=hid (decide_eq_false (show ¬ (57:Int)<(x:Int) by omega))
   go_enter Tryz.func113,Tryz.ntmps113;go_wp2;go_ret;exact ⟨by rw [HB.out];first | rfl | (show Ending.returned (.bool (decide ((57:Int)<(x:Int))))=_;rw [H4.out]),0,rfl⟩
theorem notDigs_any (w:World) (s:List UInt8) {b:Bool} (hb:Hid ((!(s.all dig))=b)):Calls Tryz.prog 112 #[strV s, .func (.func 113) #[] #[]] w fun e w'=>e= .returned (.bool b)∧Fr [] w w':=by
 refine Calls.mono (Tryz.strings_ContainsFunc_runes 113 #[] (fun args w=>by rfl) notDig ⟨s.toArray⟩ w (fun W x hx _ =>notDig_any W x hx)) ?_
 rintro e w' ⟨rfl,hF⟩
 exact ⟨by rw [idx_digits,hb.out],Fr.of_below hF⟩
end Go.Proofs.YtoiebebjgnpkmaaGreatDoor
namespace Go.Proofs.YtoiebebjgnpkmaaGreatDoor
open Go
set_option linter.unusedSimpArgs false
set_option linter.unusedVariables false
def isW (b:UInt8):Bool:=b==32||b==9
def wds:List UInt8→List UInt8→List (List UInt8)
 | cur,[]=>if cur=[] then [] else [cur]
 | cur,b::r=>if isW b then (if cur=[] then wds [] r else cur::wds [] r) else wds (cur++[b]) r
def mwords (s:List UInt8):List (List UInt8):=wds [] s
end Go.Proofs.YtoiebebjgnpkmaaGreatDoor
