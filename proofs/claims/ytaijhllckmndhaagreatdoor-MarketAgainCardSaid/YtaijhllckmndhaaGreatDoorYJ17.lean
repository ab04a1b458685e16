import Derived.Test.YtaijhllckmndhaaGreatDoorYJ0
import Derived.Test.YtaijhllckmndhaaGreatDoorYJ16
import Derived.Shelf.Strings.Trim
import Derived.Shelf.Strings.SlTrimAscii
import Derived.Shelf.Strings.IndexAny
import Derived.Shelf.Strings.IndexAnyAll
import Derived.Shelf.Strings.Runes
import Derived.Laws.RangeString
import Derived.Deep.LoopGhost
set_option linter.all false
set_option maxHeartbeats 64000000
set_option maxRecDepth 100000
namespace Go.Proofs
open Go.Shelf
def Tryz.lays161_ren:Go.Shelf.Ren:=⟨fun| 161=>71| 231=>113| 227=>114| 233=>115| 235=>116| 228=>169| 197=>170| 151=>171| 260=>237| 152=>238| 137=>289| 119=>290| 224=>287| 225=>286| 217=>285| 266=>307|n=>n,fun| 9=>9| 4=>4| 3=>3| 5=>5| 117=>153| 116=>152| 0=>0| 124=>156| 105=>201| 21=>21| 119=>280| 46=>103| 139=>283| 138=>282|n=>n,fun| 3=>4| 4=>5|n=>n⟩
def Tryz.lays161:Go.Proofs.Lays.n161 Tryz.prog Tryz.lays161_ren:={
 mixed:=by kernel_rfl
 f119:=Tryz.func290.trans (congrArg some (by kernel_rfl))
 f137:=Tryz.func289.trans (congrArg some (by kernel_rfl))
 f151:=Tryz.func171.trans (congrArg some (by kernel_rfl))
 f152:=Tryz.func238.trans (congrArg some (by kernel_rfl))
 f161:=Tryz.func71.trans (congrArg some (by kernel_rfl))
 f197:=Tryz.func170.trans (congrArg some (by kernel_rfl))
 f217:=Tryz.func285.trans (congrArg some (by kernel_rfl))
 f224:=Tryz.func287.trans (congrArg some (by kernel_rfl))
 f225:=Tryz.func286.trans (congrArg some (by kernel_rfl))
 f227:=Tryz.func114.trans (congrArg some (by kernel_rfl))
 f228:=Tryz.func169.trans (congrArg some (by kernel_rfl))
 f231:=Tryz.func113.trans (congrArg some (by kernel_rfl))
 f233:=Tryz.func115.trans (congrArg some (by kernel_rfl))
 f235:=Tryz.func116.trans (congrArg some (by kernel_rfl))
 f260:=Tryz.func237.trans (congrArg some (by kernel_rfl))
 f266:=Tryz.func307.trans (congrArg some (by kernel_rfl))
 t0:=Tryz.underlying0
 a0:=Tryz.isAgg0
 z0:=Tryz.sizeOf0
 v0:=Tryz.zeroValue0
 t3:=Tryz.underlying3
 a3:=Tryz.isAgg3
 z3:=Tryz.sizeOf3
 v3:=Tryz.zeroValue3
 t4:=Tryz.underlying4
 a4:=Tryz.isAgg4
 z4:=Tryz.sizeOf4
 v4:=Tryz.zeroValue4
 t5:=Tryz.underlying5
 a5:=Tryz.isAgg5
 z5:=Tryz.sizeOf5
 v5:=Tryz.zeroValue5
 t9:=Tryz.underlying9
 a9:=Tryz.isAgg9
 z9:=Tryz.sizeOf9
 v9:=Tryz.zeroValue9
 t21:=Tryz.underlying21
 a21:=Tryz.isAgg21
 z21:=Tryz.sizeOf21
 v21:=Tryz.zeroValue21
 t46:=Tryz.underlying103
 a46:=Tryz.isAgg103
 z46:=Tryz.sizeOf103
 v46:=Tryz.zeroValue103
 t105:=Tryz.underlying201
 a105:=Tryz.isAgg201
 z105:=Tryz.sizeOf201
 v105:=Tryz.zeroValue201
 t116:=Tryz.underlying152
 a116:=Tryz.isAgg152
 z116:=Tryz.sizeOf152
 t117:=Tryz.underlying153
 a117:=Tryz.isAgg153
 z117:=Tryz.sizeOf153
 v117:=Tryz.zeroValue153
 t119:=Tryz.underlying280
 a119:=Tryz.isAgg280
 z119:=Tryz.sizeOf280
 t124:=Tryz.underlying156
 a124:=Tryz.isAgg156
 z124:=Tryz.sizeOf156
 v124:=Tryz.zeroValue156
 t138:=Tryz.underlying282
 a138:=Tryz.isAgg282
 z138:=Tryz.sizeOf282
 v138:=Tryz.zeroValue282
 t139:=Tryz.underlying283
 a139:=Tryz.isAgg283
 z139:=Tryz.sizeOf283
 v139:=Tryz.zeroValue283
 g3:=by kernel_rfl
 g4:=by kernel_rfl}
open Go.RowKit in
def Tryz.strings_TrimLeft_one(s:ByteArray)(c:UInt8)(hc:c.toNat<128)(w:World):
 Calls Tryz.prog 71 #[.string s, .string ⟨#[c]⟩] w fun e w'=>e= .returned (.string ⟨(Lib.trimLeftB s.data.toList c).toArray⟩)∧w'=w:=Any.strings_TrimLeft_one Tryz.lays161 s c hc w
open Go.RowKit Go.Lib in
def Tryz.lays150_ren:Go.Shelf.Ren:=⟨fun| 150=>251| 153=>298| 152=>238| 226=>313| 227=>114| 228=>169| 137=>289| 119=>290| 224=>287| 225=>286| 217=>285| 266=>307|n=>n,fun| 9=>9| 4=>4| 3=>3| 5=>5| 21=>21| 117=>153| 116=>152| 0=>0| 46=>103| 124=>156|n=>n,fun|n=>n⟩
def Tryz.lays150:Go.Proofs.Lays.n150 Tryz.prog Tryz.lays150_ren:={
 mixed:=by kernel_rfl
 f119:=Tryz.func290.trans (congrArg some (by kernel_rfl))
 f137:=Tryz.func289.trans (congrArg some (by kernel_rfl))
 f150:=Tryz.func251.trans (congrArg some (by kernel_rfl))
 f152:=Tryz.func238.trans (congrArg some (by kernel_rfl))
 f153:=Tryz.func298.trans (congrArg some (by kernel_rfl))
 f217:=Tryz.func285.trans (congrArg some (by kernel_rfl))
 f224:=Tryz.func287.trans (congrArg some (by kernel_rfl))
 f225:=Tryz.func286.trans (congrArg some (by kernel_rfl))
 f226:=Tryz.func313.trans (congrArg some (by kernel_rfl))
 f227:=Tryz.func114.trans (congrArg some (by kernel_rfl))
 f228:=Tryz.func169.trans (congrArg some (by kernel_rfl))
 f266:=Tryz.func307.trans (congrArg some (by kernel_rfl))
 t0:=Tryz.underlying0
 a0:=Tryz.isAgg0
 z0:=Tryz.sizeOf0
 v0:=Tryz.zeroValue0
 t3:=Tryz.underlying3
 a3:=Tryz.isAgg3
 z3:=Tryz.sizeOf3
 v3:=Tryz.zeroValue3
 t4:=Tryz.underlying4
 a4:=Tryz.isAgg4
 z4:=Tryz.sizeOf4
 v4:=Tryz.zeroValue4
 t5:=Tryz.underlying5
 a5:=Tryz.isAgg5
 z5:=Tryz.sizeOf5
 v5:=Tryz.zeroValue5
 t9:=Tryz.underlying9
 a9:=Tryz.isAgg9
 z9:=Tryz.sizeOf9
 v9:=Tryz.zeroValue9
 t21:=Tryz.underlying21
 a21:=Tryz.isAgg21
 z21:=Tryz.sizeOf21
 v21:=Tryz.zeroValue21
 t46:=Tryz.underlying103
 a46:=Tryz.isAgg103
 z46:=Tryz.sizeOf103
 v46:=Tryz.zeroValue103
 t116:=Tryz.underlying152
 a116:=Tryz.isAgg152
 z116:=Tryz.sizeOf152
 t117:=Tryz.underlying153
 a117:=Tryz.isAgg153
 z117:=Tryz.sizeOf153
 v117:=Tryz.zeroValue153
 t124:=Tryz.underlying156
 a124:=Tryz.isAgg156
 z124:=Tryz.sizeOf156
 v124:=Tryz.zeroValue156}
open Go.RowKit Go.Lib in
def Tryz.strings_ContainsAny(hv116:∀w,(zeroValue 152).run Tryz.prog w= .ok (.agg (Array.replicate 256 (.bool false))) w)(s chars:ByteArray)(w:World)(hs:s.size<4294967281)(hcs:chars.size<4294967281)(has:∀(j:Nat) b,s.data.toList[j]? =some b→b.toNat<128)(hac:∀(j:Nat) b,chars.data.toList[j]? =some b→b.toNat<128):
 Calls Tryz.prog 251 #[.string s, .string chars] w fun e w'=>e= .returned (.bool (Lib.containsAny s.data.toList chars.data.toList))∧Below w.heap.size w w':=Any.strings_ContainsAny Tryz.lays150 hv116 (by kernel_rfl) s chars w hs hcs has hac
def Tryz.info152:(Tryz.prog.info? 152).map (fun i=>(i.zero,i.size))=some (some (.agg (Array.replicate 256 (.bool false))),256):=by kernel_rfl
open Go.RowKit Go.Lib in
def Tryz.strings_TrimLeft_ascii(s cutset:ByteArray)(w:World)(hcs:cutset.size<4294967281)(hascii:∀(j:Nat) b,cutset.data.toList[j]? =some b→b.toNat<128):
 Calls Tryz.prog 71 #[.string s, .string cutset] w fun e w'=>e= .returned (.string ⟨(Lib.trimLeftS s.data.toList cutset.data.toList).toArray⟩)∧Below w.heap.size w w':=Any.strings_TrimLeft_ascii Tryz.lays161 (zero_of_info Tryz.info152).1 (zero_of_info Tryz.info152).2 s cutset w hcs hascii
end Go.Proofs
namespace Go.Proofs.YtaijhllckmndhaaGreatDoor
open Go.RowKit
def zaw(w:World)(s:List UInt8):Calls Tryz.prog 71 #[ze s, .string (ByteArray.mk #[48])] w fun e w'=>e= .returned (ze (s.dropWhile (· ==48)))∧Fr [] w w':=by
 refine Calls.mono (Tryz.strings_TrimLeft_one ⟨s.toArray⟩ 48 (by decide) w) ?_;rintro e w' ⟨rfl,rfl⟩;exact⟨rfl,Fr.refl _ _⟩
def zt9:∀n,n<256→[48,49,50,51,52,53,54,55,56,57].contains (UInt8.ofNat n)=dig (UInt8.ofNat n):=by decide+kernel
def zuD:∀n,n<256→[101,69,100,68].contains (UInt8.ofNat n)=(UInt8.ofNat n==101||UInt8.ofNat n==69||UInt8.ofNat n==100||UInt8.ofNat n==68):=by decide+kernel
def zlp(b:UInt8):b=UInt8.ofNat b.toNat:=by simp
def znP(w:World)(s:List UInt8):Calls Tryz.prog 71 #[ze s, .string (ByteArray.mk #[48,49,50,51,52,53,54,55,56,57])] w fun e w'=>e= .returned (ze (s.dropWhile dig))∧Fr [] w w':=by
 refine Calls.mono (Tryz.strings_TrimLeft_ascii ⟨s.toArray⟩ ⟨#[48,49,50,51,52,53,54,55,56,57]⟩ w (by decide) ?_) ?_
 ·intro j b hb
  have:=List.mem_of_getElem? hb
  simp at this
  rcases this with rfl|rfl|rfl|rfl|rfl|rfl|rfl|rfl|rfl|rfl<;>decide
 ·rintro e w' ⟨rfl,hF⟩;refine⟨?_,Fr.of_below hF⟩
  have e:(fun b=>[48,49,50,51,52,53,54,55,56,57].contains b)=dig:=funext fun b=>by
   rw[zlp b];exact zt9 _ b.toNat_lt
  show Ending.returned (ze (s.dropWhile (fun b=>[48,49,50,51,52,53,54,55,56,57].contains b)))=_
  rw[e]
def zm5{c:UInt8}(hc:128≤c.toNat):Utf8.decode ⟨#[c]⟩ 0=(65533,1):=by
 have e:(ByteArray.mk #[c]).get! (0+0)=c:=rfl;have e2:(ByteArray.mk #[c]).size=1:=rfl;simp only[Utf8.decode,e,e2];rw[if_neg (by omega)]
 simp[Utf8.runeError]
def zkh{P:Program}(w:World){c:UInt8}(ty:TypeId)(hc:128≤c.toNat):
 (Instr.next (.pointer (some ⟨w.heap.size,0,none⟩)) true ty).run P (w.iter ⟨#[c]⟩ 0)= .ok (.tuple #[.bool true, .int .i64 0, .int .i32 65533]) (w.iter ⟨#[c]⟩ 1):=by
 have h:0<(ByteArray.mk #[c]).size:=Nat.one_pos;simp only[Instr.next,getObj,setObj,Sem.run_bind,Sem.run,World.iter_heap,Result.andThen,h,if_true,zm5 hc,World.iter_set]
 simp[goInt,Sem.run,World.iter_heap,World.iter_set]
def eEdD:ByteArray:=ByteArray.mk #[101,69,100,68]
def ziR(w:World):Calls Tryz.prog 238 #[.string eEdD, .int .i32 65533] w fun e w'=>e= .returned (.int .i64 (-1))∧∃pos,w'=w.iter eEdD pos:=by
 go_enter Tryz.func238,Tryz.ntmps238
 go_wp2
 go_loopg [5,6] 4 (fun g _ _ wx=>∃i:Nat,i+g=4∧wx=w.iter eEdD i)
 case atStart=>exact⟨0,by omega,rfl⟩
 case round=>
  obtain⟨i,hig,rfl⟩:=hrel
  cases gk with
  | zero=>
   obtain rfl:i=4:=by omega
   have hnx:=fun ty=>run_next_end (P:=Tryz.prog) w eEdD 4 ty (by decide)
   go_wp2
   go_ret
   exact⟨rfl,_,rfl⟩
  | succ g=>
   have hi:i=0∨i=1∨i=2∨i=3:=by omega
   rcases hi with rfl|rfl|rfl|rfl
   ·have hnx:=fun ty=>run_next_ascii (P:=Tryz.prog) w eEdD 0 ty (by decide) (by decide)
    rw[show((eEdD[0]'(by decide)).toNat:Int)=101 from rfl]at hnx
    go_wp2
    go_roundg g
    case measure=>omega
    case rel=>exact⟨_,by omega,rfl⟩
   ·have hnx:=fun ty=>run_next_ascii (P:=Tryz.prog) w eEdD 1 ty (by decide) (by decide)
    rw[show((eEdD[1]'(by decide)).toNat:Int)=69 from rfl]at hnx
    go_wp2
    go_roundg g
    case measure=>omega
    case rel=>exact⟨_,by omega,rfl⟩
   ·have hnx:=fun ty=>run_next_ascii (P:=Tryz.prog) w eEdD 2 ty (by decide) (by decide)
    rw[show((eEdD[2]'(by decide)).toNat:Int)=100 from rfl]at hnx
    go_wp2
    go_roundg g
    case measure=>omega
    case rel=>exact⟨_,by omega,rfl⟩
   ·have hnx:=fun ty=>run_next_ascii (P:=Tryz.prog) w eEdD 3 ty (by decide) (by decide)
    rw[show((eEdD[3]'(by decide)).toNat:Int)=68 from rfl]at hnx
    go_wp2
    go_roundg g
    case measure=>omega
    case rel=>exact⟨_,by omega,rfl⟩
def ziM{P:Program}(w:World){b:Nat}{s:ByteArray}{pos:Nat}(ty:TypeId)(h:w.heap[b]? =some (.stringIter s pos))(hp:¬pos<s.size):
 (Instr.next (.pointer (some ⟨b,0,none⟩)) true ty).run P w= .ok (.tuple #[.bool false]) w:=by
 simp[Instr.next,getObj,Sem.run,h,hp]
def zi2(w:World){c:UInt8}(hc:128≤c.toNat):Calls Tryz.prog 298 #[.string ⟨#[c]⟩, .string eEdD] w fun e w'=>e= .returned (.int .i64 (-1))∧Below w.heap.size w w':=by
 have HC:Aside (128≤c.toNat):=hc;clear hc;have hemp:eEdD.toList.isEmpty=false:=by rw[Lib.toList_data];rfl
 have hn1:((eEdD.size:Int)==1)=false:=by decide
 have hone:((ByteArray.mk #[c]).size:Int)=1:=rfl
 go_enter Tryz.func298,Tryz.ntmps298
 go_wp2
 go_loopg [9,10] 1 (fun g _ _ wx=>(g=1∧wx=w.iter ⟨#[c]⟩ 0)∨(g=0∧∃pos,wx=(w.iter ⟨#[c]⟩ 1).iter eEdD pos))
 case atStart=>exact .inl ⟨rfl,rfl⟩
 case round=>
  rcases hrel with⟨rfl,rfl⟩|⟨rfl,pos,rfl⟩
  ·have hnx:=fun ty=>zkh (P:=Tryz.prog) w ty HC.out
   go_wp2_with(fail)
   refine Calls.mono (ziR _) ?_;rintro e w' ⟨rfl,pos,rfl⟩
   go_wp2_with(fail)
   go_roundg 0
   case measure=>omega
   case rel=>exact .inr ⟨rfl,pos,rfl⟩
  ·have hb:((w.iter ⟨#[c]⟩ 1).iter eEdD pos).heap[w.heap.size]? =some (.stringIter ⟨#[c]⟩ 1):=by
    have h1:=World.iter_heap w ⟨#[c]⟩ 1;have h2:w.heap.size<(w.iter ⟨#[c]⟩ 1).heap.size:=by show w.heap.size<(w.heap.push _).size;rw[Array.size_push];omega
    show(((w.iter ⟨#[c]⟩ 1).heap.push _)[w.heap.size]?)=_
    rw[Array.getElem?_push_lt h2];rw[Array.getElem?_eq_getElem h2]at h1;exact h1
   have hnx:=fun ty=>ziM (P:=Tryz.prog) _ ty hb (show ¬ 1<1 by decide)
   go_wp2
   go_ret
   exact⟨rfl,((Below.refl _ _).alloc (Nat.le_refl _) _).alloc (by show w.heap.size≤(w.heap.push _).size;rw[Array.size_push];omega) _⟩
def zg1(w:World){c:UInt8}(hc:128≤c.toNat):Calls Tryz.prog 251 #[.string ⟨#[c]⟩, .string eEdD] w fun e w'=>e= .returned (.bool false)∧Fr [] w w':=by
 go_enter Tryz.func251,Tryz.ntmps251
 go_wp2_with(fail)
 refine Calls.mono (zi2 _ hc) ?_;rintro e w' ⟨rfl,hw⟩
 go_wp2_with(fail)
 go_ret
 exact⟨rfl,Fr.of_below hw⟩
def zgN(w:World)(c:UInt8):Calls Tryz.prog 251 #[ze [c], .string (ByteArray.mk #[101,69,100,68])] w fun e w'=>e= .returned (.bool (c==101||c==69||c==100||c==68))∧Fr [] w w':=by
 by_cases hc:c.toNat<128
 ·refine Calls.mono (Tryz.strings_ContainsAny (zero_of_info Tryz.info152).1 ⟨#[c]⟩ eEdD w (show 1<4294967281 by decide) (show 4<4294967281 by decide) ?_ ?_) ?_
  ·intro j b hb
   have:=List.mem_of_getElem? hb
   simp at this
   rw[this];exact hc
  ·intro j b hb
   have:=List.mem_of_getElem? hb
   simp[eEdD]at this
   rcases this with rfl|rfl|rfl|rfl<;>decide
  ·rintro e w' ⟨rfl,hF⟩;refine⟨?_,Fr.of_below hF⟩;have h2:=zuD c.toNat c.toNat_lt;rw[←zlp c]at h2;rw[←h2]
   congr 2
   show Lib.containsAny [c] [101,69,100,68]=_
   unfold Lib.containsAny Lib.indexAny
   cases h3:List.contains [101,69,100,68] c
   ·rw[if_neg (by simp),Lib.indexAny];rfl
   ·rw[if_pos rfl];rfl
 ·have h0:(c==101||c==69||c==100||c==68)=false:=by
   have h1:∀d:UInt8,d.toNat<128→(c==d)=false:=fun d hd=>beq_eq_false_iff_ne.2 (fun e=>hc (e ▸ hd))
   rw[h1 101 (by decide),h1 69 (by decide),h1 100 (by decide),h1 68 (by decide)];rfl
  rw[h0];exact zg1 w (by omega)
end Go.Proofs.YtaijhllckmndhaaGreatDoor
