import Derived.Test.YtaijhllckmndhaaGreatDoorYJ0
import Derived.Test.YtaijhllckmndhaaGreatDoorYJ23
import Derived.Test.YtaijhllckmndhaaGreatDoorYJ19
import Derived.Test.YtaijhllckmndhaaGreatDoorYJ18
import Derived.Test.YtaijhllckmndhaaGreatDoorYJ15
import Derived.Test.YtaijhllckmndhaaGreatDoorYJ17
import Derived.Test.YtaijhllckmndhaaGreatDoorYJ22
namespace Go.Proofs.YtaijhllckmndhaaGreatDoor
set_option linter.all false
set_option maxHeartbeats 64000000
set_option maxRecDepth 100000
section
variable {l s:List UInt8} {b:UInt8} {k:Nat}
open Go.RowKit
def Hp.bornB{T:List Nat}{w0 w w':World}{l:List Ent}{q:Nat}{cs:List Value}{t:TypeId}(H:Hp T w0 w l)(hF:Fr [] w w')(hq:w.heap.size≤q)(hc:w'.heap[q]? =some (.cells cs.toArray t (0,0))):Hp T w0 w' (.blk q cs t::l):=
 (H.step hF yg).push hc (.inr (Nat.le_trans H.fr.size hq)) (H.notOwn hq)
def zom(w:World)(x:Nat)(hx:x≤1114111):Calls Tryz.prog 112 #[.int .i32 (x:Int)] w fun e w'=>e= .returned (.bool (pW x))∧∃q,w'=w.drewN q:=by
 by_cases h1:x=32
 ·subst h1
  go_enter Tryz.func112,Tryz.ntmps112;go_wp2;go_ret;exact⟨rfl,0,rfl⟩
 ·by_cases h2:x=9
  ·subst h2
   go_enter Tryz.func112,Tryz.ntmps112;go_wp2;go_ret;exact⟨rfl,0,rfl⟩
  ·have HB:=hid (show pW x=false by unfold pW;simp[h1,h2]);have H4:=hid (decide_eq_false (show ¬(x:Int)=32 by omega));have H5:=hid (decide_eq_false (show ¬(x:Int)=9 by omega));have h3:¬(x:Int)=32:=by omega
   have h6:¬(x:Int)=9:=by omega
   go_enter Tryz.func112,Tryz.ntmps112;go_wp2;go_ret;exact⟨by rw[HB.out];first|rfl|(simp;omega),0,rfl⟩
def zn0(w:World)(s:List UInt8)(hs:s.length≤4294967296):Calls Tryz.prog 67 #[ze s] w fun e w'=>
 ∃g,e= .returned (.slice (some ⟨g,0,none⟩) (zE s).length (zE s).length)∧Fr [] w w'∧w.heap.size≤g∧w'.heap[g]? =some (.cells ((zE s).map ze).toArray 9 (0,0)):=by
 have H:=Hp.start [] w
 go_enter Tryz.func67,Tryz.ntmps67
 revert H;refine W44 ?_;intro H _ _ _ _ _;refine Calls.mono (Tryz.strings_FieldsFunc_runes 112 #[] (fun args w=>by rfl) pW ⟨s.toArray⟩ w (by rw[zbs];exact hs) (fun W x hx _=>zom W x hx)) ?_
 have e1:(Lib.goFieldsP pW ⟨s.toArray⟩).map Value.string=(zE s).map ze:=by
  have h:=zmE ⟨s.toArray⟩;have h2:(ByteArray.mk s.toArray).data.toList=s:=by simp
  rw[h2]at h;rw[←h,List.map_map]
  rfl
 have e2:(Lib.goFieldsP pW ⟨s.toArray⟩).length=(zE s).length:=by
  have h:=congrArg List.length e1
  simpa using h
 rintro e w' ⟨A,rfl,hA,hO,hB⟩;rw[e1,e2]at hO;rw[e2];obtain⟨h1,h2|⟨g,cap,cur,h2,h3,h4,h5,h6,h7,h8⟩⟩:=hO
 ·cases h2.1
 ·cases h2
  rw[Nat.mul_one]at h7 h8
  have hcur:cur=((zE s).map ze).toArray:=by
   rw[←h8,List.take_of_length_le (by simp[h7])]
  subst hcur;clear H;have H:=(Hp.start [] w).step (Fr.of_below (T:=[]) hB) yg;simp only[Int.not_lt,Int.not_le]at*;revert H;refine W44 ?_;intro H
  go_ret
  exact⟨_,rfl,H.fr,h3,h4⟩
def zeT(w:World){ws:List (List UInt8)}(h:Hid (zE s=ws))(hs:s.length≤4294967296):Calls Tryz.prog 67 #[ze s] w fun e w'=>
 ∃g,e= .returned (.slice (some ⟨g,0,none⟩) ws.length ws.length)∧Fr [] w w'∧w.heap.size≤g∧w'.heap[g]? =some (.cells (ws.map ze).toArray 9 (0,0)):=by
 rw[←h.out];exact zn0 w s hs
def zbb(s:List UInt8):Nat×Bool:=if s.all dig=true then(min (num s) 1073741824, !s.isEmpty)else(0,false)
def zpo(B a:Nat)(l:List UInt8)(b:UInt8):zcw B a (l++[b])=min (10*zcw B a l+(b.toNat-48)) B:=by unfold zcw;rw[List.foldl_append];rfl
def zrb:(l++[b]).all dig=(l.all dig&&dig b):=by simp
def zh2(h:l[k]? =some b):l.take (k+1)=l.take k++[b]:=by rw[List.take_add_one,h];rfl
def zsQ(h:l[k]? =some b)(hb:dig b=false):l.all dig=false:=by
 rw[List.all_eq_false];exact⟨b,List.mem_of_getElem? h,by simp[hb]⟩
def zbn(w:World)(s:List UInt8)(hs:s.length≤4000000){v:Nat}{b:Bool}(hv:Hid (zbb s=(v,b))):
 Calls Tryz.prog 70 #[ze s] w fun e w'=>e= .returned (.tuple #[.int .i64 (v:Int), .bool b])∧Fr [] w w':=by
 have H:=Hp.start [] w;obtain⟨z,hz0⟩:∃z,(s==[])=z:=⟨_,rfl⟩;have hz:=hid hz0
 go_enter Tryz.func70,Tryz.ntmps70
 revert H;refine W45 ?_;intro _ _ _ g w1 cap H
 go_loopw [4,10] (fun s4 s10 wr=>∃(k a:Nat),s4= .int .i64 (a:Int)∧s10= .int .i64 (k:Int)∧k≤s.length∧a≤1073741824∧Hid (zcw 1073741824 0 (s.take k)=a)∧Hid ((s.take k).all dig=true)∧Hp [] w wr [.obj 1 [g] (OwnM (.slice (some ⟨g,0,none⟩) s.length cap) s [g])]) (fun _ v _=>s.length-(intOf v).toNat)
 case atStart=>exact⟨0,0,rfl,rfl,Nat.zero_le _,by omega,hid rfl,hid rfl,H⟩
 case round=>
  clear H;obtain⟨k,a,rfl,rfl,hk,ha,HE,HD,H⟩:=hrel
  by_cases hlt:k<s.length
  ·obtain⟨c,hc⟩:∃c,s[k]? =some c:=⟨_,List.getElem?_eq_getElem hlt⟩
   by_cases hd:dig c=true
   ·have hd1:=zcD hd;have HE2:=hid (show zcw 1073741824 0 (s.take (k+1))=min (10*a+(c.toNat-48)) 1073741824 by rw[zh2 hc,zpo,HE.out]);have HD2:=hid (show(s.take (k+1)).all dig=true by rw[zh2 hc,zrb,HD.out,hd];rfl);clear HE HD hd;obtain⟨n,hn⟩:∃n,c.toNat=n:=⟨_,rfl⟩;obtain⟨h48,h57⟩:=hd1;revert H;refine W46 ?_;intro H
    go_roundw
    case rel=>exact⟨k+1,min (10*a+(n-48)) 1073741824,congrArg (Value.int .i64) yb,rfl,by omega,by omega,hid (by rw[HE2.out,hn]),HD2,H⟩
    case measure=>(simp[intOf];try omega)
   ·have hd':dig c=false:=by simpa using hd
    have HV:Hid (v=0∧b=false):=hid (by
     have h:=hv.out;unfold zbb at h;rw[if_neg (by rw[zsQ hc hd'];decide)]at h
     cases h;exact⟨rfl,rfl⟩)
    have hd2:c.toNat<48∨(48≤c.toNat∧57<c.toNat):=by
     unfold dig at hd'
     simp at hd'
     omega
    obtain⟨n,hn⟩:∃n,c.toNat=n:=⟨_,rfl⟩;rw[hn]at hd2;clear hd hd' HE HD
    rcases hd2 with h1|⟨h1,h2⟩
    ·revert H;refine W46 ?_;intro H _ _ _ _ _;refine bodyPost_ret (results_tmp2 rfl _ _ _) rfl ?_;exact⟨by rw[HV.out.1,HV.out.2];rfl,H.fr⟩
    ·revert H;refine W46 ?_;intro H _ _ _ _ _;refine bodyPost_ret (results_tmp2 rfl _ _ _) rfl ?_;exact⟨by rw[HV.out.1,HV.out.2];rfl,H.fr⟩
  ·have hke:k=s.length:=by omega
   have HV:Hid (v=a∧b= !z):=hid (by
    have h:=hv.out;have h1:=HD.out;have h2:=HE.out;rw[hke,List.take_length]at h1 h2;unfold zbb at h;rw[if_pos h1]at h;have h3:=zgj 1073741824 s 0;have h4:zcw 1073741824 0 s=min (num s) 1073741824:=h3;have h5:s.isEmpty=z:=by rw[←hz.out];cases s<;>rfl
    rw[←h4,h2,h5]at h
    cases h;exact⟨rfl,rfl⟩)
   clear hke HE HD hz0;revert H;refine W46 ?_;intro H _ _ _;refine bodyPost_ret (results_tmp2 rfl _ _ _) rfl ?_;exact⟨by rw[HV.out.1,HV.out.2];rfl,H.fr⟩
def zdd(k:Nat)(s:List UInt8):List UInt8:=(s.take k).map zdV++s.drop k
def zkl(h:s[k]? =some b):(zdd k s)[k]? =some b:=by
 have hlt:=(List.getElem?_eq_some_iff.1 h).1;unfold zdd;rw[List.getElem?_append_right yn];simp only[List.length_map,List.length_take,Nat.min_eq_left (Nat.le_of_lt hlt),Nat.sub_self,List.getElem?_drop,Nat.add_zero];exact h
def ziA(h:s[k]? =some b):(zdd k s).set k (zdV b)=zdd (k+1) s:=by
 obtain⟨hlt,rfl⟩:=List.getElem?_eq_some_iff.1 h;unfold zdd;rw[List.set_append_right _ _ yn];simp only[List.length_map,List.length_take,Nat.min_eq_left (Nat.le_of_lt hlt),Nat.sub_self];rw[List.drop_eq_getElem_cons hlt,List.set_cons_zero,List.take_add_one,h];simp only[Option.toList_some,List.map_append,List.map_cons,List.map_nil,List.append_assoc,List.singleton_append]
def zn2(h:s[k]? =some b)(hb:zdV b=b):zdd (k+1) s=zdd k s:=by
 rw[←ziA h,hb];have h2:=zkl h;refine List.ext_getElem? fun i=>?_
 by_cases e:i=k
 ·subst e;rw[List.getElem?_set_self (List.getElem?_eq_some_iff.1 h2).1,h2]
 ·rw[List.getElem?_set_ne (fun h=>e h.symm)]
def zsW{n:Nat}(hn:b.toNat=n)(h1:65≤n)(h2:n≤90):(zdV b).toNat=n+32:=by
 unfold zdV;rw[if_pos yb,UInt8.toNat_add]
 show(b.toNat+32)%256=_
 omega
def zst(h:¬(65≤b.toNat∧b.toNat≤90)):zdV b=b:=by unfold zdV;rw[if_neg h]
def zpE(w:World)(s:List UInt8)(hs:s.length≤4000000):
 Calls Tryz.prog 68 #[ze s] w fun e w'=>e= .returned (ze (low s))∧Fr [] w w':=by
 have H:=Hp.start [] w
 go_enter Tryz.func68,Tryz.ntmps68
 revert H;refine W45 ?_;intro _ g w1 cap H _ _
 go_loopw [10] (fun s10 wr=>∃(k:Nat) (cur:List UInt8),s10= .int .i64 (k:Int)∧k≤s.length∧Hid (cur=zdd k s)∧Hid (cur.length=s.length)∧Hp [] w wr [.obj 1 [g] (OwnM (.slice (some ⟨g,0,none⟩) cur.length cap) cur [g])]) (fun v _=>s.length-(intOf v).toNat)
 case atStart=>exact⟨0,s,rfl,Nat.zero_le _,hid (by simp[zdd]),hid rfl,H⟩
 case round=>
  clear H;obtain⟨k,cur,rfl,hk,HC,HL,H⟩:=hrel
  by_cases hlt:k<s.length
  ·obtain⟨c,hc⟩:∃c,s[k]? =some c:=⟨_,List.getElem?_eq_getElem hlt⟩;have hcc:cur[k]? =some c:=by rw[HC.out];exact zkl hc
   obtain⟨n,hn⟩:∃n,c.toNat=n:=⟨_,rfl⟩
   by_cases hu:65≤n∧n≤90
   ·have HC2:=hid (show cur.set k (zdV c)=zdd (k+1) s by rw[HC.out];exact ziA hc);have HN:=hid (zsW hn hu.1 hu.2);obtain⟨h1,h2⟩:=hu;revert H;refine W47 ?_;intro w1 H
    go_roundw
    case rel=>exact⟨k+1,cur.set k (zdV c),rfl,by omega,HC2,hid (by rw[List.length_set];exact HL.out),H⟩
    case measure=>(simp[intOf];try omega)
   ·have HC2:=hid (show cur=zdd (k+1) s by rw[HC.out,zn2 hc (zst (by rw[hn];exact hu))]);have hu2:n<65∨(65≤n∧90<n):=by omega
    clear hu HC
    rcases hu2 with h1|⟨h1,h2⟩
    ·revert H;refine W46 ?_;intro H
     go_roundw
     case rel=>exact⟨k+1,cur,rfl,by omega,HC2,HL,H⟩
     case measure=>(simp[intOf];try omega)
    ·revert H;refine W46 ?_;intro H
     go_roundw
     case rel=>exact⟨k+1,cur,rfl,by omega,HC2,HL,H⟩
     case measure=>(simp[intOf];try omega)
  ·have hke:k=s.length:=by omega
   have HZ:=hid (show cur=low s by rw[HC.out,hke];unfold zdd low;simp);clear hke HC;revert H;refine W48 ?_;intro H _ _ _
   go_ret
   exact⟨by first|rfl|(rw[HZ.out];rfl),H.fr⟩
end
section
open Go.RowKit
def zdF{w:World}{u:Value}{x:Int}{n:Nat}(h:Av w u x n)(hn:n≤200000)(hx:x=0):
 Calls Tryz.prog 211 #[u] w fun e w'=>e= .returned (.int .i64 0)∧Fr [] w w':=by
 subst hx;exact zhL h hn
def zbq(w:World):Bv w (.agg #[.bool false, .slice none 0 0]) 0 0:=⟨BigV.zero w,by simp[dl,zn]⟩
def Bv.mono{w:World}{v:Value}{z:Int}{n m:Nat}(h:Bv w v z n)(hm:n≤m):Bv w v z m:=⟨h.1,Nat.le_trans h.2 hm⟩
end
section
variable {x:Int} {n:Nat} {w:World} {u:Value}
open Go.RowKit
def zqZ(k:Nat)(hx:dl x≤n):dl (x*2^k)≤n+k:=by
 apply ziV
 have e:((2:Int)^k).natAbs=2^k:=by rw[Int.natAbs_pow];rfl
 rw[Int.natAbs_mul,e,Nat.pow_add];have h1:x.natAbs<4294967296^n:=Nat.lt_of_lt_of_le ziW (Nat.pow_le_pow_right yf hx);have h2:2^k≤4294967296^k:=Nat.pow_le_pow_left yf k;exact Nat.lt_of_lt_of_le (Nat.mul_lt_mul_of_pos_right h1 (Nat.two_pow_pos k)) (Nat.mul_le_mul_left _ h2)
def zeu(k:Nat)(h:Av w u x n)(hn:n≤200000)(hk:k≤1048576):
 Calls Tryz.prog 144 #[u, .int .i64 (k:Int)] w fun e w'=>∃v1,e= .returned (.tuple #[v1, .int .i64 0])∧Fr [] w w'∧Bv w' v1 (x*2^k) (n+k):=by
 have hd:=h.dl;obtain⟨na,la,p,c,rfl,h1,rfl,h3⟩:=h;refine Calls.mono (zkA k na la rfl yb hk h1) ?_;rintro e w' ⟨v1,rfl,hF,b1⟩;exact⟨v1,rfl,hF,b1,zqZ k hd⟩
def zjM(k:Nat)(h:Av w u x n)(hn:n≤200000)(hk:k≤1048576):
 Calls Tryz.prog 144 #[u, .int .i64 (-(k:Int))] w fun e w'=>∃v1,e= .returned (.tuple #[v1, .int .i64 0])∧Fr [] w w'∧Bv w' v1 (x/2^k) n:=by
 have hd:=h.dl;obtain⟨na,la,p,c,rfl,h1,rfl,h3⟩:=h
 rcases Nat.eq_zero_or_pos k with h0|h0
 ·subst h0;refine Calls.mono (zkA 0 na la rfl yb yb h1) ?_;rintro e w' ⟨v1,rfl,hF,b1⟩;have e:zv na la/2^0=zv na la*2^0:=by rw[Int.pow_zero,Int.ediv_one,Int.mul_one]
  exact⟨v1,rfl,hF,by rw[e];exact b1,by rw[Int.pow_zero,Int.ediv_one];exact hd⟩
 ·refine Calls.mono (zmC k na la rfl yb h0 hk h1) ?_;rintro e w' ⟨v1,rfl,hF,b1⟩;exact⟨v1,rfl,hF,b1,zok hd⟩
def zbi(h:Av w u x n)(hn:n≤200000):
 Calls Tryz.prog 213 #[u] w fun e w'=>e= .returned (.int .i64 (bl x.natAbs:Int))∧Fr [] w w':=by
 obtain⟨na,la,p,c,rfl,h1,rfl,h3⟩:=h;rw[zdG];exact zni na la rfl yb h1
def zbK(h:Av w u x n)(hn:n≤200000)(hT:TabAt 6 Lib.deBruijn32tab w):
 Calls Tryz.prog 212 #[u] w fun e w'=>e= .returned (.int .i64 (tz x.natAbs:Int))∧Fr [] w w':=by
 obtain⟨na,la,p,c,rfl,h1,rfl,h3⟩:=h;rw[zdG];exact zje na la rfl yb h1 hT
def zn4(x:Int)(k:Nat):(x*2^k).natAbs=x.natAbs*2^k:=by
 have e:((2:Int)^k).natAbs=2^k:=by rw[Int.natAbs_pow];rfl
 rw[Int.natAbs_mul,e]
def zjj(h:dl x≤n):bl x.natAbs≤32*n:=zbC (by
 have h1:x.natAbs<4294967296^n:=Nat.lt_of_lt_of_le ziW (Nat.pow_le_pow_right yf h)
 rwa [zeP]at h1)
def zlK:∀(n x:Nat),x<2^n→tz x≤n
 | 0,x,h=>by
  have:x=0:=by simpa using h
  subst this;rw[zhy];exact Nat.le_refl _
 | n+1,x,h=>by
  by_cases h0:x=0
  ·subst h0;rw[zhy];omega
  ·by_cases h1:x%2=1
   ·rw[zc1 h1];omega
   ·rw[Nat.pow_succ]at h;have e:x=2*(x/2):=by omega
    have h2:=zlK n (x/2) yb;rw[e,zb1 yb]
    omega
end
section
open Go.ChangeShapes Go.WideShapes Go.RowKit
def zcg:List (String×DataW Unit):=[("math/bits.deBruijn32tab",Rows.laid_math_bits_deBruijn32tab),("math/bits.deBruijn64tab",Rows.laid_math_bits_deBruijn64tab),("internal/strconv.uint64pow10",Rows.laid_internal_strconv_uint64pow10),("unicode/utf8.acceptRanges",Rows.laid_unicode_utf8_acceptRanges),("strconv.ErrRange",Rows.laid_strconv_ErrRange),("strconv.ErrSyntax",Rows.laid_strconv_ErrSyntax),("sparse/market.fields",Rows.laid_sparse_market_fields),("sparse/market.symmetries",Rows.laid_sparse_market_symmetries),("unicode/utf8.first",Rows.laid_unicode_utf8_first)]
noncomputable def zuJ:Nat:=(World.holding Tryz.prog default ⟨#[],#[],[]⟩).heap.size
def zuM:DataW Unit→List Int
 | .agg l=>l.flatMap zj9
 | _=>[]
def zkq:DataW Unit→Array Value
 | .agg l=>(l.map fun
  | .lit (.string s)=> .string ⟨s.toArray⟩
  | _=> .string ByteArray.empty).toArray
 | _=>#[]
noncomputable def zgL (os:Os):World:=
 let w0:=World.holding Tryz.prog os ⟨#[.cells #[.string (ByteArray.mk #[118,97,108,117,101,32,111,117,116,32,111,102,32,114,97,110,103,101])] 310, .cells #[.string (ByteArray.mk #[105,110,118,97,108,105,100,32,115,121,110,116,97,120])] 310],#[],[]⟩
 {w0 with heap:=((((((((w0.heap.modify 6 fun
  | .cells _ t frozen=> .cells (vals .u8 (zj9 Rows.laid_math_bits_deBruijn32tab)) t frozen
  | o=>o).modify 9 fun
  | .cells _ t frozen=> .cells (vals .u8 (zj9 Rows.laid_math_bits_deBruijn64tab)) t frozen
  | o=>o).modify 2 fun
  | .cells _ t frozen=> .cells (vals .u64 (zj9 Rows.laid_internal_strconv_uint64pow10)) t frozen
  | o=>o).modify 5 fun
  | .cells _ t frozen=> .cells (vals .u8 (zuM Rows.laid_unicode_utf8_acceptRanges)) t frozen
  | o=>o).modify 4 fun
  | .cells _ t frozen=> .cells (vals .u8 (zj9 Rows.laid_unicode_utf8_first)) t frozen
  | o=>o).modify 8 fun
  | .cells _ t frozen=> .cells #[.iface 308 (.pointer (some ⟨zuJ,0,none⟩))] t frozen
  | o=>o).modify 7 fun
  | .cells _ t frozen=> .cells #[.iface 308 (.pointer (some ⟨zuJ+1,0,none⟩))] t frozen
  | o=>o).modify 0 fun
  | .cells _ t frozen=> .cells (zkq Rows.laid_sparse_market_fields) t frozen
  | o=>o).modify 1 fun
  | .cells _ t frozen=> .cells (zkq Rows.laid_sparse_market_symmetries) t frozen
  | o=>o}
def zlM(os:Os)(args:Array Value):laidMet Tryz.prog zcg ((zgL os).forCall (fun _ _=>0) ⟨#[],args,[]⟩).memory:=
 laidMet_of_run' 8 yh yh
def zu9(os:Os)(args:Array Value):laidMetH Tryz.prog zcg ((zgL os).forCall (fun _ _=>0) ⟨#[],args,[]⟩).memory:=zlM os args
def znw{W:World}(h:laidMetH Tryz.prog zcg W):Lib.TabIs Tryz.prog W "internal/strconv.uint64pow10" .u64 Lib.pow10Tab:=by
 have h':laidMet Tryz.prog zcg W:=h;have e:(Rows.laid_internal_strconv_uint64pow10:DataW Unit)=Lib.tabData .u64 Lib.pow10Tab:=by kernel_rfl
 have hr:=Lib.laidMet.reads h' (n:= "internal/strconv.uint64pow10") (d:=Rows.laid_internal_strconv_uint64pow10) (.tail _ (.tail _ (.head _)));rw[e]at hr;exact zec (g:=2) yh yh Tryz.underlying264 Tryz.underlying50 yh yh hr
def zpc{W:World}(h:laidMetH Tryz.prog zcg W):TabAt 6 Lib.deBruijn32tab W:=by
 have h':laidMet Tryz.prog zcg W:=h;have e:(Rows.laid_math_bits_deBruijn32tab:DataW Unit)=Lib.tabData .u8 (Lib.deBruijn32tab.map Int.ofNat):=by kernel_rfl
 have hr:=Lib.laidMet.reads h' (n:= "math/bits.deBruijn32tab") (d:=Rows.laid_math_bits_deBruijn32tab) (.head _);rw[e]at hr;have ht:=zec (g:=6) yh yh Tryz.underlying293 Tryz.underlying5 yh yh hr;intro j hj;have h1:=Lib.TabIs.cell ht (g:=6) yh j (by simpa using hj);rw[h1];simp only[List.getD_eq_getElem?_getD,List.getElem?_map,List.getElem?_eq_getElem hj]
 rfl
end
section
open Go.RowKit
def zh0{P:Program}{a:Act}{w:World}{o:Oper}{t:TypeId}{x y:Operand}(ho:o.op= .index t x y){s:List UInt8}(hx:a.eval x=ze s){k:IntKind}{i:Int}(hy:a.eval y= .int k i)[h:Sy P t]{b:UInt8}(h0:0≤i)(hb:s[i.toNat]? =some b):(execOp a.eval o).run P w= .ok (.value (.int .u8 b.toNat)) w:=by
 unfold ze at hx;obtain⟨hlt,rfl⟩:=List.getElem?_eq_some_iff.1 hb
 have e:(Instr.index t (.string ⟨s.toArray⟩) (.int k i)).run P w= .ok (.int .u8 s[i.toNat].toNat) w:=by
  rw[run_index_string _ _ _ _ _ h.h,dif_pos ⟨h0,by rw[zbs];omega⟩]
  rfl
 unfold execOp;simp only[ho,hx,hy,Sem.run_bind,e,Result.andThen_ok,Sem.run_pure]
def zgI(s:List UInt8)(p:UInt8→Bool):s.take (s.length-(s.dropWhile p).length)=s.takeWhile p∧s.drop (s.length-(s.dropWhile p).length)=s.dropWhile p:=by
 have h:s.takeWhile p++s.dropWhile p=s:=List.takeWhile_append_dropWhile;have hl:(s.takeWhile p).length+(s.dropWhile p).length=s.length:=by rw[←List.length_append,h]
 have e:s.length-(s.dropWhile p).length=(s.takeWhile p).length:=by omega
 rw[e];generalize s.takeWhile p=a at*;generalize s.dropWhile p=b at*;subst h
 simp
def ziK(w:World)(c:UInt8):
 Calls Tryz.prog 251 #[ze [c], .string (ByteArray.mk #[101,69,100,68])] w fun e w'=>e= .returned (.bool (isE c))∧Fr [] w w':=zgN w c
def zfI(s:List UInt8):(dsg s).2.length≤s.length:=by
 cases s with
 | nil=>exact Nat.le_refl _
 | cons c r=>
  rw[dsg]
  split
  ·show r.length≤r.length+1;omega
  ·split
   ·show r.length≤r.length+1;omega
   ·exact Nat.le_refl _
def zbB(w:World)(s:List UInt8)(hs:s.length≤2000000):
 Calls Tryz.prog 250 #[ze s] w fun e w'=>e= .returned (.tuple #[ze (s.takeWhile dig),ze (s.dropWhile dig)])∧Fr [] w w':=by
 obtain⟨h1,h2⟩:=zgI s dig;have hl:(s.dropWhile dig).length≤s.length:=(List.dropWhile_suffix dig).length_le;generalize s.takeWhile dig=a at*;generalize hb:s.dropWhile dig=b at*;have HB:=hid hb;clear hb;have H1:Hid (s.take ((s.length:Int)-b.length).toNat=a):=hid (by rw[←h1];congr 1;omega);have H2:Hid (s.drop ((s.length:Int)-b.length).toNat=b):=hid (by rw[show((s.length:Int)-b.length).toNat=s.length-b.length by omega];exact h2);clear h1 h2;have H:=Hp.start [] w
 go_enter Tryz.func250,Tryz.ntmps250
 revert H;refine W30 ?_;intro H _ _ _ _ _;(refine x_c H (znP _ s) ?_;clear H;rintro e w1 ⟨rfl,hF⟩ H;replace hF:=hF.kp;rw[HB.out]);simp only[Int.not_lt,Int.not_le]at*;revert H;refine W30 ?_;intro H _ _
 (revert H;refine zR 8 (.st 0 (.st 1 (.st 2 (.st 3 (.st 4 (.st 5 (.st 6 (.st 7 .done)))))))) ?_;intro w1 hf H;(first|replace hf:=hf.kp|clear hf))
 iterate 2 refine p_q ?_
 (refine p_e rfl (fun w H=>zmz rfl rfl rfl H1) ?_)
 iterate 2 refine p_q ?_
 (refine p_e rfl (fun w H=>zeI rfl rfl rfl H2) ?_)
 iterate 2 refine p_q ?_
 (refine zf ?_)
 all_goals
  revert H;refine W30 ?_;intro H;refine bodyPost_ret (results_tmp2 rfl _ _ _) rfl ?_;exact⟨rfl,H.fr⟩
def zbx(w:World)(s:List UInt8)(hs:s.length≤2000000):
 Calls Tryz.prog 249 #[ze s] w fun e w'=>e= .returned (.tuple #[.bool (dsg s).1,ze (dsg s).2])∧Fr [] w w':=by
 have H:=Hp.start [] w
 cases s with
 | nil=>
  go_enter Tryz.func249,Tryz.ntmps249
  revert H;refine W30 ?_;intro H _ _ _ _ _ _ _;(refine xK H (zaC _ [] 45 (b:=false) (hid rfl)) ?_;clear H;intro w1 hF H);simp only[Int.not_lt,Int.not_le]at*;revert H;refine W30 ?_;intro H _ _;(refine xK H (zaC _ [] 43 (b:=false) (hid rfl)) ?_;clear H;intro w1 hF H);simp only[Int.not_lt,Int.not_le]at*;revert H;refine W30 ?_;intro H;refine bodyPost_ret (results_tmp2 rfl _ _ _) rfl ?_;exact⟨rfl,H.fr⟩
 | cons c r=>
  have HT:Hid ((c::r).drop (1:Int).toNat=r):=hid rfl;have hl:(c::r).length=r.length+1:=rfl
  by_cases h1:c=45
  ·subst h1
   go_enter Tryz.func249,Tryz.ntmps249
   revert H;refine W30 ?_;intro H _ _ _ _ _ _ _;(refine xK H (zaC _ (45::r) 45 (b:=true) (hid yg)) ?_;clear H;intro w1 hF H);simp only[Int.not_lt,Int.not_le]at*;revert H;refine W30 ?_;intro H _ _
   (revert H;refine zR 7 (.st 0 (.st 1 (.st 2 (.st 3 (.st 4 (.st 5 (.st 6 .done))))))) ?_;intro w1 hf H;(first|replace hf:=hf.kp|clear hf))
   refine p_q ?_;(refine p_e rfl (fun w H=>zh0 rfl rfl rfl yf (b:=45) rfl) ?_);(refine p_e rfl (fun w H=>zei rfl rfl rfl rfl (by show((45:UInt8).toNat:Int)=45;decide)) ?_);refine p_q ?_;(refine p_e rfl (fun w H=>zeI rfl rfl rfl HT) ?_)
   iterate 2 refine p_q ?_
   (refine zf ?_)
   all_goals
    revert H;refine W30 ?_;intro H;refine bodyPost_ret (results_tmp2 rfl _ _ _) rfl ?_;exact⟨rfl,H.fr⟩
  ·by_cases h2:c=43
   ·subst h2
    go_enter Tryz.func249,Tryz.ntmps249
    revert H;refine W30 ?_;intro H _ _ _ _ _ _ _;(refine xK H (zaC _ (43::r) 45 (b:=false) (hid yg)) ?_;clear H;intro w1 hF H);simp only[Int.not_lt,Int.not_le]at*;revert H;refine W30 ?_;intro H _ _;(refine xK H (zaC _ (43::r) 43 (b:=true) (hid yg)) ?_;clear H;intro w1 hF H);simp only[Int.not_lt,Int.not_le]at*;revert H;refine W30 ?_;intro H _ _
    (revert H;refine zR 7 (.st 0 (.st 1 (.st 2 (.st 3 (.st 4 (.st 5 (.st 6 .done))))))) ?_;intro w1 hf H;(first|replace hf:=hf.kp|clear hf))
    refine p_q ?_;(refine p_e rfl (fun w H=>zh0 rfl rfl rfl yf (b:=43) rfl) ?_);(refine p_e rfl (fun w H=>zbM rfl rfl rfl rfl (by show ¬((43:UInt8).toNat:Int)=45;decide)) ?_);refine p_q ?_;(refine p_e rfl (fun w H=>zeI rfl rfl rfl HT) ?_)
    iterate 2 refine p_q ?_
    (refine zf ?_)
    all_goals
     revert H;refine W30 ?_;intro H;refine bodyPost_ret (results_tmp2 rfl _ _ _) rfl ?_;exact⟨rfl,H.fr⟩
   ·have HD:Hid (dsg (c::r)=(false,c::r)):=hid (by rw[dsg,if_neg h1,if_neg h2]);have H1:Hid (((c::r).head? ==some 45)=false):=hid (by simpa using h1);have H2:Hid (((c::r).head? ==some 43)=false):=hid (by simpa using h2);clear h1 h2 HT;generalize c::r=s at*
    go_enter Tryz.func249,Tryz.ntmps249
    revert H;refine W30 ?_;intro H _ _ _ _ _ _ _;(refine xK H (zaC _ s 45 H1) ?_;clear H;intro w1 hF H);simp only[Int.not_lt,Int.not_le]at*;revert H;refine W30 ?_;intro H _ _;(refine xK H (zaC _ s 43 H2) ?_;clear H;intro w1 hF H);simp only[Int.not_lt,Int.not_le]at*;revert H;refine W30 ?_;intro H;refine bodyPost_ret (results_tmp2 rfl _ _ _) rfl ?_;rw[HD.out];exact⟨rfl,H.fr⟩
def ziG(w:World)(l:List UInt8)(hd:l.all dig=true)(hl:l.length≤2000000):
 Calls Tryz.prog 252 #[ze l] w fun e w'=>∃z:Int,e= .returned (.tuple #[.int .i64 z, .bool (decide (num l≤99999))])∧(num l≤99999→z=num l)∧Fr [] w w':=by
 have hi:=znq hd;have h0:=zb0 l;have ha:=zeU hd;have HE:Hid (l.dropWhile (· ==48)=zW l):=hid rfl;obtain⟨b,hb⟩:∃b,zW l=b:=⟨_,rfl⟩;rw[hb]at hi h0 ha HE;clear hb;have H:=Hp.start [] w
 by_cases h5:5<b.length
 ·have HN:Hid (¬num l≤99999):=hid (fun h=>by have:=hi.2 h;omega);clear hi h0 ha
  go_enter Tryz.func252,Tryz.ntmps252
  go_wp2_with(first|refine x_e (zvc rfl rfl rfl yo) ?_|refine x_e (zvb rfl rfl rfl yo) ?_|refine x_q H ?_|refine x_l H ?_|refine x_e (zG rfl rfl) ?_|refine x_e (zmz rfl rfl rfl yo) ?_|refine x_e (zeI rfl rfl rfl yo) ?_|refine zm ?_ ?_<;>intro h|(revert H;refine xF ?_;intro w1 H hk)|(revert H;(first|(refine x_g ?_;intro g w1 hg hf H)|(refine x_s ?_;intro w1 hf H));(first|replace hf:=hf.kp|clear hf)))
  (refine x_c H (zaw _ l) ?_;clear H;rintro e w1 ⟨rfl,hF⟩ H;replace hF:=hF.kp;rw[HE.out])
  go_wp2_with(first|refine x_e (zvc rfl rfl rfl yo) ?_|refine x_e (zvb rfl rfl rfl yo) ?_|refine x_q H ?_|refine x_l H ?_|refine x_e (zG rfl rfl) ?_|refine x_e (zmz rfl rfl rfl yo) ?_|refine x_e (zeI rfl rfl rfl yo) ?_|refine zm ?_ ?_<;>intro h|(revert H;refine xF ?_;intro w1 H hk)|(revert H;(first|(refine x_g ?_;intro g w1 hg hf H)|(refine x_s ?_;intro w1 hf H));(first|replace hf:=hf.kp|clear hf)))
  refine bodyPost_ret (results_tmp2 rfl _ _ _) rfl ?_;exact⟨0,by rw[decide_eq_false HN.out];rfl,fun h=>absurd h HN.out,H.fr⟩
 ·have HA:Hid ((48::b).all dig=true):=hid (by rw[List.all_cons,ha];rfl);have HV:Hid (num (48::b)=num l):=hid (by rw[←h0];show zci 0 (48::b)=zci 0 b;rw[zc0];rfl);clear hi h0 ha hd;obtain⟨z,hz⟩:∃z,num l=z:=⟨_,rfl⟩;rw[hz]at HV ⊢;clear hz;have hl5:(48::b).length≤18:=by rw[List.length_cons];omega
  have hl9:([48]:List UInt8).length+b.length≤1000000000:=by rw[List.length_singleton];omega
  go_enter Tryz.func252,Tryz.ntmps252
  go_wp2_with(first|refine x_e (zvc rfl rfl rfl yo) ?_|refine x_e (zvb rfl rfl rfl yo) ?_|refine x_q H ?_|refine x_l H ?_|refine x_e (zG rfl rfl) ?_|refine x_e (zmz rfl rfl rfl yo) ?_|refine x_e (zeI rfl rfl rfl yo) ?_|refine zm ?_ ?_<;>intro h|(revert H;refine xF ?_;intro w1 H hk)|(revert H;(first|(refine x_g ?_;intro g w1 hg hf H)|(refine x_s ?_;intro w1 hf H));(first|replace hf:=hf.kp|clear hf)))
  (refine x_c H (zaw _ l) ?_;clear H;rintro e w1 ⟨rfl,hF⟩ H;replace hF:=hF.kp;rw[HE.out])
  go_wp2_with(first|refine x_e (zpI (s:=[48]) rfl rfl rfl hl9) ?_|refine x_q H ?_|refine x_e (zG rfl rfl) ?_|refine x_e (zmz rfl rfl rfl yo) ?_|refine x_e (zeI rfl rfl rfl yo) ?_|refine zm ?_ ?_<;>intro h)
  (refine xK H (zeH _ (48::b) HA (hid (List.cons_ne_nil _ _)) hl5) ?_;clear H;intro w1 hF H);rw[HV.out]
  go_wp2_with(first|refine x_e (zvc rfl rfl rfl yo) ?_|refine x_e (zvb rfl rfl rfl yo) ?_|refine x_q H ?_|refine x_l H ?_|refine x_e (zG rfl rfl) ?_|refine x_e (zmz rfl rfl rfl yo) ?_|refine x_e (zeI rfl rfl rfl yo) ?_|refine zm ?_ ?_<;>intro h|(revert H;refine xF ?_;intro w1 H hk)|(revert H;(first|(refine x_g ?_;intro g w1 hg hf H)|(refine x_s ?_;intro w1 hf H));(first|replace hf:=hf.kp|clear hf)))
  ·refine bodyPost_ret (results_tmp2 rfl _ _ _) rfl ?_;exact⟨z,by rw[decide_eq_true yb];rfl,fun _=>rfl,H.fr⟩
  ·refine bodyPost_ret (results_tmp2 rfl _ _ _) rfl ?_;exact⟨z,by rw[decide_eq_false yb];rfl,fun _=>rfl,H.fr⟩
def rdE(neg:Bool)(ds:List UInt8)(b:Nat)(s2:List UInt8):(Bool×List UInt8×Int)×Int:=
 if ds=[]then((false,[],0),7)else
 match s2 with
 | []=>((neg,ds,0-(b:Int)),0)
 | c::t=>if isE c=true then(if(dsg t).2.takeWhile dig=[]∨(dsg t).2.dropWhile dig≠[]then((false,[],0),7)else
  if num ((dsg t).2.takeWhile dig)≤99999 then((neg,ds,(if(dsg t).1 then -(num ((dsg t).2.takeWhile dig):Int)else num ((dsg t).2.takeWhile dig))-b),0)else((false,[],0),3))else((false,[],0),7)
def rdS(s:List UInt8):(Bool×List UInt8×Int)×Int:=
 match (dsg s).2.dropWhile dig with
 | []=>rdE (dsg s).1 ((dsg s).2.takeWhile dig++[]) 0 []
 | c::t=>if c=46 then rdE (dsg s).1 ((dsg s).2.takeWhile dig++t.takeWhile dig) (t.takeWhile dig).length (t.dropWhile dig)else rdE (dsg s).1 ((dsg s).2.takeWhile dig++[]) 0 (c::t)
def ziC(w:World)(c:UInt8){b:Bool}(hb:Hid (isE c=b)):
 Calls Tryz.prog 251 #[ze [c], .string (ByteArray.mk #[101,69,100,68])] w fun e w'=>e= .returned (.bool b)∧Fr [] w w':=by
 rw[←hb.out];exact ziK w c
end
end Go.Proofs.YtaijhllckmndhaaGreatDoor
