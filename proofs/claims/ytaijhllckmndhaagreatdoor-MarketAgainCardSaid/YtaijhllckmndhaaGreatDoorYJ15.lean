import Derived.Test.YtaijhllckmndhaaGreatDoorYJ0
import Derived.Test.YtaijhllckmndhaaGreatDoorYJ14
import Derived.Deep.DeepCutAuto
import Derived.Deep.CutBlock
import Derived.Test.YtaijhllckmndhaaGreatDoorYJ3
import Derived.Test.YtaijhllckmndhaaGreatDoorRows
import Derived.ChangeSame
import Derived.ChangeVars
import Derived.JoinedOf
import Derived.RowKit
import Derived.LaidLaws
import Derived.LaidHandle
import Derived.Stop.Joined
import Derived.Lib.LaidU8
import Derived.Lib.LaidTab
import Derived.Test.YtaijhllckmndhaaGreatDoorYJ8
set_option linter.all false
set_option maxHeartbeats 64000000
set_option maxRecDepth 100000
namespace Go.Proofs.YtaijhllckmndhaaGreatDoor
open Go.RowKit
abbrev dec(n:Nat):List UInt8:=Lib.decDigits n
def zbj{n:Nat}(h:n<10):dec n=[UInt8.ofNat (48+n)]:=by unfold dec;rw[Lib.decDigits,dif_pos h]
def zek{n:Nat}(h:10≤n):dec n=dec (n/10)++[UInt8.ofNat (48+n%10)]:=by unfold dec;rw[Lib.decDigits,dif_neg yb]
def zfj:Nat→Nat→List UInt8
 | 0,_=>[]
 | k+1,r=>zfj k (r/10)++[UInt8.ofNat (48+r%10)]
def zjt{q:Nat}(hq:0<q):∀(k r:Nat),r<10^k→dec (q*10^k+r)=dec q++zfj k r
 | 0,r,h=>by
  have:r=0:=by simpa using h
  subst this
  simp[zfj]
 | k+1,r,h=>by
  have hp:1≤10^k:=Nat.one_le_pow _ _ yf;have h1:1*(10^k*10)≤q*(10^k*10):=Nat.mul_le_mul_right _ hq;rw[Nat.pow_succ]at h ⊢
  have e:q*(10^k*10)+r=10*(q*10^k+r/10)+r%10:=by
   rw[Nat.mul_add,Nat.mul_comm (10^k),Nat.mul_left_comm]
   omega
  generalize hQ:q*10^k=Q at e;have e1:(q*(10^k*10)+r)/10=q*10^k+r/10:=by rw[e,hQ];omega
  have e2:(q*(10^k*10)+r)%10=r%10:=by rw[e];omega
  rw[zek yb,e1,e2,zfj,←List.append_assoc,←zjt hq k (r/10) yb]
def zef:∀(k r:Nat),r<10^(k+1)→(dec r).length≤k+1∧zfj (k+1) r=List.replicate (k+1-(dec r).length) 48++dec r
 | 0,r,h=>by
  have h:r<10:=by simpa using h
  rw[zbj h];refine⟨by simp,?_⟩
  simp[zfj,Nat.mod_eq_of_lt h]
 | k+1,r,h=>by
  by_cases h10:r<10
  ·rw[zbj h10];refine⟨by simp,?_⟩;have h0:=(zef k 0 (Nat.pow_pos yf)).2;rw[zfj,show r/10=0 by omega,h0,zbj yf,Nat.mod_eq_of_lt h10];simp only[List.length_cons,List.length_nil,Nat.add_sub_cancel,Nat.zero_add];rw[show UInt8.ofNat 48=48 from rfl,show k+1=k+1 from rfl,List.replicate_succ']
  ·rw[Nat.pow_succ]at h;obtain⟨h1,h2⟩:=zef k (r/10) yb;rw[zek yb];refine⟨by simp only[List.length_append,List.length_cons,List.length_nil];omega,?_⟩;rw[zfj,h2];simp only[List.length_append,List.length_cons,List.length_nil,List.append_assoc];rw[show k+1+1-((dec (r/10)).length+(0+1))=k+1-(dec (r/10)).length by omega]
def zfG(r:Nat):List UInt8:=List.replicate (9-(dec r).length) 48++dec r
def zgu{r:Nat}(h:r<1000000000):(dec r).length≤9:=(zef 8 r yM).1
def zon{q r:Nat}(hq:0<q)(h:r<1000000000):dec (q*1000000000+r)=dec q++zfG r:=by
 have h1:=zjt hq 9 r yM;rw[(zef 8 r yM).2]at h1;exact h1
def zrs{r:Nat}(h:r<1000000000):(zfG r).length=9:=by
 have:=zgu h
 unfold zfG;rw[List.length_append,List.length_replicate]
 omega
structure Dg (N n X:Nat) (gs:List (List UInt8)):Prop where
 len:gs.length≤32*n
 one:∀g∈gs,g.length≤9
 x:X=N/1000000000^gs.length
 nz:gs≠[]→N≠0
 d:dec N=(if X=0∧gs≠[]then []else dec X)++gs.reverse.flatten
def Dg.start(N n:Nat):Dg N n N []:=⟨by simp,fun g hg=>(by cases hg),by simp,fun h=>absurd rfl h,by simp⟩
def grp(X:Nat):List UInt8:=if X/1000000000=0 then dec (X%1000000000)else zfG (X%1000000000)
def zr5(k:Nat):2^k≤1000000000^k:=Nat.pow_le_pow_left yf k
def Dg.next{N n X:Nat}{gs:List (List UInt8)}(h:Dg N n X gs)(hN:N<4294967296^n)(hX:X≠0):Dg N n (X/1000000000) (gs++[grp X]):=by
 have hN0:N≠0:=fun e=>by have:=h.x;rw[e,Nat.zero_div]at this;exact hX this
 have hr:X%1000000000<1000000000:=Nat.mod_lt _ yf;refine⟨?_,?_,?_,fun _=>hN0,?_⟩
 ·have h1:1000000000^gs.length≤N:=by
   apply Classical.byContradiction
   intro hn
   have:=h.x
   rw[Nat.div_eq_of_lt yb]at this;exact hX this
  have h2:=zr5 gs.length;rw[zeP]at hN;have h3:2^gs.length<2^(32*n):=by omega
  have h4:=(Nat.pow_lt_pow_iff_right (show 1<2 by decide)).1 h3;rw[List.length_append,List.length_cons,List.length_nil]
  omega
 ·intro g hg
  rcases List.mem_append.1 hg with h1|h1
  ·exact h.one g h1
  ·simp only[List.mem_singleton]at h1;subst h1;unfold grp
   split
   ·exact zgu hr
   ·exact Nat.le_of_eq (zrs hr)
 ·rw[List.length_append,List.length_cons,List.length_nil,Nat.pow_succ,←Nat.div_div_eq_div_mul,←h.x]
 ·rw[h.d,if_neg (fun e=>hX e.1),List.reverse_append,List.reverse_singleton,List.singleton_append,List.flatten_cons,←List.append_assoc]
  congr 1
  unfold grp
  by_cases hq:X/1000000000=0
  ·rw[if_pos ⟨hq,by simp⟩,if_pos hq,List.nil_append]
   congr 1
   omega
  ·rw[if_neg (fun e=>hq e.1),if_neg hq,←zon yb hr]
   congr 1
   omega
def Dg.bytes{N n X:Nat}{gs:List (List UInt8)}(h:Dg N n X gs):gs.flatten.length≤9*gs.length:=by
 have:∀(l:List (List UInt8)),(∀g∈l,g.length≤9)→l.flatten.length≤9*l.length:=by
  intro l
  induction l with
  | nil=>intro _;simp
  | cons a l ih=>
   intro h;have h1:=ih (fun g hg=>h g (List.mem_cons_of_mem _ hg));have h2:=h a List.mem_cons_self;rw[List.flatten_cons,List.length_append,List.length_cons]
   omega
 exact this gs h.one
section
variable {P:Program} {w:World} {a:Act} {o:Oper}
def zpI{t t':TypeId}{x y:Operand}(ho:o.op= .binOp .add t x y t'){s r:List UInt8}(hx:a.eval x=ze s)(hy:a.eval y=ze r)(hl:s.length+r.length≤1000000000):(execOp a.eval o).run P w= .ok (.value (ze (s++r))) w:=by
 have e1:(eqGuard .add t x y (ze s) (ze r)).run P w= .ok () w:=by unfold eqGuard;simp
 unfold execOp;simp only[ho,hx,hy,Sem.run_bind,e1,Result.andThen_ok,binOp]
 have e:(⟨s.toArray⟩:ByteArray)++⟨r.toArray⟩=⟨(s++r).toArray⟩:=by
  apply ByteArray.ext
  simp[ByteArray.data_append]
 have e2:(Op.stringOp .add ⟨s.toArray⟩ ⟨r.toArray⟩).run P w= .ok (ze (s++r)) w:=by
  unfold Op.stringOp
  have hn:¬(((ByteArray.mk s.toArray).size+(ByteArray.mk r.toArray).size:Nat):Int)>IntKind.i64.max:=by
   show ¬(((s.toArray.size+r.toArray.size:Nat):Int)>9223372036854775807)
   simp only[List.size_toArray]
   omega
  simp only[if_neg hn,e]
  rfl
 show((Op.stringOp .add ⟨s.toArray⟩ ⟨r.toArray⟩).run P w).andThen _=_
 rw[e2]
 rfl
end
end Go.Proofs.YtaijhllckmndhaaGreatDoor
namespace Go.Proofs.YtaijhllckmndhaaGreatDoor
open Go.RowKit
def fmt(z:Int):List UInt8:=if z<0 then 45::dec z.natAbs else dec z.natAbs
def LR.frS{w w':World}{p:Option Addr}{c:Nat}{l:List Nat}{S:List Nat}(h:LR w p c l)(k:Fr S w w')(hn:∀b off,p=some ⟨b,off,none⟩→b∉S):LR w' p c l:=by
 cases l with
 | nil=>exact h.empty
 | cons x l=>
  obtain⟨b,off,rfl,hb,hcell⟩:=h.rd.rng (by simp[zj]);refine⟨h.nil,h.cap,h.max,h.lim,h.rd.fr k (fun b' hb'=>?_)⟩
  have e:b'=b:=by
   simp[Value.ownBlock]at hb'
   omega
  subst e;exact hn _ _ rfl
def zry:fmt 0=[48]:=by
 unfold fmt;rw[if_neg yf];exact zbj yf
end Go.Proofs.YtaijhllckmndhaaGreatDoor
namespace Go.Proofs.YtaijhllckmndhaaGreatDoor
open Go.RowKit
def znL{w:World}{p:Option Addr}{n c:Nat}(a:List Nat)(dv:Nat)(hn:a.length=n)(hn0:n≤1000000)(h:LR w p c a)(hd0:0<dv)(hdB:dv<4294967296):
 Calls Tryz.prog 147 #[.slice p n c, .int .u32 (dv:Int)] w fun e w'=>∃p' c',e= .returned (.tuple #[.slice p' (zd (val a/dv)).length c', .int .u32 ((val a%dv:Nat):Int)])∧Fr [] w w'∧LR w' p' c' (zd (val a/dv))∧∀b off,p'=some ⟨b,off,none⟩→w.heap.size≤b:=by
 subst hn;have Hh:=hid h;clear h;have H:=Hp.start [] w
 go_enter Tryz.func147,Tryz.ntmps147
 revert H;refine W00 ?_;intro _ g w1 hg H _ _;rw[show((a.length:Int)).toNat=a.length by omega,za3]at H
 go_loopw [7,8] (fun s7 s8 wr=>∃(i r:Nat) (o:List Nat),i≤a.length∧s7= .int .u64 r∧s8= .int .i64 ((i:Int)-1)∧r<dv∧Hid (o.length=a.length)∧Hid (Lim o)∧Hid (val (a.drop i)=dv*val (o.drop i)+r)∧Hp [] w wr [.blk g (zj o) 160]) (fun _ v _=>(intOf v+1).toNat)
 case atStart=>exact⟨a.length,0,List.replicate a.length 0,Nat.le_refl _,rfl,rfl,hd0,hid List.length_replicate,hid (Lim.zeros _),hid (by rw[List.drop_eq_nil_of_le (Nat.le_refl _),List.drop_eq_nil_of_le (by rw[List.length_replicate];exact Nat.le_refl _)];simp[val]),H⟩
 case round=>
  clear H;obtain⟨i,r,o,hi,rfl,rfl,hr,Hol,Hlo,Hv,H⟩:=hrel
  by_cases h0:i=0
  ·have HV:Hid (val a=dv*val o+r):=hid (by
    have:=Hv.out
    rwa [h0,List.drop_zero,List.drop_zero]at this)
   have h0':(i:Int)-1<0:=by omega
   clear h0;revert H;refine W00 ?_;intro H _ _ _ _ _ _ _;have hL:LR _ (some ⟨g,0,none⟩) a.length o:=LR.of_blk (pad:=[]) yE Hlo.out yJ yk;have HL:=hid hL;have HQ:Hid (val o=val a/dv):=hid (by rw[HV.out,Nat.mul_add_div hd0,Nat.div_eq_of_lt hr,Nat.add_zero]);have HR:Hid (val a%dv=r):=hid (by rw[HV.out,Nat.mul_add_mod,Nat.mod_eq_of_lt hr]);refine Calls.mono (zt o Hol.out HL.out) ?_;rintro e w1 ⟨rfl,hF⟩;have HL2:=hid (hL.fr hF).trim;have H1:=H.step hF yg;clear H hF hL HL;have H:=H1;clear H1;simp only[Int.not_lt,Int.not_le]at*;revert H;refine W00 ?_;intro H;refine bodyPost_ret (results_tmp2 rfl _ _ _) rfl ?_;rw[HQ.out]at HL2;exact⟨_,_,by rw[HQ.out,HR.out];rfl,H.fr,HL2.out,fun b off e=>by cases e;exact hg.1⟩
  ·obtain⟨j,rfl⟩:∃j,i=j+1:=⟨i-1,by omega⟩;obtain⟨x,hx⟩:∃x,a[j]? =some x:=⟨_,List.getElem?_eq_getElem yb⟩;have hxv:=limbs_at hx;have hxB:=Hh.out.lim.at hx;have Hx:=hid hx;clear hx h0;obtain⟨b0,off,rfl,hb0,hcell⟩:=Hh.out.rd.rng (zH (i:=j) yb);have H1:=H.pushRng (b:=b0) (off:=off) hb0 yg hcell;clear H hcell;have H:=H1;clear H1;have e1:(((j+1:Nat):Int)-1)=(j:Int):=by omega
   rw[e1];clear e1;have hjo:j<o.length:=by rw[Hol.out];omega
   obtain⟨ov,hov⟩:∃ov,o[j]? =some ov:=⟨_,List.getElem?_eq_getElem hjo⟩;have hovv:=limbs_at hov;have hlim:=zgE hr hxB;have Hlim:=hid hlim;clear hov hlim;revert H;refine W08 ?_;intro w1 H
   have e1:((r:Int)*4294967296+(x:Int))/(dv:Int)%4294967296=(((r*4294967296+x)/dv:Nat):Int):=by
    have e2:((r:Int)*4294967296+(x:Int))/(dv:Int)=(((r*4294967296+x)/dv:Nat):Int):=by rw[Int.natCast_ediv];congr 1
    rw[e2];have h:=Hlim.out;generalize (r*4294967296+x)/dv=q at h ⊢
    omega
   have e3:((r:Int)*4294967296+(x:Int))%(dv:Int)=(((r*4294967296+x)%dv:Nat):Int):=by rw[Int.natCast_emod];congr 1
   rw[e1,z7]at H;rw[e3]
   go_roundw
   case rel=>exact⟨j,(r*4294967296+x)%dv,o.set j ((r*4294967296+x)/dv),by omega,rfl,rfl,Nat.mod_lt _ hd0,hid yB,hid (Hlo.out.set _ Hlim.out),hid (by rw[zgC _ _ _ hjo,zaq Hx.out];simp only[val];exact zf1 Hv.out),H.sub yd⟩
   case measure=>(simp[intOf];try omega)
end Go.Proofs.YtaijhllckmndhaaGreatDoor
namespace Go.Proofs.YtaijhllckmndhaaGreatDoor
open Go.RowKit
def dig(b:UInt8):Bool:=48≤b.toNat&&b.toNat≤57
def za9(x:Nat):Bool:=decide (x<48)||decide (57<x)
def zd1(a:Nat)(b:UInt8):Nat:=a*10+(b.toNat-48)
def zci(a:Nat)(l:List UInt8):Nat:=l.foldl zd1 a
def num(l:List UInt8):Nat:=zci 0 l
def zc0(a:Nat)(b:UInt8)(r:List UInt8):zci a (b::r)=zci (zd1 a b) r:=by unfold zci;rw[List.foldl_cons]
def zsN(l:List UInt8):∀a:Nat,zci a l=a*10^l.length+zci 0 l:=by
 induction l with
 | nil=>
  intro a
  show a=a*1+0
  omega
 | cons b r ih=>
  intro a;have h1:=ih (zd1 a b);have h2:=ih (zd1 0 b);have e1:zd1 a b=a*10+zd1 0 b:=by unfold zd1;omega
  have e2:a*10*10^r.length=a*10^(r.length+1):=by rw[Nat.pow_succ,Nat.mul_assoc,Nat.mul_comm 10]
  rw[e1,Nat.add_mul,e2]at h1;rw[zc0,zc0,List.length_cons,e1,h1,Nat.add_assoc,h2]
def zqs(l m:List UInt8)(a:Nat):zci a (l++m)=zci (zci a l) m:=List.foldl_append
def zds(l m:List UInt8):num (l++m)=num l*10^m.length+num m:=by
 unfold num;rw[zqs,zsN m]
def zcD{b:UInt8}(h:dig b=true):48≤b.toNat∧b.toNat≤57:=by unfold dig at h;simpa using h
def zfL(b:UInt8):num [b]=b.toNat-48:=by
 show zd1 0 b=_
 unfold zd1
 omega
def zeg:∀(l:List UInt8),l.all dig=true→num l<10^l.length
 | [],_=>Nat.one_pos
 | b::r,h=>by
  rw[List.all_cons,Bool.and_eq_true]at h;have h1:=zcD h.1;have h2:=zeg r h.2;rw[show b::r=[b]++r from rfl,zds,zfL,List.length_append,List.length_cons,List.length_nil,Nat.pow_add,Nat.zero_add,Nat.pow_one];have h3:(b.toNat-48)*10^r.length≤9*10^r.length:=Nat.mul_le_mul_right _ yb
  omega
def zf3:∀(l:List UInt8) (a:Nat),l.all dig=true→Lib.decFrom a l=some (zci a l)
 | [],a,_=>rfl
 | b::r,a,h=>by
  rw[List.all_cons,Bool.and_eq_true]at h;have h1:=zcD h.1;rw[Lib.decFrom,Lib.digitVal,if_pos h1];exact zf3 r _ h.2
def zqY{l:List UInt8}(h:l.all dig=true)(hn:l≠[]):Lib.atoi l=some (num l:Int):=by
 cases l with
 | nil=>exact absurd rfl hn
 | cons b r=>
  have h0:=h;rw[List.all_cons,Bool.and_eq_true]at h;have h1:=zcD h.1
  have e1:(b==45)=false:=by
   rw[beq_eq_false_iff_ne];intro e;subst e;have h2:=h1.1
   simp at h2
  have e2:(b==43)=false:=by
   rw[beq_eq_false_iff_ne];intro e;subst e;have h2:=h1.1
   simp at h2
  rw[Lib.atoi,e1,e2];simp only[Bool.false_eq_true,if_false,Lib.decNat,List.isEmpty_cons,zf3 _ 0 h0,Option.map_some]
  rfl
def zg6{s:ByteArray}{i:Nat}(h:(s.get! i).toNat<128):Utf8.decode s i=((s.get! i).toNat,1):=by
 unfold Utf8.decode;simp only[Nat.add_zero];rw[if_pos h]
def zkX{s:ByteArray}{i:Nat}(h:¬(s.get! i).toNat<128):57<(Utf8.decode s i).1:=by
 unfold Utf8.decode;simp only[Nat.add_zero];rw[if_neg h];have hr:57<Utf8.runeError:=by decide
 repeat' split
 all_goals first|exact hr|(simp only;omega)|skip
 all_goals
  rename_i hc;simp only[Bool.and_eq_true,decide_eq_true_eq,ge_iff_le]at hc;simp only
  omega
def zqL(s:List UInt8)(i:Nat)(b:UInt8)(h:s[i]? =some b):(ByteArray.mk s.toArray).get! i=b:=by
 obtain⟨h1,e⟩:=List.getElem?_eq_some_iff.1 h
 show(s.toArray)[i]! =b
 simp[h1,e]
def zkg(s:List UInt8):∀(f pos:Nat),s.length≤pos+f→decide (0≤Lib.idxFuncFrom za9 true ⟨s.toArray⟩ f pos)= !((s.drop pos).all dig)
 | 0,pos,hf=>by
  rw[List.drop_eq_nil_of_le yb]
  rfl
 | f+1,pos,hf=>by
  have hsz:(ByteArray.mk s.toArray).size=s.length:=by simp[ByteArray.size]
  rw[Lib.idxFuncFrom]
  by_cases hp:pos<s.length
  ·rw[if_pos (by rw[hsz];exact hp)];have hg:=zqL s pos s[pos] (List.getElem?_eq_getElem hp);rw[List.drop_eq_getElem_cons hp,List.all_cons]
   by_cases hd:dig s[pos]=true
   ·have h1:=zcD hd;have hl:((ByteArray.mk s.toArray).get! pos).toNat<128:=by rw[hg];omega
    rw[zg6 hl,hg,hd,Bool.true_and];have hn:za9 s[pos].toNat=false:=by unfold za9;simp;omega
    rw[hn,if_neg yf];exact zkg s f (pos+1) yb
   ·have hn:za9 (Utf8.decode ⟨s.toArray⟩ pos).1=true:=by
     by_cases hl:((ByteArray.mk s.toArray).get! pos).toNat<128
     ·rw[zg6 hl,hg];unfold dig at hd;unfold za9
      simp at hd ⊢
      omega
     ·have:=zkX hl
      unfold za9
      simp
      omega
    rw[hn,if_pos rfl];have hf:dig s[pos]=false:=by simpa using hd
    rw[hf]
    simp
  ·rw[if_neg (by rw[hsz];exact hp),List.drop_eq_nil_of_le yb]
   rfl
def zlY(s:List UInt8):decide (0≤Lib.idxFunc za9 true ⟨s.toArray⟩)= !(s.all dig):=by
 have h:=zkg s s.length 0 yb;rw[List.drop_zero]at h;have hsz:(ByteArray.mk s.toArray).size=s.length:=by simp[ByteArray.size]
 unfold Lib.idxFunc;rw[hsz];exact h
def sgn(s:List UInt8):Bool:=s.head? ==some 45
def body(s:List UInt8):List UInt8:=if s.head? =some 45∨s.head? =some 43 then s.tail else s
def pz(s:List UInt8):Int×Int:=
 if 1024<s.length then(0,2)
 else if body s=[]∨(body s).all dig=false then(0,7)
 else(sg (sgn s) (num (body s)),0)
def zar(n:Nat):(dec n).all dig=true∧num (dec n)=n∧dec n≠[]:=by
 induction n using Nat.strongRecOn with
 | _ n ih=>
  have hb:∀d,d<10→(UInt8.ofNat (48+d)).toNat=48+d:=fun d hd=>by
   rw[UInt8.toNat_ofNat'];exact Nat.mod_eq_of_lt yb
  by_cases h:n<10
  ·rw[zbj h];refine⟨?_,?_,by simp⟩
   ·simp[dig,hb n h];omega
   ·rw[zfL,hb n h];omega
  ·obtain⟨h1,h2,h3⟩:=ih (n/10) yb;have hm:n%10<10:=Nat.mod_lt _ yf;rw[zek yb];refine⟨?_,?_,by simp⟩
   ·rw[List.all_append,h1]
    simp[dig,hb _ hm];omega
   ·rw[zds,h2,zfL,hb _ hm]
    simp
    omega
def zpP(n:Nat):(dec n).head? ≠some 45∧(dec n).head? ≠some 43:=by
 obtain⟨h1,_,h3⟩:=zar n
 cases hd:dec n with
 | nil=>exact absurd hd h3
 | cons b r=>
  rw[hd,List.all_cons,Bool.and_eq_true]at h1;have h2:=(zcD h1.1).1;simp only[List.head?_cons,ne_eq,Option.some.injEq]
  constructor
  all_goals
   intro e;subst e
   simp at h2
def zuk(z:Int)(h:(fmt z).length≤1024):pz (fmt z)=(z,0):=by
 unfold pz;rw[if_neg yb];obtain⟨h1,h2,h3⟩:=zar z.natAbs;obtain⟨k1,k2⟩:=zpP z.natAbs
 have hb:body (fmt z)=dec z.natAbs:=by
  unfold body fmt
  by_cases hz:z<0
  ·rw[if_pos hz];simp
  ·rw[if_neg hz,if_neg (by rintro(e|e);exact k1 e;exact k2 e)]
 have hs:sgn (fmt z)=decide (z<0):=by
  unfold sgn fmt
  by_cases hz:z<0
  ·rw[if_pos hz,decide_eq_true hz];rfl
  ·rw[if_neg hz,decide_eq_false hz]
   cases hd:(dec z.natAbs).head? with
   | none=>rfl
   | some b=>rw[hd]at k1;simp at k1 ⊢;exact k1
 rw[hb,hs,h2,if_neg (by rintro(e|e);exact h3 e;rw[h1]at e;cases e),zpW]
end Go.Proofs.YtaijhllckmndhaaGreatDoor
namespace Go.Proofs.YtaijhllckmndhaaGreatDoor
open Go.ChangeShapes Go.WideShapes Go.RowKit
section
variable {H:Type} {enc:TypeId×Value→H} {P:Program} {w:World} {base:Nat} {held:Bool}
end
def zec{P:Program}{W:World}{name:String}{k:IntKind}{zs:List Int}{g:Nat}{t e:TypeId}{n:Nat}
 (hg:P.globalNamed name=some g) (hty:(P.globals[g]?).map (·.type)=some t) (ht:P.underlying t=some (.array n e)) (he:P.underlying e=some (.int k)) (hce:P.cellsOf e=1) (hct:P.cellsOf t=n)
 (h:Lib.VarReads P W name (Lib.tabData k zs)):Lib.TabIs P W name k zs:=by
 obtain⟨g',t',cs,fuel,p,hg',ht',hvar,hd⟩:=h;obtain rfl:=Option.some.inj (hg.symm.trans hg');obtain rfl:=Option.some.inj (hty.symm.trans ht');unfold Lib.TabIs;rw[hvar,←Lib.cells_of_tab ht he hce hct hd]
end Go.Proofs.YtaijhllckmndhaaGreatDoor
namespace Go.Proofs
open Go.Shelf
def Tryz.lays28_ren:Go.Shelf.Ren:=⟨fun| 28=>263|n=>n,fun| 0=>0| 3=>3| 4=>4| 5=>5| 25=>103| 27=>160| 53=>293|n=>n,fun| 0=>6|n=>n⟩
def Tryz.lays28:Go.Proofs.Lays7.n28 Tryz.prog Tryz.lays28_ren:={
 mixed:=by kernel_rfl
 f28:=Tryz.func263.trans (congrArg some (by kernel_rfl))
 t0:=Tryz.underlying0
 a0:=Tryz.isAgg0
 z0:=Tryz.sizeOf0
 v0:=Tryz.zeroValue0
 i0:=by kernel_rfl
 t3:=Tryz.underlying3
 a3:=Tryz.isAgg3
 z3:=Tryz.sizeOf3
 v3:=Tryz.zeroValue3
 i3:=by kernel_rfl
 t4:=Tryz.underlying4
 a4:=Tryz.isAgg4
 z4:=Tryz.sizeOf4
 v4:=Tryz.zeroValue4
 i4:=by kernel_rfl
 t5:=Tryz.underlying5
 a5:=Tryz.isAgg5
 z5:=Tryz.sizeOf5
 v5:=Tryz.zeroValue5
 i5:=by kernel_rfl
 t25:=Tryz.underlying103
 a25:=Tryz.isAgg103
 z25:=Tryz.sizeOf103
 v25:=Tryz.zeroValue103
 i25:=by kernel_rfl
 t27:=Tryz.underlying160
 a27:=Tryz.isAgg160
 z27:=Tryz.sizeOf160
 v27:=Tryz.zeroValue160
 i27:=by kernel_rfl
 t53:=Tryz.underlying293
 a53:=Tryz.isAgg293
 z53:=Tryz.sizeOf293
 v53:=Tryz.zeroValue293
 i53:=by kernel_rfl
 g0:=by kernel_rfl}
end Go.Proofs
namespace Go.Proofs.YtaijhllckmndhaaGreatDoor
open Go.RowKit
def zi4:∀(f x:Nat),0<x→x<2^f→Lib.ctzFrom f x=tz x
 | 0,x,h0,h=>by simp at h;omega
 | f+1,x,h0,h=>by
  rw[Lib.ctzFrom]
  by_cases h1:x%2=1
  ·rw[if_pos h1,zc1 h1]
  ·rw[Nat.pow_succ]at h;have e:x=2*(x/2):=by omega
   rw[if_neg h1,zi4 f (x/2) (by omega) (by omega)]
   conv=>rhs;rw[e,zb1 (by omega)]
   omega
def zqC(w:World)(x:Nat)(h0:x≠0)(hx:x<4294967296)(hT:TabAt 6 Lib.deBruijn32tab w):
 Calls Tryz.prog 263 #[.int .u32 (x:Int)] w fun e w'=>e= .returned (.int .i64 (tz x:Int))∧Fr [] w w':=by
 refine Calls.mono (Any7.bits_TrailingZeros32 Tryz.lays28 x hx w (fun _=>hT)) ?_;rintro e w' ⟨rfl,rfl⟩;refine⟨?_,Fr.refl _ _⟩;rw[Lib.ctz,if_neg h0,zi4 32 x (by omega) (by omega)]
def TabAt.fr{g:Nat}{tab:List Nat}{w w':World}(h:TabAt g tab w)(k:Fr [] w w'):TabAt g tab w':=fun j hj=>k.cell (h j hj) (by simp)
def zni{w:World}{p:Option Addr}{n c:Nat}(neg:Bool)(l:List Nat)(hl:l.length=n)(hn:n≤1000000)(h:LR w p c l):
 Calls Tryz.prog 213 #[.agg #[.bool neg, .slice p n c]] w fun e w'=>e= .returned (.int .i64 (bl (val l):Int))∧Fr [] w w':=by
 subst hl;have Hh:=hid h;have hA:=hid (h.trim);have hlen:=zI h.lim;have H:=Hp.start [] w;clear h
 go_enter Tryz.func213,Tryz.ntmps213
 revert H;refine W10 ?_;intro _ g w1 hg H hfk _ _ _ _;(refine x_c H (zt l rfl (Hh.out.fr H.fr)) ?_;clear H;rintro e w1 ⟨rfl,hF⟩ H;skip);simp only[Int.not_lt,Int.not_le]at*;revert H;refine W10 ?_;intro H _ _;(refine x_c H (zmh (val l) rfl (by omega) (hA.out.fr H.fr)) ?_;clear H;rintro e w1 ⟨rfl,hF⟩ H;skip);simp only[Int.not_lt,Int.not_le]at*;revert H;refine W10 ?_;intro H
 go_ret
 exact⟨rfl,H.fr⟩
def zje{w:World}{p:Option Addr}{n c:Nat}(neg:Bool)(l:List Nat)(hl:l.length=n)(hn:n≤1000000)(h:LR w p c l)(hT:TabAt 6 Lib.deBruijn32tab w):
 Calls Tryz.prog 212 #[.agg #[.bool neg, .slice p n c]] w fun e w'=>e= .returned (.int .i64 (tz (val l):Int))∧Fr [] w w':=by
 subst hl;have Hh:=hid h;have HT:=hid hT;have H:=Hp.start [] w;clear h hT
 go_enter Tryz.func212,Tryz.ntmps212
 revert H;refine W10 ?_;intro _ g w1 hg H hfk _ _
 go_loopw [8] (fun s8 wr=>∃i:Nat,i≤l.length∧s8= .int .i64 (i:Int)∧Hid (∀j,j<i→l[j]? =some 0)∧Hp [] w wr [.blk g [.bool neg, .slice p l.length c] 118]) (fun v _=>l.length-(intOf v).toNat)
 case atStart=>exact⟨0,Nat.zero_le _,rfl,hid (fun j hj=>absurd hj (Nat.not_lt_zero _)),H⟩
 case round=>
  clear H;obtain⟨i,hi,rfl,Hz,H⟩:=hrel
  by_cases hin:i<l.length
  ·obtain⟨x,hx⟩:∃x,l[i]? =some x:=⟨_,List.getElem?_eq_getElem hin⟩;have hxv:=limbs_at hx;have hxB:=Hh.out.lim.at hx;have Hx:=hid hx;obtain⟨b0,off,rfl,hb0,hcell⟩:=Hh.out.rd.rng (zH (i:=i) hin);have H1:=H.pushRng (b:=b0) (off:=off) hb0 (by simp) hcell;clear H hcell;have H:=H1;clear H1;clear hx
   by_cases h0:x=0
   ·have Hx0:=hid h0;have hx0:(x:Int)=0:=by omega
    clear h0;rw[hx0]at hxv;clear hx0;revert H;refine W10 ?_;intro H
    go_roundw
    case rel=>exact⟨i+1,by omega,by go_num,hid (zpD Hz.out (by have:=Hx.out;rw[Hx0.out]at this;exact this)),H.sub (by repeat first|exact List.Sublist.refl _|exact List.nil_sublist _|apply List.Sublist.cons_cons|apply List.Sublist.cons)⟩
    case measure=>(simp[intOf];try omega)
   ·have hx0:0<x:=Nat.pos_of_ne_zero h0;have Hx0:=hid h0;have HR:Hid (tz (val l)=32*i+tz x):=hid (zso Hx.out h0 Hh.out.lim Hz.out);clear h0;revert H;refine W10 ?_;intro H _ _ _ _ _ _ _;(refine x_c H (zqC _ x Hx0.out hxB (TabAt.fr HT.out H.fr)) ?_;clear H;rintro e w1 ⟨rfl,hF⟩ H;skip)
    have ht:tz x≤64:=by
     have h1:=zi4 32 x hx0 (by omega);obtain⟨_,_,h2⟩:=Lib.ctzFrom_spec 32 x hx0 (by omega)
     omega
    simp only[Int.not_lt,Int.not_le]at*;revert H;refine W10 ?_;intro H
    go_ret
    refine⟨?_,H.fr⟩;rw[HR.out,show((32*i+tz x:Nat):Int)=(i:Int)*32+(tz x:Int) by omega]
    rfl
  ·have e:val l=0:=by
    apply zgP
    intro k x hk;have h1:=(List.getElem?_eq_some_iff.1 hk).1;have h2:=Hz.out k (by omega);rw[hk]at h2;exact Option.some.inj h2
   have He:=hid e;clear e;revert H;refine W10 ?_;intro H _ _ _
   go_ret
   exact⟨by rw[He.out,zhy];rfl,H.fr⟩
end Go.Proofs.YtaijhllckmndhaaGreatDoor
namespace Go.Proofs.YtaijhllckmndhaaGreatDoor
variable {b:UInt8} {r l:List UInt8}
def dsg:List UInt8→Bool×List UInt8
 | []=>(false,[])
 | c::r=>if c=45 then(true,r)else if c=43 then(false,r)else(false,c::r)
def zaU:Bool→List UInt8→List UInt8×Nat×List UInt8
 | _,[]=>([],0,[])
 | p,c::r=>
  if dig c then(c::(zaU p r).1,(if p then 1 else 0)+(zaU p r).2.1,(zaU p r).2.2)
  else if c=46∧p=false then zaU true r else([],0,c::r)
def isE(c:UInt8):Bool:=c==101||c==69||c==100||c==68
def zex(t:List UInt8):Option Int:=
 if(dsg t).2≠[]∧(dsg t).2.all dig=true then some (if(dsg t).1 then -(num (dsg t).2:Int)else num (dsg t).2)else none
def zcA(s:List UInt8):Option (Bool×List UInt8×Nat×Int):=
 if(zaU false (dsg s).2).1=[]then none else
 match (zaU false (dsg s).2).2.2 with
 | []=>some ((dsg s).1,(zaU false (dsg s).2).1,(zaU false (dsg s).2).2.1,0)
 | e::t=>if isE e then(zex t).map (fun x=>((dsg s).1,(zaU false (dsg s).2).1,(zaU false (dsg s).2).2.1,x))else none
def zck(neg:Bool)(mode:Int)(N:Nat)(x:Int):Nat:=if N=0 then zJ neg 0 else dvF neg mode N x
def dpz(M:Nat)(s:List UInt8)(mode:Int):Nat×Int:=
 if M<s.length then(0,2)else
 match zcA s with
 | none=>(0,7)
 | some (neg,ds,b,x)=>if x< -99999∨99999<x then(0,3)else(zck neg mode (num ds) (x-b),0)
def zip:∀s:List UInt8,zaU true s=(s.takeWhile dig,(s.takeWhile dig).length,s.dropWhile dig)
 | []=>rfl
 | c::r=>by
  rw[zaU]
  cases h:dig c
  ·simp[h]
  ·simp[h,zip r,Nat.add_comm]
def zgX:∀s:List UInt8,zaU false s=(match s.dropWhile dig with
 | []=>(s.takeWhile dig,0,[])
 | c::t=>if c=46 then(s.takeWhile dig++t.takeWhile dig,(t.takeWhile dig).length,t.dropWhile dig)else(s.takeWhile dig,0,c::t))
 | []=>rfl
 | c::r=>by
  rw[zaU]
  cases h:dig c
  ·rw[if_neg yf,List.dropWhile_cons_of_neg (by simp[h]),List.takeWhile_cons_of_neg (by simp[h])];simp only[and_true,zip,List.nil_append]
  ·rw[if_pos rfl,zgX r,List.dropWhile_cons_of_pos h,List.takeWhile_cons_of_pos h]
   cases hr:r.dropWhile dig with
   | nil=>simp
   | cons d t=>
    simp only[]
    split<;>simp
def zcw(B:Nat)(a:Nat)(l:List UInt8):Nat:=l.foldl (fun a b=>min (10*a+(b.toNat-48)) B) a
def zgj(B:Nat):∀(l:List UInt8) (a:Nat),zcw B (min a B) l=min (zci a l) B
 | [],a=>rfl
 | b::r,a=>by
  rw[zc0]
  show zcw B (min (10*min a B+(b.toNat-48)) B) r=_
  rw[←zgj B r]
  congr 1
  unfold zd1
  omega
def zW(l:List UInt8):List UInt8:=l.dropWhile (· ==48)
def zb0:∀l:List UInt8,num (zW l)=num l
 | []=>rfl
 | b::r=>by
  unfold zW
  by_cases h:b=48
  ·subst h;rw[List.dropWhile_cons_of_pos yf]
   have e:num (48::r)=num r:=by
    show zci 0 (48::r)=zci 0 r
    rw[zc0]
    rfl
   rw[e];exact zb0 r
  ·rw[List.dropWhile_cons_of_neg yM]
def znu(hb:dig b=true)(h0:b≠48):10^r.length≤num (b::r):=by
 have e:num (b::r)=num [b]*10^r.length+num r:=zds [b] r;have h1:=zcD hb;have h2:b.toNat≠48:=fun h=>h0 (UInt8.toNat_inj.1 h)
 have h3:1≤num [b]:=by rw[zfL];omega
 have h4:1*10^r.length≤num [b]*10^r.length:=Nat.mul_le_mul_right _ h3
 omega
def zim(h:zW l=b::r):b≠48:=by
 intro e
 have:=List.head?_dropWhile_not (p:=(· ==(48:UInt8))) l
 unfold zW at h;rw[h]at this;subst e
 simp at this
def zeU(h:l.all dig=true):(zW l).all dig=true:=by
 rw[List.all_eq_true]at h ⊢;intro x hx;exact h x ((List.dropWhile_sublist _).subset hx)
def znq(h:l.all dig=true):((zW l).length≤5∧num (zW l)≤99999)↔num l≤99999:=by
 rw[zb0]
 constructor
 ·exact fun h=>h.2
 ·intro hn;refine⟨?_,hn⟩
  cases hl:zW l with
  | nil=>simp
  | cons b r=>
   have ha:=zeU h;rw[hl,List.all_cons,Bool.and_eq_true]at ha;have h1:=znu (r:=r) ha.1 (zim hl);rw[←hl,zb0]at h1
   apply Classical.byContradiction
   intro hc;have h2:10^5≤10^r.length:=Nat.pow_le_pow_right yf (by simp at hc;omega)
   omega
def zrj(h:l.all dig=true):zW l=[]↔num l=0:=by
 rw[←zb0]
 constructor
 ·intro e;rw[e];rfl
 ·intro e
  cases hl:zW l with
  | nil=>rfl
  | cons b r=>
   have ha:=zeU h;rw[hl,List.all_cons,Bool.and_eq_true]at ha;have h1:=znu (r:=r) ha.1 (zim hl);rw[←hl,e]at h1
   have:=zD r.length
   omega
end Go.Proofs.YtaijhllckmndhaaGreatDoor
