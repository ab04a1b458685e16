import Derived.Test.YtaijhllckmndhaaGreatDoorYJ0
import Derived.Test.YtaijhllckmndhaaGreatDoorYJ4
import Derived.Lib.SplitLaws
import Derived.Lib.FieldsP
import Derived.Lib.DecodeN
namespace Go.Proofs.YtaijhllckmndhaaGreatDoor
set_option linter.all false
set_option maxHeartbeats 64000000
set_option maxRecDepth 100000
section
variable {x i n:Nat} {l m:List Nat}
open Go.RowKit
def val:List Nat→Nat
 | []=>0
 | x::l=>x+4294967296*val l
def Lim(l:List Nat):Prop:=∀x∈l,x<4294967296
def Lim.nil:Lim []:=fun x h=>by cases h
def Lim.cons(hx:x<4294967296)(h:Lim l):Lim (x::l):=fun y hy=>by
 rcases List.mem_cons.1 hy with rfl|hy
 ·exact hx
 ·exact h y hy
def Lim.tl(h:Lim (x::l)):Lim l:=fun y hy=>h y (List.mem_cons_of_mem _ hy)
def Lim.hd(h:Lim (x::l)):x<4294967296:=h x List.mem_cons_self
def Lim.app(h:Lim l)(k:Lim m):Lim (l++m):=fun y hy=>(List.mem_append.1 hy).elim (h y) (k y)
def Lim.left(h:Lim (l++m)):Lim l:=fun y hy=>h y (List.mem_append_left _ hy)
def Lim.right(h:Lim (l++m)):Lim m:=fun y hy=>h y (List.mem_append_right _ hy)
def Lim.take(h:Lim l)(n:Nat):Lim (l.take n):=fun y hy=>h y (List.mem_of_mem_take hy)
def Lim.drop(h:Lim l)(n:Nat):Lim (l.drop n):=fun y hy=>h y (List.mem_of_mem_drop hy)
def Lim.at(h:Lim l)(hx:l[i]? =some x):x<4294967296:=h x (List.mem_of_getElem? hx)
def Lim.set(h:Lim l)(i:Nat)(hx:x<4294967296):Lim (l.set i x):=fun y hy=>by
 rcases List.mem_or_eq_of_mem_set hy with hy|rfl
 ·exact h y hy
 ·exact hx
def Lim.zeros(n:Nat):Lim (List.replicate n 0):=fun y hy=>by rw[List.eq_of_mem_replicate hy];decide
def zcn:val []=0:=rfl
def zaF(x:Nat)(l:List Nat):val (x::l)=x+4294967296*val l:=rfl
def zeo(l m:List Nat):val (l++m)=val l+4294967296^l.length*val m:=by
 induction l with
 | nil=>simp[val]
 | cons x l ih=>rw[List.cons_append,zaF,zaF,ih,List.length_cons,Nat.pow_succ,Nat.mul_add,Nat.add_assoc,←Nat.mul_assoc,Nat.mul_comm 4294967296 (4294967296^l.length)]
def zhF(x:Nat):val [x]=x:=by simp[val]
def zda(n:Nat):val (List.replicate n 0)=0:=by
 induction n with
 | zero=>rfl
 | succ n ih=>rw[List.replicate_succ,zaF,ih]
def zaA(h:Lim l):val l<4294967296^l.length:=by
 induction l with
 | nil=>simp[val]
 | cons x l ih=>
  have h1:=ih h.tl;have h2:=h.hd;rw[zaF,List.length_cons,Nat.pow_succ,Nat.mul_comm (4294967296^l.length)];have h3:4294967296*(val l+1)≤4294967296*4294967296^l.length:=Nat.mul_le_mul_left _ h1;rw[Nat.mul_add]at h3
  omega
def zbo(l:List Nat)(x:Nat):val (l++[x])=val l+4294967296^l.length*x:=by rw[zeo,zhF]
def zw(h:l[i]? =some x):val (l.take (i+1))=val (l.take i)+4294967296^i*x:=by
 have hl:=(List.getElem?_eq_some_iff.1 h).1;rw[List.take_add_one,h]
 show val (l.take i++[x])=_
 rw[zbo,List.length_take,Nat.min_eq_left yb]
def zav(h:l[i]? =some x):val (l.drop i)=x+4294967296*val (l.drop (i+1)):=by
 obtain⟨hl,e⟩:=List.getElem?_eq_some_iff.1 h;rw[List.drop_eq_getElem_cons hl,e,zaF]
def zaH(l:List Nat)(i:Nat):val l=val (l.take i)+4294967296^(min i l.length)*val (l.drop i):=by
 have:=zeo (l.take i) (l.drop i)
 rw[List.take_append_drop,List.length_take]at this;exact this
def zfN(h:l[i]? =some x)(y:Nat):val (l.set i y)+4294967296^i*x=val l+4294967296^i*y:=by
 induction l generalizing i with
 | nil=>simp at h
 | cons a l ih=>
  cases i with
  | zero=>simp at h;subst h;rw[List.set_cons_zero,zaF,zaF,Nat.pow_zero];omega
  | succ i=>
   have h:l[i]? =some x:=h
   have:=ih h
   rw[List.set_cons_succ,zaF,zaF,Nat.pow_succ,Nat.mul_comm (4294967296^i),Nat.mul_assoc,Nat.mul_assoc]
   omega
def zd(n:Nat):List Nat:=if h:n=0 then []else n%4294967296::zd (n/4294967296)
termination_by n
decreasing_by omega
def zn:zd 0=[]:=by rw[zd];simp
def zeJ(h:n≠0):zd n=n%4294967296::zd (n/4294967296):=by rw[zd];simp[h]
def zg(n:Nat):val (zd n)=n:=by
 induction n using Nat.strongRecOn with
 | _ n ih=>
  by_cases h:n=0
  ·subst h;rw[zn];rfl
  ·rw[zeJ h,zaF,ih (n/4294967296) yb];omega
def zaO(n:Nat):Lim (zd n):=by
 induction n using Nat.strongRecOn with
 | _ n ih=>
  by_cases h:n=0
  ·subst h;rw[zn];exact Lim.nil
  ·rw[zeJ h];exact Lim.cons yb (ih (n/4294967296) yb)
def zjq{m:Nat}(h:zd n=zd m):n=m:=by rw[←zg n,h,zg]
def zvi:zd n=[]↔n=0:=⟨fun h=>zjq (by rw[h,zn]),fun h=>by rw[h,zn]⟩
def zhT(h:Lim l):∃k,l=zd (val l)++List.replicate k 0:=by
 induction l with
 | nil=>exact⟨0,by rw[zcn,zn];rfl⟩
 | cons x l ih=>
  obtain⟨k,hk⟩:=ih h.tl;have hx:=h.hd
  by_cases h0:val (x::l)=0
  ·rw[h0,zn];rw[zaF]at h0;have h1:x=0:=by omega
   have h2:val l=0:=by omega
   rw[h2,zn]at hk;exact⟨k+1,by rw[h1,hk,List.replicate_succ];rfl⟩
  ·refine⟨k,?_⟩;rw[zeJ h0,zaF];have e1:(x+4294967296*val l)%4294967296=x:=by omega
   have e2:(x+4294967296*val l)/4294967296=val l:=by omega
   rw[e1,e2,List.cons_append,←hk]
def zI(h:Lim l):(zd (val l)).length≤l.length:=by
 obtain⟨k,hk⟩:=zhT h
 have:=congrArg List.length hk
 rw[List.length_append]at this
 omega
def ziv(h:Lim l):l.take (zd (val l)).length=zd (val l):=by
 obtain⟨k,hk⟩:=zhT h;have h2:=congrArg (fun m=>m.take (zd (val l)).length) hk;simp only[List.take_left']at h2;exact h2
def znB(h:Lim l)(hi:(zd (val l)).length≤i)(hx:l[i]? =some x):x=0:=by
 obtain⟨k,hk⟩:=zhT h;rw[hk,List.getElem?_append_right hi,List.getElem?_replicate]at hx
 split at hx
 ·injection hx with hx;exact hx.symm
 ·cases hx
def zby(n:Nat):∀x,(zd n)[(zd n).length-1]? =some x→x≠0:=by
 induction n using Nat.strongRecOn with
 | _ n ih=>
  intro x hx
  by_cases h:n=0
  ·subst h;rw[zn]at hx;cases hx
  ·rw[zeJ h]at hx;rw[List.length_cons,Nat.add_sub_cancel]at hx
   by_cases h2:n/4294967296=0
   ·rw[h2,zn]at hx
    simp at hx
    omega
   ·have hl:0<(zd (n/4294967296)).length:=by
     cases e:zd (n/4294967296)with
     | nil=>exact absurd (zvi.1 e) h2
     | cons a l=>simp
    obtain⟨m,hm⟩:∃m,(zd (n/4294967296)).length=m+1:=⟨(zd (n/4294967296)).length-1,by omega⟩;rw[hm,List.getElem?_cons_succ]at hx;exact ih (n/4294967296) yb x (by rw[hm];exact hx)
def zbu(n:Nat):n<4294967296^(zd n).length:=by
 have:=zaA (zaO n)
 rwa [zg]at this
def zhr(h:n≠0):4294967296^((zd n).length-1)≤n:=by
 have hl:0<(zd n).length:=by
  cases e:zd n with
  | nil=>exact absurd (zvi.1 e) h
  | cons a l=>simp
 obtain⟨x,hx⟩:∃x,(zd n)[(zd n).length-1]? =some x:=⟨_,List.getElem?_eq_getElem yb⟩;have h0:=zby n x hx;have h1:=zw hx;rw[show(zd n).length-1+1=(zd n).length by omega,List.take_of_length_le (Nat.le_refl _),zg]at h1;have h2:4294967296^((zd n).length-1)*1≤4294967296^((zd n).length-1)*x:=Nat.mul_le_mul_left _ yb
 omega
def zd4{m:Nat}(h:(zd n).length<(zd m).length):n<m:=by
 have hm:m≠0:=fun e=>by rw[e,zn]at h;simp at h
 have h1:=zbu n;have h2:=zhr hm;have h3:4294967296^(zd n).length≤4294967296^((zd m).length-1):=Nat.pow_le_pow_right yf yb
 omega
def zap{k:Nat}(h:n<4294967296^k):(zd n).length≤k:=by
 apply Classical.byContradiction
 intro hk;have hn:n≠0:=fun e=>by rw[e,zn]at hk;simp at hk
 have h1:=zhr hn;have h3:4294967296^k≤4294967296^((zd n).length-1):=Nat.pow_le_pow_right yf yb
 omega
def zpr{a b:List Nat}(ha:Lim a)(hb:Lim b)(hl:a.length=b.length){y:Nat}(hx:a[i]? =some x)(hy:b[i]? =some y)(hd:a.drop (i+1)=b.drop (i+1))(hlt:x<y):val a<val b:=by
 have hil:=(List.getElem?_eq_some_iff.1 hx).1;have hil2:=(List.getElem?_eq_some_iff.1 hy).1;rw[zaH a i,zaH b i,zav hx,zav hy,hd,Nat.min_eq_left yb,Nat.min_eq_left yb];have h1:=zaA (ha.take i);rw[List.length_take,Nat.min_eq_left yb]at h1;rw[Nat.mul_add,Nat.mul_add];have h2:4294967296^i*(x+1)≤4294967296^i*y:=Nat.mul_le_mul_left _ hlt;rw[Nat.mul_add]at h2
 omega
def zj(l:List Nat):List Value:=l.map fun x:Nat=>Value.int .u32 (x:Int)
@[simp] def zbT(l:List Nat):(zj l).length=l.length:=by simp[zj]
def limbs_at{l:List Nat}{i x:Nat}(h:l[i]? =some x):(zj l)[i]? =some (.int .u32 (x:Int)):=by simp[zj,h]
def znK(l:List Nat):∀u∈zj l,u.oneCell'=true:=by intro u hu;simp[zj]at hu;obtain⟨c,_,rfl⟩:=hu;rfl
def z7(l:List Nat)(i x:Nat):(zj l).set i (.int .u32 (x:Int))=zj (l.set i x):=by simp[zj,List.map_set]
def zpj(l m:List Nat):zj l++zj m=zj (l++m):=by simp[zj]
def znk(l:List Nat)(n:Nat):(zj l).take n=zj (l.take n):=by simp[zj,List.map_take]
def zH(h:i<l.length):zj l≠[]:=fun e=>by have:=congrArg List.length e;rw[zbT,List.length_nil]at this;omega
end
section
variable {o i c x y t D A Y b d k V r p:Nat} {l:List Nat}
open Go.RowKit
def zbm(i:Nat):4294967296^(i+1)=4294967296^i*4294967296:=Nat.pow_succ ..
def zhh(p t:Nat):p*(t%4294967296)+p*4294967296*(t/4294967296)=p*t:=by
 rw[Nat.mul_assoc,←Nat.mul_add,Nat.mod_add_div]
def zdp{o:List Nat}{X:Nat}(hl:o.length=i)(h:val o+4294967296^i*c=X)(ht:t=x+y+c):val (o++[t%4294967296])+4294967296^(i+1)*(t/4294967296)=X+4294967296^i*x+4294967296^i*y:=by
 rw[zbo,hl,zbm,Nat.add_assoc,zhh,ht,Nat.mul_add,Nat.mul_add]
 omega
def zfX{b':Nat}(h:D+Y=A+4294967296^i*b)(hd:x+4294967296*b'=d+y+b):D+4294967296^i*d+(Y+4294967296^i*y)=A+4294967296^i*x+4294967296^(i+1)*b':=by
 rw[zbm,Nat.mul_assoc];have h2:4294967296^i*(x+4294967296*b')=4294967296^i*(d+y+b):=by rw[hd]
 rw[Nat.mul_add,Nat.mul_add,Nat.mul_add]at h2
 omega
def ze1{α:Type}(l:List α)(i:Nat)(x:α)(h:i<l.length):(l.set i x).take (i+1)=l.take i++[x]:=by
 rw[List.take_add_one,List.getElem?_set_self h,List.take_set_of_le (Nat.le_refl _)];rfl
def zfg{α:Type}{l:List α}(h:l.length≤i):l.take (i+1)=l.take i:=by rw[List.take_of_length_le yb,List.take_of_length_le h]
def zpl{n:Nat}(hD:D<4294967296^n)(hle:Y≤A)(h:D+Y=A+4294967296^n*b):b=0∧D=A-Y:=by
 have hb:b=0:=by
  apply Classical.byContradiction
  intro hb
  have:4294967296^n*1≤4294967296^n*b:=Nat.mul_le_mul_left _ yb
  omega
 subst hb
 simp at h
 omega
def zkW{W:Nat}(ho:l[k]? =some o)(h:val l+4294967296^k*c=V)(ht:t=W+o+c):val (l.set k (t%4294967296))+4294967296^(k+1)*(t/4294967296)=V+4294967296^k*W:=by
 have h1:=zfN ho (t%4294967296);have h2:=zhh (4294967296^k) t;rw[←zbm]at h2;have h3:4294967296^k*t=4294967296^k*W+4294967296^k*o+4294967296^k*c:=by rw[ht,Nat.mul_add,Nat.mul_add]
 omega
def zf9(hx:x<4294967296)(hy:y<4294967296)(ho:o<4294967296)(hc:c<4294967296):x*y+o+c<18446744073709551616:=by
 have:x*y≤4294967295*4294967295:=Nat.mul_le_mul yb yb
 omega
def zjH(h0:l[k]? =some 0)(h:val l+4294967296^k*c=V):val (l.set k c)=V:=by
 have:=zfN h0 c
 omega
def zgC{α:Type}(l:List α)(i:Nat)(x:α)(h:i<l.length):(l.set i x).drop i=x::l.drop (i+1):=by
 rw[List.drop_eq_getElem_cons (by rw[List.length_set];exact h),List.getElem_set_self,List.drop_set_of_lt (Nat.lt_succ_self _)]
def zf1{Q:Nat}(h:A=d*Q+r):x+4294967296*A=d*((r*4294967296+x)/d+4294967296*Q)+(r*4294967296+x)%d:=by
 have h1:=Nat.div_add_mod (r*4294967296+x) d;rw[Nat.mul_add,h];have h2:d*(4294967296*Q)=4294967296*(d*Q):=by rw[Nat.mul_left_comm]
 rw[h2,Nat.mul_add]
 omega
def zgE(hr:r<d)(hx:x<4294967296):(r*4294967296+x)/d<4294967296:=by
 rw[Nat.div_lt_iff_lt_mul yb]
 have:(r+1)*4294967296≤d*4294967296:=Nat.mul_le_mul_right _ hr
 omega
def zdk(hp:p<32):∃q,4294967296=2^p*q:=⟨2^(32-p),by rw[←Nat.pow_add,show p+(32-p)=32 by omega]⟩
def zu1(hp:p<32)(hx:x<4294967296)(ho:o<2^p):(x*2^p)%4294967296||| o=(x*2^p)%4294967296+o:=by
 obtain⟨q,hq⟩:=zdk hp;have h1:x*2^p%4294967296=2^p*(x%q):=by rw[hq,Nat.mul_comm x,Nat.mul_mod_mul_left]
 rw[h1];exact(Nat.two_pow_add_eq_or_of_lt ho _).symm
def ztx(hp:p<32)(hx:x<4294967296)(ho:o<2^p):(x*2^p)%4294967296+o<4294967296:=by
 obtain⟨q,hq⟩:=zdk hp;have h1:x*2^p%4294967296=2^p*(x%q):=by rw[hq,Nat.mul_comm x,Nat.mul_mod_mul_left]
 have hq0:0<q:=by
  cases q with
  | zero=>omega
  | succ q=>omega
 have h2:x%q<q:=Nat.mod_lt _ hq0;have h3:2^p*(x%q+1)≤2^p*q:=Nat.mul_le_mul_left _ h2;rw[Nat.mul_add,←hq]at h3
 omega
def zsX(hx:x<4294967296):x*2^p/4294967296<2^p:=by
 rw[Nat.div_lt_iff_lt_mul yf];rw[Nat.mul_comm (2^p)];exact Nat.mul_lt_mul_of_pos_right hx (Nat.two_pow_pos p)
def zqJ(ho:l[k]? =some o)(hz:l[k+1]? =some 0)(h:val l=V):val ((l.set k (t%4294967296+o)).set (k+1) (t/4294967296))=V+4294967296^k*t:=by
 have hl:=(List.getElem?_eq_some_iff.1 ho).1;have h1:=zfN ho (t%4294967296+o);have hz':(l.set k (t%4294967296+o))[k+1]? =some 0:=by rw[List.getElem?_set_ne yb];exact hz
 have h2:=zfN hz' (t/4294967296);have h3:=zhh (4294967296^k) t;rw[←zbm]at h3;rw[Nat.mul_add]at h1
 omega
def zoN(hp:p<32):(A/2^p)%4294967296=((A%18446744073709551616)/2^p)%4294967296:=by
 obtain⟨q,hq⟩:=zdk hp;have h1:A=A%18446744073709551616+18446744073709551616*(A/18446744073709551616):=(Nat.mod_add_div _ _).symm
 have h2:18446744073709551616*(A/18446744073709551616)=2^p*(q*4294967296*(A/18446744073709551616)):=by
  rw[show(18446744073709551616:Nat)=4294967296*4294967296 from rfl];generalize A/(4294967296*4294967296)=z;rw[←Nat.mul_assoc,←Nat.mul_assoc,←hq]
 have h3:A/2^p=A%18446744073709551616/2^p+q*4294967296*(A/18446744073709551616):=by
  conv=>lhs;rw[h1,h2]
  rw[Nat.add_mul_div_left _ _ (Nat.two_pow_pos p)]
 rw[h3,Nat.mul_comm q,Nat.mul_assoc,Nat.add_mul_mod_self_left]
def zeY(h:Lim l)(i:Nat):val l/4294967296^i=val (l.drop i):=by
 by_cases hi:i≤l.length
 ·have h1:=zaH l i;rw[Nat.min_eq_left hi]at h1;have h2:=zaA (h.take i);rw[List.length_take,Nat.min_eq_left hi]at h2;rw[h1,Nat.add_mul_div_left _ _ (Nat.pow_pos yf),Nat.div_eq_of_lt h2,Nat.zero_add]
 ·rw[List.drop_eq_nil_of_le yb,zcn];have h2:=zaA h;exact Nat.div_eq_of_lt (Nat.lt_of_lt_of_le h2 (Nat.pow_le_pow_right yf yb))
def zq3(h:Lim l)(i:Nat):val l%4294967296^i=val (l.take i):=by
 by_cases hi:i≤l.length
 ·have h1:=zaH l i;rw[Nat.min_eq_left hi]at h1;have h2:=zaA (h.take i);rw[List.length_take,Nat.min_eq_left hi]at h2;rw[h1,Nat.add_mul_mod_self_left,Nat.mod_eq_of_lt h2]
 ·rw[List.take_of_length_le yb];have h2:=zaA h;exact Nat.mod_eq_of_lt (Nat.lt_of_lt_of_le h2 (Nat.pow_le_pow_right yf yb))
def zjy(h:Lim l)(hx:l[i]? =some x):val l/4294967296^i%4294967296=x:=by
 rw[zeY h,zav hx]
 have:=h.at hx
 omega
def zm4{o:List Nat}{N:Nat}(h:∀(i x:Nat),o[i]? =some x→x=N/4294967296^i%4294967296):val o=N%4294967296^o.length:=by
 induction o generalizing N with
 | nil=>simp[val,Nat.mod_one]
 | cons x o ih=>
  have hx:=h 0 x rfl;rw[Nat.pow_zero,Nat.div_one]at hx
  have:=ih (N:=N/4294967296) (fun i y hy=>by
   rw[h (i+1) y hy,Nat.div_div_eq_div_mul,zbm,Nat.mul_comm 4294967296])
  rw[zaF,this,hx,List.length_cons,Nat.pow_succ,Nat.mul_comm (4294967296^o.length)];exact(Nat.mod_mul (x:=N) (a:=4294967296) (b:=4294967296^o.length)).symm
end
section
variable {l:List Nat} {n x1 x2 U V Q top v P q v1 v2 u2 u D Y A c b x i a k:Nat}
open Go.RowKit
def zp9(hl:l.length=n+2)(h1:l[n+1]? =some x1)(h2:l[n]? =some x2):val l=val (l.take n)+4294967296^n*(x2+4294967296*x1):=by
 have h:=zaH l n;rw[Nat.min_eq_left yb,zav h2,zav h1,List.drop_eq_nil_of_le yb,zcn]at h
 simpa using h
def zq1{x0:Nat}(hl:l.length=n+3)(h0:l[n+2]? =some x0)(h1:l[n+1]? =some x1)(h2:l[n]? =some x2):val l=val (l.take n)+4294967296^n*(x2+4294967296*(x1+4294967296*x0)):=by
 have h:=zaH l n;rw[Nat.min_eq_left yb,zav h2,zav h1,zav h0,List.drop_eq_nil_of_le yb,zcn]at h
 simpa using h
def zuB(hV:v*P≤V)(hU:U<(top+1)*P)(hQ:Q*V≤U):Q*v≤top:=by
 apply Classical.byContradiction
 intro h;have h1:(top+1)*P≤Q*v*P:=Nat.mul_le_mul_right _ yb;have h2:Q*(v*P)≤Q*V:=Nat.mul_le_mul_left _ hV;rw[←Nat.mul_assoc]at h2
 omega
def zu0{rest:Nat}(hV:(v2+4294967296*v1)*P≤V)(hU:U<(u2+4294967296*top+1)*P)(hQ:Q*V≤U)(ht:q*v1+rest=top)(hc:rest*4294967296+u2<q*v2):Q<q:=by
 have h1:=zuB hV hU hQ
 apply Classical.byContradiction
 intro h;have h2:q*(v2+4294967296*v1)≤Q*(v2+4294967296*v1):=Nat.mul_le_mul_right _ yb;rw[Nat.mul_add q]at h2;have h3:q*(4294967296*v1)=4294967296*(q*v1):=Nat.mul_left_comm ..
 omega
def zvo(hq:q<4294967296)(hV:V<(v+1)*P)(hVP:4294967296*P≤V)(hU:u*P≤U)(hc:q*v≤u):q*V<U+V:=by
 have h1:q*V≤q*((v+1)*P):=Nat.mul_le_mul_left _ yb;have h2:q*((v+1)*P)=q*v*P+q*P:=by rw[Nat.add_mul,Nat.mul_add,Nat.one_mul,Nat.mul_assoc]
 have h3:q*v*P≤u*P:=Nat.mul_le_mul_right _ hc
 have h4:q*P+P≤4294967296*P:=by
  have:=Nat.mul_le_mul_right P (show q+1≤4294967296 by omega)
  rw[Nat.add_mul,Nat.one_mul]at this;exact this
 have hP:0<P:=by
  cases P with
  | zero=>omega
  | succ P=>omega
 omega
def est{u v:List Nat}{u0 u1:Nat}(hu:u.length=n+3)(hv:v.length=n+2)(lu:Lim u)(lv:Lim v)(g0:u[n+2]? =some u0)(g1:u[n+1]? =some u1)(g2:u[n]? =some u2)(k1:v[n+1]? =some v1)(k2:v[n]? =some v2):
 v1*4294967296^(n+1)≤val v∧val u<(u0*4294967296+u1+1)*4294967296^(n+1)∧(v2+4294967296*v1)*4294967296^n≤val v∧val u<(u2+4294967296*(u0*4294967296+u1)+1)*4294967296^n∧val v<(v2+4294967296*v1+1)*4294967296^n∧(u2+4294967296*(u0*4294967296+u1))*4294967296^n≤val u:=by
 have hV:=zp9 hv k1 k2;have hU:=zq1 hu g0 g1 g2;have a:=zaA (lu.take n);have b:=zaA (lv.take n);rw[List.length_take,Nat.min_eq_left yb]at a b;have l2:=lu.at g2;have e1:u2+4294967296*(u1+4294967296*u0)=u2+4294967296*(u0*4294967296+u1):=by omega
 rw[e1]at hU;generalize hP:4294967296^n=P at*;have e2:4294967296^(n+1)=P*4294967296:=by rw[Nat.pow_succ,hP]
 rw[e2];rw[hV,hU];have f1:v1*(P*4294967296)=P*(4294967296*v1):=by rw[Nat.mul_comm v1,Nat.mul_assoc]
 have f2:P*(v2+4294967296*v1)=P*v2+P*(4294967296*v1):=Nat.mul_add ..;have f3:(v2+4294967296*v1)*P=P*(v2+4294967296*v1):=Nat.mul_comm ..;have f4:(v2+4294967296*v1+1)*P=P*(v2+4294967296*v1)+P:=by rw[Nat.add_mul,Nat.one_mul,Nat.mul_comm]
 have f5:(u2+4294967296*(u0*4294967296+u1)+1)*P=P*(u2+4294967296*(u0*4294967296+u1))+P:=by rw[Nat.add_mul,Nat.one_mul,Nat.mul_comm]
 have f6:(u2+4294967296*(u0*4294967296+u1))*P=P*(u2+4294967296*(u0*4294967296+u1)):=Nat.mul_comm ..;have f7:(u0*4294967296+u1+1)*(P*4294967296)=P*(4294967296*(u0*4294967296+u1+1)):=by rw[Nat.mul_comm _ (P*4294967296),Nat.mul_assoc]
 have f8:P*(u2+4294967296*(u0*4294967296+u1)+1)≤P*(4294967296*(u0*4294967296+u1+1)):=Nat.mul_le_mul_left _ yb;rw[Nat.mul_add P _ 1,Nat.mul_one]at f8;refine⟨?_,?_,?_,?_,?_,?_⟩
 ·rw[f1,f2];omega
 ·rw[f7];omega
 ·rw[f3];omega
 ·rw[f5];omega
 ·rw[f4];omega
 ·rw[f6];omega
def zuS(hV:0<V)(h1:U/V≤q)(h2:q*V<U+V):q=U/V∨(q=U/V+1∧U<q*V):=by
 have h3:=Nat.div_add_mod U V;have h4:=Nat.mod_lt U hV
 rcases Nat.lt_or_ge (U/V) q with h|h
 ·right
  have h5:q≤U/V+1:=by
   apply Classical.byContradiction
   intro h6;have h7:(U/V+2)*V≤q*V:=Nat.mul_le_mul_right _ yb;rw[Nat.add_mul,Nat.mul_comm (U/V)]at h7
   omega
  have e:q=U/V+1:=by omega
  refine⟨e,?_⟩;rw[e,Nat.add_mul,Nat.mul_comm (U/V)]
  omega
 ·left;omega
def zta{W g:Nat}(hV:0<V)(h1:W/V≤g)(h2:g*V≤W):g=W/V:=by
 have h3:g≤W/V:=(Nat.le_div_iff_mul_le hV).2 h2
 omega
def zlU{c' b' d p:Nat}(h:D+q*Y=A+4294967296^i*(c+b))(hp:q*x+c=4294967296*c'+p)(hd:u+4294967296*b'=d+p+b):D+4294967296^i*d+q*(Y+4294967296^i*x)=A+4294967296^i*u+4294967296^(i+1)*(c'+b'):=by
 rw[zbm,Nat.mul_assoc,Nat.mul_add q,Nat.mul_left_comm q];generalize 4294967296^i=P at*
 have h2:P*(u+4294967296*(c'+b'))=P*(d+q*x+c+b):=by
  congr 1
  rw[Nat.mul_add]
  omega
 have e1:P*(u+4294967296*(c'+b'))=P*u+P*(4294967296*(c'+b')):=Nat.mul_add ..;have e2:P*(d+q*x+c+b)=P*d+P*(q*x)+P*c+P*b:=by rw[Nat.mul_add,Nat.mul_add,Nat.mul_add]
 have e3:P*(c+b)=P*c+P*b:=Nat.mul_add ..
 omega
def zmb{y t:Nat}(h:D+4294967296^i*c=A+Y)(ht:t=x+y+c):D+4294967296^i*(t%4294967296)+4294967296^(i+1)*(t/4294967296)=A+4294967296^i*x+(Y+4294967296^i*y):=by
 rw[zbm,Nat.add_assoc,zhh,ht,Nat.mul_add,Nat.mul_add]
 omega
def zmZ(hk:0<k):(a*k)%(b*k)/k=a%b:=by
 rw[Nat.mul_mod_mul_right,Nat.mul_div_cancel _ hk]
def zmI(hk:0<k):(a*k)/(b*k)=a/b:=Nat.mul_div_mul_right _ _ hk
end
section
variable {n k x:Nat} {l:List Nat}
open Go.RowKit
def zeP(k:Nat):4294967296^k=2^(32*k):=by rw[Nat.pow_mul]
def bl(n:Nat):Nat:=if n=0 then 0 else n.log2+1
def zlo:bl 0=0:=rfl
def zay(n:Nat):n<2^bl n:=by
 unfold bl
 split
 ·rename_i h;subst h;decide
 ·exact Nat.lt_log2_self
def zb5(h:n≠0):2^(bl n-1)≤n∧1≤bl n:=by
 unfold bl;rw[if_neg h,Nat.add_sub_cancel];exact⟨Nat.log2_self_le h,by omega⟩
def zha{b:Nat}(h1:2^b≤n)(h2:n<2^(b+1)):bl n=b+1:=by
 have h0:n≠0:=by have:=Nat.two_pow_pos b;omega
 have a:=zay n;obtain⟨b1,b2⟩:=zb5 h0;have c1:b<bl n:=(Nat.pow_lt_pow_iff_right (by decide:1<2)).1 (Nat.lt_of_le_of_lt h1 a);have c2:bl n-1<b+1:=(Nat.pow_lt_pow_iff_right (by decide:1<2)).1 (Nat.lt_of_le_of_lt b1 h2)
 omega
def zrd{low:Nat}(hl:low<4294967296^k)(hx:x≠0):bl (low+4294967296^k*x)=32*k+bl x:=by
 obtain⟨a1,a2⟩:=zb5 hx;have a3:=zay x;have e:32*k+bl x=(32*k+(bl x-1))+1:=by omega
 rw[e];rw[zeP]at*
 apply zha
 ·rw[Nat.pow_add]
  have:=Nat.mul_le_mul_left (2^(32*k)) a1
  omega
 ·have h1:2^(32*k)*(x+1)≤2^(32*k)*2^bl x:=Nat.mul_le_mul_left _ a3;rw[←Nat.pow_add,Nat.mul_add]at h1;rw[show 32*k+(bl x-1)+1=32*k+bl x by omega]
  omega
def zdm(h:n≠0)(k:Nat):bl (n*2^k)=bl n+k:=by
 obtain⟨a1,a2⟩:=zb5 h;have a3:=zay n;rw[show bl n+k=(bl n-1+k)+1 by omega]
 apply zha
 ·rw[Nat.pow_add];exact Nat.mul_le_mul_right _ a1
 ·rw[show bl n-1+k+1=bl n+k by omega,Nat.pow_add];exact Nat.mul_lt_mul_of_pos_right a3 (Nat.two_pow_pos k)
def zbC(h:n<2^k):bl n≤k:=by
 by_cases h0:n=0
 ·subst h0;rw[zlo];exact Nat.zero_le _
 ·obtain⟨a1,a2⟩:=zb5 h0
  have:bl n-1<k:=(Nat.pow_lt_pow_iff_right (by decide:1<2)).1 (Nat.lt_of_le_of_lt a1 h)
  omega
def zsg(hl:l.length=k+1)(lm:Lim l)(hx:l[k]? =some x)(h0:x≠0):bl (val l)=32*k+bl x:=by
 have h:=zaH l k;rw[Nat.min_eq_left yb,zav hx,List.drop_eq_nil_of_le yb,zcn]at h;have h2:=zaA (lm.take k);rw[List.length_take,Nat.min_eq_left yb]at h2;rw[h]
 have:=zrd h2 h0
 simpa using this
def tz(n:Nat):Nat:=if h:n=0 then 0 else if n%2=1 then 0 else tz (n/2)+1
termination_by n
decreasing_by omega
def zhy:tz 0=0:=by rw[tz];simp
def zc1(h:n%2=1):tz n=0:=by rw[tz,dif_neg yb,if_pos h]
def zb1(h:n≠0):tz (2*n)=tz n+1:=by
 rw[tz,dif_neg yb,if_neg yb,Nat.mul_div_cancel_left _ yf]
def zug(h:n≠0)(k:Nat):tz (n*2^k)=tz n+k:=by
 induction k with
 | zero=>simp
 | succ k ih=>
  rw[Nat.pow_succ,←Nat.mul_assoc,Nat.mul_comm _ 2,zb1 (by have:=Nat.two_pow_pos k;exact Nat.mul_ne_zero h yb),ih]
  omega
def zuj{p:Nat}:∀(x m:Nat),x≠0→x<2^p→tz (x+2^p*m)=tz x:=by
 induction p with
 | zero=>intro x m h1 h2;simp at h2;omega
 | succ p ih=>
  intro x m h1 h2;rw[Nat.pow_succ]at h2 ⊢;have hP:=Nat.two_pow_pos p
  by_cases ho:x%2=1
  ·rw[zc1 ho,zc1]
   have:2^p*2*m=2*(2^p*m):=by rw[Nat.mul_comm (2^p) 2,Nat.mul_assoc]
   omega
  ·obtain⟨y,rfl⟩:∃y,x=2*y:=⟨x/2,by omega⟩
   have e:2*y+2^p*2*m=2*(y+2^p*m):=by
    have:2^p*2*m=2*(2^p*m):=by rw[Nat.mul_comm (2^p) 2,Nat.mul_assoc]
    omega
   rw[e,zb1 yb,zb1 yb,ih y m yb yb]
def zso{i:Nat}(hx:l[i]? =some x)(h0:x≠0)(lm:Lim l)(hz:∀j,j<i→l[j]? =some 0):tz (val l)=32*i+tz x:=by
 have hlt:=lm.at hx;have hl:=(List.getElem?_eq_some_iff.1 hx).1
 have e:val (l.take i)=0:=by
  have h1:l.take i=List.replicate i 0:=by
   apply List.ext_getElem?
   intro j;rw[List.getElem?_take,List.getElem?_replicate]
   by_cases hj:j<i
   ·rw[if_pos hj,if_pos hj];exact hz j hj
   ·rw[if_neg hj,if_neg hj]
  rw[h1,zda]
 have h:=zaH l i;rw[Nat.min_eq_left yb,e,Nat.zero_add,zav hx]at h;rw[h,Nat.mul_comm,zeP,zug yb,show(4294967296:Nat)=2^32 from rfl,zuj x _ h0 hlt]
 omega
end
section
open Go
def zae(l:List UInt8):List UInt8:=if l.getLast? =some 13 then l.dropLast else l
def lns:List UInt8→List UInt8→List (List UInt8)
 | cur,[]=>if cur=[]then []else [zae cur]
 | cur,b::r=>if b=10 then zae cur::lns [] r else lns (cur++[b]) r
def zak(b:List UInt8):List (List UInt8):=lns [] b
def nl:List UInt8→List UInt8→List (List UInt8)
 | cur,[]=>[cur]
 | cur,b::r=>if b=10 then cur::nl [] r else nl (cur++[b]) r
def zbE(l:List (List UInt8)):List (List UInt8):=if l.getLast? =some []then l.dropLast else l
def zl9:∀(r cur:List UInt8),nl cur r≠[]
 | [],_=>by simp[nl]
 | b::r,cur=>by
  unfold nl
  split
  ·simp
  ·exact zl9 r _
def zjk:∀(r cur:List UInt8),lns cur r=(zbE (nl cur r)).map zae
 | [],cur=>by
  by_cases h:cur=[]
  ·simp[lns,nl,zbE,h]
  ·simp[lns,nl,zbE,h]
 | b::r,cur=>by
  unfold lns nl
  by_cases h:b=10
  ·rw[if_pos h,if_pos h,zjk r []];have hn:=zl9 r [];obtain⟨x,t,hx⟩:=List.exists_cons_of_ne_nil hn;unfold zbE;rw[hx,List.getLast?_cons_cons]
   split
   ·rw[List.dropLast_cons_cons,List.map_cons]
   ·rw[List.map_cons,List.map_cons,List.map_cons]
  ·rw[if_neg h,if_neg h];exact zjk r _
def zjh:∀(s r cur:List UInt8),(10:UInt8)∉s→nl cur (s++r)=nl (cur++s) r
 | [],r,cur,_=>by simp
 | b::s,r,cur,h=>by
  have h1:b≠10:=fun e=>h (by simp[e])
  rw[List.cons_append,nl,if_neg h1,zjh s r _ (fun m=>h (List.mem_cons_of_mem _ m))]
  simp
def ziD(c:UInt8):∀(s:List UInt8),(Lib.index s [c]= -1∧c∉s)∨∃i:Nat,Lib.index s [c]=i∧i<s.length∧c∉s.take i∧s=s.take i++c::s.drop (i+1)
 | []=> .inl (by simp[Lib.index])
 | b::l=>by
  by_cases h:b=c
  ·subst h;exact .inr ⟨0,by rw[Lib.index];simp[List.isPrefixOf],by simp,by simp,by simp⟩
  ·have hp:([c]:List UInt8).isPrefixOf (b::l)=false:=by simp[List.isPrefixOf,Ne.symm h]
   have hix:Lib.index (b::l) [c]=if Lib.index l [c]== -1 then -1 else Lib.index l [c]+1:=by rw[Lib.index,hp];simp
   rcases ziD c l with⟨h1,h2⟩|⟨i,h1,h2,h3,h4⟩
   ·left
    rw[hix,h1];exact⟨rfl,by simp[Ne.symm h,h2]⟩
   ·right
    refine⟨i+1,?_,by simp[h2],by simp[Ne.symm h,h3],?_⟩
    ·rw[hix,h1,if_neg yg];omega
    ·simp only[List.take_succ_cons,List.drop_succ_cons,List.cons_append];rw[←h4]
def zhW:∀(k:Nat) (s:List UInt8),s.count 10=k→Lib.splitK [10] 0 k s=nl [] s
 | 0,s,h=>by
  have h0:(10:UInt8)∉s:=List.count_eq_zero.1 h;have e:=zjh s [] [] h0;rw[List.append_nil]at e;rw[e]
  rfl
 | k+1,s,h=>by
  rcases ziD 10 s with⟨h1,h2⟩|⟨i,h1,h2,h3,h4⟩
  ·rw[List.count_eq_zero.2 h2]at h;omega
  ·have hc:(s.drop (i+1)).count 10=k:=by
    rw[h4,List.count_append,List.count_eq_zero.2 h3,List.count_cons]at h
    simpa using h
   rw[Lib.splitK];simp only[h1];rw[if_neg yg]
   conv=>rhs;rw[h4,zjh _ _ _ h3,nl,if_pos rfl,List.nil_append]
   rw[←zhW k _ hc]
   simp
end
end Go.Proofs.YtaijhllckmndhaaGreatDoor
