import Derived.Test.YtaijhllckmndhaaGreatDoorYJ0
import Derived.Test.YtaijhllckmndhaaGreatDoorYJ5
import Derived.Laws.MathBits
import Derived.Test.YtaijhllckmndhaaGreatDoorYJ3
import Derived.Test.YtaijhllckmndhaaGreatDoorYJ7
namespace Go.Proofs.YtaijhllckmndhaaGreatDoor
set_option linter.all false
set_option maxHeartbeats 64000000
set_option maxRecDepth 100000
section
variable {c X Y k m N D n:Nat}
def rup(neg:Bool)(mode:Int)(c:Int)(odd:Bool):Bool:=
 if mode=1 then neg else if mode=2 then !neg else if mode=3 then false else(decide (0<c)||(decide (c=0)&&odd))
def zbD(a b:Nat):Int:=if a<b then -1 else if a=b then 0 else 1
def rm(neg:Bool)(mode:Int)(N D:Nat):Nat:=
 if N%D=0 then N/D else if rup neg mode (zbD (2*(N%D)) D) (N/D%2==1)then N/D+1 else N/D
def zqE{a b:Nat}(hc:0<c):zbD (c*a) (c*b)=zbD a b:=by
 unfold zbD;simp only[Nat.mul_lt_mul_left hc,Nat.mul_right_inj (Nat.pos_iff_ne_zero.1 hc)]
def zhp(neg:Bool)(mode:Int)(N D:Nat)(hc:0<c):rm neg mode (c*N) (c*D)=rm neg mode N D:=by
 unfold rm;rw[Nat.mul_mod_mul_left,Nat.mul_div_mul_left _ _ hc,Nat.mul_left_comm 2 c,zqE hc];simp only[Nat.mul_eq_zero,Nat.pos_iff_ne_zero.1 hc,false_or]
def half(m k:Nat)(more:Bool):Int:=if m%2^k<2^(k-1)then -1 else if m%2^k=2^(k-1)∧more=false then 0 else 1
def zsh(hY:0<Y)(hk:1≤k):half (X/Y) k (decide (X%Y≠0))=zbD (2*(X%(Y*2^k))) (Y*2^k):=by
 obtain⟨j,rfl⟩:∃j,k=j+1:=⟨k-1,by omega⟩;unfold half zbD;rw[Nat.mod_mul,Nat.add_sub_cancel];have hr:=Nat.mod_lt X hY;generalize X%Y=r at hr ⊢;generalize X/Y%2^(j+1)=q;have hp:Y*2^(j+1)=2*(Y*2^j):=by rw[Nat.pow_succ,←Nat.mul_assoc,Nat.mul_comm _ 2]
 rw[hp];generalize 2^j=P
 rcases Nat.lt_trichotomy q P with h|h|h
 ·have h1:Y*(q+1)≤Y*P:=Nat.mul_le_mul_left _ h;rw[Nat.mul_succ]at h1;rw[if_pos h,if_pos yb]
 ·subst h
  by_cases h0:r=0
  ·rw[if_neg (Nat.lt_irrefl _),if_pos (by simp[h0]),if_neg yb,if_pos yb]
  ·rw[if_neg (Nat.lt_irrefl _),if_neg (by simp[h0]),if_neg yb,if_neg yb]
 ·have h1:Y*(P+1)≤Y*q:=Nat.mul_le_mul_left _ h;rw[Nat.mul_succ]at h1;rw[if_neg yb,if_neg yb,if_neg yb,if_neg yb]
def zub(neg:Bool)(mode:Int)(hY:0<Y)(hk:1≤k):
 rm neg mode X (Y*2^k)=if X/Y%2^k=0∧X%Y=0 then X/Y/2^k else if rup neg mode (half (X/Y) k (decide (X%Y≠0))) (X/Y/2^k%2==1)then X/Y/2^k+1 else X/Y/2^k:=by
 rw[zsh hY hk];unfold rm;rw[←Nat.div_div_eq_div_mul]
 have e:(X%(Y*2^k)=0)=(X/Y%2^k=0∧X%Y=0):=by
  rw[Nat.mod_mul,Nat.add_eq_zero_iff,Nat.mul_eq_zero]
  apply propext
  constructor
  ·rintro⟨h1,h2|h2⟩
   ·omega
   ·exact⟨h2,h1⟩
  ·rintro⟨h1,h2⟩;exact⟨h2, .inr h1⟩
 simp only[e]
def zgm(neg:Bool)(mode:Int)(h:X%Y=0):rm neg mode X Y=X/Y:=by unfold rm;rw[if_pos h]
def zmK{more:Bool}(h:bl m<k):half m k more= -1∧m/2^k=0∧m%2^k=m:=by
 have h1:=zay m;have h2:2^bl m≤2^(k-1):=Nat.pow_le_pow_right yf yb;have h3:2^(k-1)≤2^k:=Nat.pow_le_pow_right yf yb;have h4:m%2^k=m:=Nat.mod_eq_of_lt yb;refine⟨?_,Nat.div_eq_of_lt yb,h4⟩;unfold half;rw[h4,if_pos yb]
def lg(N D:Nat):Int:=(bl (N*2^bl D/D):Int)-1-bl D
def zmn{j:Nat}(h:m/2^j≠0):bl m=bl (m/2^j)+j:=by
 obtain⟨a1,a2⟩:=zb5 h;have a3:=zay (m/2^j);have hp:0<2^j:=Nat.pow_pos yf;rw[show bl (m/2^j)+j=(bl (m/2^j)-1+j)+1 by omega]
 apply zha
 ·rw[Nat.pow_add];exact(Nat.le_div_iff_mul_le hp).1 a1
 ·rw[show bl (m/2^j)-1+j+1=bl (m/2^j)+j by omega,Nat.pow_add];exact(Nat.div_lt_iff_lt_mul hp).1 a3
def zml(hD:0<D)(h:N*2^n/D≠0)(j:Nat):bl (N*2^(n+j)/D)=bl (N*2^n/D)+j:=by
 have hp:0<2^j:=Nat.pow_pos yf
 have e:N*2^(n+j)/D/2^j=N*2^n/D:=by
  rw[Nat.div_div_eq_div_mul,Nat.pow_add,←Nat.mul_assoc,Nat.mul_comm D,Nat.mul_comm _ (2^j),Nat.mul_div_mul_left _ _ hp]
 rw[zmn (j:=j) (by rw[e];exact h),e]
def znh(hN:0<N)(hD:0<D)(h:N*2^n/D≠0):(bl (N*2^n/D):Int)-1-n=lg N D:=by
 unfold lg
 have h2:N*2^bl D/D≠0:=by
  have:=zay D
  have h3:D≤N*2^bl D:=Nat.le_trans (Nat.le_of_lt this) (Nat.le_mul_of_pos_left _ hN);exact Nat.pos_iff_ne_zero.1 (Nat.div_pos h3 hD)
 rcases Nat.le_total n (bl D)with h1|h1
 ·obtain⟨j,hj⟩:=Nat.le.dest h1;rw[←hj,zml hD h]
  omega
 ·obtain⟨j,hj⟩:=Nat.le.dest h1
  have:=zml hD h2 j
  rw[hj]at this;rw[this]
  omega
def zj3(hN:0<N)(hD:0<D)(hc:0<c):lg (c*N) (c*D)=lg N D:=by
 have h1:=zay (c*D);have h2:c*D≤c*N*2^bl (c*D):=Nat.le_trans (Nat.le_of_lt h1) (Nat.le_mul_of_pos_left _ (Nat.mul_pos hc hN));have e:c*N*2^bl (c*D)/(c*D)=N*2^bl (c*D)/D:=by rw[Nat.mul_assoc,Nat.mul_div_mul_left _ _ hc]
 have h3:N*2^bl (c*D)/D≠0:=by rw[←e];exact Nat.pos_iff_ne_zero.1 (Nat.div_pos h2 (Nat.mul_pos hc hD))
 rw[←znh hN hD h3,←znh (Nat.mul_pos hc hN) (Nat.mul_pos hc hD) (by rw[e];exact h3),e]
def zJ(neg:Bool)(f:Nat):Nat:=if neg then f+9223372036854775808 else f
def zaK(neg:Bool)(mode:Int):Nat:=zJ neg (if mode=3∨(mode=1∧neg=false)∨(mode=2∧neg=true)then 9218868437227405311 else 9218868437227405312)
def zab(neg:Bool)(mode:Int)(n:Nat)(u:Int):Nat:=
 let m:=if n=9007199254740992 then 4503599627370496 else n
 let v:=if n=9007199254740992 then u+1 else u
 if m<4503599627370496 then zJ neg m else if 2047≤v+1075 then zaK neg mode else zJ neg ((v+1075).toNat*4503599627370496+(m-4503599627370496))
def zK(neg:Bool)(mode:Int)(N D:Nat)(e:Int):Nat:=
 let u:=max (lg N D+e-52) (-1074)
 zab neg mode (rm neg mode (N*2^(e-u).toNat) (D*2^(u-e).toNat)) u
end
section
open Go.RowKit
section
variable {P:Program} {w:World} {a:Act} {o:Oper}
def zgZ{t t':TypeId}{x:Operand}(ho:o.op= .binOp .and t x (.const (.int .u64 4294967295)) t'){m:Int}(hx:a.eval x= .int .u64 m)(h0:0≤m:=by omega)(h1:m<18446744073709551616:=by omega):(execOp a.eval o).run P w= .ok (.value (.int .u64 (m%4294967296))) w:=
 za1 ho hx rfl (fun w=>by
  have e:=and_low32 m h0 h1
  show(pure (Value.int .u64 (bits .and .u64 m 4294967295)):Sem Value).run P w=_
  rw[e];rfl)
def zfP{t t':TypeId}{x:Operand}{kk:IntKind}(ho:o.op= .binOp .shr t x (.const (.int kk 32)) t'){m:Int}(hx:a.eval x= .int .u64 m):(execOp a.eval o).run P w= .ok (.value (.int .u64 (m/4294967296))) w:=by
 have e1:(eqGuard .shr t x (.const (.int kk 32)) (.int .u64 m) (.int kk 32)).run P w= .ok () w:=by unfold eqGuard;simp
 have hn:a.eval (.const (.int kk 32))= .int kk 32:=rfl;unfold execOp;simp only[ho,hx,hn,Sem.run_bind,e1,Result.andThen_ok,binOp];rw[shift_shr_any _ _ _ _ yf]
 rfl
def zer{t t':TypeId}{x:Operand}{kk:IntKind}(ho:o.op= .binOp .shl t x (.const (.int kk 32)) t'){m:Int}(hx:a.eval x= .int .u64 m)(h0:0≤m:=by omega)(h1:m<4294967296:=by omega):(execOp a.eval o).run P w= .ok (.value (.int .u64 (m*4294967296))) w:=by
 have e1:(eqGuard .shl t x (.const (.int kk 32)) (.int .u64 m) (.int kk 32)).run P w= .ok () w:=by unfold eqGuard;simp
 have hn:a.eval (.const (.int kk 32))= .int kk 32:=rfl;unfold execOp;simp only[ho,hx,hn,Sem.run_bind,e1,Result.andThen_ok,binOp];rw[shift_shl_any _ _ _ _ yf]
 have e2:IntKind.u64.wrap (m*2^min (32:Int).toNat IntKind.u64.bits)=m*4294967296:=by
  have:(2:Int)^min (32:Int).toNat IntKind.u64.bits=4294967296:=by decide
  rw[this,zX yl]
 rw[e2]
 rfl
def zkp{t t':TypeId}{x y:Operand}(ho:o.op= .binOp .or t x y t'){m n:Int}(hx:a.eval x= .int .u64 m)(hy:a.eval y= .int .u64 n)(h0:0≤m:=by omega)(h1:m<18446744073709551616:=by omega)(hm:m%4294967296=0:=by omega)(h2:0≤n:=by omega)(h3:n<4294967296:=by omega):(execOp a.eval o).run P w= .ok (.value (.int .u64 (m+n))) w:=
 za1 ho hx hy (fun w=>by
  have e:=bits_join .u64 64 yf (fun n h0 h1=>zX yl) 32 m n h0 yb yb h2 yb yb
  show(pure (Value.int .u64 (bits .or .u64 m n)):Sem Value).run P w=_
  rw[e];rfl)
def zvx{t t':TypeId}{x y:Operand}(ho:o.op= .binOp .shl t x y t'){kk:IntKind}{m p:Nat}(hx:a.eval x= .int .u64 (m:Int))(hy:a.eval y= .int kk (p:Int))(h:m*2^p<18446744073709551616)(hp:p<32):(execOp a.eval o).run P w= .ok (.value (.int .u64 ((m*2^p:Nat):Int))) w:=by
 have e1:(eqGuard .shl t x y (.int .u64 (m:Int)) (.int kk (p:Int))).run P w= .ok () w:=by unfold eqGuard;simp
 unfold execOp;simp only[ho,hx,hy,Sem.run_bind,e1,Result.andThen_ok,binOp];rw[shift_shl_any _ _ _ _ yb]
 have e3:min (p:Int).toNat IntKind.u64.bits=p:=by
  rw[Int.toNat_natCast]
  have:IntKind.u64.bits=64:=rfl
  omega
 have e2:IntKind.u64.wrap ((m:Int)*2^min (p:Int).toNat IntKind.u64.bits)=((m*2^p:Nat):Int):=by
  rw[e3,zX]
  ·rw[Int.natCast_mul,Int.natCast_pow];rfl
  ·simp only[inr]
   have:(m:Int)*2^p=((m*2^p:Nat):Int):=by rw[Int.natCast_mul,Int.natCast_pow];rfl
   omega
 rw[e2]
 rfl
end
def Rd.rng{w:World}{p:Option Addr}{n c:Nat}{cs:List Value}(h:Rd w (.slice p n c) n cs)(hc:cs≠[]):∃b off,p=some ⟨b,off,none⟩∧b<w.heap.size∧∀(j:Nat) u,cs[j]? =some u→w.cell? ⟨b,off+j,none⟩=some u:=by
 obtain⟨b,off,c',he,hb,hcell⟩:=h.addr hc
 injection he with e1 _ _
 exact⟨b,off,e1,hb,hcell⟩
def zpD{P:Nat→Prop}{i:Nat}(h:∀j,j<i→P j)(hi:P i):∀j,j<i+1→P j:=fun j hj=>by
 by_cases e:j=i
 ·subst e;exact hi
 ·exact h j yb
def zpH{cs:List Value}{pad:List Value}{i:Nat}{v:Value}(h:cs[i]? =some v):(cs++pad)[i]? =some v:=by
 rw[List.getElem?_append_left (List.getElem?_eq_some_iff.1 h).1];exact h
def Fr.nil{T:List Nat}{w w':World}(h:Fr [] w w'):Fr T w w':=h.mono yg
structure LR (w:World) (p:Option Addr) (c:Nat) (l:List Nat):Prop where
 nil:p=none→c=0
 cap:l.length≤c
 max:c≤maxLen
 lim:Lim l
 rd:Rd w (.slice p l.length c) l.length (zj l)
def LR.fr{w w':World}{p:Option Addr}{c:Nat}{l:List Nat}(h:LR w p c l)(k:Fr [] w w'):LR w' p c l:=⟨h.nil,h.cap,h.max,h.lim,h.rd.fr k yg⟩
def LR.pre{w:World}{p:Option Addr}{c n:Nat}{l:List Nat}(h:LR w p c l)(hn:n≤l.length):LR w p c (l.take n):=by
 have hl:(l.take n).length=n:=by rw[List.length_take];omega
 refine⟨h.nil,by have:=h.cap;omega,h.max,h.lim.take n,?_⟩;rw[hl,←znk]
 rcases h.rd with⟨h1,h2,p',c',e⟩|⟨ad,c',e,h2⟩
 ·have h0:n=0:=by omega
  subst h0;exact .inl ⟨rfl,by simp,p,c,rfl⟩
 ·injection e with e1 e2 e3
  subst e1;refine .inr ⟨ad,c,rfl,fun j u hj=>h2 j u ?_⟩;rw[List.getElem?_take]at hj
  split at hj
  ·exact hj
  ·cases hj
def zv(neg:Bool)(l:List Nat):Int:=if neg then -(val l:Int)else(val l:Int)
def zdG(neg:Bool)(l:List Nat):(zv neg l).natAbs=val l:=by unfold zv;split<;>omega
def Big(e:Ending)(w w':World)(z:Int):Prop:=∃p c,e= .returned (.agg #[.bool (decide (z<0)), .slice p (zd z.natAbs).length c])∧Fr [] w w'∧LR w' p c (zd z.natAbs)
end
section
variable {n N D:Nat} {e u:Int}
def zu(n:Nat):0<2^n:=Nat.pow_pos yf
def zeG(neg:Bool)(mode:Int)(N D:Nat){k:Nat}(h:(k:Int)=u-e+n):rm neg mode (N*2^n) (D*2^k)=rm neg mode (N*2^(e-u).toNat) (D*2^(u-e).toNat):=by
 rcases Int.le_total u e with h1|h1
 ·have e1:n=(e-u).toNat+k:=by omega
  have e2:(u-e).toNat=0:=by omega
  rw[e2,e1,Nat.pow_add,←Nat.mul_assoc,Nat.mul_comm (N*_),Nat.mul_comm D,zhp _ _ _ _ (zu k),Nat.pow_zero,Nat.mul_one]
 ·have e1:k=(u-e).toNat+n:=by omega
  have e2:(e-u).toNat=0:=by omega
  rw[e2,e1,Nat.pow_add,←Nat.mul_assoc,Nat.mul_comm (D*_),Nat.mul_comm N,zhp _ _ _ _ (zu n),Nat.pow_zero,Nat.mul_one]
def zsw(neg:Bool)(mode:Int)(N D:Nat){j:Nat}(hD:0<D)(h:N*2^n%D=0)(hj:(j:Int)=e-n-u):N*2^n/D*2^j=rm neg mode (N*2^(e-u).toNat) (D*2^(u-e).toNat):=by
 have e1:(e-u).toNat=n+j:=by omega
 have e2:(u-e).toNat=0:=by omega
 obtain⟨c,hc⟩:=Nat.dvd_of_mod_eq_zero h;rw[e1,e2,Nat.pow_zero,Nat.mul_one,Nat.pow_add,←Nat.mul_assoc,hc,Nat.mul_div_cancel_left _ hD,Nat.mul_assoc,zgm _ _ (Nat.mul_mod_right _ _),Nat.mul_div_cancel_left _ hD]
def zrx(neg:Bool)(mode:Int){c:Nat}(e:Int)(hN:0<N)(hD:0<D)(hc:0<c):zK neg mode (c*N) (c*D) e=zK neg mode N D e:=by
 unfold zK;rw[zj3 hN hD hc];simp only[Nat.mul_assoc,zhp _ _ _ _ hc]
def zdy(hN:0<N)(hD:0<D):D*2^(lg N D).toNat≤N*2^(-lg N D).toNat∧N*2^(-lg N D).toNat<2*(D*2^(lg N D).toNat):=by
 have h3:D≤N*2^bl D:=Nat.le_trans (Nat.le_of_lt (zay D)) (Nat.le_mul_of_pos_left _ hN);have h0:N*2^bl D/D≠0:=Nat.pos_iff_ne_zero.1 (Nat.div_pos h3 hD);obtain⟨a1,a2⟩:=zb5 h0;have a3:=zay (N*2^bl D/D);obtain⟨b,hb⟩:∃b,bl (N*2^bl D/D)=b+1:=⟨bl (N*2^bl D/D)-1,by omega⟩;have ht:lg N D=(b:Int)-bl D:=by unfold lg;rw[hb];omega
 rw[hb]at a1 a3;rw[Nat.add_sub_cancel]at a1;rw[ht];have b1:=(Nat.le_div_iff_mul_le hD).1 a1;have b2:=(Nat.div_lt_iff_lt_mul hD).1 a3;generalize bl D=s at b1 b2;rw[Nat.pow_succ]at b2
 rcases Nat.le_total s b with h1|h1
 ·obtain⟨j,rfl⟩:=Nat.le.dest h1;rw[Nat.pow_add]at b1 b2;have e1:(((s+j:Nat):Int)-s).toNat=j:=by omega
  have e2:(-(((s+j:Nat):Int)-s)).toNat=0:=by omega
  rw[e1,e2,Nat.pow_zero,Nat.mul_one];have hs:=zu s
  constructor
  ·apply Nat.le_of_mul_le_mul_right _ hs
   calc D*2^j*2^s=2^s*2^j*D:=by rw[Nat.mul_comm D,Nat.mul_right_comm,Nat.mul_comm (2^j)]
    _≤N*2^s:=b1
  ·apply Nat.lt_of_mul_lt_mul_right (a:=2^s)
   calc N*2^s<2^s*2^j*2*D:=b2
    _=2*(D*2^j)*2^s:=by
     rw[Nat.mul_comm _ 2,Nat.mul_assoc 2,Nat.mul_assoc 2,Nat.mul_comm D,Nat.mul_right_comm (2^j),Nat.mul_comm (2^j) (2^s)]
 ·obtain⟨j,rfl⟩:=Nat.le.dest h1;rw[Nat.pow_add]at b1 b2;have e1:((b:Int)-((b+j:Nat):Int)).toNat=0:=by omega
  have e2:(-((b:Int)-((b+j:Nat):Int))).toNat=j:=by omega
  rw[e1,e2,Nat.pow_zero,Nat.mul_one];have hs:=zu b
  constructor
  ·apply Nat.le_of_mul_le_mul_left _ hs
   calc 2^b*D≤N*(2^b*2^j):=b1
    _=2^b*(N*2^j):=by rw[Nat.mul_left_comm]
  ·apply Nat.lt_of_mul_lt_mul_left (a:=2^b)
   calc 2^b*(N*2^j)=N*(2^b*2^j):=by rw[Nat.mul_left_comm]
    _<2^b*2*D:=b2
    _=2^b*(2*D):=Nat.mul_assoc _ _ _
def zuU(hN:0<N)(hD:0<D):N*2^bl D/D≠0:=
 Nat.pos_iff_ne_zero.1 (Nat.div_pos (Nat.le_trans (Nat.le_of_lt (zay D)) (Nat.le_mul_of_pos_left _ hN)) hD)
def zhR(hN:0<N)(hD:0<D)(j:Nat):lg (N*2^j) D=lg N D+j:=by
 unfold lg;rw[Nat.mul_assoc,←Nat.pow_add,Nat.add_comm j,zml hD (zuU hN hD)]
 omega
def zjK(hN:0<N)(hD:0<D)(j:Nat):lg N (D*2^j)=lg N D-j:=by
 have h1:=zhR hN (Nat.mul_pos hD (zu j)) j;have h2:=zj3 hN hD (zu j);rw[Nat.mul_comm _ N,Nat.mul_comm _ D]at h2
 omega
def zpp(neg:Bool)(mode:Int)(e:Int)(hN:0<N)(hD:0<D)(j:Nat):zK neg mode (N*2^j) D e=zK neg mode N D (e+j):=by
 unfold zK;rw[zhR hN hD,Int.add_assoc,Int.add_comm (j:Int)];simp only[];generalize max (lg N D+(e+j)-52) (-1074)=u;rw[Nat.mul_assoc,←Nat.pow_add,zeG neg mode N D (e:=e+j) (u:=u) yb]
def zmA(neg:Bool)(mode:Int)(e:Int)(hN:0<N)(hD:0<D)(j:Nat):zK neg mode N (D*2^j) e=zK neg mode N D (e-j):=by
 unfold zK;rw[zjK hN hD,show lg N D-j+e=lg N D+(e-j) by omega];simp only[];generalize max (lg N D+(e-j)-52) (-1074)=u;rw[Nat.mul_assoc,←Nat.pow_add,zeG neg mode N D (e:=e-j) (u:=u) yb]
def zcp(neg:Bool)(mode:Int)(N D:Nat):N/D≤rm neg mode N D∧rm neg mode N D≤N/D+1:=by
 unfold rm
 split
 ·omega
 ·split<;>omega
def zdt(hN:0<N)(hD:0<D)(e u:Int):lg (N*2^(e-u).toNat) (D*2^(u-e).toNat)=lg N D+e-u:=by
 rw[zjK (Nat.mul_pos hN (zu _)) hD,zhR hN hD]
 omega
def zn8(neg:Bool)(mode:Int)(hN:0<N)(hD:0<D)(h:1024≤lg N D+e):zK neg mode N D e=zaK neg mode:=by
 unfold zK;simp only[];obtain⟨u,hu⟩:∃u,max (lg N D+e-52) (-1074)=u:=⟨_,rfl⟩;rw[hu];have hs:=zdt hN hD e u;have hN':=Nat.mul_pos hN (zu (e-u).toNat);have hD':=Nat.mul_pos hD (zu (u-e).toNat);generalize N*2^(e-u).toNat=X at hs hN' ⊢;generalize D*2^(u-e).toNat=Y at hs hD' ⊢;have hu2:u=lg N D+e-52:=by omega
 have ht:lg X Y=52:=by omega
 obtain⟨k1,k2⟩:=zdy hN' hD';rw[ht]at k1
 have k3:4503599627370496≤X/Y:=by
  rw[Nat.le_div_iff_mul_le hD',Nat.mul_comm]
  simpa using k1
 have k4:=(zcp neg mode X Y).1;generalize rm neg mode X Y=n at k4;unfold zab;simp only[]
 by_cases h1:n=9007199254740992
 ·rw[if_pos h1,if_pos h1,if_neg yb,if_pos yb]
 ·rw[if_neg h1,if_neg h1,if_neg yb,if_pos yb]
def zl7(neg:Bool)(mode:Int)(hN:0<N)(hD:0<D)(h:lg N D+e≤ -1076):zK neg mode N D e=zJ neg (if rup neg mode (-1) false then 1 else 0):=by
 unfold zK;simp only[];obtain⟨u,hu⟩:∃u,max (lg N D+e-52) (-1074)=u:=⟨_,rfl⟩;rw[hu];have hs:=zdt hN hD e u;have hN':=Nat.mul_pos hN (zu (e-u).toNat);have hD':=Nat.mul_pos hD (zu (u-e).toNat);generalize N*2^(e-u).toNat=X at hs hN' ⊢;generalize D*2^(u-e).toNat=Y at hs hD' ⊢;have ht:lg X Y≤ -2:=by omega
 obtain⟨k1,k2⟩:=zdy hN' hD';generalize lg X Y=t at ht k1 k2;have e1:t.toNat=0:=by omega
 have e2:2^2≤2^(-t).toNat:=Nat.pow_le_pow_right yf yb;have e3:X*2^2≤X*2^(-t).toNat:=Nat.mul_le_mul_left _ e2;rw[e1,Nat.pow_zero,Nat.mul_one]at k2;have hlt:2*X<Y:=by omega
 have hr:rm neg mode X Y=if rup neg mode (-1) false then 1 else 0:=by
  unfold rm;rw[Nat.mod_eq_of_lt yb,Nat.div_eq_of_lt yb,if_neg yb,show zbD (2*X) Y= -1 by unfold zbD;rw[if_pos hlt]]
  rfl
 rw[hr];generalize rup neg mode (-1) false=b;unfold zab
 cases b
 ·simp
 ·simp
end
section
variable {w:World} {p:Option Addr} {c m n:Nat} {l:List Nat} {e:TypeId}
open Go.RowKit
def LR.len(h:LR w p c l):l.length≤9223372036854775807:=by
 have h1:=h.cap;have h2:=h.max;unfold maxLen at h2;omega
def LR.clen(h:LR w p c l):l.length≤c∧c≤9223372036854775807:=by
 have h1:=h.cap;have h2:=h.max;unfold maxLen at h2;omega
def znY(h:Lim l)(hm:(zd (val l)).length≤m+1)(hx:l[m]? =some 0):(zd (val l)).length≤m:=by
 apply Classical.byContradiction
 intro hn;have e:(zd (val l)).length=m+1:=by omega
 have h1:=ziv h;rw[e]at h1;have h2:=zby (val l);rw[e,Nat.add_sub_cancel]at h2;refine h2 0 ?_ rfl;rw[←h1,List.getElem?_take,if_pos yb];exact hx
def zol(h:Lim l){x:Nat}(hm:(zd (val l)).length≤m+1)(hx:l[m]? =some x)(h0:x≠0):(zd (val l)).length=m+1:=by
 apply Classical.byContradiction
 intro hn;exact h0 (znB h yb hx)
def zt(l:List Nat)(hl:l.length=n)(h:LR w p c l):
 Calls Tryz.prog 146 #[.slice p n c] w fun e w'=>e= .returned (.slice p (zd (val l)).length c)∧Fr [] w w':=by
 subst hl;obtain⟨hlc,hc⟩:=h.clen;have Hh:=hid h;clear h;have hd:=zI Hh.out.lim;obtain⟨k,hk⟩:∃k,(zd (val l)).length=k:=⟨_,rfl⟩;rw[hk]at hd ⊢;have Hk:=hid hk;clear hk;have H:=Hp.start [] w
 go_enter Tryz.func146,Tryz.ntmps146
 revert H;refine W00 ?_;intro H _ _ _
 go_loopw [3] (fun s3 wr=>∃m:Nat,m≤l.length∧k≤m∧s3= .int .i64 m∧Hp [] w wr []) (fun v _=>(intOf v).toNat)
 case atStart=>exact⟨l.length,Nat.le_refl _,hd,rfl,H⟩
 case round=>
  clear H;obtain⟨m,hm,hkm,rfl,H⟩:=hrel
  by_cases h0:m=0
  ·have e:k=m:=by omega
   subst e;have h0':k≤0:=by omega
   clear h0;revert H;refine W00 ?_;intro H _ _ _
   go_ret
   exact⟨by simp,H.fr⟩
  ·obtain⟨j,rfl⟩:∃j,m=j+1:=⟨m-1,by omega⟩;obtain⟨x,hx⟩:∃x,l[j]? =some x:=⟨_,List.getElem?_eq_getElem yb⟩;have hxv:=limbs_at hx;have Hx:=hid hx;clear hx h0;obtain⟨b0,off,rfl,hb0,hcell⟩:=Hh.out.rd.rng (zH (i:=j) yb);have H1:=H.pushRng (b:=b0) (off:=off) hb0 yg hcell;clear H hcell;have H:=H1;clear H1;have hxv2:(zj l)[(((j+1:Nat):Int)-1).toNat]? =some (.int .u32 (x:Int)):=by rw[show(((j+1:Nat):Int)-1).toNat=j by omega];exact hxv
   by_cases hx0:x=0
   ·have hx0':(x:Int)≤0:=by omega
    subst hx0;have hdn:k≤j:=by have:=znY Hh.out.lim (m:=j) (by rw[Hk.out];exact hkm) Hx.out;rw[Hk.out]at this;exact this
    revert H;refine W00 ?_;intro H
    go_roundw
    case rel=>exact⟨j,by omega,hdn,by go_num,H.sub yd⟩
    case measure=>(simp[intOf];try omega)
   ·have hxp:0<(x:Int):=by omega
    have e:=zol Hh.out.lim (m:=j) (by rw[Hk.out];exact hkm) Hx.out hx0;rw[Hk.out]at e;subst e;clear hx0;revert H;refine W00 ?_;intro H _ _ _
    go_ret
    exact⟨by simp,H.fr⟩
def LR.of_row{v:Value}{S:List Nat}(h:RowAt e 1 v n (zj l) S w)(lm:Lim l):∃p c,v= .slice p l.length c∧l.length=n∧LR w p c l:=by
 obtain⟨h0,h⟩:=h;rw[zbT,Nat.mul_one]at h0;subst h0
 rcases h with⟨_,h1,rfl⟩|⟨g,cap,pad,_,rfl,h2,h3,h4,h5⟩
 ·have:l=[]:=List.eq_nil_of_length_eq_zero h1
  subst this;exact⟨none,0,rfl,rfl,⟨fun _=>rfl,Nat.zero_le _,by unfold maxLen;omega,lm, .inl ⟨rfl,rfl,_,_,rfl⟩⟩⟩
 ·refine⟨_,cap,rfl,rfl,⟨fun h=>(by cases h),h2,h3,lm, .inr ⟨_,cap,rfl,fun j u hj=>?_⟩⟩⟩;rw[zaL,cell_of_row w g _ _ _ _ h5,Nat.zero_add]
  simpa using zpH (pad:=pad) hj
def LR.of_blk{g:Nat}{pad:List Value}(h:w.heap[g]? =some (.cells (zj l++pad).toArray e (0,0)))(lm:Lim l)(hc:l.length≤c)(hm:c≤maxLen):LR w (some ⟨g,0,none⟩) c l:=
 ⟨fun h=>(by cases h),hc,hm,lm, .inr ⟨_,c,rfl,fun j u hj=>by
  rw[zaL,cell_of_row w g _ _ _ _ h,Nat.zero_add]
  simpa using zpH (pad:=pad) hj⟩⟩
end
section
variable {N D k t:Nat} {x:Int}
def zfs(neg:Bool)(mode:Int)(m k:Nat)(more:Bool):Nat:=
 if m%2^k=0∧more=false then m/2^k else if rup neg mode (half m k more) (m/2^k%2==1)then m/2^k+1 else m/2^k
def zs2(neg:Bool)(mode:Int){n:Nat}{e u:Int}(hD:0<D)(hk:1≤k)(h:(k:Int)=u-e+n):
 zfs neg mode (N*2^n/D) k (decide (N*2^n%D≠0))=rm neg mode (N*2^(e-u).toNat) (D*2^(u-e).toNat):=by
 rw[←zeG neg mode N D h,zub neg mode hD hk];unfold zfs
 simp
def zfR(hN:0<N)(hD:0<D)(h:D*2^t≤N):(t:Int)≤lg N D:=by
 obtain⟨k1,k2⟩:=zdy hN hD;generalize lg N D=s at k1 k2
 apply Classical.byContradiction
 intro hs;have h1:N≤N*2^(-s).toNat:=Nat.le_mul_of_pos_right _ (zu _)
 rcases Int.lt_or_le s 0 with h0|h0
 ·have e1:s.toNat=0:=by omega
  have e2:2^1≤2^(-s).toNat:=Nat.pow_le_pow_right yf yb;have e3:N*2^1≤N*2^(-s).toNat:=Nat.mul_le_mul_left _ e2;have e4:D*1≤D*2^t:=Nat.mul_le_mul_left _ (zu t);rw[e1,Nat.pow_zero,Nat.mul_one]at k2
  omega
 ·have e2:2^(s.toNat+1)≤2^t:=Nat.pow_le_pow_right yf yb;have e3:D*2^(s.toNat+1)≤D*2^t:=Nat.mul_le_mul_left _ e2;rw[Nat.pow_succ,←Nat.mul_assoc]at e3
  omega
def zuO(hN:0<N)(hD:0<D)(h:N*2^t<D):lg N D< -(t:Int):=by
 obtain⟨k1,k2⟩:=zdy hN hD;generalize lg N D=s at k1 k2
 apply Classical.byContradiction
 intro hs;have e1:D*1≤D*2^s.toNat:=Nat.mul_le_mul_left _ (zu _);have e2:2^(-s).toNat≤2^t:=Nat.pow_le_pow_right yf yb;have e3:N*2^(-s).toNat≤N*2^t:=Nat.mul_le_mul_left _ e2
 omega
def zhw:2^1300≤10^400:=by decide+kernel
def dvF(neg:Bool)(mode:Int)(N:Nat)(x:Int):Nat:=zK neg mode (N*10^x.toNat) (10^(-x).toNat) 0
def zD(n:Nat):0<10^n:=Nat.pow_pos yf
def zlm(neg:Bool)(mode:Int)(h1:10^k≤N)(h2:400≤k+x):dvF neg mode N x=zaK neg mode:=by
 have hN:0<N:=Nat.lt_of_lt_of_le (zD k) h1
 have hg:=zfR (t:=1300) (Nat.mul_pos hN (zD x.toNat)) (zD (-x).toNat) (by
  calc 10^(-x).toNat*2^1300≤10^(-x).toNat*10^400:=Nat.mul_le_mul_left _ zhw
   _=10^((-x).toNat+400):=by rw[Nat.pow_add]
   _≤10^(k+x.toNat):=Nat.pow_le_pow_right yf yb
   _=10^k*10^x.toNat:=Nat.pow_add _ _ _
   _≤N*10^x.toNat:=Nat.mul_le_mul_right _ h1)
 exact zn8 neg mode (Nat.mul_pos hN (zD _)) (zD _) yb
def zj2(neg:Bool)(mode:Int)(hN:0<N)(h1:N<10^k)(h2:k+x≤ -400):dvF neg mode N x=zJ neg (if rup neg mode (-1) false then 1 else 0):=by
 have hg:=zuO (t:=1300) (Nat.mul_pos hN (zD x.toNat)) (zD (-x).toNat) (by
  have e0:x.toNat=0:=by omega
  rw[e0,Nat.pow_zero,Nat.mul_one]
  calc N*2^1300<10^k*2^1300:=Nat.mul_lt_mul_of_pos_right h1 (zu _)
   _≤10^k*10^400:=Nat.mul_le_mul_left _ zhw
   _=10^(k+400):=by rw[Nat.pow_add]
   _≤10^(-x).toNat:=Nat.pow_le_pow_right yf yb)
 exact zl7 neg mode (Nat.mul_pos hN (zD _)) (zD _) yb
def zqy(neg:Bool)(mode:Int){L:Nat}(hN:0<N)(h1:N<10^L):dvF neg mode N (max (min x 2000) (-2000-L))=dvF neg mode N x:=by
 by_cases a:2000<x
 ·rw[zlm neg mode (k:=0) (N:=N) (x:=x) (by rw[Nat.pow_zero];exact hN) yb,zlm neg mode (k:=0) (N:=N) (by rw[Nat.pow_zero];exact hN) yb]
 ·by_cases b:x< -2000-L
  ·rw[zj2 neg mode (k:=L) (x:=x) hN h1 yb,zj2 neg mode (k:=L) hN h1 yb]
  ·rw[show max (min x 2000) (-2000-(L:Int))=x by omega]
end
section
open Go.RowKit
attribute [local irreducible] wpList Code.wp Plan.wp
def zqf(w:World)(arr:Bool){field sym r c n1 n2 n3:Nat}{a1 a2 a3 b1 b2 b3:Option Addr}{d1 d2 d3 e1 e2 e3:Nat}(st ix vl:List Nat)(h1:st.length=n1)(h2:ix.length=n2)(h3:vl.length=n3)(hb1:n1≤100000)(hb2:n2≤100000)(hb3:n3≤100000)
 (A1:Cl w a1 (st.map fun x:Nat=>Value.int .i64 (x:Int))) (A2:Cl w a2 (ix.map fun x:Nat=>Value.int .i64 (x:Int))) (A3:Cl w a3 (vl.map fun x:Nat=>Value.int .u64 (x:Int))) (B1:Cl w b1 (st.map fun x:Nat=>Value.int .i64 (x:Int))) (B2:Cl w b2 (ix.map fun x:Nat=>Value.int .i64 (x:Int))) (B3:Cl w b3 (vl.map fun x:Nat=>Value.int .u64 (x:Int))):
 Calls Tryz.prog 12 #[.agg ([.int .i64 (r:Int), .int .i64 (c:Int), .slice a1 n1 d1, .slice a2 n2 d2, .slice a3 n3 d3, .bool arr, .int .i64 (field:Int), .int .i64 (sym:Int)]).toArray, .agg ([.int .i64 (r:Int), .int .i64 (c:Int), .slice b1 n1 e1, .slice b2 n2 e2, .slice b3 n3 e3, .bool arr, .int .i64 (field:Int), .int .i64 (sym:Int)]).toArray] w fun e w'=>e= .returned (.bool true)∧Fr [] w w':=by
 have A1:=hid A1;have A2:=hid A2;have A3:=hid A3;have B1:=hid B1;have B2:=hid B2;have B3:=hid B3;have H1:=hid h1;have H2:=hid h2;have H3:=hid h3;clear h1 h2 h3;have hpa:[Value.int .i64 (r:Int), .int .i64 (c:Int), .slice a1 n1 d1, .slice a2 n2 d2, .slice a3 n3 d3]<+:([.int .i64 (r:Int), .int .i64 (c:Int), .slice a1 n1 d1, .slice a2 n2 d2, .slice a3 n3 d3, .bool arr, .int .i64 (field:Int), .int .i64 (sym:Int)]:List Value).drop 0:=⟨[.bool arr, .int .i64 (field:Int), .int .i64 (sym:Int)],rfl⟩;have hpb:[Value.int .i64 (r:Int), .int .i64 (c:Int), .slice b1 n1 e1, .slice b2 n2 e2, .slice b3 n3 e3]<+:([.int .i64 (r:Int), .int .i64 (c:Int), .slice b1 n1 e1, .slice b2 n2 e2, .slice b3 n3 e3, .bool arr, .int .i64 (field:Int), .int .i64 (sym:Int)]:List Value).drop 0:=⟨[.bool arr, .int .i64 (field:Int), .int .i64 (sym:Int)],rfl⟩;have H:=Hp.start [] w
 cases arr with
 | false=>
  go_enter Tryz.func12,Tryz.ntmps12
  revert H;refine W99 ?_;intro _ g0 _ _ g1 w1 hg H _ _ _ _;(refine xA H (zdZ _ st ix vl H1.out H2.out H3.out hb1 hb2 hb3 (A1.out.fr H.fr) (A2.out.fr H.fr) (A3.out.fr H.fr) (B1.out.fr H.fr) (B2.out.fr H.fr) (B3.out.fr H.fr)) ?_;clear H;intro w1 H);revert H;refine W74 ?_;intro H
  go_ret
  exact⟨rfl,H.fr⟩
 | true=>
  go_enter Tryz.func12,Tryz.ntmps12
  revert H;refine W99 ?_;intro _ g0 _ _ g1 w1 hg H _ _ _ _;(refine xA H (zdZ _ st ix vl H1.out H2.out H3.out hb1 hb2 hb3 (A1.out.fr H.fr) (A2.out.fr H.fr) (A3.out.fr H.fr) (B1.out.fr H.fr) (B2.out.fr H.fr) (B3.out.fr H.fr)) ?_;clear H;intro w1 H);revert H;refine W74 ?_;intro H
  go_ret
  exact⟨rfl,H.fr⟩
end
end Go.Proofs.YtaijhllckmndhaaGreatDoor
