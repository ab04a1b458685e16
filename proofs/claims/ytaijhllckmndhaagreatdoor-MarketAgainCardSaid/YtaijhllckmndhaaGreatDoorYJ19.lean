import Derived.Test.YtaijhllckmndhaaGreatDoorYJ0
import Derived.Test.YtaijhllckmndhaaGreatDoorYJ16
import Derived.Test.YtaijhllckmndhaaGreatDoorYJ15
import Derived.Test.YtaijhllckmndhaaGreatDoorYJ5
import Derived.Test.YtaijhllckmndhaaGreatDoorYJ6
import Derived.Test.YtaijhllckmndhaaGreatDoorYJ8
namespace Go.Proofs.YtaijhllckmndhaaGreatDoor
set_option linter.all false
set_option maxHeartbeats 64000000
set_option maxRecDepth 100000
def zeQ(n:Nat)(u:Int):Nat:=(u+1074).toNat*4503599627370496+n
def zoV(neg:Bool)(mode:Int){n:Nat}{u:Int}(hu: -1074≤u)(hn:n≤9007199254740992)(h:n<4503599627370496→u= -1074):
 zab neg mode n u=if 9218868437227405312≤zeQ n u then zaK neg mode else zJ neg (zeQ n u):=by
 obtain⟨k,rfl⟩:∃k:Nat,u=(k:Int)-1074:=⟨(u+1074).toNat,by omega⟩;have e0:((k:Int)-1074+1074).toNat=k:=by omega
 unfold zab zeQ;rw[e0];simp only[]
 by_cases h1:n=9007199254740992
 ·subst h1;rw[if_pos rfl,if_pos rfl,if_neg yb];have e1:((k:Int)-1074+1+1075).toNat=k+2:=by omega
  rw[e1]
  by_cases h2:(2047:Int)≤(k:Int)-1074+1+1075
  ·rw[if_pos h2,if_pos yb]
  ·rw[if_neg h2,if_neg yb];exact congrArg (zJ neg) yb
 ·rw[if_neg h1,if_neg h1];have e1:((k:Int)-1074+1075).toNat=k+1:=by omega
  rw[e1]
  by_cases h3:n<4503599627370496
  ·have:=h h3
   have hk:k=0:=by omega
   subst hk;rw[if_pos h3,if_neg yb];exact congrArg (zJ neg) yb
  ·rw[if_neg h3]
   by_cases h2:(2047:Int)≤(k:Int)-1074+1075
   ·rw[if_pos h2,if_pos yb]
   ·rw[if_neg h2,if_neg yb];exact congrArg (zJ neg) yb
def zgg{N D:Nat}{e u:Int}(hN:0<N)(hD:0<D)(hu:max (lg N D+e-52) (-1074)=u):
 N*2^(e-u).toNat/(D*2^(u-e).toNat)<9007199254740992∧(N*2^(e-u).toNat/(D*2^(u-e).toNat)<4503599627370496→u= -1074):=by
 have hs:=zdt hN hD e u;have hN':=Nat.mul_pos hN (zu (e-u).toNat);have hD':=Nat.mul_pos hD (zu (u-e).toNat);generalize N*2^(e-u).toNat=X at hs hN' ⊢;generalize D*2^(u-e).toNat=Y at hs hD' ⊢
 constructor
 ·apply Classical.byContradiction
  intro hc;have h1:9007199254740992≤X/Y:=by omega
  rw[Nat.le_div_iff_mul_le hD',Nat.mul_comm]at h1;have h2:=zfR (t:=53) hN' hD' (by simpa using h1)
  omega
 ·intro hc
  apply Classical.byContradiction
  intro h0;have ht:lg X Y=52:=by omega
  obtain⟨k1,k2⟩:=zdy hN' hD';rw[ht]at k1
  have k3:4503599627370496≤X/Y:=by
   rw[Nat.le_div_iff_mul_le hD',Nat.mul_comm]
   simpa using k1
  omega
def zeR(neg:Bool)(mode:Int){N D:Nat}{e u:Int}(hN:0<N)(hD:0<D)(hu:max (lg N D+e-52) (-1074)=u):
 zK neg mode N D e=if 9218868437227405312≤zeQ (rm neg mode (N*2^(e-u).toNat) (D*2^(u-e).toNat)) u then zaK neg mode else zJ neg (zeQ (rm neg mode (N*2^(e-u).toNat) (D*2^(u-e).toNat)) u):=by
 obtain⟨a1,a2⟩:=zgg hN hD hu;have hb:=zcp neg mode (N*2^(e-u).toNat) (D*2^(u-e).toNat);unfold zK;simp only[];rw[hu];exact zoV neg mode yb yb (fun h=>a2 yb)
section
variable {a:List UInt8} {c:UInt8}
def mir(m:Int):Int:=if m=1 then 2 else if m=2 then 1 else m
def zs9(m c:Int)(o:Bool):rup true (mir m) c o=rup false m c o:=by
 unfold rup mir
 by_cases h1:m=1
 ·subst h1;simp
 ·by_cases h2:m=2
  ·subst h2;simp
  ·simp[h1,h2]
def ztD(m:Int)(N D:Nat):rm true (mir m) N D=rm false m N D:=by
 unfold rm;simp only[zs9]
def zp2(m:Int):zaK true (mir m)=zaK false m+9223372036854775808:=by
 unfold zaK mir zJ
 by_cases h1:m=1
 ·subst h1;simp
 ·by_cases h2:m=2
  ·subst h2;simp
  ·simp[h1,h2]
def zqF(m:Int)(n:Nat)(u:Int):zab true (mir m) n u=zab false m n u+9223372036854775808:=by
 unfold zab;rw[zp2];unfold zJ;simp only[if_true,Bool.false_eq_true,if_false];generalize (if n=9007199254740992 then 4503599627370496 else n)=a;generalize (if n=9007199254740992 then u+1 else u)=b
 by_cases h1:a<4503599627370496
 ·rw[if_pos h1,if_pos h1]
 ·rw[if_neg h1,if_neg h1]
  by_cases h2:2047≤b+1075
  ·rw[if_pos h2,if_pos h2]
  ·rw[if_neg h2,if_neg h2]
def zqT(m:Int)(N D:Nat)(e:Int):zK true (mir m) N D e=zK false m N D e+9223372036854775808:=by
 unfold zK;simp only[ztD,zqF]
def zqm(m:Int)(N:Nat)(x:Int):zck true (mir m) N x=zck false m N x+9223372036854775808:=by
 unfold zck
 by_cases h:N=0
 ·rw[if_pos h,if_pos h];rfl
 ·rw[if_neg h,if_neg h];exact zqT m _ _ 0
def zgv(ha:a.all dig=true)(p:Bool)(r:List UInt8):zaU p (a++r)=(a++(zaU p r).1,(if p then a.length else 0)+(zaU p r).2.1,(zaU p r).2.2):=by
 induction a with
 | nil=>cases p<;>simp
 | cons c t ih=>
  rw[List.all_cons,Bool.and_eq_true]at ha;rw[List.cons_append,zaU,if_pos ha.1,ih ha.2]
  cases p
  ·simp
  ·simp only[if_true,List.length_cons,List.cons_append];refine Prod.ext rfl (Prod.ext ?_ rfl);simp only[]
   omega
def zin(r:List UInt8)(p:Bool)(h1:dig c=false)(h2:c≠46):zaU p (c::r)=([],0,c::r):=by
 rw[zaU,if_neg (by simp[h1]),if_neg (by simp[h2])]
def zll(h:isE c=true):dig c=false∧c≠46:=by
 unfold isE at h;simp only[Bool.or_eq_true,beq_iff_eq]at h
 rcases h with((h|h)|h)|h<;>subst h<;>decide
def zeZ(hc:dig c=true)(r:List UInt8):dsg (c::r)=(false,c::r):=by
 have h:=zcD hc;rw[dsg,if_neg (fun e=>by subst e;have:=h.1;simp at this),if_neg (fun e=>by subst e;have:=h.1;simp at this)]
def zq7(ha:a.all dig=true):dsg a=(false,a):=by
 cases a with
 | nil=>rfl
 | cons c t=>
  rw[List.all_cons,Bool.and_eq_true]at ha;exact zeZ ha.1 t
def zk6{t:List UInt8}{x:Int}(ha:a.all dig=true)(h0:a≠[])(hc:isE c=true)(hx:zex t=some x):zcA (a++c::t)=some (false,a,0,x):=by
 have hd:dsg (a++c::t)=(false,a++c::t):=by
  cases a with
  | nil=>exact absurd rfl h0
  | cons d r=>
   rw[List.all_cons,Bool.and_eq_true]at ha;exact zeZ ha.1 _
 obtain⟨c1,c2⟩:=zll hc;unfold zcA;rw[hd];simp only[zgv ha,zin t false c1 c2,List.append_nil];rw[if_neg h0]
 simp[hc,hx]
def zkr(z:Int):zex (fmt z)=some z:=by
 obtain⟨h1,h2,h3⟩:=zar z.natAbs;unfold fmt
 split
 ·rename_i h;unfold zex;rw[show dsg (45::dec z.natAbs)=(true,dec z.natAbs)from rfl,if_pos ⟨h3,h1⟩];simp only[if_true,h2]
  congr 1
  omega
 ·rename_i h;unfold zex;rw[zq7 h1,if_pos ⟨h3,h1⟩];simp only[Bool.false_eq_true,if_false,h2]
  congr 1
  omega
end
def zks:∀(k N:Nat),N<10^(k+1)→0<N→1≤(dec N).length∧10^((dec N).length-1)≤N∧N<10^(dec N).length
 | 0,N,h,h0=>by
  rw[zbj yM];simp only[List.length_cons,List.length_nil]
  omega
 | k+1,N,h,h0=>by
  by_cases h10:N<10
  ·rw[zbj h10];simp only[List.length_cons,List.length_nil]
   omega
  ·have hq:N/10<10^(k+1):=by
    rw[Nat.pow_succ]at h;exact Nat.div_lt_of_lt_mul (by rw[Nat.mul_comm];exact h)
   obtain⟨a1,a2,a3⟩:=zks k (N/10) hq yb;rw[zek yb];simp only[List.length_append,List.length_cons,List.length_nil];generalize (dec (N/10)).length=s at a1 a2 a3;obtain⟨j,rfl⟩:∃j,s=j+1:=⟨s-1,by omega⟩;rw[Nat.add_sub_cancel]at a2;refine⟨by omega,?_,?_⟩
   ·show 10^(j+1+1-1)≤N
    rw[Nat.add_sub_cancel,Nat.pow_succ]
    omega
   ·show N<10^(j+1+1)
    rw[Nat.pow_succ]
    omega
def zhC{N:Nat}(h:0<N):10^((dec N).length-1)≤N∧N<10^(dec N).length∧1≤(dec N).length:=by
 have h1:N<10^(N+1):=by
  have:N<2^N:=Nat.lt_two_pow_self
  have h2:2^N≤10^N:=Nat.pow_le_pow_left yf _;have h3:10^N≤10^(N+1):=Nat.pow_le_pow_right yf yb
  omega
 obtain⟨a1,a2,a3⟩:=zks N N h1 h;exact⟨a2,a3,a1⟩
def zsl(neg:Bool)(mode:Int)(N n:Nat):dvF neg mode N n=zK neg mode (N*10^n) 1 0:=by
 unfold dvF;rw[show(-(n:Int)).toNat=0 by omega,Int.toNat_natCast,Nat.pow_zero]
def zsA(neg:Bool)(mode:Int)(N n:Nat):dvF neg mode N (-(n:Int))=zK neg mode N (10^n) 0:=by
 unfold dvF;rw[show(-(n:Int)).toNat=0 by omega,show(-(-(n:Int))).toNat=n by omega,Nat.pow_zero,Nat.mul_one]
def zn7{out ten n P:Nat}(h:out*ten^n=P):(if n%2=1 then out*ten else out)*(ten*ten)^(n/2)=P:=by
 rw[←h,←Nat.pow_two,←Nat.pow_mul];have e:=Nat.div_add_mod n 2
 split
 ·rename_i h1;rw[Nat.mul_assoc,←Nat.pow_succ',show(2*(n/2)).succ=n by omega]
 ·rw[show 2*(n/2)=n by omega]
def ziX{N D t:Nat}(hN:0<N)(hD:0<D)(h:N<D*2^t):lg N D<t:=by
 obtain⟨k1,k2⟩:=zdy hN hD;generalize lg N D=s at k1 k2
 apply Classical.byContradiction
 intro hs;have e1:(-s).toNat=0:=by omega
 rw[e1,Nat.pow_zero,Nat.mul_one]at k1;have e2:2^t≤2^s.toNat:=Nat.pow_le_pow_right yf yb;have e3:D*2^t≤D*2^s.toNat:=Nat.mul_le_mul_left _ e2
 omega
def zA(b:Nat):Nat:=if b/4503599627370496=0 then b else b%4503599627370496+4503599627370496
def zh(b:Nat):Int:=if b/4503599627370496=0 then -1074 else((b/4503599627370496:Nat):Int)-1075
def zns(neg:Bool)(mode:Int)(N:Nat):rm neg mode N 1=N:=by
 rw[zgm neg mode (Nat.mod_one N),Nat.div_one]
def ziq{b:Nat}(h0:0<b):max (lg (zA b) 1+zh b-52) (-1074)=zh b:=by
 unfold zA zh
 by_cases hf:b/4503599627370496=0
 ·rw[if_pos hf,if_pos hf];have h1:=ziX (N:=b) (D:=1) (t:=52) h0 yf (by rw[Nat.one_mul];show b<4503599627370496;omega)
  omega
 ·rw[if_neg hf,if_neg hf];have h1:=ziX (N:=b%4503599627370496+4503599627370496) (D:=1) (t:=53) yb yf (by rw[Nat.one_mul];show _<9007199254740992;omega);have h2:=zfR (N:=b%4503599627370496+4503599627370496) (D:=1) (t:=52) yb yf (by rw[Nat.one_mul];show 4503599627370496≤_;omega)
  omega
def zgz(b:Nat):zeQ (zA b) (zh b)=b:=by
 unfold zeQ zA zh
 by_cases hf:b/4503599627370496=0
 ·rw[if_pos hf,if_pos hf];have e:((-1074:Int)+1074).toNat=0:=rfl;rw[e]
  omega
 ·rw[if_neg hf,if_neg hf];have e:(((b/4503599627370496:Nat):Int)-1075+1074).toNat=b/4503599627370496-1:=by omega
  rw[e]
  omega
def zcm{b:Nat}(h:0<b):0<zA b:=by
 unfold zA
 split<;>omega
def zqr(neg:Bool)(mode:Int){b:Nat}(h0:0<b)(hb:b<9218868437227405312):zK neg mode (zA b) 1 (zh b)=zJ neg b:=by
 rw[zeR neg mode (zcm h0) yf (ziq h0)];rw[show(zh b-zh b).toNat=0 by omega,Nat.pow_zero,Nat.mul_one,Nat.mul_one,zns,zgz,if_neg yb]
def zp1(neg:Bool)(mode:Int){b N D:Nat}{e:Int}(h0:0<b)(hb:b<9218868437227405312)(hN:0<N)(hD:0<D)
 (h:N*2^(e-zh b).toNat=zA b*(D*2^(zh b-e).toNat)):zK neg mode N D e=zJ neg b:=by
 have hs:=zdt hN hD e (zh b);have hp:=Nat.mul_pos hD (zu (zh b-e).toNat)
 have h1:lg (N*2^(e-zh b).toNat) (D*2^(zh b-e).toNat)=lg (zA b) 1:=by
  rw[h,Nat.mul_comm (zA b)]
  have:=zj3 (c:=D*2^(zh b-e).toNat) (zcm h0) (show 0<1 by decide) hp
  rwa [Nat.mul_one]at this
 rw[h1]at hs
 have hu:max (lg N D+e-52) (-1074)=zh b:=by
  have:=ziq h0
  omega
 rw[zeR neg mode hN hD hu,h]
 have hr:rm neg mode (zA b*(D*2^(zh b-e).toNat)) (D*2^(zh b-e).toNat)=zA b:=by
  rw[zgm _ _ (Nat.mul_mod_left _ _),Nat.mul_div_cancel _ hp]
 rw[hr,zgz,if_neg yb]
section
open Go.RowKit
def ztG(neg:Bool)(A k:Nat):sg neg (A*2^k)=sg neg A*2^k:=by
 have e:((2^k:Nat):Int)=(2:Int)^k:=by rw[Int.natCast_pow];rfl
 unfold sg
 cases neg
 ·simp[Int.natCast_mul,e]
 ·simp[Int.natCast_mul,e,Int.neg_mul]
def zge(k:Nat):sg false (2^k)=(2:Int)^k:=by
 show(((2^k:Nat):Int))=_
 rw[Int.natCast_pow];rfl
def zkA{w:World}{p:Option Addr}{n c:Nat}(k:Nat)(neg:Bool)(l:List Nat)(hl:l.length=n)(hn:n≤400000)(hk:k≤1048576)(h:LR w p c l):
 Calls Tryz.prog 144 #[.agg #[.bool neg, .slice p n c], .int .i64 (k:Int)] w fun e w'=>∃v1,e= .returned (.tuple #[v1, .int .i64 0])∧Fr [] w w'∧BigV w' v1 (zv neg l*2^k):=by
 subst hl;have Hh:=hid h;have hA:=hid (h.trim);have hlen:=zI h.lim;have H:=Hp.start [] w;clear h
 go_enter Tryz.func144,Tryz.ntmps144
 revert H;refine W10 ?_;intro _ _ _ _ _ g w1 hg H hfk _ _ _ _;(refine x_c H (zt l rfl (Hh.out.fr H.fr)) ?_;clear H;rintro e w1 ⟨rfl,hF⟩ H;skip);simp only[Int.not_lt,Int.not_le]at*;revert H;refine W10 ?_;intro H _ _ _ _
 (revert H;refine w_p 6 (.st 0 (.st 1 (.st 2 (.st 3 (.ld 4 (.ld 5 (.ldf 6 (.st 7 .done)))))))) ?_;intro w1 H)
 iterate 4 refine p_q ?_
 ((refine p_c H rfl rfl Tryz.func215 (zjO (zd (val l)) k rfl yb yb (hA.out.fr H.fr)) ?_;clear H;rintro e w1 ⟨p5,c5,rfl,hF,hL⟩ H;refine p_r ?_);have HL5:=hid hL;clear hL)
 ((refine p_c H rfl rfl Tryz.func178 (zM neg (zd (val (zd (val l))*2^k)) rfl HL5.out) ?_;clear H;rintro e w1 ⟨p6,c6,rfl,hF,hL⟩ H;refine p_r ?_);have HL6:=hid hL;clear hL)
 (refine zkt rfl rfl (fun K hK=>zmO H rfl rfl rfl (h:=fun w1 hf H1 hk=>hK _ _ ?_));have hk2:=hid hk;clear hk;(clear hK K);(clear H;have H:=H1;clear H1;(try dsimp only at H);(try (have hfk:=hid hf;clear hf)));(simp only[nrm,↓reduceIte,Nat.reduceAdd]));refine p_q ?_;(refine zf ?_)
 all_goals
  revert H;refine W10 ?_;intro H;refine zi H rfl rfl rfl rfl ?_;have e:zv neg (zd (val (zd (val l))*2^k))=zv neg l*2^k:=by rw[zan,zg,zg,ztG];rfl
  rw[e]at HL6;exact⟨_,rfl,H.fr,p6,c6,by rw[e],hk2.out _ _ _ HL6.out⟩
def zmC{w:World}{p:Option Addr}{n c:Nat}(k:Nat)(neg:Bool)(l:List Nat)(hl:l.length=n)(hn:n≤400000)(hk0:0<k)(hk:k≤1048576)(h:LR w p c l):
 Calls Tryz.prog 144 #[.agg #[.bool neg, .slice p n c], .int .i64 (-(k:Int))] w fun e w'=>∃v1,e= .returned (.tuple #[v1, .int .i64 0])∧Fr [] w w'∧BigV w' v1 (zv neg l/2^k):=by
 subst hl;have Hh:=hid h;have hA:=hid (h.trim);have hlen:=zI h.lim;have H:=Hp.start [] w;clear h;have h2:(2:Nat)^k≠0:=Nat.pos_iff_ne_zero.1 (Nat.two_pow_pos k);have h2:=hid h2
 go_enter Tryz.func144,Tryz.ntmps144
 revert H;refine W10 ?_;intro _ _ _ _ _ g w1 hg H hfk _ _ _ _;(refine x_c H (zt l rfl (Hh.out.fr H.fr)) ?_;clear H;rintro e w1 ⟨rfl,hF⟩ H;skip);simp only[Int.not_lt,Int.not_le]at*;revert H;refine W10 ?_;intro H _ _ _ _;(refine x_c H (zi7 (val l) k rfl yb yb (hA.out.fr H.fr)) ?_;clear H;rintro e w1 ⟨p5,c5,rfl,hF,hL⟩ H;have HL5:=hid hL;clear hL);have hql:=za6 (Nat.div_le_self (val l) (2^k))
 cases neg
 ·generalize decide (val l%2^k≠0)=lost;simp only[Int.not_lt,Int.not_le]at*;revert H;refine W10 ?_;intro H _ _ _ _;(refine x_c H (zM false (zd (val l/2^k)) rfl HL5.out) ?_;clear H;rintro e w1 ⟨p6,c6,rfl,hF,hL⟩ H;have HL6:=hid hL;clear hL);simp only[Int.not_lt,Int.not_le]at*;revert H;refine W14 ?_;intro w1 H hk2 hfk;refine zi H rfl rfl rfl rfl ?_;have e:zv false (zd (val l/2^k))=zv false l/2^k:=(by rw[zan,zan,zg,←zge];exact(zcO (na:=false) (nb:=false) (A:=val l) h2.out (.inl rfl)).1.symm);rw[e]at HL6;exact⟨_,rfl,H.fr,p6,c6,by rw[e],hk2.out _ _ _ HL6.out⟩
 ·by_cases hr:val l%2^k=0
  ·have Hr:=hid hr;rw[show decide (val l%2^k≠0)=false by simp[hr]];clear hr;simp only[Int.not_lt,Int.not_le]at*;revert H;refine W10 ?_;intro H _ _ _ _;(refine x_c H (zM true (zd (val l/2^k)) rfl HL5.out) ?_;clear H;rintro e w1 ⟨p6,c6,rfl,hF,hL⟩ H;have HL6:=hid hL;clear hL);simp only[Int.not_lt,Int.not_le]at*;revert H;refine W14 ?_;intro w1 H hk2 hfk;refine zi H rfl rfl rfl rfl ?_;have e:zv true (zd (val l/2^k))=zv true l/2^k:=(by rw[zan,zan,zg,←zge];exact(zcO (na:=true) (nb:=false) (A:=val l) h2.out (.inr Hr.out)).1.symm);rw[e]at HL6;exact⟨_,rfl,H.fr,p6,c6,by rw[e],hk2.out _ _ _ HL6.out⟩
  ·have Hr:=hid hr;rw[show decide (val l%2^k≠0)=true by simp[hr]];clear hr;simp only[Int.not_lt,Int.not_le]at*;revert H;refine W11 ?_;intro _ _ g w1 hg H hfk _ _;have HO:=hid (LR.of_blk (l:=[1]) (c:=1) (pad:=[]) yA (Lim.cons yf Lim.nil) yg yk);(refine x_c H (zcl (zd (val l/2^k)) [1] rfl rfl yb yg (HL5.out.fr hfk.out) HO.out) ?_;clear H;rintro e w1 ⟨p3,c3,rfl,hF,hL⟩ H;have HL3:=hid hL;clear hL);rw[zg,zhF]at HL3 ⊢;simp only[Int.not_lt,Int.not_le]at*;revert H;refine W10 ?_;intro H _ _ _ _;(refine x_c H (zM true (zd (val l/2^k+1)) rfl HL3.out) ?_;clear H;rintro e w1 ⟨p6,c6,rfl,hF,hL⟩ H;have HL6:=hid hL;clear hL);simp only[Int.not_lt,Int.not_le]at*;revert H;refine W14 ?_;intro w1 H hk2 hfk;refine zi H rfl rfl rfl rfl ?_;have e:zv true (zd (val l/2^k+1))=zv true l/2^k:=(by rw[zan,zan,zg,←zge];exact(zht (nb:=false) (A:=val l) h2.out Hr.out).1.symm);rw[e]at HL6
   exact⟨_,rfl,H.fr,p6,c6,by rw[e],hk2.out _ _ _ HL6.out⟩
end
def zle(neg:Bool){X Y m:Nat}(hY:0<Y)(h1:2*X<2*(m*Y)+Y)(h2:2*(m*Y)<2*X+Y):rm neg 0 X Y=m:=by
 unfold rm;simp only[zdx]
 rcases Nat.le_total (m*Y) X with h|h
 ·obtain⟨r,rfl⟩:=Nat.le.dest h
  have e1:(m*Y+r)/Y=m:=by
   rw[Nat.mul_comm,Nat.mul_add_div hY,Nat.div_eq_of_lt yb,Nat.add_zero]
  have e2:(m*Y+r)%Y=r:=by rw[Nat.mul_comm,Nat.mul_add_mod,Nat.mod_eq_of_lt yb]
  rw[e1,e2];have hc:zbD (2*r) Y= -1:=by unfold zbD;rw[if_pos yb]
  rw[hc]
  simp
 ·obtain⟨r,hr⟩:=Nat.le.dest h
  by_cases h0:r=0
  ·subst h0;have e:X=m*Y:=by omega
   rw[e,Nat.mul_mod_left,if_pos rfl,Nat.mul_div_cancel _ hY]
  ·obtain⟨k,rfl⟩:∃k,m=k+1:=⟨m-1,by
    have:m≠0:=fun e=>by rw[e,Nat.zero_mul]at hr;omega
    omega⟩
   have ek:(k+1)*Y=k*Y+Y:=Nat.succ_mul k Y;rw[ek]at h h1 h2 hr;have e:X=k*Y+(Y-r):=by omega
   have e1:X/Y=k:=by rw[e,Nat.mul_comm,Nat.mul_add_div hY,Nat.div_eq_of_lt yb,Nat.add_zero]
   have e2:X%Y=Y-r:=by rw[e,Nat.mul_comm,Nat.mul_add_mod,Nat.mod_eq_of_lt yb]
   rw[e1,e2,if_neg yb];have hc:zbD (2*(Y-r)) Y=1:=by unfold zbD;rw[if_neg yb,if_neg yb]
   rw[hc]
   simp
def zpm{b N D:Nat}{e:Int}(h0:0<b)(hb:b<9218868437227405312)(hN:0<N)(hD:0<D)
 (h1:2*(N*2^(e-zh b).toNat)<2*(zA b*(D*2^(zh b-e).toNat))+D*2^(zh b-e).toNat)
 (h2:2*(zA b*(D*2^(zh b-e).toNat))<2*(N*2^(e-zh b).toNat)+D*2^(zh b-e).toNat)
 (h3:zA b=4503599627370496→4*(zA b*(D*2^(zh b-e).toNat))<4*(N*2^(e-zh b).toNat)+D*2^(zh b-e).toNat):zK false 0 N D e=b:=by
 have hs:=zdt hN hD e (zh b);have hX:=Nat.mul_pos hN (zu (e-zh b).toNat);have hY:=Nat.mul_pos hD (zu (zh b-e).toNat)
 have hm:zA b<9007199254740992∧(zh b≠ -1074→4503599627370496≤zA b)∧ -1074≤zh b:=by
  unfold zA zh
  split<;>omega
 have hl:=zgz b;obtain⟨X,hXe⟩:∃X,N*2^(e-zh b).toNat=X:=⟨_,rfl⟩;obtain⟨Y,hYe⟩:∃Y,D*2^(zh b-e).toNat=Y:=⟨_,rfl⟩;rw[hXe,hYe]at hs h1 h2 h3;rw[hXe]at hX;rw[hYe]at hY;have hmY:zA b*Y≤9007199254740991*Y:=Nat.mul_le_mul_right _ yb
 have ht:lg X Y<53:=ziX (t:=53) hX hY (by
  rw[Nat.mul_comm]
  show X<9007199254740992*Y
  omega)
 by_cases hc:zh b= -1074∨4503599627370496*Y≤X
 ·have hu:max (lg N D+e-52) (-1074)=zh b:=by
   rcases hc with hc|hc
   ·omega
   ·have:=zfR (t:=52) hX hY (by rw[Nat.mul_comm];exact hc)
    omega
  rw[zeR false 0 hN hD hu,hXe,hYe,zle false hY h1 h2,hl,if_neg yb]
  rfl
 ·have hc1:zh b≠ -1074:=fun h=>hc (.inl h)
  have hc2:X<4503599627370496*Y:=by
   apply Classical.byContradiction
   intro h;exact hc (.inr yb)
  have hm2:zA b=4503599627370496:=by
   apply Classical.byContradiction
   intro hne;have h4:4503599627370497*Y≤zA b*Y:=Nat.mul_le_mul_right _ (by have:=hm.2.1 hc1;omega)
   omega
  have h4:=h3 hm2;rw[hm2]at h4;have ht2:lg X Y<52:=ziX (t:=52) hX hY (by rw[Nat.mul_comm];exact hc2)
  have ht3:=zfR (t:=51) hX hY (by
   rw[Nat.mul_comm]
   show 2251799813685248*Y≤X
   omega)
  have hu:max (lg N D+e-52) (-1074)=zh b-1:=by omega
  have hr:rm false 0 (N*2^(e-(zh b-1)).toNat) (D*2^(zh b-1-e).toNat)=9007199254740992:=by
   rw[←zeG false 0 N D (k:=(zh b-e).toNat) (n:=(e-zh b).toNat+1) yb,Nat.pow_succ,←Nat.mul_assoc,hXe,hYe];exact zle false hY yb yb
  rw[zeR false 0 hN hD hu,hr]
  have hl2:zeQ 9007199254740992 (zh b-1)=b:=by
   have e1:(zh b+1074).toNat=(zh b-1+1074).toNat+1:=by omega
   unfold zeQ at hl ⊢;rw[hm2,e1,Nat.add_mul]at hl;rw[Nat.add_assoc,show 1*4503599627370496+4503599627370496=9007199254740992 from rfl]at hl;exact hl
  rw[hl2,if_neg yb]
  rfl
def zdV(b:UInt8):UInt8:=if 65≤b.toNat∧b.toNat≤90 then b+32 else b
def low(s:List UInt8):List UInt8:=s.map zdV
def sMM:List UInt8:=[37,37,109,97,116,114,105,120,109,97,114,107,101,116]
def zfi:List UInt8:=[109,97,116,114,105,120]
def sCoo:List UInt8:=[99,111,111,114,100,105,110,97,116,101]
def sArr:List UInt8:=[97,114,114,97,121]
def sFlds:List (List UInt8):=[[114,101,97,108],[105,110,116,101,103,101,114],[112,97,116,116,101,114,110]]
def sSyms:List (List UInt8):=[[103,101,110,101,114,97,108],[115,121,109,109,101,116,114,105,99],[115,107,101,119,45,115,121,109,109,101,116,114,105,99]]
structure Hd where
 arr:Bool
 field:Nat
 sym:Nat
def hdr(line:List UInt8):Option Hd:=
 match (zE line).map low with
 | [a,b,c,d,e]=>
  if a=sMM∧b=zfi∧(c=sCoo∨c=sArr)∧d∈sFlds∧e∈sSyms∧¬(c=sArr∧sFlds.idxOf d=2)then some ⟨decide (c=sArr),sFlds.idxOf d,sSyms.idxOf e⟩else none
 | _=>none
def skip:List (List UInt8)→Bool
 | []=>true
 | x::_=>x.head? ==some 37
def sig:Nat→List (List UInt8)→List (Nat×List (List UInt8))
 | _,[]=>[]
 | i,s::r=>if skip (zE s)then sig (i+1) r else(i+1,zE s)::sig (i+1) r
def zT(s:List UInt8):Bool:=s.all dig&& !s.isEmpty
def zV(sym m n:Nat):Nat:=if sym=1 then m*(m+1)/2 else if sym=2 then m*(m-1)/2 else m*n
def zas(h:Hd)(w:List (List UInt8)):Except Nat (Nat×Nat×Nat):=
 if w.length=(if h.arr then 2 else 3)∧w.all zT=true∧(h.sym=0∨zW (w.getD 0 [])=zW (w.getD 1 []))then
  (let m:=num (w.getD 0 []);let n:=num (w.getD 1 [])
   let c:=if h.arr then zV h.sym m n else num (w.getD 2 [])
   if m≤200∧n≤200∧c≤10000∧(h.sym=0∨2*c≤10000)then .ok (m,n,c)else .error 6)
 else .error 101
def zS(f:Nat):Bool:=f/4503599627370496%2048 !=2047
def zdc(z:Int):Nat:=if z=0 then 0 else zK (decide (z<0)) 0 z.natAbs 1 0
def zai(field:Nat)(s:List UInt8):Option Nat:=
 if field=1 then(if(pz s).2=0∧zS (zdc (pz s).1)=true then some (zdc (pz s).1)else none)
 else(if(dpz 1024 s 0).2=0∧zS (dpz 1024 s 0).1=true then some (dpz 1024 s 0).1 else none)
def may(sym i j:Nat):Bool:=sym==0||decide (j<i)||(sym==1&&i==j)
def zdo(h:Hd)(m n:Nat)(w:List (List UInt8)):Option (Nat×Nat):=
 let i:=num (w.getD 0 []);let j:=num (w.getD 1 [])
 if w.length=(if h.field=2 then 2 else 3)∧zT (w.getD 0 [])=true∧zT (w.getD 1 [])=true∧1≤i∧i≤m∧1≤j∧j≤n∧may h.sym i j=true then some (i-1,j-1)else none
def zbd(sym m n:Nat):List (Nat×Nat):=(List.range n).flatMap fun j=>((List.range m).filter fun i=>may sym i j).map fun i=>(i,j)
abbrev En:=Nat×Nat×Nat
def one(h:Hd)(m n k:Nat)(w:List (List UInt8)):Option En:=
 if h.arr then
  (if w.length=1 then(zai h.field (w.getD 0 [])).map fun f=>(((zbd h.sym m n).getD k (0,0)).1,((zbd h.sym m n).getD k (0,0)).2,f)else none)
 else match zdo h m n w with
  | none=>none
  | some p=>if h.field=2 then some (p.1,p.2,4607182418800017408)else(zai h.field (w.getD 2 [])).map fun f=>(p.1,p.2,f)
def zcz(L:List En)(x:En):Bool:=L.any fun y=>y.1==x.1&&y.2.1==x.2.1
def zac(h:Hd)(m n N:Nat):Nat→List En→List (Nat×List (List UInt8))→Except (Nat×Nat) (List En×List (Nat×List (List UInt8)))
 | 0,L,ls=> .ok (L,ls)
 | _+1,_,[]=> .error (N,103)
 | k+1,L,(i,w)::ls=>
  match one h m n L.length w with
  | none=> .error (i,102)
  | some x=>if zcz L x then .error (i,102)else zac h m n N k (L++[x]) ls
def zF(b:List UInt8):Except (Nat×Nat) (Hd×Nat×Nat×List En):=
 match zak b with
 | []=> .error (1,100)
 | s::r=>
  match hdr s with
  | none=> .error (1,100)
  | some h=>
   match sig 1 r with
   | []=> .error (r.length+2,103)
   | (i,w)::ls=>
    match zas h w with
    | .error e=> .error (i,e)
    | .ok (m,n,c)=>
     match zac h m n (r.length+2) c [] ls with
     | .error e=> .error e
     | .ok (L,[])=> .ok (h,m,n,L)
     | .ok (_,(k,_)::_)=> .error (k,103)
def zbV(f:Nat):Nat:=if f<9223372036854775808 then f+9223372036854775808 else f-9223372036854775808
def zz(sym:Nat)(L:List En):List En:=L++(L.filter fun x=> !(sym==0||x.1==x.2.1)).map fun x=>(x.2.1,x.1,if sym=2 then zbV x.2.2 else x.2.2)
def ze9(L:List En)(m j:Nat):List En:=(List.range m).filterMap fun i=>L.find? fun x=>x.1==i&&x.2.1==j
def entP(L:List En)(m n:Nat):List En:=(List.range n).flatMap (ze9 L m)
def pre(S:List En)(j:Nat):Nat:=(S.filter fun x=>decide (x.2.1<j)).length
section
variable {N b a Z v:Nat} {neg:Bool}
def zui(hN:0<N):∃t:Nat,lg N 1=(t:Int)∧2^t≤N∧N<2*2^t:=by
 have h0:(0:Int)≤lg N 1:=by
  have:=zfR (t:=0) hN (by decide:0<1) (by rw[Nat.pow_zero,Nat.one_mul];exact hN)
  simpa using this
 obtain⟨t,ht⟩:=Int.eq_ofNat_of_zero_le h0;have h1:=zdy hN (by decide:0<1);rw[ht]at h1;refine⟨t,ht,?_,?_⟩
 ·have:=h1.1
  simpa using this
 ·have:=h1.2
  simpa using this
def zpv(hN:0<N)(hf:zS (zK neg 0 N 1 0)=true):∃b Z:Nat,zK neg 0 N 1 0=zJ neg b∧0<b∧b<9218868437227405312∧0<Z∧zA b*2^(zh b).toNat=Z*2^(-zh b).toNat:=by
 obtain⟨t,ht,h1,h2⟩:=zui hN;have hu:max (lg N 1+0-52) (-1074)=(t:Int)-52:=by omega
 obtain⟨n,hn⟩:∃n,rm neg 0 (N*2^(0-((t:Int)-52)).toNat) (1*2^((t:Int)-52-0).toNat)=n:=⟨_,rfl⟩
 have hr:zK neg 0 N 1 0=zab neg 0 n ((t:Int)-52):=by
  unfold zK;simp only[hu,hn]
 have hb:4503599627370496≤n∧n≤9007199254740992∧((t:Int)-52<0→n=N*2^(52-t)):=by
  rcases Nat.lt_or_ge t 52 with h52|h52
  ·have e1:((t:Int)-52-0).toNat=0:=by omega
   have e2:(0-((t:Int)-52)).toNat=52-t:=by omega
   rw[e1,e2,Nat.pow_zero,Nat.mul_one,zns]at hn;have hp:2^t*2^(52-t)=4503599627370496:=by rw[←Nat.pow_add,show t+(52-t)=52 by omega]
   have hp2:2*2^t*2^(52-t)=9007199254740992:=by rw[Nat.mul_assoc,hp]
   have g1:=Nat.mul_le_mul_right (2^(52-t)) h1;have g2:=Nat.mul_le_mul_right (2^(52-t)) (Nat.le_of_lt h2);rw[hp]at g1;rw[hp2]at g2;rw[hn]at g1 g2;exact⟨g1,g2,fun _=>hn.symm⟩
  ·have e1:((t:Int)-52-0).toNat=t-52:=by omega
   have e2:(0-((t:Int)-52)).toNat=0:=by omega
   rw[e1,e2,Nat.pow_zero,Nat.mul_one,Nat.one_mul]at hn;have hp:2^t=4503599627370496*2^(t-52):=by rw[show(4503599627370496:Nat)=2^52 from rfl,←Nat.pow_add,show 52+(t-52)=t by omega]
   have hpos:=zu (t-52);have g:=zcp neg 0 N (2^(t-52));rw[hn]at g;have g1:4503599627370496≤N/2^(t-52):=(Nat.le_div_iff_mul_le hpos).2 (by rw[←hp];exact h1)
   have g2:N/2^(t-52)<9007199254740992:=(Nat.div_lt_iff_lt_mul hpos).2 (by
    have:9007199254740992*2^(t-52)=2*2^t:=by rw[hp];omega
    rw[this];exact h2)
   exact⟨by omega,by omega,fun h=>by omega⟩
 obtain⟨b1,b2,b3⟩:=hb;obtain⟨m,hm⟩:∃m,(if n=9007199254740992 then 4503599627370496 else n)=m:=⟨_,rfl⟩;obtain⟨v,hv⟩:∃v:Int,(if n=9007199254740992 then(t:Int)-52+1 else(t:Int)-52)=v:=⟨_,rfl⟩
 have hp:zab neg 0 n ((t:Int)-52)=if m<4503599627370496 then zJ neg m else if 2047≤v+1075 then zaK neg 0 else zJ neg ((v+1075).toNat*4503599627370496+(m-4503599627370496)):=by
  unfold zab;simp only[hm,hv]
 have hm1:4503599627370496≤m∧m<9007199254740992:=by
  rw[←hm]
  split<;>omega
 have hv1:(t:Int)-52≤v∧v≤(t:Int)-51:=by
  rw[←hv]
  split<;>omega
 rw[if_neg (by omega)]at hp
 by_cases ho:2047≤v+1075
 ·exfalso
  rw[hr,hp,if_pos ho]at hf
  revert hf
  cases neg<;>decide+kernel
 rw[if_neg ho]at hp;obtain⟨k,hk⟩:∃k:Nat,v+1075=(k:Int):=⟨(v+1075).toNat,by omega⟩;have hk2:(v+1075).toNat=k:=by omega
 rw[hk2]at hp;obtain⟨b,hb⟩:∃b,k*4503599627370496+(m-4503599627370496)=b:=⟨_,rfl⟩;rw[hb]at hp;have hkb:b/4503599627370496=k:=by omega
 have hkm:b%4503599627370496=m-4503599627370496:=by omega
 have hk1:1≤k:=by omega
 have hman:zA b=m:=by unfold zA;rw[hkb,if_neg (by omega),hkm];omega
 have hex:zh b=v:=by unfold zh;rw[hkb,if_neg (by omega)];omega
 refine⟨b,if(t:Int)-52<0 then N else m*2^v.toNat,by rw[hr,hp],by omega,by omega,?_,?_⟩
 ·split
  ·exact hN
  ·exact Nat.mul_pos (by omega) (zu _)
 ·rw[hman,hex]
  by_cases hneg:(t:Int)-52<0
  ·rw[if_pos hneg];have hn3:=b3 hneg
   by_cases hn9:n=9007199254740992
   ·exfalso
    have hp2:2*2^t*2^(52-t)=9007199254740992:=by
     rw[Nat.mul_assoc,←Nat.pow_add,show t+(52-t)=52 by omega]
    have:=Nat.mul_lt_mul_of_pos_right h2 (zu (52-t))
    rw[hp2,←hn3]at this
    omega
   ·rw[if_neg hn9]at hm hv;have e1:v.toNat=0:=by omega
    have e2:(-v).toNat=52-t:=by omega
    rw[e1,e2,Nat.pow_zero,Nat.mul_one,←hm,hn3]
  ·rw[if_neg hneg];have e2:(-v).toNat=0:=by omega
   rw[e2,Nat.pow_zero,Nat.mul_one]
def zfy(v:Nat)(Z:Int):Prop:=sg (decide (9223372036854775808≤v)) (zA (v%9223372036854775808))*2^(zh (v%9223372036854775808)).toNat=Z*2^(-zh (v%9223372036854775808)).toNat
def zl6(hb:b<9218868437227405312):zJ neg b%9223372036854775808=b∧decide (9223372036854775808≤zJ neg b)=neg:=by
 unfold zJ
 cases neg
 ·simp only[Bool.false_eq_true,if_false,decide_eq_false_iff_not]
  omega
 ·simp only[if_true,decide_eq_true_eq]
  omega
def zuR{m n:Nat}(h:a*2^m=b*2^n):sg neg a*2^m=sg neg b*2^n:=by
 have h':(a:Int)*2^m=(b:Int)*2^n:=by exact_mod_cast h
 cases neg<;>simp only[sg,if_true,Bool.false_eq_true,if_false,Int.neg_mul,h']
def zlG:zA b<9007199254740992:=by
 unfold zA
 split<;>omega
def zjd(hb:b<9218868437227405312):zh b≤971:=by
 unfold zh
 split<;>omega
def small_pow{e d:Nat}(k n:Nat)(hn:53+k=n)(h:a*2^e=Z*2^d)(h1:a<9007199254740992)(h3:e≤k):Z<2^n:=by
 have h4:2^e≤2^k:=Nat.pow_le_pow_right (by decide) h3;have h5:Z≤Z*2^d:=Nat.le_mul_of_pos_right _ (zu _);have h6:a*2^e≤a*2^k:=Nat.mul_le_mul_left _ h4;have h7:a*2^k<9007199254740992*2^k:=Nat.mul_lt_mul_of_pos_right h1 (zu _);rw[←hn,Nat.pow_add,show 2^53=9007199254740992 from rfl]
 omega
def zob(hb:b<9218868437227405312)(h:zA b*2^(zh b).toNat=Z*2^(-zh b).toNat):Z<2^1024:=
 small_pow 971 1024 rfl h zlG (by have:=zjd hb;omega)
def ten_no{x c:Nat}(h:N<2^a)(h1:10^x≤N)(hab:a≤b)(ht:2^b≤10^c)(g:c≤x):False:=by
 have h2:10^c≤10^x:=Nat.pow_le_pow_right (by decide) g;have h3:2^a≤2^b:=Nat.pow_le_pow_right (by decide) hab
 omega
def zi1{Z:Int}(h:Z.natAbs<2^1024):(fmt Z).length≤1024:=by
 have hd:(dec Z.natAbs).length≤401:=by
  rcases Nat.eq_zero_or_pos Z.natAbs with e|e
  ·rw[e,zbj (by decide)];simp
  ·obtain⟨h1,_,_⟩:=zhC e
   rcases Nat.lt_or_ge ((dec Z.natAbs).length-1) 400 with g|g
   ·omega
   ·exact(ten_no h h1 (by decide) zhw g).elim
 unfold fmt
 split
 ·rw[List.length_cons];omega
 ·omega
def zjS{Z:Int}(h:Z.natAbs<2^1024)(hr:zdc Z=v)(hf:zS v=true):zai 1 (fmt Z)=some v:=by
 unfold zai;rw[if_pos rfl,zuk Z (zi1 h)]
 simp[hr,hf]
def zqP(h:∃t,zai 1 t=some v):∃Z:Int,zai 1 (fmt Z)=some v∧v≠9223372036854775808∧zfy v Z∧Z.natAbs<2^1024:=by
 obtain⟨t,ht⟩:=h;unfold zai at ht;rw[if_pos rfl]at ht
 split at ht
 ·rename_i hc;obtain⟨z,hz⟩:∃z,(pz t).1=z:=⟨_,rfl⟩;rw[hz]at ht hc;have hv:=Option.some.inj ht;have hf:=hc.2;rw[hv]at hf
  by_cases h0:z=0
  ·have hv0:v=0:=by rw[←hv,h0];rfl
   subst hv0;refine⟨0,zjS (zu 1024) rfl (by decide),by decide,?_,zu 1024⟩;unfold zfy;have e:zA (0%9223372036854775808)=0:=by decide
   rw[e,zfJ,Int.zero_mul,Int.zero_mul]
  ·have hr:zdc z=zK (decide (z<0)) 0 z.natAbs 1 0:=by unfold zdc;rw[if_neg h0]
   obtain⟨b,Z,h1,h2,h3,h4,h5⟩:=zpv (neg:=decide (z<0)) (N:=z.natAbs) (by omega) (by rw[←hr,hv];exact hf);obtain⟨neg,hneg⟩:∃neg,decide (z<0)=neg:=⟨_,rfl⟩;rw[hneg]at h1 hr;have hvb:v=zJ neg b:=by rw[←hv,hr,h1]
   obtain⟨e1,e2⟩:=zl6 (neg:=neg) h3;have hsm:=zob h3 h5
   have hz2:zdc (sg neg Z)=v:=by
    unfold zdc
    have hd:decide (sg neg Z<0)=neg:=by
     cases neg
     ·simp only[sg,Bool.false_eq_true,if_false,decide_eq_false_iff_not];omega
     ·simp only[sg,if_true,decide_eq_true_eq];omega
    have hne:sg neg Z≠0:=by
     cases neg<;>simp only[sg,if_true,Bool.false_eq_true,if_false]<;>omega
    rw[if_neg hne,hd,za0,zp1 neg 0 (b:=b) (e:=0) h2 h3 h4 (by decide) (by
     rw[Int.zero_sub,Int.sub_zero,Nat.one_mul];exact h5.symm),hvb]
   refine⟨sg neg Z,zjS (by rw[za0];exact hsm) hz2 hf,?_,?_,by rw[za0];exact hsm⟩
   ·intro e
    have:v%9223372036854775808=0:=by rw[e]
    rw[hvb,e1]at this
    omega
   ·unfold zfy;rw[hvb,e1,e2];exact zuR h5
 ·cases ht
end
end Go.Proofs.YtaijhllckmndhaaGreatDoor
