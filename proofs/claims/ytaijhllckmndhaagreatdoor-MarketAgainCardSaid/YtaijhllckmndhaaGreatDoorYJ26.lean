import Derived.Test.YtaijhllckmndhaaGreatDoorYJ0
import Derived.Test.YtaijhllckmndhaaGreatDoorYJ24
namespace Go.Proofs.YtaijhllckmndhaaGreatDoor
set_option linter.all false
set_option maxHeartbeats 64000000
set_option maxRecDepth 100000
section
variable {neg:Bool} {q s2 t:List UInt8} {b:Nat} {c:UInt8}
open Go.RowKit
def rd0(e:Int):(Bool×List UInt8×Int)×Int:=((false,[],0),e)
def zli(h:(q==[])=true):rdE neg q b s2=rd0 7:=by
 have h:q=[]:=by simpa using h
 unfold rdE;rw[if_pos h];rfl
def zlk(h:(q==[])=false)(h2:(s2==[])=true):rdE neg q b s2=((neg,q,0-(b:Int)),0):=by
 have h:q≠[]:=by simpa using h
 have h2:s2=[]:=by simpa using h2
 subst h2;unfold rdE;rw[if_neg h]
def zlD(h:(q==[])=false)(hc:isE c=false):rdE neg q b (c::t)=rd0 7:=by
 have h:q≠[]:=by simpa using h
 unfold rdE;rw[if_neg h];simp only[];rw[if_neg (by rw[hc];decide)];rfl
def zlr(h:(q==[])=false)(hc:isE c=true)(hp:((dsg t).2.takeWhile dig==[])=true∨((dsg t).2.dropWhile dig==[])=false):rdE neg q b (c::t)=rd0 7:=by
 have h:q≠[]:=by simpa using h
 unfold rdE;rw[if_neg h];simp only[];rw[if_pos hc,if_pos (by rcases hp with hp|hp;exact .inl y8 ;exact .inr y8)];rfl
def zji(h:(q==[])=false)(hc:isE c=true)(hp:((dsg t).2.takeWhile dig==[])=false)(hr:((dsg t).2.dropWhile dig==[])=true):
 rdE neg q b (c::t)=if num ((dsg t).2.takeWhile dig)≤99999 then((neg,q,(if(dsg t).1 then -(num ((dsg t).2.takeWhile dig):Int)else num ((dsg t).2.takeWhile dig))-b),0)else rd0 3:=by
 have h:q≠[]:=by simpa using h
 have hp:(dsg t).2.takeWhile dig≠[]:=by simpa using hp
 have hr:(dsg t).2.dropWhile dig=[]:=by simpa using hr
 unfold rdE;rw[if_neg h];simp only[];rw[if_pos hc,if_neg (by rintro(h|h);exact hp h;exact h hr)];rfl
def z8{P:Program}{a:Act}{w:World}{o:Oper}{t t':TypeId}{x y:Operand}(ho:o.op= .binOp .add t x y t'){s r:List UInt8}(hx:a.eval x=ze s)(hy:a.eval y=ze r)(hq:Hid (s++r=q))(hl:s.length+r.length≤1000000000):(execOp a.eval o).run P w= .ok (.value (ze q)) w:=by
 rw[←hq.out];exact zpI ho hx hy hl
def zi9(s:List UInt8):(s.takeWhile dig).all dig=true:=List.all_takeWhile
def zdz(w:World)(s:List UInt8)(hs:s.length≤1024):
 Calls Tryz.prog 183 #[ze s] w fun e w'=>e= .returned (.tuple #[.agg #[.bool (rdS s).1.1,ze (rdS s).1.2.1, .int .i64 (rdS s).1.2.2], .int .i64 (rdS s).2])∧Fr [] w w':=by
 obtain⟨neg,s',hsg⟩:∃n t,dsg s=(n,t):=⟨_,_,rfl⟩;have hl':s'.length≤s.length:=by have:=zfI s;rw[hsg]at this;exact this
 have hR:rdS s=rdS s:=rfl
 conv at hR=>rhs;unfold rdS
 rw[hsg]at hR;simp only[]at hR;have HG:=hid hsg;obtain⟨a,ha⟩:∃a,s'.takeWhile dig=a:=⟨_,rfl⟩;obtain⟨s1,hs1⟩:∃a,s'.dropWhile dig=a:=⟨_,rfl⟩;have hal:a.length≤s'.length:=by rw[←ha];exact(List.takeWhile_prefix dig).length_le
 have hsl:s1.length≤s'.length:=by rw[←hs1];exact(List.dropWhile_suffix dig).length_le
 rw[ha,hs1]at hR;have HA:=hid ha;have HS1:=hid hs1;clear hsg ha hs1;obtain⟨r,hr⟩:∃r,rdS s=r:=⟨_,rfl⟩;rw[hr]at hR ⊢;clear hr
 have hN:Hid (((s1.head? ==some 46)=false)→r=rdE neg (a++[]) ([]:List UInt8).length s1):=hid (fun h=>by
  rw[hR]
  cases s1 with
  | nil=>rfl
  | cons c t=>simp only[];rw[if_neg yM];rfl)
 have hP:Hid (∀t,s1=46::t→r=rdE neg (a++t.takeWhile dig) (t.takeWhile dig).length (t.dropWhile dig)):=hid (fun t h=>by
  subst h;rw[hR]
  simp only[if_true])
 clear hR;obtain⟨d,hd⟩:∃d,(s1.head? ==some 46)=d:=⟨_,rfl⟩;have HP:=hid hd;have H:=Hp.start [] w
 cases d
 ·have HR:Hid (r=rdE neg (a++[]) ([]:List UInt8).length s1):=hid (hN.out hd);clear hN hP hd;obtain⟨b,hb⟩:∃b:List UInt8,b=[]:=⟨_,rfl⟩;obtain⟨q,hq⟩:∃q,a++[]=q:=⟨_,rfl⟩;have HQ:=hid hq;rw[hq]at HR;clear hq hb b
  go_enter Tryz.func183,Tryz.ntmps183
  revert H;refine W33 ?_;intro _ _ _ _ _ g w1 hg H hf _ _ _ _;(refine x_c H (zbx _ s yb) ?_;clear H;rintro e w1 ⟨rfl,hF⟩ H;replace hF:=hF.kp;rw[HG.out]);simp only[Int.not_lt,Int.not_le]at*;revert H;refine W33 ?_;intro w1 H _ _ _ _;(refine x_c H (zbB _ s' yb) ?_;clear H;rintro e w1 ⟨rfl,hF⟩ H;replace hF:=hF.kp;rw[HA.out,HS1.out]);simp only[Int.not_lt,Int.not_le]at*;revert H;refine W33 ?_;intro H _ _ _ _ _ _;(refine xK H (zaC _ _ 46 HP) ?_;clear H;intro w1 hF H);obtain⟨d0,hd0⟩:∃d,(q==[])=d:=⟨_,rfl⟩;have HD0:=hid hd0;clear hd0;obtain⟨e0,he0⟩:∃d,(s1==[])=d:=⟨_,rfl⟩;have HE0:=hid he0
  cases d0
  ·cases e0
   ·obtain⟨c2,t2,hct⟩:∃c t,s1=c::t:=by
     cases h:s1 with
     | nil=>rw[h]at he0;cases he0
     | cons c t=>exact⟨c,t,rfl⟩
    subst hct;clear he0;have HC1:Hid ((c2::t2).take (1:Int).toNat=[c2]):=hid rfl;have HC2:Hid ((c2::t2).drop (1:Int).toNat=t2):=hid rfl;have hcl:(c2::t2).length=t2.length+1:=rfl;obtain⟨bE,hbE⟩:∃d,isE c2=d:=⟨_,rfl⟩;have HBE:=hid hbE;clear hbE;simp only[Int.not_lt,Int.not_le]at*;revert H;refine W33 ?_;intro w1 H _ _ _ _ _ _ _ _;(refine xK H (ziC _ c2 HBE) ?_;clear H;intro w1 hF H)
    cases bE
    ·simp only[Int.not_lt,Int.not_le]at*;revert H;refine W33 ?_;intro w1 H hk;refine zi H rfl rfl rfl rfl ?_;exact⟨by rw[HR.out,zlD HD0.out HBE.out];rfl,H.fr⟩
    ·obtain⟨neg2,u,hsg2⟩:∃n t,dsg t2=(n,t):=⟨_,_,rfl⟩;have hul:u.length≤t2.length:=by have:=zfI t2;rw[hsg2]at this;exact this
     have HG2:=hid hsg2;have hp2:u=(dsg t2).2:=by rw[hsg2]
     have hn2:neg2=(dsg t2).1:=by rw[hsg2]
     obtain⟨pw,hpw⟩:∃a,u.takeWhile dig=a:=⟨_,rfl⟩;obtain⟨rs,hrs⟩:∃a,u.dropWhile dig=a:=⟨_,rfl⟩;have hpl:pw.length≤u.length:=by rw[←hpw];exact(List.takeWhile_prefix dig).length_le
     have HPW:=hid hpw;have HRS:=hid hrs;have hdp:pw.all dig=true:=by rw[←hpw];exact zi9 u
     have HPD:=hid hdp;obtain⟨p0,hp0⟩:∃d,(pw==[])=d:=⟨_,rfl⟩;obtain⟨r0,hr0⟩:∃d,(rs==[])=d:=⟨_,rfl⟩;have HP0:=hid hp0;have HR0:=hid hr0
     have HNO:Hid (p0=true∨r0=false→r=rd0 7):=hid (fun h=>by
      rw[HR.out];refine zlr HD0.out HBE.out ?_
      rw[←hp2,hpw,hrs,hp0,hr0];exact h)
     have HYES:Hid (p0=false→r0=true→r=if num pw≤99999 then((neg,q,(if neg2 then -(num pw:Int)else num pw)-([].length:Nat)),0)else rd0 3):=hid (fun h1 h2=>by
      rw[HR.out,zji HD0.out HBE.out (by rw[←hp2,hpw,hp0];exact h1) (by rw[←hp2,hrs,hr0];exact h2),←hp2,←hn2,hpw])
     cases p0
     ·cases r0
      ·have HNO2:=hid (HNO.out (.inr rfl));clear hsg2 hpw hrs hp2 hn2 hp0 hr0 hdp HNO HYES;simp only[Int.not_lt,Int.not_le]at*;revert H;refine W33 ?_;intro H _ _ _ _;(refine x_c H (zbx _ t2 yb) ?_;clear H;rintro e w1 ⟨rfl,hF⟩ H;replace hF:=hF.kp;rw[HG2.out]);simp only[Int.not_lt,Int.not_le]at*;revert H;refine W33 ?_;intro H _ _ _ _;(refine x_c H (zbB _ u yb) ?_;clear H;rintro e w1 ⟨rfl,hF⟩ H;replace hF:=hF.kp;rw[HPW.out,HRS.out]);simp only[Int.not_lt,Int.not_le]at*;revert H;refine W33 ?_;intro _ _ w1 H hk;refine zi H rfl rfl rfl rfl ?_;exact⟨by rw[HNO2.out];rfl,H.fr⟩
      ·have HY:=hid (HYES.out rfl rfl);clear hsg2 hpw hrs hp2 hn2 hp0 hr0 hdp HNO HYES;obtain⟨N,hN⟩:∃N,num pw=N:=⟨_,rfl⟩;rw[hN]at HY;have HNN:=hid hN;clear hN;simp only[Int.not_lt,Int.not_le]at*;revert H;refine W33 ?_;intro H _ _ _ _;(refine x_c H (zbx _ t2 yb) ?_;clear H;rintro e w1 ⟨rfl,hF⟩ H;replace hF:=hF.kp;rw[HG2.out]);simp only[Int.not_lt,Int.not_le]at*;revert H;refine W33 ?_;intro H _ _ _ _;(refine x_c H (zbB _ u yb) ?_;clear H;rintro e w1 ⟨rfl,hF⟩ H;replace hF:=hF.kp;rw[HPW.out,HRS.out]);simp only[Int.not_lt,Int.not_le]at*;revert H;refine W33 ?_;intro H _ _ _ _;(refine x_c H (ziG _ pw HPD.out yb) ?_;clear H;rintro e w1 ⟨z,rfl,hz,hF⟩ H;replace hF:=hF.kp;rw[HNN.out]at hz ⊢);have HZ:=hid hz;clear hz
       by_cases h9:N≤99999
       ·obtain rfl:=HZ.out h9;rw[decide_eq_true h9];have HY2:=hid (HY.out.trans (if_pos h9));clear HY HZ
        cases neg2
        ·simp only[Int.not_lt,Int.not_le]at*;revert H;refine W33 ?_;intro _ _ w1 H hk;refine zi H rfl rfl rfl rfl ?_;exact⟨by rw[HY2.out];(first|rfl|(simp;done)|(simp<;>omega)),H.fr⟩
        ·simp only[Int.not_lt,Int.not_le]at*;revert H;refine W33 ?_;intro _ _ _ w1 H hk;refine zi H rfl rfl rfl rfl ?_;exact⟨by rw[HY2.out];(first|rfl|(simp;done)|(simp<;>omega)),H.fr⟩
       ·rw[decide_eq_false h9];have HY2:=hid (HY.out.trans (if_neg h9));clear HY HZ;simp only[Int.not_lt,Int.not_le]at*;revert H;refine W33 ?_;intro _ _ w1 H hk;refine zi H rfl rfl rfl rfl ?_;exact⟨by rw[HY2.out];(first|rfl|(simp;done)|(simp<;>omega)),H.fr⟩
     ·have HNO2:=hid (HNO.out (.inl rfl));clear hsg2 hpw hrs hp2 hn2 hp0 hr0 hdp HNO HYES;simp only[Int.not_lt,Int.not_le]at*;revert H;refine W33 ?_;intro H _ _ _ _;(refine x_c H (zbx _ t2 yb) ?_;clear H;rintro e w1 ⟨rfl,hF⟩ H;replace hF:=hF.kp;rw[HG2.out]);simp only[Int.not_lt,Int.not_le]at*;revert H;refine W33 ?_;intro H _ _ _ _;(refine x_c H (zbB _ u yb) ?_;clear H;rintro e w1 ⟨rfl,hF⟩ H;replace hF:=hF.kp;rw[HPW.out,HRS.out]);simp only[Int.not_lt,Int.not_le]at*;revert H;refine W33 ?_;intro _ _ w1 H hk;refine zi H rfl rfl rfl rfl ?_;exact⟨by rw[HNO2.out];rfl,H.fr⟩
   ·clear he0;simp only[Int.not_lt,Int.not_le]at*;revert H;refine W33 ?_;intro _ _ w1 H hk;refine zi H rfl rfl rfl rfl ?_;exact⟨by rw[HR.out,zlk HD0.out HE0.out];(first|rfl|(simp;done)),H.fr⟩
  ·clear he0;simp only[Int.not_lt,Int.not_le]at*;revert H;refine W33 ?_;intro _ _ _ w1 H hk;refine zi H rfl rfl rfl rfl ?_;exact⟨by rw[HR.out,zli HD0.out];rfl,H.fr⟩
 ·obtain⟨t,ht⟩:∃t,s1=46::t:=by
   cases s1 with
   | nil=>cases hd
   | cons c t=>exact⟨t,by congr 1;simpa using hd⟩
  have HR:=hid (hP.out t ht);subst ht;clear hN hP hd;have HT:Hid ((46::t).drop (1:Int).toNat=t):=hid rfl;have htl:(46::t).length=t.length+1:=rfl;obtain⟨b,hb⟩:∃a,t.takeWhile dig=a:=⟨_,rfl⟩;obtain⟨s2,hs2⟩:∃a,t.dropWhile dig=a:=⟨_,rfl⟩;have hbl:b.length≤t.length:=by rw[←hb];exact(List.takeWhile_prefix dig).length_le
  have hsl2:s2.length≤t.length:=by rw[←hs2];exact(List.dropWhile_suffix dig).length_le
  rw[hb,hs2]at HR;have HB:=hid hb;have HS2:=hid hs2;obtain⟨q,hq⟩:∃q,a++b=q:=⟨_,rfl⟩;have HQ:=hid hq;rw[hq]at HR;clear hb hs2 hq
  go_enter Tryz.func183,Tryz.ntmps183
  revert H;refine W33 ?_;intro _ _ _ _ _ g w1 hg H hf _ _ _ _;(refine x_c H (zbx _ s yb) ?_;clear H;rintro e w1 ⟨rfl,hF⟩ H;replace hF:=hF.kp;rw[HG.out]);simp only[Int.not_lt,Int.not_le]at*;revert H;refine W33 ?_;intro w1 H _ _ _ _;(refine x_c H (zbB _ s' yb) ?_;clear H;rintro e w1 ⟨rfl,hF⟩ H;replace hF:=hF.kp;rw[HA.out,HS1.out]);simp only[Int.not_lt,Int.not_le]at*;revert H;refine W33 ?_;intro H _ _ _ _ _ _;(refine xK H (zaC _ _ 46 HP) ?_;clear H;intro w1 hF H);simp only[Int.not_lt,Int.not_le]at*;revert H;refine W33 ?_;intro H _ _;(refine x_c H (zbB _ t yb) ?_;clear H;rintro e w1 ⟨rfl,hF⟩ H;replace hF:=hF.kp;rw[HB.out,HS2.out]);obtain⟨d0,hd0⟩:∃d,(q==[])=d:=⟨_,rfl⟩;have HD0:=hid hd0;clear hd0;obtain⟨e0,he0⟩:∃d,(s2==[])=d:=⟨_,rfl⟩;have HE0:=hid he0
  cases d0
  ·cases e0
   ·obtain⟨c2,t2,hct⟩:∃c t,s2=c::t:=by
     cases h:s2 with
     | nil=>rw[h]at he0;cases he0
     | cons c t=>exact⟨c,t,rfl⟩
    subst hct;clear he0;have HC1:Hid ((c2::t2).take (1:Int).toNat=[c2]):=hid rfl;have HC2:Hid ((c2::t2).drop (1:Int).toNat=t2):=hid rfl;have hcl:(c2::t2).length=t2.length+1:=rfl;obtain⟨bE,hbE⟩:∃d,isE c2=d:=⟨_,rfl⟩;have HBE:=hid hbE;clear hbE;simp only[Int.not_lt,Int.not_le]at*;revert H;refine W33 ?_;intro w1 H _ _ _ _ _ _ _ _;(refine xK H (ziC _ c2 HBE) ?_;clear H;intro w1 hF H)
    cases bE
    ·simp only[Int.not_lt,Int.not_le]at*;revert H;refine W33 ?_;intro w1 H hk;refine zi H rfl rfl rfl rfl ?_;exact⟨by rw[HR.out,zlD HD0.out HBE.out];rfl,H.fr⟩
    ·obtain⟨neg2,u,hsg2⟩:∃n t,dsg t2=(n,t):=⟨_,_,rfl⟩;have hul:u.length≤t2.length:=by have:=zfI t2;rw[hsg2]at this;exact this
     have HG2:=hid hsg2;have hp2:u=(dsg t2).2:=by rw[hsg2]
     have hn2:neg2=(dsg t2).1:=by rw[hsg2]
     obtain⟨pw,hpw⟩:∃a,u.takeWhile dig=a:=⟨_,rfl⟩;obtain⟨rs,hrs⟩:∃a,u.dropWhile dig=a:=⟨_,rfl⟩;have hpl:pw.length≤u.length:=by rw[←hpw];exact(List.takeWhile_prefix dig).length_le
     have HPW:=hid hpw;have HRS:=hid hrs;have hdp:pw.all dig=true:=by rw[←hpw];exact zi9 u
     have HPD:=hid hdp;obtain⟨p0,hp0⟩:∃d,(pw==[])=d:=⟨_,rfl⟩;obtain⟨r0,hr0⟩:∃d,(rs==[])=d:=⟨_,rfl⟩;have HP0:=hid hp0;have HR0:=hid hr0
     have HNO:Hid (p0=true∨r0=false→r=rd0 7):=hid (fun h=>by
      rw[HR.out];refine zlr HD0.out HBE.out ?_
      rw[←hp2,hpw,hrs,hp0,hr0];exact h)
     have HYES:Hid (p0=false→r0=true→r=if num pw≤99999 then((neg,q,(if neg2 then -(num pw:Int)else num pw)-(b.length:Nat)),0)else rd0 3):=hid (fun h1 h2=>by
      rw[HR.out,zji HD0.out HBE.out (by rw[←hp2,hpw,hp0];exact h1) (by rw[←hp2,hrs,hr0];exact h2),←hp2,←hn2,hpw])
     cases p0
     ·cases r0
      ·have HNO2:=hid (HNO.out (.inr rfl));clear hsg2 hpw hrs hp2 hn2 hp0 hr0 hdp HNO HYES;simp only[Int.not_lt,Int.not_le]at*;revert H;refine W33 ?_;intro H _ _ _ _;(refine x_c H (zbx _ t2 yb) ?_;clear H;rintro e w1 ⟨rfl,hF⟩ H;replace hF:=hF.kp;rw[HG2.out]);simp only[Int.not_lt,Int.not_le]at*;revert H;refine W33 ?_;intro H _ _ _ _;(refine x_c H (zbB _ u yb) ?_;clear H;rintro e w1 ⟨rfl,hF⟩ H;replace hF:=hF.kp;rw[HPW.out,HRS.out]);simp only[Int.not_lt,Int.not_le]at*;revert H;refine W33 ?_;intro _ _ w1 H hk;refine zi H rfl rfl rfl rfl ?_;exact⟨by rw[HNO2.out];rfl,H.fr⟩
      ·have HY:=hid (HYES.out rfl rfl);clear hsg2 hpw hrs hp2 hn2 hp0 hr0 hdp HNO HYES;obtain⟨N,hN⟩:∃N,num pw=N:=⟨_,rfl⟩;rw[hN]at HY;have HNN:=hid hN;clear hN;simp only[Int.not_lt,Int.not_le]at*;revert H;refine W33 ?_;intro H _ _ _ _;(refine x_c H (zbx _ t2 yb) ?_;clear H;rintro e w1 ⟨rfl,hF⟩ H;replace hF:=hF.kp;rw[HG2.out]);simp only[Int.not_lt,Int.not_le]at*;revert H;refine W33 ?_;intro H _ _ _ _;(refine x_c H (zbB _ u yb) ?_;clear H;rintro e w1 ⟨rfl,hF⟩ H;replace hF:=hF.kp;rw[HPW.out,HRS.out]);simp only[Int.not_lt,Int.not_le]at*;revert H;refine W33 ?_;intro H _ _ _ _;(refine x_c H (ziG _ pw HPD.out yb) ?_;clear H;rintro e w1 ⟨z,rfl,hz,hF⟩ H;replace hF:=hF.kp;rw[HNN.out]at hz ⊢);have HZ:=hid hz;clear hz
       by_cases h9:N≤99999
       ·obtain rfl:=HZ.out h9;rw[decide_eq_true h9];have HY2:=hid (HY.out.trans (if_pos h9));clear HY HZ
        cases neg2
        ·simp only[Int.not_lt,Int.not_le]at*;revert H;refine W33 ?_;intro _ _ w1 H hk;refine zi H rfl rfl rfl rfl ?_;exact⟨by rw[HY2.out];(first|rfl|(simp;done)|(simp<;>omega)),H.fr⟩
        ·simp only[Int.not_lt,Int.not_le]at*;revert H;refine W33 ?_;intro _ _ _ w1 H hk;refine zi H rfl rfl rfl rfl ?_;exact⟨by rw[HY2.out];(first|rfl|(simp;done)|(simp<;>omega)),H.fr⟩
       ·rw[decide_eq_false h9];have HY2:=hid (HY.out.trans (if_neg h9));clear HY HZ;simp only[Int.not_lt,Int.not_le]at*;revert H;refine W33 ?_;intro _ _ w1 H hk;refine zi H rfl rfl rfl rfl ?_;exact⟨by rw[HY2.out];(first|rfl|(simp;done)|(simp<;>omega)),H.fr⟩
     ·have HNO2:=hid (HNO.out (.inl rfl));clear hsg2 hpw hrs hp2 hn2 hp0 hr0 hdp HNO HYES;simp only[Int.not_lt,Int.not_le]at*;revert H;refine W33 ?_;intro H _ _ _ _;(refine x_c H (zbx _ t2 yb) ?_;clear H;rintro e w1 ⟨rfl,hF⟩ H;replace hF:=hF.kp;rw[HG2.out]);simp only[Int.not_lt,Int.not_le]at*;revert H;refine W33 ?_;intro H _ _ _ _;(refine x_c H (zbB _ u yb) ?_;clear H;rintro e w1 ⟨rfl,hF⟩ H;replace hF:=hF.kp;rw[HPW.out,HRS.out]);simp only[Int.not_lt,Int.not_le]at*;revert H;refine W33 ?_;intro _ _ w1 H hk;refine zi H rfl rfl rfl rfl ?_;exact⟨by rw[HNO2.out];rfl,H.fr⟩
   ·clear he0;simp only[Int.not_lt,Int.not_le]at*;revert H;refine W33 ?_;intro _ _ w1 H hk;refine zi H rfl rfl rfl rfl ?_;exact⟨by rw[HR.out,zlk HD0.out HE0.out];(first|rfl|(simp;done)),H.fr⟩
  ·clear he0;simp only[Int.not_lt,Int.not_le]at*;revert H;refine W33 ?_;intro _ _ _ w1 H hk;refine zi H rfl rfl rfl rfl ?_;exact⟨by rw[HR.out,zli HD0.out];rfl,H.fr⟩
end
end Go.Proofs.YtaijhllckmndhaaGreatDoor
