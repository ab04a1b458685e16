import Derived.Test.YtaijhllckmndhaaGreatDoorYJ0
import Derived.Test.YtaijhllckmndhaaGreatDoorYJ42
import Derived.Test.YtaijhllckmndhaaGreatDoorYJ20
import Derived.Test.YtaijhllckmndhaaGreatDoorYJ41
import Derived.Test.YtaijhllckmndhaaGreatDoorYJ19
import Derived.Test.YtaijhllckmndhaaGreatDoorYJ32
import Derived.Test.YtaijhllckmndhaaGreatDoorYJ24
import Derived.Test.YtaijhllckmndhaaGreatDoorYJ45
import Derived.Test.YtaijhllckmndhaaGreatDoorYJ33
namespace Go.Proofs.YtaijhllckmndhaaGreatDoor
set_option linter.all false
set_option maxHeartbeats 64000000
set_option maxRecDepth 100000
section
variable {t l:List UInt8} {b z:Nat}
open Go.RowKit
attribute [local irreducible] wpList Code.wp Plan.wp
def zm8(h:dsg t=(false,t)){neg:Bool}{ds:List UInt8}{x:Int}(hr:zcA t=some (neg,ds,b,x)):neg=false∧zcA (45::t)=some (true,ds,b,x):=by
 unfold zcA at hr ⊢;rw[show dsg (45::t)=(true,t)from rfl];rw[h]at hr;simp only[]at hr ⊢
 split at hr
 ·cases hr
 ·next h0=>
  rw[if_neg h0]
  split at hr
  ·next he=>
   simp only[Option.some.injEq,Prod.mk.injEq]at hr;obtain⟨rfl,rfl,rfl,rfl⟩:=hr;exact⟨rfl,rfl⟩
  ·next e r he=>
   by_cases hE:isE e=true
   ·rw[if_pos hE]at hr ⊢
    cases hd:zex r with
    | none=>rw[hd]at hr;cases hr
    | some y=>
     rw[hd]at hr;simp only[Option.map_some,Option.some.injEq,Prod.mk.injEq]at hr ⊢;obtain⟨rfl,rfl,rfl,rfl⟩:=hr
     simp
   ·rw[if_neg hE]at hr;cases hr
def znU(h:dsg t=(false,t))(hl:t.length≤1023)(hz:dpz 1024 t 0=(z,0)):dpz 1024 (45::t) 0=(z+9223372036854775808,0):=by
 have hz2:=hz;unfold dpz at hz2;rw[if_neg yb]at hz2
 cases hr:zcA t with
 | none=>rw[hr]at hz2;simp at hz2
 | some q=>
  obtain⟨neg,ds,b,x⟩:=q;rw[hr]at hz2;simp only[]at hz2
  by_cases hx:x< -99999∨99999<x
  ·rw[if_pos hx]at hz2;simp at hz2
  ·rw[if_neg hx]at hz2;simp only[Prod.mk.injEq,and_true]at hz2;obtain⟨rfl,h2⟩:=zm8 h hr;rw[zog 0 (by rw[List.length_cons];omega) h2 yb]
   have:=zqm 0 (num ds) (x-b)
   rw[show mir 0=0 from rfl,hz2]at this;rw[this]
def zoW(hb:b<18446744073709551616)(hz:b%9223372036854775808=z)(h0:0<z)(hz1:z<9218868437227405312)(h:Fmt b z l):dpz 1024 l 0=(b,0):=by
 obtain⟨n,ds,x,h1,h2,h3,h4,h5,rfl⟩:=h;unfold mns
 by_cases hm:9223372036854775808≤b
 ·rw[if_pos hm,List.singleton_append];obtain⟨k,k1,k2,hl,hd,hq,hx,_⟩:=h3.val h0 h1;obtain⟨b1,b2⟩:=zdD h0 hz1 k1 k2;have hf:=zc6 (x:=x) yb;have e1:(ds.take 1).length≤1:=by rw[List.length_take];omega
  have e2:(if 1<n then 46::ds.drop 1 else []).length≤n:=by
   split
   ·rw[List.length_cons,List.length_drop];omega
   ·exact Nat.zero_le _
  have hs:dsg (txt n ds x)=(false,txt n ds x):=by
   cases ds with
   | nil=>simp at hl;omega
   | cons c r=>
    rw[List.all_cons,Bool.and_eq_true]at hd;exact zeZ hd.1 _
  have:=znU hs (by unfold txt;rw[List.length_append,List.length_append,List.length_cons];omega) h4
  rw[this]
  congr 1;omega
 ·rw[if_neg hm,List.nil_append,h4]
  congr 1;omega
def zl3(hb:b<18446744073709551616)(hz:b%9223372036854775808=0):dpz 1024 (mns b++[48]) 0=(b,0):=by
 obtain rfl|rfl:b=0∨b=9223372036854775808:=by omega
 ·decide+kernel
 ·decide+kernel
def ziw{c:UInt8}(h:c∈mns b):isW c=false∧c≠10∧c≠13∧c≠37:=by
 unfold mns at h
 split at h
 ·simp only[List.mem_singleton]at h;subst h;decide
 ·cases h
def zmG(h0:0<z)(hz1:z<9218868437227405312)(h:Fmt b z l):zaT l∧l.length≤40:=by
 obtain⟨n,ds,x,h1,h2,h3,h4,h5,rfl⟩:=h;obtain⟨k,k1,k2,hl,hd,hq,hx,_⟩:=h3.val h0 h1;obtain⟨b1,b2⟩:=zdD h0 hz1 k1 k2;have hall:∀c∈ds,dig c=true:=List.all_eq_true.1 hd;have hf:=zc6 (x:=x) yb;refine⟨⟨?_,fun c hc=>?_⟩,?_⟩
 ·intro e
  have:=congrArg List.length e
  unfold txt at this;simp only[List.length_append,List.length_cons,List.length_nil]at this
  omega
 ·rcases List.mem_append.1 hc with g|g
  ·exact ziw g
  unfold txt at g
  rcases List.mem_append.1 g with g|g
  ·exact zfv (hall c (List.mem_of_mem_take g))
  rcases List.mem_append.1 g with g|g
  ·split at g
   ·rcases List.mem_cons.1 g with e|e
    ·subst e;decide
    ·exact zfv (hall c (List.mem_of_mem_drop e))
   ·cases g
  ·rcases List.mem_cons.1 g with e|e
   ·subst e;decide
   ·exact(ziy x).2 c e
 ·have e0:(mns b).length≤1:=by unfold mns;split<;>decide
  have e1:(ds.take 1).length≤1:=by rw[List.length_take];omega
  have e2:(if 1<n then 46::ds.drop 1 else []).length≤18:=by
   split
   ·rw[List.length_cons,List.length_drop];omega
   ·exact Nat.zero_le _
  unfold txt;simp only[List.length_append,List.length_cons]
  omega
def zkY(w:World)(hb:b<18446744073709551616)(hk:Hid (zax b=0))(hl:Hid (mns b++[48]=l)):
 Calls Tryz.prog 98 #[.int .u64 (b:Int)] w fun r w'=>r= .returned (ze l)∧Fr [] w w':=by
 by_cases hm:9223372036854775808≤b
 ·have HI:=hid (show(if 9223372036854775808≤b then 9223372036854775808 else 0:Nat)=9223372036854775808 from if_pos hm);have HM:Hid ([45]++[48]=l):=hid (by rw[←hl.out];unfold mns;rw[if_pos hm]);clear hm;have H:=Hp.start [] w
  go_enter Tryz.func98,Tryz.ntmps98
  revert H;refine W41 ?_;intro H _ _ _ _ _ _ _;(refine xA H (zcq _ hb hk) ?_;clear H;intro w1 H);simp only[Int.not_lt,Int.not_le]at*;revert H;refine W42 ?_;intro H
  go_ret
  exact⟨by first|rfl|(rw[←HM.out];rfl),H.fr⟩
 ·have HI:=hid (show(if 9223372036854775808≤b then 9223372036854775808 else 0:Nat)=0 from if_neg hm);have HM:Hid ([]++[48]=l):=hid (by rw[←hl.out];unfold mns;rw[if_neg hm]);clear hm;have H:=Hp.start [] w
  go_enter Tryz.func98,Tryz.ntmps98
  revert H;refine W41 ?_;intro H _ _ _ _ _ _ _;(refine xA H (zcq _ hb hk) ?_;clear H;intro w1 H);simp only[Int.not_lt,Int.not_le]at*;revert H;refine W43 ?_;intro H
  go_ret
  exact⟨by first|rfl|(rw[←HM.out];rfl),H.fr⟩
def zk0(w:World)(hb:b<18446744073709551616)(hf:zS b=true)(hT:La w):
 Calls Tryz.prog 98 #[.int .u64 (b:Int)] w fun r w'=>∃l,r= .returned (ze l)∧Fr [] w w'∧dpz 1024 l 0=(b,0)∧zaT l∧l.length≤40:=by
 unfold zS at hf;have hx:b/4503599627370496%2048≠2047:=by simpa using hf
 have hlt:b%9223372036854775808<9218868437227405312:=by omega
 have hk:zax b=0∧b%9223372036854775808=0∨zax b=1∧0<b%9223372036854775808:=by
  unfold zax;rw[if_neg hx]
  split
  ·next h=>exact .inl ⟨rfl,by omega⟩
  ·next h=>exact .inr ⟨rfl,by omega⟩
 rcases hk with⟨hk,hz⟩|⟨hk,hz⟩
 ·refine Calls.mono (zkY w hb (hid hk) (hid rfl)) ?_;rintro r w' ⟨rfl,hF⟩;refine⟨_,rfl,hF,zl3 hb hz,⟨by simp,fun c hc=>?_⟩,?_⟩
  ·rcases List.mem_append.1 hc with g|g
   ·exact ziw g
   ·simp only[List.mem_singleton]at g;subst g;decide
  ·unfold mns;split<;>decide
 ·refine Calls.mono (zkR w hb hk (hid rfl) hz hlt hT) ?_;rintro r w' ⟨l,rfl,hF,hl⟩;exact⟨l,rfl,hF,zoW hb rfl hz hlt hl,zmG hz hlt hl⟩
def zpK{f:Nat}(h:dpz 1024 l 0=(b,0))(hf:zS b=true)(h1:f≠1):zai f l=some b:=by
 unfold zai;rw[if_neg h1,h]
 simp[hf]
end
section
open Go.RowKit
def zsM(w:World){b:Nat}(hb:b<18446744073709551616)(hk:b/4503599627370496%2048≠2047)(hz:b%9223372036854775808≠0)(hT:La w):
 Calls Tryz.prog 94 #[.int .u64 (b:Int)] w fun r w'=>∃v1,r= .returned v1∧Fr [] w w'∧DnO w' v1 (sg (decide (9223372036854775808≤b)) (zA (b%9223372036854775808))) (zh (b%9223372036854775808)):=by
 have hmp:=zcm (b:=b%9223372036854775808) yb;obtain⟨h1,h2⟩:=zoF hb;rw[h1]at hmp;rw[h1,h2];clear h1 h2;have HT:=hid hT;have hx:b/4503599627370496%2048<2048:=Nat.mod_lt _ yf;have hy:b%4503599627370496<4503599627370496:=Nat.mod_lt _ yf;obtain⟨x,hX⟩:∃x,b/4503599627370496%2048=x:=⟨_,rfl⟩;obtain⟨y,hY⟩:∃x,b%4503599627370496=x:=⟨_,rfl⟩;rw[hX]at hx hk hmp ⊢;rw[hY]at hy hmp ⊢;have HX:=hid hX;have HY:=hid hY;obtain⟨n,hn⟩:∃n,decide (9223372036854775808≤b)=n:=⟨_,rfl⟩;rw[hn];have HN:=hid hn;clear hX hY hT hn hz;have H:=Hp.start [] w
 by_cases h0:x=0
 ·rw[if_pos h0]at hmp;rw[if_pos h0,if_pos h0];subst h0;have hbl:bl y≤53:=zbC yb;have HM:Hid (y+4503599627370496=y+4503599627370496):=hid rfl;have HP:Hid ((y:Int)≠0∧ -(y:Int)≠0):=hid ⟨by omega,by omega⟩;clear hmp
  go_enter Tryz.func94,Tryz.ntmps94
  simp only[Int.not_lt,Int.not_le]at*;revert H;refine W15 ?_;intro _ g w1 hg H hf _ _ _ _;(refine xK H (zaD _ hb HX HY) ?_;clear H;intro w1 hF H);simp only[Int.not_lt,Int.not_le]at*;revert H;refine W19 ?_;intro H _ _ _ _;(refine x_c H (zO _ ((y:Nat):Int) yl) ?_;clear H;rintro e w1 ⟨v4,rfl,hF,hB⟩ H;replace hF:=hF.kp;replace hB:=hB.c;rw[Int.natAbs_natCast]at hB;obtain⟨b4,p4,m4,c4,rfl⟩:=hB.form;have HB4:=hid hB;clear hB);simp only[Int.not_lt,Int.not_le]at*;revert H;refine W15 ?_;intro g _ hg hf w1 H hk _ _ _ _ _ _;(refine x_c H (zcH _ b hb) ?_;clear H;rintro e w1 ⟨rfl,hF⟩ H;replace hF:=hF.kp;rw[HN.out])
  cases n
  ·simp only[Int.not_lt,Int.not_le]at*;revert H;refine W15 ?_;intro H _ _ _ _;(refine x_c H (zdI (bv HB4).ar yb yW yb (HT.out.fr H.fr) HP.out.1) ?_;clear H;rintro e w1 ⟨v5,rfl,hF,hD⟩ H;replace hF:=hF.kp;obtain⟨m5,e5,b5,p5,n5,c5,rfl,hN,hB,ho5⟩:=hD;have HN5:=hid hN;have HB5:=hid hB;have HO5:=hid ho5;clear hN hB ho5);simp only[Int.not_lt,Int.not_le]at*;revert H;refine W15 ?_;intro w1 H hk;refine zk H rfl rfl rfl ?_;exact⟨_,rfl,H.fr,_,_,_,_,_,_,rfl,HN5.out,bv HB5,HO5.out⟩
  ·simp only[Int.not_lt,Int.not_le]at*;revert H;refine W15 ?_;intro H _ _;(refine x_c H (za7 (bv HB4).ar yb) ?_;clear H;rintro e w1 ⟨v6,rfl,hF,hB⟩ H;replace hF:=hF.kp;obtain⟨b6,p6,m6,c6,rfl⟩:=hB.form;have HB6:=hid hB;clear hB);simp only[Int.not_lt,Int.not_le]at*;revert H;refine W15 ?_;intro w1 H hk _ _ _ _;(refine x_c H (zdI (bv HB6).ar yb yN yb (HT.out.fr H.fr) HP.out.2) ?_;clear H;rintro e w1 ⟨v5,rfl,hF,hD⟩ H;replace hF:=hF.kp;obtain⟨m5,e5,b5,p5,n5,c5,rfl,hN,hB,ho5⟩:=hD;have HN5:=hid hN;have HB5:=hid hB;have HO5:=hid ho5;clear hN hB ho5);simp only[Int.not_lt,Int.not_le]at*;revert H;refine W15 ?_;intro w1 H hk;refine zk H rfl rfl rfl ?_;exact⟨_,rfl,H.fr,_,_,_,_,_,_,rfl,HN5.out,bv HB5,HO5.out⟩
 ·rw[if_neg h0,if_neg h0];obtain⟨M,hM⟩:∃M,y+4503599627370496=M:=⟨_,rfl⟩;have HM:=hid hM;have hMb:M<9007199254740992:=by omega
  rw[hM];have hbl:bl M≤53:=zbC yb;have HP:Hid ((M:Int)≠0∧ -(M:Int)≠0):=hid ⟨by omega,by omega⟩;clear hM hmp
  go_enter Tryz.func94,Tryz.ntmps94
  revert H;refine W15 ?_;intro _ g w1 hg H hf _ _ _ _;(refine xK H (zaD _ hb HX HY) ?_;clear H;intro w1 hF H);simp only[Int.not_lt,Int.not_le]at*;revert H;refine W19 ?_;intro H _ _ _ _;(refine x_c H (zO _ ((M:Nat):Int) yl) ?_;clear H;rintro e w1 ⟨v4,rfl,hF,hB⟩ H;replace hF:=hF.kp;replace hB:=hB.c;rw[Int.natAbs_natCast]at hB;obtain⟨b4,p4,m4,c4,rfl⟩:=hB.form;have HB4:=hid hB;clear hB);simp only[Int.not_lt,Int.not_le]at*;revert H;refine W15 ?_;intro g _ hg hf w1 H hk _ _ _ _ _ _;(refine x_c H (zcH _ b hb) ?_;clear H;rintro e w1 ⟨rfl,hF⟩ H;replace hF:=hF.kp;rw[HN.out])
  cases n
  ·simp only[Int.not_lt,Int.not_le]at*;revert H;refine W15 ?_;intro H _ _ _ _;(refine x_c H (zdI (bv HB4).ar yb yW yb (HT.out.fr H.fr) HP.out.1) ?_;clear H;rintro e w1 ⟨v5,rfl,hF,hD⟩ H;replace hF:=hF.kp;obtain⟨m5,e5,b5,p5,n5,c5,rfl,hN,hB,ho5⟩:=hD;have HN5:=hid hN;have HB5:=hid hB;have HO5:=hid ho5;clear hN hB ho5);simp only[Int.not_lt,Int.not_le]at*;revert H;refine W15 ?_;intro w1 H hk;refine zk H rfl rfl rfl ?_;exact⟨_,rfl,H.fr,_,_,_,_,_,_,rfl,HN5.out,bv HB5,HO5.out⟩
  ·simp only[Int.not_lt,Int.not_le]at*;revert H;refine W15 ?_;intro H _ _;(refine x_c H (za7 (bv HB4).ar yb) ?_;clear H;rintro e w1 ⟨v6,rfl,hF,hB⟩ H;replace hF:=hF.kp;obtain⟨b6,p6,m6,c6,rfl⟩:=hB.form;have HB6:=hid hB;clear hB);simp only[Int.not_lt,Int.not_le]at*;revert H;refine W15 ?_;intro w1 H hk _ _ _ _;(refine x_c H (zdI (bv HB6).ar yb yN yb (HT.out.fr H.fr) HP.out.2) ?_;clear H;rintro e w1 ⟨v5,rfl,hF,hD⟩ H;replace hF:=hF.kp;obtain⟨m5,e5,b5,p5,n5,c5,rfl,hN,hB,ho5⟩:=hD;have HN5:=hid hN;have HB5:=hid hB;have HO5:=hid ho5;clear hN hB ho5);simp only[Int.not_lt,Int.not_le]at*;revert H;refine W15 ?_;intro w1 H hk;refine zk H rfl rfl rfl ?_;exact⟨_,rfl,H.fr,_,_,_,_,_,_,rfl,HN5.out,bv HB5,HO5.out⟩
def DnI(w:World)(v:Value)(Z:Int):Prop:=∃(m:Int) (k:Nat) (b:Bool) (p:Option Addr) (n c:Nat),v= .agg #[.bool false, .bool b, .slice p n c, .int .i64 (k:Int)]∧Z=m*2^k∧(m.natAbs%2=1∨(m=0∧k=0))∧k≤2000∧bl m.natAbs≤53∧Bv w (.agg #[.bool b, .slice p n c]) m (bl m.natAbs)
def dni{w w':World}{v:Value}{Z:Int}(h:Hid (DnI w v Z))(k:Kp w w':=by repeat first|assumption|exact Kp.refl _|refine Kp.trans ?_ yo):DnI w' v Z:=by
 obtain⟨m,e,b,p,n,c,rfl,h1,h2,h3,h4,h⟩:=h.out;exact⟨m,e,b,p,n,c,rfl,h1,h2,h3,h4,bv (hid h) k⟩
def zln(w:World){v:Nat}{Z:Int}(hv:v<18446744073709551616)(hf:zS v=true)(hI:zfy v Z)(hT:La w):
 Calls Tryz.prog 94 #[.int .u64 (v:Int)] w fun r w'=>∃d,r= .returned d∧Fr [] w w'∧DnI w' d Z:=by
 have hk:v/4503599627370496%2048≠2047:=by
  unfold zS at hf
  simpa using hf
 have hb:v%9223372036854775808<9218868437227405312:=by omega
 unfold zfy at hI
 by_cases h0:v%9223372036854775808=0
 ·refine Calls.mono (zhN w hv hk hT) ?_;rintro r w' ⟨d,rfl,hF,m,e',b,p,n,c,rfl,hN,hB⟩;rw[h0,show zA 0=0 from by decide,zfJ]at hN hI
  rcases hN with⟨_,rfl,rfl⟩|⟨g,_⟩
  ·refine⟨_,rfl,hF,0,0,b,p,n,c,rfl,?_, .inr ⟨rfl,rfl⟩,by omega,by decide,hB⟩;rw[Int.zero_mul]at hI ⊢
   rcases Int.mul_eq_zero.1 hI.symm with g|g
   ·exact g
   ·exact absurd g (Int.ne_of_gt (Int.pow_pos yf))
  ·exact absurd rfl g
 ·refine Calls.mono (zsM w hv hk h0 hT) ?_;rintro r w' ⟨d,rfl,hF,m,e',b,p,n,c,rfl,hN,hB,hO⟩;obtain⟨g1,g2⟩:=zri hN (.inr hO) hI;have hm:=zlG (b:=v%9223372036854775808);have he:=zjd hb;have hl:=hN.le;rw[za0]at hl;have hbl:bl (zA (v%9223372036854775808))≤53:=zbC yb;obtain⟨k,rfl⟩:=Int.eq_ofNat_of_zero_le g1;exact⟨_,rfl,hF,m,k,b,p,n,c,rfl,by simpa using g2, .inl hO,by omega,by omega,hB⟩
end
section
variable {Z:Int} {v:Nat}
open Go.RowKit
def zto{m e m2 e2:Int}(h:Nm m e m2 e2)(ho:m.natAbs%2=1∨(m=0∧e=0)):m2=m∧e2=e:=by
 rcases h with⟨h1,h2,h3⟩|⟨h1,t,h2,h3⟩
 ·subst h1
  rcases ho with g|⟨_,g⟩
  ·simp at g
  ·exact⟨h2,by rw[h3,g]⟩
 ·rcases ho with g|⟨g,_⟩
  ·cases t with
   | zero=>exact⟨by rw[h2];simp,by rw[h3];simp⟩
   | succ s=>
    exfalso
    have:m=m2*2^s*2:=by rw[h2,Int.pow_succ,Int.mul_assoc]
    rw[this,Int.natAbs_mul]at g
    simp at g
  ·exact absurd g h1
def znf{w:World}{d:Value}(h:DnI w d Z)(hT:La w):
 Calls Tryz.prog 96 #[d] w fun r w'=>∃u n,r= .returned (.tuple #[u, .bool true])∧Fr [] w w'∧n≤3000∧Bv w' u Z n:=by
 obtain⟨m,k,b,p,n,c,rfl,hZ,ho,hk,hbl,hB⟩:=h;have HB0:=hid hB;have HT:=hid hT;have HZ:=hid hZ;have HO:=hid ho;clear hB hT hZ ho;have H:=Hp.start [] w
 go_enter Tryz.func96,Tryz.ntmps96
 revert H;refine W15 ?_;intro _ _ _ _ _ g w1 hg H hf _ _ _ _;(refine x_c H (zfw (bv HB0).ar yb (e:=(k:Int)) yb yb (HT.out.fr H.fr)) ?_;clear H;rintro e w1 ⟨v3,rfl,hF,hD⟩ H;replace hF:=hF.kp;obtain⟨m3,e3,b3,p3,n3,c3,rfl,hN,hB⟩:=hD;have HN3:=hid hN;have HB3:=hid hB;clear hN hB);obtain⟨rfl,rfl⟩:=zto HN3.out (HO.out.imp id (fun h=>⟨h.1,by rw[h.2];rfl⟩));simp only[Int.not_lt,Int.not_le]at*;revert H;refine W15 ?_;intro w1 H hk _ _ _ _;(refine x_c H (zeu k (bv HB3).ar yb yb) ?_;clear H;rintro e w1 ⟨v5,rfl,hF,hB⟩ H;replace hF:=hF.kp;obtain⟨b5,p5,m5,c5,rfl⟩:=hB.form;have HB5:=hid hB;clear hB);simp only[Int.not_lt,Int.not_le]at*;revert H;refine W15 ?_;intro g _ hg hf _ _ w1 H hk;refine zi H rfl rfl rfl rfl ?_;exact⟨_,bl m3.natAbs+k,rfl,H.fr,by omega,by rw[HZ.out];exact bv HB5⟩
def zfq(field v:Nat)(l:List UInt8):Prop:=zaT l∧l.length≤2000∧zai field l=some v
def znt(w:World)(hv:v<18446744073709551616)(hf:zS v=true)(hT:La w):
 Calls Tryz.prog 49 #[.int .u64 (v:Int), .int .i64 0] w fun r w'=>∃l,r= .returned (ze l)∧Fr [] w w'∧zfq 0 v l:=by
 have HF:=hid hf;have HT:=hid hT;clear hf hT;have H:=Hp.start [] w
 go_enter Tryz.func49,Tryz.ntmps49
 revert H;refine W15 ?_;intro H _ _ _ _ _;(refine x_c H (zk0 _ hv HF.out (HT.out.fr H.fr)) ?_;clear H;rintro e w1 ⟨l,rfl,hF,h1,h2,h3⟩ H;replace hF:=hF.kp;have HR:=hid (show zfq 0 v l from⟨h2,by omega,zpK h1 HF.out yf⟩);clear h1 h2 h3);simp only[Int.not_lt,Int.not_le]at*;revert H;refine W15 ?_;intro H
 go_ret
 exact⟨l,rfl,H.fr,HR.out⟩
def zod(w:World)(hv:v<18446744073709551616)(hf:zS v=true)(hI:zfy v Z)(hfv:zai 1 (fmt Z)=some v)(hZ:Z.natAbs<2^1024)(hT:La w):
 Calls Tryz.prog 49 #[.int .u64 (v:Int), .int .i64 1] w fun r w'=>∃l,r= .returned (ze l)∧Fr [] w w'∧zfq 1 v l:=by
 have HF:=hid hf;have HT:=hid hT;have HI:=hid hI;have HR:=hid (show zfq 1 v (fmt Z)from⟨ziy Z,Nat.le_trans (zi1 hZ) yf,hfv⟩);clear hf hT hI hfv hZ;have H:=Hp.start [] w
 go_enter Tryz.func49,Tryz.ntmps49
 revert H;refine W15 ?_;intro H _ _ _ _ _ _ _;(refine x_c H (zln _ hv HF.out HI.out (HT.out.fr H.fr)) ?_;clear H;rintro e w1 ⟨d,rfl,hF,hD⟩ H;replace hF:=hF.kp;have HD:=hid hD;obtain⟨m0,k0,b0,p0,n0,c0,hd0,hz0,_⟩:=hD;have HZ0:=hid hz0;clear hz0;subst hd0);simp only[Int.not_lt,Int.not_le]at*;revert H;refine W15 ?_;intro H _ _;(refine x_c H (znf (dni HD) (HT.out.fr H.fr)) ?_;clear H;rintro e w1 ⟨u,n,rfl,hF,hn,hB⟩ H;replace hF:=hF.kp;obtain⟨b6,p6,m6,c6,rfl⟩:=hB.form;have HB6:=hid hB;clear hB);simp only[Int.not_lt,Int.not_le]at*;revert H;refine W15 ?_;intro g _ hg hf w1 H hk _ _ _ _;(refine xK H (ziB (bv HB6).ar yb (HT.out.fr H.fr).2) ?_;clear H;intro w1 hF H);simp only[Int.not_lt,Int.not_le]at*;revert H;refine W15 ?_;intro H
 go_ret
 exact⟨_,rfl,H.fr,by first|exact HR.out|(rw[←HZ0.out];exact HR.out)⟩
def zn1(w:World)(v:Nat)(h1:v=4607182418800017408):
 Calls Tryz.prog 47 #[.int .u64 (v:Int), .int .i64 2] w fun r w'=>r= .returned (.bool true)∧Fr [] w w':=by
 subst h1;have H:=Hp.start [] w
 go_enter Tryz.func47,Tryz.ntmps47
 revert H;refine W15 ?_;intro H _ _ _
 go_ret
 exact⟨rfl,H.fr⟩
def zpL(w:World)(v:Nat):
 Calls Tryz.prog 47 #[.int .u64 (v:Int), .int .i64 0] w fun r w'=>r= .returned (.bool true)∧Fr [] w w':=by
 have H:=Hp.start [] w
 go_enter Tryz.func47,Tryz.ntmps47
 revert H;refine W15 ?_;intro H
 go_ret
 exact⟨rfl,H.fr⟩
def zoX(w:World)(hv:v<18446744073709551616)(hf:zS v=true)(hI:zfy v Z)(hz:v≠9223372036854775808)(hT:La w):
 Calls Tryz.prog 47 #[.int .u64 (v:Int), .int .i64 1] w fun r w'=>r= .returned (.bool true)∧Fr [] w w':=by
 have HF:=hid hf;have HT:=hid hT;have HI:=hid hI;have hz':¬(v:Int)=9223372036854775808:=by omega
 clear hf hT hI hz;have H:=Hp.start [] w
 go_enter Tryz.func47,Tryz.ntmps47
 revert H;refine W15 ?_;intro H _ _ _ _ _ _ _;(refine x_c H (zln _ hv HF.out HI.out (HT.out.fr H.fr)) ?_;clear H;rintro e w1 ⟨d,rfl,hF,hD⟩ H;replace hF:=hF.kp;obtain⟨m0,k0,b0,p0,n0,c0,hd0,_⟩:=hD;subst hd0);simp only[Int.not_lt,Int.not_le]at*;revert H;refine W15 ?_;intro g _ hg hf w1 H hk
 go_ret
 exact⟨rfl,H.fr⟩
end
section
open Go.RowKit
attribute [local irreducible] wpList Code.wp Plan.wp zat zal pre zN
section
variable {P:Program} {a:Act} {w:World} {o:Oper}
def zgT{t:TypeId}{x y y2:Operand}(ho:o.op= .slice t x (some y) (some y2) none){b n c:Nat}(hx:a.eval x= .slice (some ⟨b,0,none⟩) n c){k k2:IntKind}{i j:Nat}(hy:a.eval y= .int k (i:Int))(hy2:a.eval y2= .int k2 (j:Int)){e:TypeId}{z:List Value}{by':Nat}[h:Si P t e z 1 by'](m:Nat)(hij:i+m=j)(h2:j≤c)(h3:i<c):(execOp a.eval o).run P w= .ok (.value (.slice (some ⟨b,i,none⟩) m (c-i))) w:=by
 have:=zfz (P:=P) (w:=w) ho hx hy hy2 yb yb yb
 rw[if_neg yb]at this;rw[this];have e1:((j:Int).toNat-(i:Int).toNat)=m:=by omega
 have e2:0+(i:Int).toNat*1=i:=by omega
 rw[e1,e2]
 rfl
def zcY(w:World){g q n c t k:Nat}(xs:List Nat)(hn:xs.length=n)(hn2:n≤100000)(hs:xs.Pairwise (· <·))(hc:∀j u,xs[j]? =some u→w.cell? ⟨g,q+j,none⟩=some (iV u))(hk:xs[k]? =some t):
 Calls Tryz.prog 91 #[.slice (some ⟨g,q,none⟩) n c, .int .i64 (t:Int)] w fun e w'=>e= .returned (.tuple #[.int .i64 (k:Int), .bool true])∧Fr [] w w':=by
 refine Calls.mono (zkI w xs hn hn2 hs fun j u hj=>⟨g,q,rfl,hc j u hj⟩) ?_;rintro e w' ⟨i,rfl,hF,hL⟩;obtain rfl:=hL.hit hs hk;exact⟨by rw[hk];simp,hF⟩
end
def ziZ{L:List En}(h:L.Pairwise apE):L.Nodup:=h.imp fun {a b} k e=>k (by rw[e];exact⟨rfl,rfl⟩)
def zqn{L:List En}{m n:Nat}(h:okM m n L):(entP L m n).length=L.length:=
 ((List.perm_ext_iff_of_nodup (ziZ ((zaS L m n).imp fun k=>k.ap)) (ziZ h.1)).2 (zdA h.1 (fun x hx=>⟨(h.2 x hx).1,(h.2 x hx).2.1⟩))).length_eq
def zbJ{S:List En}{n j:Nat}(h:j≤n):(((List.range (n+1)).map (pre S)).map iV)[j]? =some (.int .i64 (pre S j:Int)):=by
 rw[List.getElem?_map,List.getElem?_map,List.getElem?_range yb]
 rfl
def zi3(w:World)(rows cols:Nat)(hr2:rows≤200)(hc2:cols≤200){p:Option Addr}{c:Nat}(E:List En)(hE:E.length≤10000)(hok:okM rows cols E)(hR:EntR w p E)(hT:La w):
 Calls Tryz.prog 77 #[.int .i64 (rows:Int), .int .i64 (cols:Int), .slice p E.length c] w (zrv rows cols ((List.range (cols+1)).map (pre (entP E rows cols))) ((entP E rows cols).map (·.1)) ((entP E rows cols).map (·.2.2)) w):=by
 have HR:=hid hR;have HSO:=hid (zaS E rows cols);have HMEM:=hid (fun x=>zdA hok.1 (fun x hx=>⟨(hok.2 x hx).1,(hok.2 x hx).2.1⟩) x (n:=cols));have HOK:=hid hok.2;have hSE:=zqn hok;obtain⟨S,hS⟩:∃S,entP E rows cols=S:=⟨_,rfl⟩;rw[hS]at HSO HMEM hSE ⊢;have HS0:=hid hS;clear hS;have H:=Hp.start [] w
 go_enter Tryz.func77,Tryz.ntmps77
 go_wp2_with(first|refine x_q H ?_|refine x_l H ?_|refine zm ?_ ?_<;>intro h|(revert H;(first|(refine x_g ?_;(first|(have hh:=g5;clear hh;intro g6 w1 hg hf H)|(have hh:=g4;clear hh;intro g5 w1 hg hf H)|(have hh:=g3;clear hh;intro g4 w1 hg hf H)|(have hh:=g2;clear hh;intro g3 w1 hg hf H)|(have hh:=g1;clear hh;intro g2 w1 hg hf H)|(have hh:=g0;clear hh;intro g1 w1 hg hf H)|intro g0 w1 hg hf H))|(refine x_s ?_;intro w1 hf H)|(refine zau ?_;intro w1 hf H hk;clear hf hk));(first|replace hf:=hf.kp|clear hf)))
 refine Calls.mono (zg4 _ rows cols hr2 hc2 E hE hok (HR.out.fr H.fr) (hT.fr H.fr)) ?_;rintro e w1 ⟨v1,v2,v3,B,rfl,hF,hM,hB⟩;clear hok hR hT;rw[HS0.out]at hM;obtain⟨S1,S2,S3,H1⟩:=H.mat 1 2 3 hF hM hB;clear H hF hM hB HS0;have H:=H1;clear H1;have HN0:∃N,S.length=N:=⟨_,rfl⟩;obtain⟨N,hN⟩:=HN0;rw[List.length_map,List.length_map,List.length_map,List.length_map,List.length_range,hN,←zoS E S]at H;have HN:=hid hN;have hN20:N≤10000:=by omega
 clear hN hSE;obtain⟨g1',c1',rfl,rfl⟩:=(H.rowo 1).some yb;obtain⟨p2,c2,rfl,hc2',_⟩:=(H.rowo 2).form;obtain⟨p3,c3,rfl,hc3',_⟩:=(H.rowo 3).form
 go_wp2_with(first|refine x_q H ?_|refine x_l H ?_|refine zm ?_ ?_<;>intro h|(revert H;(first|(refine x_g ?_;(first|(have hh:=g5;clear hh;intro g6 w1 hg hf H)|(have hh:=g4;clear hh;intro g5 w1 hg hf H)|(have hh:=g3;clear hh;intro g4 w1 hg hf H)|(have hh:=g2;clear hh;intro g3 w1 hg hf H)|(have hh:=g1;clear hh;intro g2 w1 hg hf H)|(have hh:=g0;clear hh;intro g1 w1 hg hf H)|intro g0 w1 hg hf H))|(refine x_s ?_;intro w1 hf H)|(refine zau ?_;intro w1 hf H hk;clear hf hk));(first|replace hf:=hf.kp|clear hf)))
 go_loopw [22] (fun s22 wr=>∃k:Nat,s22= .int .i64 (k:Int)∧k≤E.length∧Hp [] w wr [.obj 3 S3 (RowAt 51 1 (.slice p3 N c3) N ((S.map (zb8 E k)).map uV) S3), .obj 1 [g1'] (RowAt 3 1 (.slice (some ⟨g1',0,none⟩) (cols+1) c1') (cols+1) (((List.range (cols+1)).map (pre S)).map iV) [g1']), .obj 2 S2 (RowAt 3 1 (.slice p2 N c2) N ((S.map (·.1)).map iV) S2), .blk g1 [iV rows,iV cols, .slice (some ⟨g1',0,none⟩) (cols+1) c1', .slice p2 N c2, .slice p3 N c3] 28, .blk g0 [.int .i64 0, .int .i64 0, .slice none 0 0, .slice none 0 0, .slice none 0 0] 28]) (fun v _=>E.length-(intOf v).toNat)
 case atStart=>exact⟨0,rfl,Nat.zero_le _,H.arr ye⟩
 case round=>
  clear H;obtain⟨k,rfl,hk,H⟩:=hrel
  by_cases hlt:k<E.length
  ·obtain⟨⟨xr,xc,xv⟩,hx⟩:∃x,E[k]? =some x:=⟨_,List.getElem?_eq_getElem hlt⟩;have hxb:=HOK.out _ (List.mem_of_getElem? hx);simp only at hxb;have hv64:=hxb.2.2.2;have hxc:=hxb.2.1;obtain⟨g,hg⟩:=HR.out.some hx;subst hg;have HX:=hid hx
   by_cases hz:xv=9223372036854775808
   ·subst hz;obtain⟨q,hq⟩:=List.mem_iff_getElem?.1 ((HMEM.out _).2 (List.mem_of_getElem? hx));obtain⟨kx,hqk,hkc,hkx⟩:=zeO HSO.out hq;simp only at hqk hkc hkx;have HQ:=hid hq;have hpn:=zbS S xc;have hple:=zd6 S (xc+1);rw[HN.out]at hple;obtain⟨A,hA⟩:∃A,pre S xc=A:=⟨_,rfl⟩;obtain⟨C,hC⟩:∃C,zN S xc=C:=⟨_,rfl⟩;obtain⟨Bn,hBn⟩:∃Bn,pre S (xc+1)=Bn:=⟨_,rfl⟩;have hs1:(((List.range (cols+1)).map (pre S)).map iV)[xc]? =some (.int .i64 (A:Int)):=by rw[←hA];exact zbJ yb
    have hs2:(((List.range (cols+1)).map (pre S)).map iV)[xc+1]? =some (.int .i64 (Bn:Int)):=by rw[←hBn];exact zbJ yb
    have hrows:=zcX HSO.out xc;rw[hA,hC]at hrows hkx hpn;rw[hBn]at hpn hple;rw[hA]at hqk;rw[hC]at hkc;have HROW:=hid hrows;have HKX:=hid (show(((S.drop A).take C).map (·.1))[kx]? =some xr by rw[List.getElem?_map,hkx];rfl);have hlen:(((S.drop A).take C).map (·.1)).length=C:=by rw[List.length_map,List.length_take,List.length_drop,HN.out];omega
    have HLEN:=hid hlen;have HQK:=hid hqk;have hqN:q<N:=by rw[←HN.out];exact(List.getElem?_eq_some_iff.1 hq).1
    obtain⟨g2',c2'',he2,rfl⟩:=(H.rowo 2).some yb
    cases he2
    have HC1:=hid (show(xc:Int)+1=((xc+1:Nat):Int) by omega)
    have HCOL:=hid (fun wr (h:RowAt 3 1 (.slice (some ⟨g2',0,none⟩) N c2) N ((S.map (·.1)).map iV) [g2'] wr) (j u:Nat) (hj:(((S.drop A).take C).map (·.1))[j]? =some u)=>show wr.cell? ⟨g2',A+j,none⟩=some (iV u)from h.cell (by
     have hjl:=(List.getElem?_eq_some_iff.1 hj).1;rw[List.length_map,List.length_take,List.length_drop]at hjl;rw[List.getElem?_map,List.getElem?_take_of_lt yb,List.getElem?_drop]at hj;rw[List.getElem?_map,List.getElem?_map]
     cases hy:S[A+j]? with
     | none=>rw[hy]at hj;cases hj
     | some y=>rw[hy]at hj;cases hj;rfl))
    have hNC:=hid hlen;clear hx hxb hq hkx hrows hlen hA hC hBn hqk;have HPN:=hid hpn;have HPL:=hid hple;have hkcC:kx<C:=hkc;have hBl:Bn≤N:=hple;have hA20:A≤10000:=by omega
    have hC20:C≤10000:=by omega
    clear hpn hple hkc;have HQ1:=hid (show(A:Int)+(kx:Int)=(q:Int) by rw[HQK.out];omega);obtain⟨g3',c3'',pad,he3,hS3,hn3,hm3,hl3,H1⟩:=H.rowOpen 3 yb
    cases he3
    subst hS3;clear H;have H:=H1;clear H1;have hqlen:q<((S.map (zb8 E k)).map uV++pad).length:=by rw[List.length_append,List.length_map,List.length_map,HN.out];omega
    have HP3:=hid (And.intro hn3 (And.intro hm3 hl3));clear hn3 hm3 hl3
    go_wp2_with(first|refine x_e (zvL rfl rfl (HR.out.fr H.fr) HX.out) ?_|refine x_q H ?_|refine x_l H ?_|refine zm ?_ ?_<;>intro h|(revert H;(first|(refine x_g ?_;(first|(have hh:=g5;clear hh;intro g6 w1 hg hf H)|(have hh:=g4;clear hh;intro g5 w1 hg hf H)|(have hh:=g3;clear hh;intro g4 w1 hg hf H)|(have hh:=g2;clear hh;intro g3 w1 hg hf H)|(have hh:=g1;clear hh;intro g2 w1 hg hf H)|(have hh:=g0;clear hh;intro g1 w1 hg hf H)|intro g0 w1 hg hf H))|(refine x_s ?_;intro w1 hf H)|(refine zau ?_;intro w1 hf H hk;clear hf hk));(first|replace hf:=hf.kp|clear hf)))
    (revert H;refine w_p 24 (.st 0 (.st 1 (.st 2 (.st 3 (.st 4 (.st 5 (.st 6 (.st 7 (.st 8 (.st 9 (.st 10 (.st 11 (.st 12 (.st 13 (.st 14 (.st 15 (.st 16 (.st 17 (.ld 18 (.st 19 (.st 20 (.st 21 (.st 22 (.st 23 .done)))))))))))))))))))))))) ?_;intro w1 H)
    iterate 6 refine p_q ?_
    (refine p_e rfl (fun w H=>zY xc xc rfl rfl rfl (hid rfl)) ?_);(refine p_e rfl (fun w H=>zce rfl rfl (H.rowo 1) hs1) ?_)
    iterate 5 refine p_q ?_
    (refine p_e rfl (fun w H=>zY (xc+1) (xc+1) rfl rfl rfl HC1) ?_);(refine p_e rfl (fun w H=>zce rfl rfl (H.rowo 1) hs2) ?_);(refine p_e rfl (fun w H=>zgT rfl rfl rfl rfl C yL yb yL) ?_)
    iterate 2 refine p_q ?_
    (refine p_c H rfl rfl Tryz.func91 (zcY _ (((S.drop A).take C).map (·.1)) HLEN.out yb HROW.out (HCOL.out _ (H.rowo 2)) HKX.out) ?_;clear H;rintro e w1 ⟨rfl,hF⟩ H;refine p_r ?_;clear hF)
    iterate 5 refine p_q ?_
    (refine zf ?_)
    go_wp2_with(first|refine x_q H ?_|refine x_l H ?_|refine zm ?_ ?_<;>intro h|(revert H;(first|(refine x_g ?_;(first|(have hh:=g5;clear hh;intro g6 w1 hg hf H)|(have hh:=g4;clear hh;intro g5 w1 hg hf H)|(have hh:=g3;clear hh;intro g4 w1 hg hf H)|(have hh:=g2;clear hh;intro g3 w1 hg hf H)|(have hh:=g1;clear hh;intro g2 w1 hg hf H)|(have hh:=g0;clear hh;intro g1 w1 hg hf H)|intro g0 w1 hg hf H))|(refine x_s ?_;intro w1 hf H)|(refine zau ?_;intro w1 hf H hk;clear hf hk));(first|replace hf:=hf.kp|clear hf)))
    (revert H;refine w_p 11 (.st 0 (.st 1 (.st 2 (.st 3 (.st 4 (.st 5 (.st 6 (.st 7 (.st 8 (.st 9 (.st 10 (.ld 11 .done)))))))))))) ?_;intro w1 H)
    iterate 6 refine p_q ?_
    (refine p_e rfl (fun w H=>zY xc xc rfl rfl rfl (hid rfl)) ?_);(refine p_e rfl (fun w H=>zce rfl rfl (H.rowo 1) hs1) ?_)
    iterate 2 refine p_q ?_
    (refine p_e rfl (fun w H=>zY q q rfl rfl rfl HQ1) ?_)
    (revert H;refine p_s ?_;intro w1 hf H;(first|replace hf:=hf.kp|clear hf))
    (refine zf ?_)
    go_wp2_with(first|refine x_q H ?_|refine x_l H ?_|refine zm ?_ ?_<;>intro h|(revert H;(first|(refine x_g ?_;(first|(have hh:=g5;clear hh;intro g6 w1 hg hf H)|(have hh:=g4;clear hh;intro g5 w1 hg hf H)|(have hh:=g3;clear hh;intro g4 w1 hg hf H)|(have hh:=g2;clear hh;intro g3 w1 hg hf H)|(have hh:=g1;clear hh;intro g2 w1 hg hf H)|(have hh:=g0;clear hh;intro g1 w1 hg hf H)|intro g0 w1 hg hf H))|(refine x_s ?_;intro w1 hf H)|(refine zau ?_;intro w1 hf H hk;clear hf hk));(first|replace hf:=hf.kp|clear hf)))
    go_roundw
    case rel=>
     have e1:((S.map (zb8 E k)).map uV++pad).set q (.int .u64 9223372036854775808)=(S.map (zb8 E (k+1))).map uV++pad:=by
      rw[List.set_append_left _ _ (by rw[List.length_map,List.length_map,HN.out];exact hqN),←zp0 HSO.out HX.out rfl HQ.out,List.map_set]
      rfl
     have H1:=H.rowShut (g:=g3') 3 (sz:=1) (n:=N) (cap:=c3) (xs:=(S.map (zb8 E (k+1))).map uV) (pad:=pad) e1 y4 HP3.out.1 HP3.out.2.1 (by have h:=HP3.out.2.2;rw[List.length_append]at h ⊢;simpa using h) (.tail _ (.head _));exact⟨k+1,rfl,by omega,H1.arr ye⟩
    case measure=>(simp[intOf];try omega)
   ·have hz':¬(xv:Int)=9223372036854775808:=by omega
    have e1:=znO (S:=S) hx hz;clear hx hxb hz
    go_wp2_with(first|refine x_e (zvL rfl rfl (HR.out.fr H.fr) HX.out) ?_|refine x_q H ?_|refine x_l H ?_|refine zm ?_ ?_<;>intro h|(revert H;(first|(refine x_g ?_;(first|(have hh:=g5;clear hh;intro g6 w1 hg hf H)|(have hh:=g4;clear hh;intro g5 w1 hg hf H)|(have hh:=g3;clear hh;intro g4 w1 hg hf H)|(have hh:=g2;clear hh;intro g3 w1 hg hf H)|(have hh:=g1;clear hh;intro g2 w1 hg hf H)|(have hh:=g0;clear hh;intro g1 w1 hg hf H)|intro g0 w1 hg hf H))|(refine x_s ?_;intro w1 hf H)|(refine zau ?_;intro w1 hf H hk;clear hf hk));(first|replace hf:=hf.kp|clear hf)))
    go_roundw
    case rel=>exact⟨k+1,rfl,by omega,by rw[e1];exact H.arr ye⟩
    case measure=>(simp[intOf];try omega)
  ·have hke:k=E.length:=by omega
   rw[hke,zrf (fun x hx=>(HMEM.out x).1 hx)]at H;clear hke
   go_wp2_with(first|refine x_q H ?_|refine x_l H ?_|refine zm ?_ ?_<;>intro h|(revert H;(first|(refine x_g ?_;(first|(have hh:=g5;clear hh;intro g6 w1 hg hf H)|(have hh:=g4;clear hh;intro g5 w1 hg hf H)|(have hh:=g3;clear hh;intro g4 w1 hg hf H)|(have hh:=g2;clear hh;intro g3 w1 hg hf H)|(have hh:=g1;clear hh;intro g2 w1 hg hf H)|(have hh:=g0;clear hh;intro g1 w1 hg hf H)|intro g0 w1 hg hf H))|(refine x_s ?_;intro w1 hf H)|(refine zau ?_;intro w1 hf H hk;clear hf hk));(first|replace hf:=hf.kp|clear hf)))
   refine zk H rfl rfl rfl ?_;have H3:Hp [] w w1 [.obj 1 [g1'] (RowAt 3 1 (.slice (some ⟨g1',0,none⟩) (cols+1) c1') (cols+1) (((List.range (cols+1)).map (pre S)).map iV) [g1']), .obj 2 S2 (RowAt 3 1 (.slice p2 N c2) N ((S.map (·.1)).map iV) S2), .obj 3 S3 (RowAt 51 1 (.slice p3 N c3) N ((S.map (·.2.2)).map uV) S3)]:=H.arr ye;exact⟨_,_,_,[g1']++(S2++S3),rfl,H.fr,zea yX (H3.rowo 1) (H3.rowo 2) (H3.rowo 3) rfl rfl rfl yg y4 y4,fun x hx=>H3.fresh x (by simpa[Ent.own]using hx)⟩
end
end Go.Proofs.YtaijhllckmndhaaGreatDoor
