import Derived.Test.YtaijhllckmndhaaGreatDoorYJ0
import Derived.Test.YtaijhllckmndhaaGreatDoorYJ34
namespace Go.Proofs.YtaijhllckmndhaaGreatDoor
set_option linter.all false
set_option maxHeartbeats 64000000
set_option maxRecDepth 100000
section
variable {w:World} {neg b more:Bool} {p:Option Addr} {kk c n m N:Nat} {ex mode:Int} {v:Value}
open Go.RowKit
def zqR{z:Int}(k:Nat)(hz:z=(k:Int))(h:Av w (.agg #[.bool b, .slice p kk c]) (m:Int) n)(hn:n≤200000)(hm:m≠0)(hb:bl m≤200000)(hk0:1≤k)(hk:k≤1048576):
 Calls Tryz.prog 297 #[.agg #[.bool neg, .bool b, .slice p kk c, .int .i64 ex, .bool more], .int .i64 z] w fun r w'=>∃v1,r= .returned (.tuple #[v1, .int .i64 (half m k more), .bool (decide (m%2^k=0∧more=false))])∧Fr [] w w'∧Bv w' v1 ((m/2^k:Nat):Int) (bl (m/2^k)):=by
 subst hz;exact zp5 h hn hm hb hk0 hk
def zcb(h:Bv w v (N:Int) n):Bv w v (sg false N) (bl N):=⟨h.1,by have:=zl0 (N:Int);rw[Int.natAbs_natCast]at this;exact this⟩
def zca(h:Bv w v (-(N:Int)) n):Bv w v (sg true N) (bl N):=⟨h.1,by have:=zl0 (-(N:Int));rw[Int.natAbs_neg,Int.natAbs_natCast]at this;exact this⟩
def zvg(neg:Bool)(c:Int)(o:Bool):rup neg 1 c o=neg:=rfl
def zvp(neg:Bool)(c:Int)(o:Bool):rup neg 2 c o= !neg:=rfl
def zvj(neg:Bool)(c:Int)(o:Bool):rup neg 3 c o=false:=rfl
def zvq{c:Int}{o:Bool}(h1:mode≠1)(h2:mode≠2)(h3:mode≠3):rup neg mode c o=(decide (0<c)||(decide (c=0)&&o)):=by
 unfold rup;rw[if_neg h1,if_neg h2,if_neg h3]
def zt5(h0:n≠0)(h:n%2≠1):∃j,tz n=j+1:=by
 have e:n=2*(n/2):=by omega
 exact⟨tz (n/2),by rw[e,zb1 yb];congr 2;omega⟩
def zmg(m k:Nat)(more:Bool):half m k more= -1∨half m k more=0∨half m k more=1:=by unfold half;(repeat' split)<;>simp
def zjN{w:World}{neg b more:Bool}{p:Option Addr}{kk c n:Nat}{m:Nat}{ex q mode:Int}(k:Nat)(hk:q-ex=(k:Int))(h:Av w (.agg #[.bool b, .slice p kk c]) (m:Int) n)(hn:n≤200000)(hm:m≠0)(hb:bl m≤150000)(hk0:1≤k)(hk1:k≤1048576)(hq: -2000000≤q∧q≤2000000)(hxr: -1000000≤ex∧ex≤1000000)(hT:La w):
 Calls Tryz.prog 246 #[.agg #[.bool neg, .bool b, .slice p kk c, .int .i64 ex, .bool more], .int .i64 q, .int .i64 mode] w fun r w'=>∃v1,r= .returned v1∧Fr [] w w'∧Bv w' v1 (sg neg (zfs neg mode m k more)) (bl (zfs neg mode m k more)):=by
 have HA1:=hid h;have HT:=hid hT;have HK:=hid hk;have hlt:ex<q:=by omega
 have hN1:bl (m/2^k)≤bl m:=zbe (Nat.div_le_self _ _);have HX:Hid (zfs neg mode m k more=if m%2^k=0∧more=false then m/2^k else if rup neg mode (half m k more) (m/2^k%2==1)then m/2^k+1 else m/2^k):=hid rfl;have h3:=zmg m k more;obtain⟨N,hN⟩:∃N,m/2^k=N:=⟨_,rfl⟩;obtain⟨hfv,hhf⟩:∃N,half m k more=N:=⟨_,rfl⟩;obtain⟨be,hbe⟩:∃N,decide (m%2^k=0∧more=false)=N:=⟨_,rfl⟩;have HBT:Hid (be=true→m%2^k=0∧more=false):=hid (fun h=>by rw[h]at hbe;exact of_decide_eq_true hbe);have HBF:Hid (be=false→¬(m%2^k=0∧more=false)):=hid (fun h=>by rw[h]at hbe;exact of_decide_eq_false hbe);rw[hN,hhf]at HX;rw[hN]at hN1;rw[hhf]at h3;have H3:=hid h3;have HN:=hid hN;have HHF:=hid hhf;have HBE:=hid hbe;obtain⟨X,hX⟩:∃N,zfs neg mode m k more=N:=⟨_,rfl⟩;rw[hX]at HX ⊢;clear h hT hk hN hhf hbe h3 hX;have H:=Hp.start [] w
 go_enter Tryz.func246,Tryz.ntmps246
 revert H;refine W15 ?_;intro _ _ _ _ _ _ _ _ _ g _ hg hf w1 H hk _ _ _ _;(refine x_c H (zqR k HK.out (HA1.out.fr H.fr) hn hm yb hk0 hk1) ?_;clear H;rintro e w1 ⟨v3,rfl,hF,hB⟩ H;replace hF:=hF.kp;rw[HN.out]at hB;rw[HHF.out,HBE.out];obtain⟨b3,p3,m3,c3,rfl⟩:=hB.form;have HB3:=hid hB;clear hB)
 cases be
 ·have HX1:=hid (HX.out.trans (if_neg (HBF.out rfl)));clear HX HBT HBF
  by_cases m1:mode=1
  ·subst m1;have HX2:Hid (X=if neg=true then N+1 else N):=hid (HX1.out.trans (by rw[zvg]));clear HX1
   cases neg
   ·have HX3:=hid (HX2.out.trans (if_neg yf));simp only[Int.not_lt,Int.not_le]at*;revert H;refine W15 ?_;intro _ _ w1 H hk;refine zk H rfl rfl rfl ?_;exact⟨_,rfl,H.fr,by rw[HX3.out];exact zcb (bv HB3)⟩
   ·have HX3:=hid (HX2.out.trans (if_pos rfl));simp only[Int.not_lt,Int.not_le]at*;revert H;refine W15 ?_;intro w1 H hk _ _
    (revert H;refine zR 3 (.st 0 (.ld 1 (.ld 2 (.ld 3 .done)))) ?_;intro w1 hf H;(first|replace hf:=hf.kp|clear hf))
    refine p_q ?_
    ((refine p_c H rfl rfl Tryz.func138 (zO _ 1 yl) ?_;clear H;rintro e w1 ⟨v4,rfl,hF,hB⟩ H;refine p_r ?_;replace hF:=hF.kp);obtain⟨b4,p4,m4,c4,rfl⟩:=hB.form;have HB4:=hid hB;clear hB)
    ((refine p_c H rfl rfl Tryz.func258 (zb9 (bv HB3).ar (bv HB4).ar yb yb) ?_;clear H;rintro e w1 ⟨v5,rfl,hF,hB⟩ H;refine p_r ?_;replace hF:=hF.kp);rw[show(N:Int)+1=((N+1:Nat):Int)from rfl]at hB;obtain⟨b5,p5,m5,c5,rfl⟩:=hB.form;have HB5:=hid hB;clear hB)
    (revert H;refine zZ ?_;intro w1 hf H hk;clear hf;change Kp _ _ at hk)
    (refine zf ?_)
    all_goals
     revert H;refine W15 ?_;intro H _ _ _ _;(refine x_c H (za7 (bv HB5).ar yb) ?_;clear H;rintro e w1 ⟨v6,rfl,hF,hB⟩ H;replace hF:=hF.kp;obtain⟨b6,p6,m6,c6,rfl⟩:=hB.form;have HB6:=hid hB;clear hB);simp only[Int.not_lt,Int.not_le]at*;revert H;refine W15 ?_;intro _ _ w1 H hk;refine zk H rfl rfl rfl ?_;exact⟨_,rfl,H.fr,by rw[HX3.out];exact zca (bv HB6)⟩
  ·by_cases m2:mode=2
   ·subst m2;have HX2:Hid (X=if(!neg)=true then N+1 else N):=hid (HX1.out.trans (by rw[zvp]));clear HX1
    cases neg
    ·have HX3:=hid (HX2.out.trans (if_pos rfl));simp only[Int.not_lt,Int.not_le]at*;revert H;refine W15 ?_;intro w1 H hk _ _
     (revert H;refine zR 3 (.st 0 (.ld 1 (.ld 2 (.ld 3 .done)))) ?_;intro w1 hf H;(first|replace hf:=hf.kp|clear hf))
     refine p_q ?_
     ((refine p_c H rfl rfl Tryz.func138 (zO _ 1 yl) ?_;clear H;rintro e w1 ⟨v4,rfl,hF,hB⟩ H;refine p_r ?_;replace hF:=hF.kp);obtain⟨b4,p4,m4,c4,rfl⟩:=hB.form;have HB4:=hid hB;clear hB)
     ((refine p_c H rfl rfl Tryz.func258 (zb9 (bv HB3).ar (bv HB4).ar yb yb) ?_;clear H;rintro e w1 ⟨v5,rfl,hF,hB⟩ H;refine p_r ?_;replace hF:=hF.kp);rw[show(N:Int)+1=((N+1:Nat):Int)from rfl]at hB;obtain⟨b5,p5,m5,c5,rfl⟩:=hB.form;have HB5:=hid hB;clear hB)
     (revert H;refine zZ ?_;intro w1 hf H hk;clear hf;change Kp _ _ at hk)
     (refine zf ?_)
     all_goals
      revert H;refine W15 ?_;intro w1 H hk;refine zk H rfl rfl rfl ?_;exact⟨_,rfl,H.fr,by rw[HX3.out];exact zcb (bv HB5)⟩
    ·have HX3:=hid (HX2.out.trans (if_neg yf));simp only[Int.not_lt,Int.not_le]at*;revert H;refine W15 ?_;intro w1 H hk _ _ _ _;(refine x_c H (za7 (bv HB3).ar yb) ?_;clear H;rintro e w1 ⟨v6,rfl,hF,hB⟩ H;replace hF:=hF.kp;obtain⟨b6,p6,m6,c6,rfl⟩:=hB.form;have HB6:=hid hB;clear hB);simp only[Int.not_lt,Int.not_le]at*;revert H;refine W15 ?_;intro _ _ w1 H hk;refine zk H rfl rfl rfl ?_;exact⟨_,rfl,H.fr,by rw[HX3.out];exact zca (bv HB6)⟩
   ·by_cases m3:mode=3
    ·subst m3;have HX3:Hid (X=N):=hid (HX1.out.trans (by rw[zvj];rfl));clear HX1
     cases neg
     ·simp only[Int.not_lt,Int.not_le]at*;revert H;refine W15 ?_;intro _ _ w1 H hk;refine zk H rfl rfl rfl ?_;exact⟨_,rfl,H.fr,by rw[HX3.out];exact zcb (bv HB3)⟩
     ·simp only[Int.not_lt,Int.not_le]at*;revert H;refine W15 ?_;intro w1 H hk _ _ _ _;(refine x_c H (za7 (bv HB3).ar yb) ?_;clear H;rintro e w1 ⟨v6,rfl,hF,hB⟩ H;replace hF:=hF.kp;obtain⟨b6,p6,m6,c6,rfl⟩:=hB.form;have HB6:=hid hB;clear hB);simp only[Int.not_lt,Int.not_le]at*;revert H;refine W15 ?_;intro _ _ w1 H hk;refine zk H rfl rfl rfl ?_;exact⟨_,rfl,H.fr,by rw[HX3.out];exact zca (bv HB6)⟩
    ·have HX2:Hid (X=if(decide (0<hfv)||(decide (hfv=0)&&(N%2==1)))=true then N+1 else N):=hid (HX1.out.trans (by rw[zvq m1 m2 m3]));clear HX1
     rcases H3.out with rfl|rfl|rfl
     ·have HX3:=hid (HX2.out.trans (if_neg yg))
      cases neg
      ·simp only[Int.not_lt,Int.not_le]at*;revert H;refine W15 ?_;intro _ _ w1 H hk;refine zk H rfl rfl rfl ?_;exact⟨_,rfl,H.fr,by rw[HX3.out];exact zcb (bv HB3)⟩
      ·simp only[Int.not_lt,Int.not_le]at*;revert H;refine W15 ?_;intro w1 H hk _ _ _ _;(refine x_c H (za7 (bv HB3).ar yb) ?_;clear H;rintro e w1 ⟨v6,rfl,hF,hB⟩ H;replace hF:=hF.kp;obtain⟨b6,p6,m6,c6,rfl⟩:=hB.form;have HB6:=hid hB;clear hB);simp only[Int.not_lt,Int.not_le]at*;revert H;refine W15 ?_;intro _ _ w1 H hk;refine zk H rfl rfl rfl ?_;exact⟨_,rfl,H.fr,by rw[HX3.out];exact zca (bv HB6)⟩
     ·by_cases n1:N%2=1
      ·have HX3:=hid (HX2.out.trans (if_pos (by simp[n1])));have HZ:=hid (zc1 n1);have HN0:=hid (show(N:Int)≠0 by omega);clear n1;simp only[Int.not_lt,Int.not_le]at*;revert H;refine W15 ?_;intro w1 H hk _ _ _ _;(refine x_c H (zbv (bv HB3).ar yb HN0.out) ?_;clear H;rintro e w1 ⟨s4,rfl,hs4,hF⟩ H;replace hF:=hF.kp;skip);simp only[Int.not_lt,Int.not_le]at*;revert H;refine W15 ?_;intro H _ _;(refine x_c H (zbK (bv HB3).ar yb (HT.out.fr H.fr).1) ?_;clear H;rintro e w1 ⟨rfl,hF⟩ H;replace hF:=hF.kp;rw[Int.natAbs_natCast,HZ.out])
       cases neg
       ·simp only[Int.not_lt,Int.not_le]at*;revert H;refine W15 ?_;intro H _ _
        (revert H;refine zR 3 (.st 0 (.ld 1 (.ld 2 (.ld 3 .done)))) ?_;intro w1 hf H;(first|replace hf:=hf.kp|clear hf))
        refine p_q ?_
        ((refine p_c H rfl rfl Tryz.func138 (zO _ 1 yl) ?_;clear H;rintro e w1 ⟨v4,rfl,hF,hB⟩ H;refine p_r ?_;replace hF:=hF.kp);obtain⟨b4,p4,m4,c4,rfl⟩:=hB.form;have HB4:=hid hB;clear hB)
        ((refine p_c H rfl rfl Tryz.func258 (zb9 (bv HB3).ar (bv HB4).ar yb yb) ?_;clear H;rintro e w1 ⟨v5,rfl,hF,hB⟩ H;refine p_r ?_;replace hF:=hF.kp);rw[show(N:Int)+1=((N+1:Nat):Int)from rfl]at hB;obtain⟨b5,p5,m5,c5,rfl⟩:=hB.form;have HB5:=hid hB;clear hB)
        (revert H;refine zZ ?_;intro w1 hf H hk;clear hf;change Kp _ _ at hk)
        (refine zf ?_)
        all_goals
         revert H;refine W15 ?_;intro w1 H hk;refine zk H rfl rfl rfl ?_;exact⟨_,rfl,H.fr,by rw[HX3.out];exact zcb (bv HB5)⟩
       ·simp only[Int.not_lt,Int.not_le]at*;revert H;refine W15 ?_;intro H _ _
        (revert H;refine zR 3 (.st 0 (.ld 1 (.ld 2 (.ld 3 .done)))) ?_;intro w1 hf H;(first|replace hf:=hf.kp|clear hf))
        refine p_q ?_
        ((refine p_c H rfl rfl Tryz.func138 (zO _ 1 yl) ?_;clear H;rintro e w1 ⟨v4,rfl,hF,hB⟩ H;refine p_r ?_;replace hF:=hF.kp);obtain⟨b4,p4,m4,c4,rfl⟩:=hB.form;have HB4:=hid hB;clear hB)
        ((refine p_c H rfl rfl Tryz.func258 (zb9 (bv HB3).ar (bv HB4).ar yb yb) ?_;clear H;rintro e w1 ⟨v5,rfl,hF,hB⟩ H;refine p_r ?_;replace hF:=hF.kp);rw[show(N:Int)+1=((N+1:Nat):Int)from rfl]at hB;obtain⟨b5,p5,m5,c5,rfl⟩:=hB.form;have HB5:=hid hB;clear hB)
        (revert H;refine zZ ?_;intro w1 hf H hk;clear hf;change Kp _ _ at hk)
        (refine zf ?_)
        all_goals
         revert H;refine W15 ?_;intro H _ _ _ _;(refine x_c H (za7 (bv HB5).ar yb) ?_;clear H;rintro e w1 ⟨v6,rfl,hF,hB⟩ H;replace hF:=hF.kp;obtain⟨b6,p6,m6,c6,rfl⟩:=hB.form;have HB6:=hid hB;clear hB);simp only[Int.not_lt,Int.not_le]at*;revert H;refine W15 ?_;intro _ _ w1 H hk;refine zk H rfl rfl rfl ?_;exact⟨_,rfl,H.fr,by rw[HX3.out];exact zca (bv HB6)⟩
      ·have HX3:=hid (HX2.out.trans (if_neg (by simp[n1])))
       by_cases n0:N=0
       ·have HN0:=hid (show(N:Int)=0 by omega);clear n1 n0;simp only[Int.not_lt,Int.not_le]at*;revert H;refine W15 ?_;intro w1 H hk _ _ _ _;(refine xK H (zdF (bv HB3).ar yb HN0.out) ?_;clear H;intro w1 hF H)
        cases neg
        ·simp only[Int.not_lt,Int.not_le]at*;revert H;refine W15 ?_;intro w1 H hk;refine zk H rfl rfl rfl ?_;exact⟨_,rfl,H.fr,by rw[HX3.out];exact zcb (bv HB3)⟩
        ·simp only[Int.not_lt,Int.not_le]at*;revert H;refine W15 ?_;intro H _ _ _ _;(refine x_c H (za7 (bv HB3).ar yb) ?_;clear H;rintro e w1 ⟨v6,rfl,hF,hB⟩ H;replace hF:=hF.kp;obtain⟨b6,p6,m6,c6,rfl⟩:=hB.form;have HB6:=hid hB;clear hB);simp only[Int.not_lt,Int.not_le]at*;revert H;refine W15 ?_;intro _ _ w1 H hk;refine zk H rfl rfl rfl ?_;exact⟨_,rfl,H.fr,by rw[HX3.out];exact zca (bv HB6)⟩
       ·have HN0:=hid (show(N:Int)≠0 by omega);obtain⟨j,hj⟩:=zt5 n0 n1;have HZ:=hid hj;clear n1 n0 hj;simp only[Int.not_lt,Int.not_le]at*;revert H;refine W15 ?_;intro w1 H hk _ _ _ _;(refine x_c H (zbv (bv HB3).ar yb HN0.out) ?_;clear H;rintro e w1 ⟨s4,rfl,hs4,hF⟩ H;replace hF:=hF.kp;skip);simp only[Int.not_lt,Int.not_le]at*;revert H;refine W15 ?_;intro H _ _;(refine x_c H (zbK (bv HB3).ar yb (HT.out.fr H.fr).1) ?_;clear H;rintro e w1 ⟨rfl,hF⟩ H;replace hF:=hF.kp;rw[Int.natAbs_natCast,HZ.out])
        cases neg
        ·simp only[Int.not_lt,Int.not_le]at*;revert H;refine W15 ?_;intro w1 H hk;refine zk H rfl rfl rfl ?_;exact⟨_,rfl,H.fr,by rw[HX3.out];exact zcb (bv HB3)⟩
        ·simp only[Int.not_lt,Int.not_le]at*;revert H;refine W15 ?_;intro H _ _ _ _;(refine x_c H (za7 (bv HB3).ar yb) ?_;clear H;rintro e w1 ⟨v6,rfl,hF,hB⟩ H;replace hF:=hF.kp;obtain⟨b6,p6,m6,c6,rfl⟩:=hB.form;have HB6:=hid hB;clear hB);simp only[Int.not_lt,Int.not_le]at*;revert H;refine W15 ?_;intro _ _ w1 H hk;refine zk H rfl rfl rfl ?_;exact⟨_,rfl,H.fr,by rw[HX3.out];exact zca (bv HB6)⟩
     ·have HX3:=hid (HX2.out.trans (if_pos yg))
      cases neg
      ·simp only[Int.not_lt,Int.not_le]at*;revert H;refine W15 ?_;intro w1 H hk _ _
       (revert H;refine zR 3 (.st 0 (.ld 1 (.ld 2 (.ld 3 .done)))) ?_;intro w1 hf H;(first|replace hf:=hf.kp|clear hf))
       refine p_q ?_
       ((refine p_c H rfl rfl Tryz.func138 (zO _ 1 yl) ?_;clear H;rintro e w1 ⟨v4,rfl,hF,hB⟩ H;refine p_r ?_;replace hF:=hF.kp);obtain⟨b4,p4,m4,c4,rfl⟩:=hB.form;have HB4:=hid hB;clear hB)
       ((refine p_c H rfl rfl Tryz.func258 (zb9 (bv HB3).ar (bv HB4).ar yb yb) ?_;clear H;rintro e w1 ⟨v5,rfl,hF,hB⟩ H;refine p_r ?_;replace hF:=hF.kp);rw[show(N:Int)+1=((N+1:Nat):Int)from rfl]at hB;obtain⟨b5,p5,m5,c5,rfl⟩:=hB.form;have HB5:=hid hB;clear hB)
       (revert H;refine zZ ?_;intro w1 hf H hk;clear hf;change Kp _ _ at hk)
       (refine zf ?_)
       all_goals
        revert H;refine W15 ?_;intro w1 H hk;refine zk H rfl rfl rfl ?_;exact⟨_,rfl,H.fr,by rw[HX3.out];exact zcb (bv HB5)⟩
      ·simp only[Int.not_lt,Int.not_le]at*;revert H;refine W15 ?_;intro w1 H hk _ _
       (revert H;refine zR 3 (.st 0 (.ld 1 (.ld 2 (.ld 3 .done)))) ?_;intro w1 hf H;(first|replace hf:=hf.kp|clear hf))
       refine p_q ?_
       ((refine p_c H rfl rfl Tryz.func138 (zO _ 1 yl) ?_;clear H;rintro e w1 ⟨v4,rfl,hF,hB⟩ H;refine p_r ?_;replace hF:=hF.kp);obtain⟨b4,p4,m4,c4,rfl⟩:=hB.form;have HB4:=hid hB;clear hB)
       ((refine p_c H rfl rfl Tryz.func258 (zb9 (bv HB3).ar (bv HB4).ar yb yb) ?_;clear H;rintro e w1 ⟨v5,rfl,hF,hB⟩ H;refine p_r ?_;replace hF:=hF.kp);rw[show(N:Int)+1=((N+1:Nat):Int)from rfl]at hB;obtain⟨b5,p5,m5,c5,rfl⟩:=hB.form;have HB5:=hid hB;clear hB)
       (revert H;refine zZ ?_;intro w1 hf H hk;clear hf;change Kp _ _ at hk)
       (refine zf ?_)
       all_goals
        revert H;refine W15 ?_;intro H _ _ _ _;(refine x_c H (za7 (bv HB5).ar yb) ?_;clear H;rintro e w1 ⟨v6,rfl,hF,hB⟩ H;replace hF:=hF.kp;obtain⟨b6,p6,m6,c6,rfl⟩:=hB.form;have HB6:=hid hB;clear hB);simp only[Int.not_lt,Int.not_le]at*;revert H;refine W15 ?_;intro _ _ w1 H hk;refine zk H rfl rfl rfl ?_;exact⟨_,rfl,H.fr,by rw[HX3.out];exact zca (bv HB6)⟩
 ·have HX3:=hid (HX.out.trans (if_pos (HBT.out rfl)));clear HX HBT HBF
  cases neg
  ·simp only[Int.not_lt,Int.not_le]at*;revert H;refine W15 ?_;intro _ _ w1 H hk;refine zk H rfl rfl rfl ?_;exact⟨_,rfl,H.fr,by rw[HX3.out];exact zcb (bv HB3)⟩
  ·simp only[Int.not_lt,Int.not_le]at*;revert H;refine W15 ?_;intro w1 H hk _ _ _ _;(refine x_c H (za7 (bv HB3).ar yb) ?_;clear H;rintro e w1 ⟨v6,rfl,hF,hB⟩ H;replace hF:=hF.kp;obtain⟨b6,p6,m6,c6,rfl⟩:=hB.form;have HB6:=hid hB;clear hB);simp only[Int.not_lt,Int.not_le]at*;revert H;refine W15 ?_;intro _ _ w1 H hk;refine zk H rfl rfl rfl ?_;exact⟨_,rfl,H.fr,by rw[HX3.out];exact zca (bv HB6)⟩
def ziH{q:Int}(k:Nat)(hk:ex-q=(k:Int))(h:Av w (.agg #[.bool b, .slice p kk c]) (m:Int) n)(hn:n≤200000)(hb:bl (m*2^k)≤150000)(hk1:k≤1048576)(hq: -2000000≤q∧q≤2000000)(hxr: -1000000≤ex∧ex≤1000000):
 Calls Tryz.prog 246 #[.agg #[.bool neg, .bool b, .slice p kk c, .int .i64 ex, .bool more], .int .i64 q, .int .i64 mode] w fun r w'=>∃v1,r= .returned v1∧Fr [] w w'∧Bv w' v1 (sg neg (m*2^k)) (bl (m*2^k)):=by
 have HA1:=hid h;have HK:=hid hk;have hle:q≤ex:=by omega
 obtain⟨N,hN⟩:∃N,m*2^k=N:=⟨_,rfl⟩;obtain⟨X,hX⟩:∃X,m*2^k=X:=⟨_,rfl⟩;have HX3:Hid (X=N):=hid (hX.symm.trans hN);rw[hX];rw[hN]at hb;have HN:=hid hN;clear h hk hN hX;have H:=Hp.start [] w
 go_enter Tryz.func246,Tryz.ntmps246
 revert H;refine W15 ?_;intro _ _ _ _ _ _ _ _ _ g _ hg hf w1 H hk _ _ _ _;(refine x_c H (zc3 k HK.out (HA1.out.fr H.fr) hn hk1) ?_;clear H;rintro e w1 ⟨v3,rfl,hF,hB⟩ H;replace hF:=hF.kp;rw[HN.out]at hB;obtain⟨b3,p3,m3,c3,rfl⟩:=hB.form;have HB3:=hid hB;clear hB)
 cases neg
 ·simp only[Int.not_lt,Int.not_le]at*;revert H;refine W15 ?_;intro _ _ w1 H hk;refine zk H rfl rfl rfl ?_;exact⟨_,rfl,H.fr,by rw[HX3.out];exact zcb (bv HB3)⟩
 ·simp only[Int.not_lt,Int.not_le]at*;revert H;refine W15 ?_;intro w1 H hk _ _ _ _;(refine x_c H (za7 (bv HB3).ar yb) ?_;clear H;rintro e w1 ⟨v6,rfl,hF,hB⟩ H;replace hF:=hF.kp;obtain⟨b6,p6,m6,c6,rfl⟩:=hB.form;have HB6:=hid hB;clear hB);simp only[Int.not_lt,Int.not_le]at*;revert H;refine W15 ?_;intro _ _ w1 H hk;refine zk H rfl rfl rfl ?_;exact⟨_,rfl,H.fr,by rw[HX3.out];exact zca (bv HB6)⟩
end
end Go.Proofs.YtaijhllckmndhaaGreatDoor
