import Derived.Test.YtaijhllckmndhaaGreatDoorYJ0
import Derived.Test.YtaijhllckmndhaaGreatDoorYJ37
import Derived.Test.YtaijhllckmndhaaGreatDoorYJ23
import Derived.Test.YtaijhllckmndhaaGreatDoorYJ16
import Derived.Test.YtaijhllckmndhaaGreatDoorYJ39
namespace Go.Proofs.YtaijhllckmndhaaGreatDoor
set_option linter.all false
set_option maxHeartbeats 64000000
set_option maxRecDepth 100000
section
variable {x e:Int} {w:World} {n:Nat}
open Go.RowKit
def zrk(n:Nat):n≠0→n/2^tz n%2=1:=by
 induction n using Nat.strongRecOn with
 | _ n ih=>
  intro h0
  by_cases h1:n%2=1
  ·rw[zc1 h1,Nat.pow_zero,Nat.div_one];exact h1
  ·have e:n=2*(n/2):=by omega
   have h2:=ih (n/2) yb yb;have e2:tz n=tz (n/2)+1:=by rw[e,zb1 yb];congr 2;omega
   rw[e2,Nat.pow_succ,Nat.mul_comm,←Nat.div_div_eq_div_mul];exact h2
def DnO(w:World)(v:Value)(x e:Int):Prop:=∃m e' b p n c,v= .agg #[.bool false, .bool b, .slice p n c, .int .i64 e']∧Nm x e m e'∧Bv w (.agg #[.bool b, .slice p n c]) m (bl m.natAbs)∧m.natAbs%2=1
def zrz(hx:x≠0):(x/2^tz x.natAbs).natAbs%2=1:=by
 obtain⟨q,hq⟩:=zkf x.natAbs yb;have ho:=zrk x.natAbs yb
 have hd:x.natAbs/2^tz x.natAbs=q:=by
  generalize tz x.natAbs=t at*;rw[hq];exact Nat.mul_div_cancel _ (zu t)
 rw[hd]at ho;generalize tz x.natAbs=t at*;have hp:=zhQ t;have hc:((q*2^t:Nat):Int)=(q:Int)*2^t:=by rw[Int.natCast_mul,Int.natCast_pow];rfl
 by_cases h:x<0
 ·have e1:x= -(q:Int)*2^t:=by rw[Int.neg_mul,←hc,←hq];omega
  rw[e1,Int.mul_ediv_cancel _ yb]
  omega
 ·have e1:x=(q:Int)*2^t:=by rw[←hc,←hq];omega
  rw[e1,Int.mul_ediv_cancel _ yb]
  omega
def zm1{b:Bool}{p:Option Addr}{m c:Nat}(h:Av w (.agg #[.bool b, .slice p m c]) x n)(hn:n≤200000)(hx:bl x.natAbs+e≤65536)(he: -65536≤e)(hT:La w)(h0:x≠0):
 Calls Tryz.prog 143 #[.agg #[.bool false, .bool b, .slice p m c, .int .i64 e]] w fun r w'=>∃v1,r= .returned (.tuple #[v1, .bool true])∧Fr [] w w'∧DnO w' v1 x e:=by
 have HT:=hid hT;have HA1:=hid h;have hdl:=h.dl;clear h hT;have H:=Hp.start [] w;have HX:=hid h0;have hz1:=zlK _ _ (zay x.natAbs);have hz2:tz x.natAbs≤1048576:=by omega
 clear h0
 go_enter Tryz.func143,Tryz.ntmps143
 revert H;refine W15 ?_;intro _ _ _ _ _ g w1 hg H hf _ _ _ _;(refine x_c H (zhI (av HA1) hn) ?_;clear H;rintro e w1 ⟨v3,rfl,hF,hB⟩ H;replace hF:=hF.kp;obtain⟨b3,p3,m3,c3,rfl⟩:=hB.form;have HB3:=hid hB;clear hB);simp only[Int.not_lt,Int.not_le]at*;revert H;refine W15 ?_;intro g _ hg hf w1 H hk _ _ _ _ _ _;(refine x_c H (zbv (bv HB3).ar hn HX.out) ?_;clear H;rintro e w1 ⟨s4,rfl,hs4,hF⟩ H;replace hF:=hF.kp;skip);simp only[Int.not_lt,Int.not_le]at*;revert H;refine W15 ?_;intro H _ _ _ _;(refine xK H (zbK (bv HB3).ar hn (HT.out.fr H.fr).1) ?_;clear H;intro w1 hF H);simp only[Int.not_lt,Int.not_le]at*;revert H;refine W15 ?_;intro H _ _ _ _
 (revert H;refine zR 13 (.st 0 (.st 1 (.st 2 (.ld 3 (.st 4 (.st 5 (.st 6 (.st 7 (.st 8 (.st 9 (.st 10 (.st 11 (.st 12 .done))))))))))))) ?_;intro w1 hf H;(first|replace hf:=hf.kp|clear hf))
 iterate 3 refine p_q ?_
 ((refine p_c H rfl rfl Tryz.func213 (zbi (bv HB3).ar hn) ?_;clear H;rintro e w1 ⟨rfl,hF⟩ H;refine p_r ?_;replace hF:=hF.kp);skip)
 iterate 3 refine p_q ?_
 iterate 5 (first|refine p_q ?_|refine p_n ?_)
 refine p_q ?_;(refine zf ?_)
 all_goals
  revert H;refine W15 ?_;intro H _ _
  (revert H;refine zR 8 (.st 0 (.st 1 (.st 3 (.st 4 (.st 5 (.st 6 (.ld 2 (.st 7 (.ldf 8 (.st 9 .done)))))))))) ?_;intro w1 hf H;(first|replace hf:=hf.kp|clear hf))
  iterate 6 refine p_q ?_
  ((refine p_c H rfl rfl Tryz.func214 (zfb (tz x.natAbs) (bv HB3).ar hn hz2) ?_;clear H;rintro e w1 ⟨v5,rfl,hF,hB⟩ H;refine p_r ?_;replace hF:=hF.kp);obtain⟨b5,p5,m5,c5,rfl⟩:=hB.form;have HB5:=hid hB;clear hB)
  (refine p_e rfl (fun w H=>zlA rfl rfl rfl) ?_)
  (revert H;refine zmV ?_;intro w1 hf H hk;clear hf;change Kp _ _ at hk)
  refine p_q ?_;(refine zf ?_)
  all_goals
   revert H;refine W15 ?_;intro H;refine zi H rfl rfl rfl rfl ?_;exact⟨_,rfl,H.fr,_,_,_,_,_,_,rfl,Nm.norm HX.out,bv HB5,zrz HX.out⟩
def zdI{u:Value}(h:Av w u x n)(hn:n≤200000)(hx:bl x.natAbs+e≤65536)(he: -65536≤e)(hT:La w)(h0:x≠0):
 Calls Tryz.prog 141 #[u, .int .i64 e] w fun r w'=>∃v1,r= .returned v1∧Fr [] w w'∧DnO w' v1 x e:=by
 obtain⟨b1,p1,m1,c1,rfl⟩:=h.form;have HA1:=hid h;have HT:=hid hT;have HX:=hid h0;clear h hT h0;have H:=Hp.start [] w
 go_enter Tryz.func141,Tryz.ntmps141
 revert H;refine W15 ?_;intro _ _ _ _ _ g w1 hg H hf _ _ _ _;(refine x_c H (zm1 (av HA1) hn hx he (HT.out.fr H.fr) HX.out) ?_;clear H;rintro e w1 ⟨v3,rfl,hF,hD⟩ H;replace hF:=hF.kp;obtain⟨m3,e3,b3,p3,n3,c3,rfl,hN,hB,ho3⟩:=hD;have HN3:=hid hN;have HB3:=hid hB;have HO3:=hid ho3;clear hN hB ho3);simp only[Int.not_lt,Int.not_le]at*;revert H;refine W15 ?_;intro g _ hg hf _ _ w1 H hk;refine zk H rfl rfl rfl ?_;exact⟨_,rfl,H.fr,_,_,_,_,_,_,rfl,HN3.out,bv HB3,HO3.out⟩
end
section
open Go.RowKit
def zu8{X Y:Nat}(h:2*(X%Y)<Y):rm false 0 X Y=X/Y:=by
 unfold rm
 split
 ·rfl
 ·rw[show zbD (2*(X%Y)) Y= -1 by unfold zbD;rw[if_pos h],zdx,if_neg yg]
def zu5{X Y:Nat}(h:Y<2*(X%Y)):rm false 0 X Y=X/Y+1:=by
 unfold rm;rw[if_neg yb,show zbD (2*(X%Y)) Y=1 by unfold zbD;rw[if_neg yb,if_neg yb],zdx,if_pos yg]
def zu3{X Y:Nat}(hY:0<Y)(h:2*(X%Y)=Y):rm false 0 X Y=if X/Y%2=1 then X/Y+1 else X/Y:=by
 unfold rm;rw[if_neg yb,show zbD (2*(X%Y)) Y=0 by unfold zbD;rw[if_neg yb,if_pos h],zdx]
 simp
def tzP{n:Nat}(h0:n≠0)(h:n%2≠1):∃j,tz n=j+1:=by
 have e:n=2*(n/2):=by omega
 exact⟨tz (n/2),by rw[e,zb1 yb];congr 2;omega⟩
def zkH{w:World}{u v:Value}{X Y:Nat}(hu:Bv w u (X:Int) (bl X))(hv:Bv w v (Y:Int) (bl Y))(hX:bl X≤60000)(hY:bl Y≤60000)(hY0:0<Y)(hT:La w):
 Calls Tryz.prog 221 #[u,v] w fun r w'=>∃v1,r= .returned v1∧Fr [] w w'∧Bv w' v1 ((rm false 0 X Y:Nat):Int) (bl (rm false 0 X Y)):=by
 obtain⟨b1,p1,m1,c1,rfl⟩:=hu.form;obtain⟨b2,p2,m2,c2,rfl⟩:=hv.form;have HB1:=hid hu;have HB2:=hid hv;have HT:=hid hT;have hyz:(Y:Int)≠0:=by omega
 have HYZ:=hid hyz;have hq:=zbe (Nat.div_le_self X Y);have hrY:X%Y<Y:=Nat.mod_lt _ hY0;have hr:=zbe (Nat.le_of_lt hrY)
 have HC:=hid (show(2*(X%Y)<Y∧rm false 0 X Y=X/Y∧zC (((X%Y)+(X%Y):Nat):Int) (Y:Int)= -1)∨(Y<2*(X%Y)∧rm false 0 X Y=X/Y+1∧zC (((X%Y)+(X%Y):Nat):Int) (Y:Int)=1)∨(2*(X%Y)=Y∧(rm false 0 X Y=if X/Y%2=1 then X/Y+1 else X/Y)∧zC (((X%Y)+(X%Y):Nat):Int) (Y:Int)=0) by
  rcases Nat.lt_trichotomy (2*(X%Y)) Y with h|h|h
  ·exact .inl ⟨h,zu8 h,zbr yb⟩
  ·exact .inr (.inr ⟨h,zu3 hY0 h,by rw[show(((X%Y)+(X%Y):Nat):Int)=(Y:Int) by omega];exact zem _⟩)
  ·exact .inr (.inl ⟨h,zu5 h,zb2 yb⟩))
 have HQ:Hid ((X:Int)/(Y:Int)=((X/Y:Nat):Int)):=hid (Int.natCast_ediv X Y).symm;have HR:Hid ((X:Int)%(Y:Int)=((X%Y:Nat):Int)):=hid (Int.natCast_emod X Y).symm;obtain⟨R,hR⟩:∃R,rm false 0 X Y=R:=⟨_,rfl⟩;obtain⟨q,hqq⟩:∃R,X/Y=R:=⟨_,rfl⟩;obtain⟨r,hrr⟩:∃R,X%Y=R:=⟨_,rfl⟩;rw[hR,hqq,hrr]at HC;rw[hqq]at HQ hq;rw[hrr]at HR hr hrY;rw[hR];have hrr2:bl (r+r)≤bl r+1:=zbC (by have:=zay r;rw[Nat.pow_succ];omega);clear hu hv hT hyz hR hqq hrr;have H:=Hp.start [] w
 go_enter Tryz.func221,Tryz.ntmps221
 revert H;refine W15 ?_;intro _ _ _ _ _ _ _ _ _ g w1 hg H hf _ _ _ _;(refine x_c H (zh7 (HB1.out.fr H.fr).ar (HB2.out.fr H.fr).ar yb yb HYZ.out) ?_;clear H;rintro e w1 ⟨v3,v4,rfl,hF,hB,hB2⟩ H;replace hF:=hF.kp;replace hB:=hB.c;replace hB2:=hB2.c;rw[HQ.out,Int.natAbs_natCast]at hB;rw[HR.out,Int.natAbs_natCast]at hB2;obtain⟨b3,p3,m3,c3,rfl⟩:=hB.form;have HB3:=hid hB;clear hB;obtain⟨b4,p4,m4,c4,rfl⟩:=hB2.form;have HB4:=hid hB2;clear hB2);simp only[Int.not_lt,Int.not_le]at*;revert H;refine W15 ?_;intro _ _ _ _ g _ hg hf _ _ w1 H hk _ _
 (revert H;refine zR 6 (.st 0 (.st 1 (.st 3 (.ld 2 (.ld 4 (.st 5 .done)))))) ?_;intro w1 hf H;(first|replace hf:=hf.kp|clear hf))
 iterate 3 refine p_q ?_
 ((refine p_c H rfl rfl Tryz.func258 (zb9 (bv HB4).ar (bv HB4).ar yb yb) ?_;clear H;rintro e w1 ⟨v5,rfl,hF,hB⟩ H;refine p_r ?_;replace hF:=hF.kp);replace hB:=hB.c;rw[←Int.natCast_add,Int.natAbs_natCast]at hB;obtain⟨b5,p5,m5,c5,rfl⟩:=hB.form;have HB5:=hid hB;clear hB)
 ((refine p_c H rfl rfl Tryz.func277 (zhg (bv HB5).ar (HB2.out.fr H.fr).ar yb yb) ?_;clear H;rintro e w1 ⟨rfl,hF⟩ H;refine p_r ?_;replace hF:=hF.kp);skip)
 refine p_q ?_;(refine zf ?_)
 all_goals
  rcases HC.out with⟨_,h2,h3⟩|⟨_,h2,h3⟩|⟨_,h2,h3⟩
  ·rw[h3];have HX3:=hid h2;clear h2 h3 HC;revert H;refine W15 ?_;intro w1 H hk;refine zk H rfl rfl rfl ?_;exact⟨_,rfl,H.fr,by rw[HX3.out];exact bv HB3⟩
  ·rw[h3];have HX3:=hid h2;clear h2 h3 HC;revert H;refine W15 ?_;intro H _ _
   (revert H;refine zR 3 (.st 0 (.ld 1 (.ld 2 (.ld 3 .done)))) ?_;intro w1 hf H;(first|replace hf:=hf.kp|clear hf))
   refine p_q ?_
   ((refine p_c H rfl rfl Tryz.func138 (zO _ 1 yl) ?_;clear H;rintro e w1 ⟨v6,rfl,hF,hB⟩ H;refine p_r ?_;replace hF:=hF.kp);obtain⟨b6,p6,m6,c6,rfl⟩:=hB.form;have HB6:=hid hB;clear hB)
   ((refine p_c H rfl rfl Tryz.func258 (zb9 (bv HB3).ar (bv HB6).ar yb yb) ?_;clear H;rintro e w1 ⟨v7,rfl,hF,hB⟩ H;refine p_r ?_;replace hF:=hF.kp);replace hB:=hB.c;rw[show(q:Int)+1=((q+1:Nat):Int)from rfl,Int.natAbs_natCast]at hB;obtain⟨b7,p7,m7,c7,rfl⟩:=hB.form;have HB7:=hid hB;clear hB)
   (revert H;refine zZ ?_;intro w1 hf H hk;clear hf;change Kp _ _ at hk)
   (refine zf ?_)
   all_goals
    revert H;refine W15 ?_;intro w1 H hk;refine zk H rfl rfl rfl ?_;exact⟨_,rfl,H.fr,by rw[HX3.out];exact bv HB7⟩
  ·rw[h3]
   by_cases n1:q%2=1
   ·have HX3:=hid (h2.trans (if_pos n1));have HZ:=hid (zc1 n1);have HN0:=hid (show(q:Int)≠0 by omega);clear n1 h2 h3 HC;revert H;refine W15 ?_;intro H _ _ _ _ _ _;(refine x_c H (zbv (bv HB3).ar yb HN0.out) ?_;clear H;rintro e w1 ⟨s4,rfl,hs4,hF⟩ H;replace hF:=hF.kp;skip);simp only[Int.not_lt,Int.not_le]at*;revert H;refine W15 ?_;intro H _ _;(refine x_c H (zbK (bv HB3).ar yb (HT.out.fr H.fr).1) ?_;clear H;rintro e w1 ⟨rfl,hF⟩ H;replace hF:=hF.kp;rw[Int.natAbs_natCast,HZ.out]);simp only[Int.not_lt,Int.not_le]at*;revert H;refine W15 ?_;intro H
    (revert H;refine zR 3 (.st 0 (.ld 1 (.ld 2 (.ld 3 .done)))) ?_;intro w1 hf H;(first|replace hf:=hf.kp|clear hf))
    refine p_q ?_
    ((refine p_c H rfl rfl Tryz.func138 (zO _ 1 yl) ?_;clear H;rintro e w1 ⟨v6,rfl,hF,hB⟩ H;refine p_r ?_;replace hF:=hF.kp);obtain⟨b6,p6,m6,c6,rfl⟩:=hB.form;have HB6:=hid hB;clear hB)
    ((refine p_c H rfl rfl Tryz.func258 (zb9 (bv HB3).ar (bv HB6).ar yb yb) ?_;clear H;rintro e w1 ⟨v7,rfl,hF,hB⟩ H;refine p_r ?_;replace hF:=hF.kp);replace hB:=hB.c;rw[show(q:Int)+1=((q+1:Nat):Int)from rfl,Int.natAbs_natCast]at hB;obtain⟨b7,p7,m7,c7,rfl⟩:=hB.form;have HB7:=hid hB;clear hB)
    (revert H;refine zZ ?_;intro w1 hf H hk;clear hf;change Kp _ _ at hk)
    (refine zf ?_)
    all_goals
     revert H;refine W15 ?_;intro w1 H hk;refine zk H rfl rfl rfl ?_;exact⟨_,rfl,H.fr,by rw[HX3.out];exact bv HB7⟩
   ·have HX3:=hid (h2.trans (if_neg n1))
    by_cases n0:q=0
    ·have HN0:=hid (show(q:Int)=0 by omega);clear n1 n0 h2 h3 HC;revert H;refine W15 ?_;intro H _ _ _ _ _ _;(refine xK H (zdF (bv HB3).ar yb HN0.out) ?_;clear H;intro w1 hF H);simp only[Int.not_lt,Int.not_le]at*;revert H;refine W15 ?_;intro w1 H hk;refine zk H rfl rfl rfl ?_;exact⟨_,rfl,H.fr,by rw[HX3.out];exact bv HB3⟩
    ·have HN0:=hid (show(q:Int)≠0 by omega);obtain⟨j,hj⟩:=tzP n0 n1;have HZ:=hid hj;clear n1 n0 hj h2 h3 HC;revert H;refine W15 ?_;intro H _ _ _ _ _ _;(refine x_c H (zbv (bv HB3).ar yb HN0.out) ?_;clear H;rintro e w1 ⟨s4,rfl,hs4,hF⟩ H;replace hF:=hF.kp;skip);simp only[Int.not_lt,Int.not_le]at*;revert H;refine W15 ?_;intro H _ _;(refine x_c H (zbK (bv HB3).ar yb (HT.out.fr H.fr).1) ?_;clear H;rintro e w1 ⟨rfl,hF⟩ H;replace hF:=hF.kp;rw[Int.natAbs_natCast,HZ.out]);simp only[Int.not_lt,Int.not_le]at*;revert H;refine W15 ?_;intro w1 H hk;refine zk H rfl rfl rfl ?_;exact⟨_,rfl,H.fr,by rw[HX3.out];exact bv HB3⟩
end
section
variable {w:World} {z n:Int} {u v:Value} {N:Nat}
open Go.RowKit
def zsB{P:Program}{a:Act}{o:Oper}{t t':TypeId}{x:Operand}(ho:o.op= .binOp .quo t x (.const (.int .i64 100000)) t'){m:Int}(hx:a.eval x= .int .i64 m)(hz:Hid (m.tdiv 100000=z))(hr:inr .i64 z:=by simp only[inr];omega):(execOp a.eval o).run P w= .ok (.value (.int .i64 z)) w:=by
 have e:IntKind.i64.wrap (m.tdiv 100000)=z:=by rw[hz.out];exact zX hr
 exact za1 ho hx rfl (fun w=>by
  simp[binOp,Op.intDiv,e])
def ztS{x y:Int}{n m:Nat}(h:Av w u x n)(k:Av w v y m)(hn:n≤200000)(hm:m≤200000)(hx:y≤x):
 Calls Tryz.prog 277 #[u,v] w fun e w'=>∃s:Int,e= .returned (.int .i64 s)∧0≤s∧Fr [] w w':=
 Calls.mono (zhg h k hn hm) (fun e w' hb=>⟨_,hb.1,by unfold zC;(repeat' split)<;>omega,hb.2⟩)
def zga{D:Nat}(n:Int)(hz:z=n)(hu:Bv w u (N:Int) (bl N))(hv:Bv w v (D:Int) (bl D))(hN:bl N≤10000)(hD:bl D≤10000)(hn: -3000≤n∧n≤3000){X Y:Nat}(hX:Hid (upN N n=X))(hY:Hid (dnD D n=Y)):
 Calls Tryz.prog 222 #[u,v, .int .i64 z] w fun r w'=>∃v1 v2,r= .returned (.tuple #[v1,v2])∧Fr [] w w'∧Bv w' v1 (X:Int) (bl X)∧Bv w' v2 (Y:Int) (bl Y):=by
 subst hz;rw[←hX.out,←hY.out];exact zlN z hu hv hN hD hn
def zof(h:n≤3000):bl (upN N n)≤bl N+12001:=by
 unfold upN;have h1:=zcK N (10^n.toNat);have h2:=zbY n.toNat
 omega
def zpw(h: -3000≤n):bl (dnD N n)≤bl N+12001:=by
 unfold dnD;have h1:=zcK N (10^(-n).toNat);have h2:=zbY (-n).toNat
 omega
def ziO{w:World}{u v:Value}{N D:Nat}(hu:Bv w u (N:Int) (bl N))(hv:Bv w v (D:Int) (bl D))(hN:bl N≤1100)(hD:bl D≤1100)(hN0:0<N)(hD0:0<D):
 Calls Tryz.prog 220 #[u,v] w fun r w'=>∃k:Int,r= .returned (.int .i64 k)∧Fr [] w w'∧z1 N D k∧¬z1 N D (k+1)∧ -400≤k∧k≤400:=by
 obtain⟨b1,p1,m1,c1,rfl⟩:=hu.form;obtain⟨b2,p2,m2,c2,rfl⟩:=hv.form;have HB1:=hid hu;have HB2:=hid hv;have hb1:=zgV (show N≠0 by omega);have hb2:=zgV (show D≠0 by omega);obtain⟨t,ht⟩:∃t:Int,(bl N:Int)-bl D-1=t:=⟨_,rfl⟩;have htr: -1150≤t∧t<1150:=by omega
 have H0:=hid (ztH (show N≠0 by omega) (show D≠0 by omega) ht.symm htr.1 htr.2);have hk0:=zrw htr.1 htr.2;obtain⟨k,hk⟩:∃k,k0 t=k:=⟨_,rfl⟩;rw[hk]at H0 hk0;have HKK:Hid ((((bl N:Int)-bl D-1)*30103).tdiv 100000=k+2):=hid (by rw[ht];have:=hk;unfold k0 at this;omega);have hD1:D≠0:=by omega
 have HD1:=hid hD1;clear hu hv ht hk htr;have H:=Hp.start [] w
 go_enter Tryz.func220,Tryz.ntmps220
 revert H;refine W15 ?_;intro _ _ _ _ _ g w1 hg H hf _ _;rename_i ga wa hga hfa xa ya
 (revert H;refine zR 9 (.st 0 (.st 2 (.ld 1 (.ld 3 (.st 4 (.st 5 (.st 6 (.st 7 (.st 8 .done))))))))) ?_;intro w1 hf H;(first|replace hf:=hf.kp|clear hf))
 iterate 2 refine p_q ?_
 ((refine p_c H rfl rfl Tryz.func213 (zbi (HB1.out.fr H.fr).ar yb) ?_;clear H;rintro e w1 ⟨rfl,hF⟩ H;refine p_r ?_;replace hF:=hF.kp);rw[Int.natAbs_natCast])
 ((refine p_c H rfl rfl Tryz.func213 (zbi (HB2.out.fr H.fr).ar yb) ?_;clear H;rintro e w1 ⟨rfl,hF⟩ H;refine p_r ?_;replace hF:=hF.kp);rw[Int.natAbs_natCast])
 iterate 3 refine p_q ?_
 (refine p_e rfl (fun w H=>zsB rfl rfl HKK) ?_);refine p_q ?_;(refine zf ?_)
 all_goals
  revert H;refine W15 ?_;intro H
  go_loopw [5] (fun s5 wr=>∃k:Int,s5= .int .i64 k∧ -400≤k∧Hid (z1 N D k)∧Hp [] w wr [.blk g [.bool b2, .slice p2 m2 c2] 118, .blk ga [.bool b1, .slice p1 m1 c1] 118]) (fun v _=>(400-intOf v).toNat)
  case atStart=>exact⟨k,by go_num,by omega,H0,H⟩
  case round=>
   clear H H0;obtain⟨k,rfl,hk1,HT,H⟩:=hrel;have hk2:=zuX HD1.out hN HT.out;have hbu:=zof (N:=N) (n:= -(k+1)) yb;have hbd:=zpw (N:=D) (n:= -(k+1)) yb;obtain⟨X,hX⟩:∃X,upN N (-(k+1))=X:=⟨_,rfl⟩;obtain⟨Y,hY⟩:∃X,dnD D (-(k+1))=X:=⟨_,rfl⟩;have HIF:Hid (z1 N D (k+1)↔Y≤X):=hid (by unfold z1;rw[hX,hY]);rw[hX]at hbu;rw[hY]at hbd;have HX:=hid hX;have HY:=hid hY;clear hX hY;revert H;refine W15 ?_;intro H _ _ _ _ _ _ _;(refine x_c H (zga (z:= -k-1) (-(k+1)) yb (HB1.out.fr H.fr) (HB2.out.fr H.fr) yb yb yb HX HY) ?_;clear H;rintro e w1 ⟨v3,v4,rfl,hF,hB,hB2⟩ H;replace hF:=hF.kp;obtain⟨b3,p3,m3,c3,rfl⟩:=hB.form;have HB3:=hid hB;clear hB;obtain⟨b4,p4,m4,c4,rfl⟩:=hB2.form;have HB4:=hid hB2;clear hB2);simp only[Int.not_lt,Int.not_le]at*;revert H;refine W15 ?_;intro _ _ _ _ g _ hg hf _ _ w1 H hk _ _ _ _
   by_cases hlt:X<Y
   ·(refine x_c H (zo0 (bv HB3).ar (bv HB4).ar yb yb yb) ?_;clear H;rintro e w1 ⟨s,rfl,hs,hF⟩ H;replace hF:=hF.kp;skip);simp only[Int.not_lt,Int.not_le]at*;revert H;refine W15 ?_;intro H
    go_ret
    exact⟨k,rfl,H.fr,HT.out,fun h=>by have:=HIF.out.1 h;omega,by omega,by omega⟩
   ·have HT2:=hid (HIF.out.2 yb);clear HT HIF;(refine x_c H (ztS (bv HB3).ar (bv HB4).ar yb yb yb) ?_;clear H;rintro e w1 ⟨s,rfl,hs,hF⟩ H;replace hF:=hF.kp;skip);simp only[Int.not_lt,Int.not_le]at*;revert H;refine W15 ?_;intro H
    go_roundw
    case rel=>exact⟨k+1,rfl,by omega,HT2,by(refine Hp.arr H ?_;repeat (first|exact Pm.nil _|(apply Pm.cons;· (repeat first|exact Rm.here _|apply Rm.there))))⟩
    case measure=>(simp[intOf];try omega)
end
section
open Go.RowKit
def zla{w:World}{u:Value}{n:Nat}(h:Av w u (n:Int) (bl n))(hn:bl n≤10000)(hT:La w){l:List UInt8}(hl:Hid (dec n=l)):
 Calls Tryz.prog 97 #[u] w fun e w'=>e= .returned (ze l)∧Fr [] w w':=by
 have hf:=ziB h yb hT.2;have e:fmt (n:Int)=l:=by unfold fmt;rw[if_neg yb,Int.natAbs_natCast,hl.out]
 rw[e]at hf;exact hf
def zi8{w:World}{u v:Value}{X Y:Nat}(hu:Bv w u (X:Int) (bl X))(hv:Bv w v (Y:Int) (bl Y))(hX:bl X≤60000)(hY:bl Y≤60000)(hY0:0<Y)(hT:La w){q:Nat}(hq:Hid (rm false 0 X Y=q)):
 Calls Tryz.prog 221 #[u,v] w fun r w'=>∃v1,r= .returned v1∧Fr [] w w'∧Bv w' v1 (q:Int) (bl q):=by
 rw[←hq.out];exact zkH hu hv hX hY hY0 hT
def zfY(w:World){b z:Nat}{n:Nat}(hb:b<18446744073709551616)(hk:zax b=1)(hz:Hid (b%9223372036854775808=z))(h0:0<z)(hz1:z<9218868437227405312)(hn1:1≤n)(hn2:n≤800)(hT:La w):
 Calls Tryz.prog 151 #[.int .u64 (b:Int), .int .i64 (n:Int)] w fun r w'=>∃ds x,r= .returned (.tuple #[ze ds, .int .i64 x, .int .i64 0])∧Fr [] w w'∧Dgs z n ds x:=by
 have HK:=hid hk;have HK3:=hid (show zax b≠3 by rw[hk];decide);have HT:=hid hT;have HDF:=hid (zgS z);clear hk hT;have H:=Hp.start [] w
 go_enter Tryz.func151,Tryz.ntmps151
 revert H;refine W15 ?_;intro H _ _ _ _ _ _ _;(refine xK H (zcq _ hb HK) ?_;clear H;intro w1 hF H);simp only[Int.not_lt,Int.not_le]at*;revert H;refine W15 ?_;intro H _ _ _ _;(refine x_c H (zkC _ hb HK3.out hz h0 hz1 (HT.out.fr H.fr)) ?_;clear H;rintro e w1 ⟨v3,v4,rfl,hF,N,D,hB,hB2,hN0,hD0,hND,hNb,hDb⟩ H;replace hF:=hF.kp;obtain⟨b3,p3,m3,c3,rfl⟩:=hB.form;have HB3:=hid hB;clear hB;obtain⟨b4,p4,m4,c4,rfl⟩:=hB2.form;have HB4:=hid hB2;clear hB2);have HND:=hid hND;have HP:=hid hN0;have HPD:=hid hD0;clear hND;simp only[Int.not_lt,Int.not_le]at*;revert H;refine W15 ?_;intro _ _ _ _ g _ hg hf _ _ w1 H hk _ _ _ _;(refine x_c H (ziO (bv HB3) (bv HB4) hNb hDb HP.out HPD.out) ?_;clear H;rintro e w1 ⟨k,rfl,hF,ht1,ht2,hk1,hk2⟩ H;replace hF:=hF.kp;skip);have HNF:=hid (zjn h0);have HT1:=hid ((zhc HNF.out HP.out HDF.out HPD.out HND.out k).1 ht1)
 have HT2:=hid (fun h=>ht2 ((zhc HNF.out HP.out HDF.out HPD.out HND.out (k+1)).2 h));clear ht1 ht2;have hbu:=zof (N:=N) (n:=(n:Int)-1-k) yb;have hbd:=zpw (N:=D) (n:=(n:Int)-1-k) yb;have hyp:0<dnD D ((n:Int)-1-k):=Nat.mul_pos HPD.out (zD _);have hqe:rm false 0 (upN N ((n:Int)-1-k)) (dnD D ((n:Int)-1-k))=zbF (nF z) (dF z) ((n:Int)-1-k):=zoH HDF.out HPD.out HND.out _;have hqs:=zfF (n:=n) HDF.out hn1 HT1.out HT2.out;obtain⟨q,hq⟩:∃q,zbF (nF z) (dF z) ((n:Int)-1-k)=q:=⟨_,rfl⟩;rw[hq]at hqe hqs;have hqb:bl q≤4*n+1:=Nat.le_trans (zbe hqs.2) (zbY n);have HQ:=hid hqe;obtain⟨X,hX⟩:∃X,upN N ((n:Int)-1-k)=X:=⟨_,rfl⟩;obtain⟨Y,hY⟩:∃X,dnD D ((n:Int)-1-k)=X:=⟨_,rfl⟩;rw[hX,hY]at HQ;rw[hX]at hbu;rw[hY]at hbd hyp;have HX:=hid hX;have HY:=hid hY;obtain⟨l,hl⟩:∃l,dec q=l:=⟨_,rfl⟩;have HL:=hid hl
 have HDG:Hid (∀ds x,ds=l.take n→x=(if n<l.length then k+1 else k)→Dgs z n ds x):=hid (fun ds x h1 h2=>⟨k,HT1.out,HT2.out,by rw[hq,hl];exact h1,by rw[hq,hl];exact h2⟩);clear hX hY hq hl hqs hqe HT1 HT2 HND HNF HDF;simp only[Int.not_lt,Int.not_le]at*;revert H;refine W15 ?_;intro H _ _ _ _;(refine x_c H (zga (z:=(n:Int)-1-k) _ rfl (bv HB3) (bv HB4) yb yb yb HX HY) ?_;clear H;rintro e w1 ⟨v5,v6,rfl,hF,hB,hB2⟩ H;replace hF:=hF.kp;obtain⟨b5,p5,m5,c5,rfl⟩:=hB.form;have HB5:=hid hB;clear hB;obtain⟨b6,p6,m6,c6,rfl⟩:=hB2.form;have HB6:=hid hB2;clear hB2);simp only[Int.not_lt,Int.not_le]at*;revert H;refine W15 ?_;intro H _ _;(refine x_c H (zi8 (bv HB5) (bv HB6) yb yb hyp (HT.out.fr H.fr) HQ) ?_;clear H;rintro e w1 ⟨v7,rfl,hF,hB⟩ H;replace hF:=hF.kp;obtain⟨b7,p7,m7,c7,rfl⟩:=hB.form;have HB7:=hid hB;clear hB);simp only[Int.not_lt,Int.not_le]at*;revert H;refine W15 ?_;intro H _ _
 (refine xK H (zla (bv HB7).ar yb (HT.out.fr H.fr) HL) ?_;clear H;intro w1 hF H)
 by_cases hlt:n<l.length
 ·have HTK:Hid (l.take (n:Int).toNat=l.take n):=hid rfl;simp only[Int.not_lt,Int.not_le]at*;revert H;refine W25 ?_;intro H;refine bodyPost_ret (results_tmp3 rfl _ _ _) rfl ?_;exact⟨_,_,rfl,H.fr,HDG.out _ _ rfl (by rw[if_pos hlt])⟩
 ·have HTK:Hid (l=l.take n):=hid (List.take_of_length_le yb).symm;simp only[Int.not_lt,Int.not_le]at*;revert H;refine W26 ?_;intro H;refine bodyPost_ret (results_tmp3 rfl _ _ _) rfl ?_;exact⟨_,_,rfl,H.fr,HDG.out _ _ HTK.out (by rw[if_neg hlt])⟩
end
section
open Go.RowKit
def zaQ(w:World)(f:Nat)(neg:Bool)(hf:f<9223372036854775808):
 Calls Tryz.prog 247 #[.int .u64 (f:Int), .bool neg] w fun r w'=>r= .returned (.int .u64 (zJ neg f:Nat))∧Fr [] w w':=by
 have H:=Hp.start [] w
 cases neg
 ·go_enter Tryz.func247,Tryz.ntmps247
  revert H;refine W15 ?_;intro H
  go_ret
  exact⟨rfl,H.fr⟩
 ·go_enter Tryz.func247,Tryz.ntmps247
  revert H;refine W27 ?_;intro H _ _ _
  go_ret
  exact⟨rfl,H.fr⟩
def zcs(w:World)(neg:Bool)(mode:Int):
 Calls Tryz.prog 248 #[.bool neg, .int .i64 mode] w fun r w'=>r= .returned (.int .u64 (zaK neg mode:Nat))∧Fr [] w w':=by
 have H:=Hp.start [] w;have HO:Hid (zaK neg mode=zJ neg (if mode=3∨(mode=1∧neg=false)∨(mode=2∧neg=true)then 9218868437227405311 else 9218868437227405312)):=hid rfl;have fin1:∀ {X:Nat},zJ neg X=zaK neg mode→(zJ neg X:Int)=(zaK neg mode:Nat):=fun h=>by rw[h]
 by_cases m3:mode=3
 ·subst m3;have HV:=hid (HO.out.trans (congrArg (zJ neg) (if_pos (.inl rfl))))
  go_enter Tryz.func248,Tryz.ntmps248
  simp only[Int.not_lt,Int.not_le]at*;revert H;refine W15 ?_;intro H _ _ _ _ _ _ _;(refine xK H (zaQ _ 9218868437227405311 neg yf) ?_;clear H;intro w1 hF H);simp only[Int.not_lt,Int.not_le]at*;revert H;refine W15 ?_;intro H
  go_ret
  exact⟨by rw[HV.out];rfl,H.fr⟩
 ·by_cases m1:mode=1
  ·subst m1
   cases neg
   ·have HV:=hid (HO.out.trans (congrArg (zJ false) (if_pos (.inr (.inl ⟨rfl,rfl⟩)))))
    go_enter Tryz.func248,Tryz.ntmps248
    simp only[Int.not_lt,Int.not_le]at*;revert H;refine W15 ?_;intro H _ _ _ _ _ _ _;(refine xK H (zaQ _ 9218868437227405311 false yf) ?_;clear H;intro w1 hF H);simp only[Int.not_lt,Int.not_le]at*;revert H;refine W15 ?_;intro H
    go_ret
    exact⟨by rw[HV.out];rfl,H.fr⟩
   ·have HV:=hid (HO.out.trans (congrArg (zJ true) (if_neg yf)))
    go_enter Tryz.func248,Tryz.ntmps248
    simp only[Int.not_lt,Int.not_le]at*;revert H;refine W15 ?_;intro H _ _ _ _ _;(refine xK H (zaQ _ 9218868437227405312 true yf) ?_;clear H;intro w1 hF H);simp only[Int.not_lt,Int.not_le]at*;revert H;refine W15 ?_;intro H
    go_ret
    exact⟨by rw[HV.out];rfl,H.fr⟩
  ·by_cases m2:mode=2
   ·subst m2
    cases neg
    ·have HV:=hid (HO.out.trans (congrArg (zJ false) (if_neg yf)))
     go_enter Tryz.func248,Tryz.ntmps248
     simp only[Int.not_lt,Int.not_le]at*;revert H;refine W15 ?_;intro H _ _ _ _ _;(refine xK H (zaQ _ 9218868437227405312 false yf) ?_;clear H;intro w1 hF H);simp only[Int.not_lt,Int.not_le]at*;revert H;refine W15 ?_;intro H
     go_ret
     exact⟨by rw[HV.out];rfl,H.fr⟩
    ·have HV:=hid (HO.out.trans (congrArg (zJ true) (if_pos (.inr (.inr ⟨rfl,rfl⟩)))))
     go_enter Tryz.func248,Tryz.ntmps248
     simp only[Int.not_lt,Int.not_le]at*;revert H;refine W15 ?_;intro H _ _ _ _ _ _ _;(refine xK H (zaQ _ 9218868437227405311 true yf) ?_;clear H;intro w1 hF H);simp only[Int.not_lt,Int.not_le]at*;revert H;refine W15 ?_;intro H
     go_ret
     exact⟨by rw[HV.out];rfl,H.fr⟩
   ·have HV:=hid (HO.out.trans (congrArg (zJ neg) (if_neg (by rintro(h|⟨h,_⟩|⟨h,_⟩);exact m3 h;exact m1 h;exact m2 h))))
    go_enter Tryz.func248,Tryz.ntmps248
    revert H;refine W15 ?_;intro H _ _ _ _ _;(refine xK H (zaQ _ 9218868437227405312 neg yf) ?_;clear H;intro w1 hF H);simp only[Int.not_lt,Int.not_le]at*;revert H;refine W15 ?_;intro H
    go_ret
    exact⟨by rw[HV.out];rfl,H.fr⟩
def zeB{neg:Bool}{mode:Int}{k:Nat}{u:Int}(h:k<4503599627370496):zab neg mode k u=zJ neg k:=by
 unfold zab;have h1:¬k=9007199254740992:=by omega
 simp only[if_neg h1,if_pos h]
def zdC{neg:Bool}{mode:Int}{k:Nat}{u:Int}(h:4503599627370496≤k)(h1:k≠9007199254740992):zab neg mode k u=if 2047≤u+1075 then zaK neg mode else zJ neg ((u+1075).toNat*4503599627370496+(k-4503599627370496)):=by
 unfold zab;simp only[if_neg h1];rw[if_neg yb]
def zmi{neg:Bool}{mode:Int}{u:Int}:zab neg mode 9007199254740992 u=if 2047≤u+1+1075 then zaK neg mode else zJ neg ((u+1+1075).toNat*4503599627370496+0):=rfl
def pack_full{neg:Bool}{mode:Int}{u:Int}:zab neg mode 9007199254740992 u=if 2047≤u+1+1075 then zaK neg mode else zJ neg ((u+1+1075).toNat*4503599627370496):=by
 rw[zmi,Nat.add_zero]
section
variable {P:Program} {w:World} {a:Act} {o:Oper} {t t':TypeId} {x y:Operand}
def zvu{kk:IntKind}(ho:o.op= .binOp .shl t x (.const (.int kk 52)) t'){z:Int}(hx:a.eval x= .int .u64 z)(h0:0≤z:=by omega)(hm:z<2048:=by omega):(execOp a.eval o).run P w= .ok (.value (.int .u64 (z*4503599627370496))) w:=by
 obtain⟨m,rfl⟩:=Int.eq_ofNat_of_zero_le h0;have h:=ztv (P:=P) (w:=w) ho hx yb;rw[h,Int.natCast_mul];rfl
def zvw(ho:o.op= .binOp .or t x y t'){z n:Int}(hx:a.eval x= .int .u64 (z*4503599627370496))(hy:a.eval y= .int .u64 n)(h0:0≤z:=by omega)(hm:z<2048:=by omega)(hn0:0≤n:=by omega)(hn:n<4503599627370496:=by omega):(execOp a.eval o).run P w= .ok (.value (.int .u64 (z*4503599627370496+n))) w:=by
 obtain⟨m,rfl⟩:=Int.eq_ofNat_of_zero_le h0;obtain⟨k,rfl⟩:=Int.eq_ofNat_of_zero_le hn0;have h:=ztU (P:=P) (w:=w) (m:=m) (n:=k) ho (by rw[hx,Int.natCast_mul];rfl) hy yb yb;rw[h,Int.natCast_add,Int.natCast_mul];rfl
end
def zcW(w:World){z:Int}(f:Nat)(neg:Bool)(hz:z=(f:Int))(hf:f<9223372036854775808):
 Calls Tryz.prog 247 #[.int .u64 z, .bool neg] w fun r w'=>r= .returned (.int .u64 (zJ neg f:Nat))∧Fr [] w w':=by
 subst hz;exact zaQ w f neg hf
def zf0{w:World}{v:Value}{neg:Bool}{N D:Nat}{E:Int}(mode:Int)(h:Rl w v neg N D E)(hT:La w):
 Calls Tryz.prog 181 #[v, .int .i64 mode] w fun r w'=>r= .returned (.int .u64 (zK neg mode N D E:Nat))∧Fr [] w w':=by
 obtain⟨b,p,kk,c,n,m,ex,more,rfl,hB,hN,hD,hm,h0,hex,hmo,hmm,hbm,hx1,hx2⟩:=h;obtain⟨u,hu⟩:∃u,max (ex+bl m-1-52) (-1074)=u:=⟨_,rfl⟩;obtain⟨k,hk,hk2,hr,hks⟩:=zum neg mode hN hD hm h0 hex hu hmm;have hb0:=zgV h0;have HA1:=hid hB;have HT:=hid hT;rw[←hmo]at hk;have HK:=hid hk;have HR:=hid hr;have HU:=hid hu;have hu1: -1074≤u∧ex+bl m-53≤u∧(u= -1074∨u=ex+bl m-53):=by omega
 have hE:ex<u∨more=false:=by
  rcases hmm with hz|hz
  ·right;rw[hmo,decide_eq_false (by rw[hz];simp)]
  ·left;omega
 clear hB hN hD hm hex hmo hmm hT hk hr hu;rw[HR.out];clear HR;have H:=Hp.start [] w
 go_enter Tryz.func181,Tryz.ntmps181
 revert H;refine W15 ?_;intro _ g w1 hg H hf _ _ _ _;(refine xK H (znv (HA1.out.fr H.fr).ar yb yb ⟨hx1,hx2⟩) ?_;clear H;intro w1 hF H);simp only[Int.not_lt,Int.not_le]at*;revert H;refine W28 ?_;intro H _ _ _ _
 by_cases hlt:ex<u
 ·have HK2:=hid ((if_pos hlt).symm.trans HK.out);(refine x_c H (zjN (u-ex).toNat yb (HA1.out.fr H.fr).ar yb h0 yb yb yb yb ⟨hx1,hx2⟩ (HT.out.fr H.fr)) ?_;clear H;rintro e w1 ⟨v3,rfl,hF,hB⟩ H;replace hF:=hF.kp;rw[HK2.out]at hB;obtain⟨b3,p3,m3,c3,rfl⟩:=hB.form;have HB3:=hid hB;clear hB);have hbk2:bl k≤54:=zbC yb;simp only[Int.not_lt,Int.not_le]at*;revert H;refine W15 ?_;intro H _ _;(refine x_c H (zfd (bv HB3).ar yb) ?_;clear H;rintro e w1 ⟨v4,rfl,hF,hB⟩ H;replace hF:=hF.kp;rw[za0]at hB;obtain⟨b4,p4,m4,c4,rfl⟩:=hB.form;have HB4:=hid hB;clear hB);simp only[Int.not_lt,Int.not_le]at*;revert H;refine W15 ?_;intro H _ _;(refine xK H (zo9 (bv HB4).ar yb yb) ?_;clear H;intro w1 hF H);clear HK HK2
  by_cases hfu:k=9007199254740992
  ·subst hfu
   by_cases ho:2047≤u+1+1075
   ·have HV:Hid (zab neg mode 9007199254740992 u=zaK neg mode):=hid (pack_full.trans (if_pos ho));simp only[Int.not_lt,Int.not_le]at*;revert H;refine W15 ?_;intro H _ _ _ _ _ _;(refine xK H (zcs _ neg mode) ?_;clear H;intro w1 hF H);simp only[Int.not_lt,Int.not_le]at*;revert H;refine W15 ?_;intro H
    go_ret
    exact⟨by rw[HV.out];rfl,H.fr⟩
   ·have HV:Hid (zab neg mode 9007199254740992 u=zJ neg ((u+1+1075).toNat*4503599627370496)):=hid (pack_full.trans (if_neg ho));simp only[Int.not_lt,Int.not_le]at*;revert H;refine W29 ?_;intro H _ _ _ _;(refine xK H (zcW _ ((u+1+1075).toNat*4503599627370496) neg yb yb) ?_;clear H;intro w1 hF H);simp only[Int.not_lt,Int.not_le]at*;revert H;refine W15 ?_;intro H
    go_ret
    exact⟨by rw[HV.out];rfl,H.fr⟩
  ·by_cases hsm:k<4503599627370496
   ·have HV:Hid (zab neg mode k u=zJ neg k):=hid (zeB hsm);simp only[Int.not_lt,Int.not_le]at*;revert H;refine W15 ?_;intro H _ _ _ _ _ _;(refine xK H (zaQ _ k neg yb) ?_;clear H;intro w1 hF H);simp only[Int.not_lt,Int.not_le]at*;revert H;refine W15 ?_;intro H
    go_ret
    exact⟨by rw[HV.out];rfl,H.fr⟩
   ·by_cases ho:2047≤u+1075
    ·have HV:Hid (zab neg mode k u=zaK neg mode):=hid ((zdC yb hfu).trans (if_pos ho));simp only[Int.not_lt,Int.not_le]at*;revert H;refine W15 ?_;intro H _ _ _ _ _ _;(refine xK H (zcs _ neg mode) ?_;clear H;intro w1 hF H);simp only[Int.not_lt,Int.not_le]at*;revert H;refine W15 ?_;intro H
     go_ret
     exact⟨by rw[HV.out];rfl,H.fr⟩
    ·have HV:Hid (zab neg mode k u=zJ neg ((u+1075).toNat*4503599627370496+(k-4503599627370496))):=hid ((zdC yb hfu).trans (if_neg ho));simp only[Int.not_lt,Int.not_le]at*;revert H;refine W29 ?_;intro H _ _ _ _;(refine xK H (zcW _ ((u+1075).toNat*4503599627370496+(k-4503599627370496)) neg yb yb) ?_;clear H;intro w1 hF H);simp only[Int.not_lt,Int.not_le]at*;revert H;refine W15 ?_;intro H
     go_ret
     exact⟨by rw[HV.out];rfl,H.fr⟩
 ·obtain rfl:more=false:=by rcases hE with h|h;exact absurd h hlt;exact h
  have HK2:=hid ((if_neg hlt).symm.trans HK.out);have hbk:bl (m*2^(ex-u).toNat)=bl m+(ex-u).toNat:=zdm h0 _;(refine x_c H (ziH (ex-u).toNat yb (HA1.out.fr H.fr).ar yb yb yb yb ⟨hx1,hx2⟩) ?_;clear H;rintro e w1 ⟨v3,rfl,hF,hB⟩ H;replace hF:=hF.kp;rw[HK2.out]at hB;obtain⟨b3,p3,m3,c3,rfl⟩:=hB.form;have HB3:=hid hB;clear hB);have hbk2:bl k≤54:=zbC yb;simp only[Int.not_lt,Int.not_le]at*;revert H;refine W15 ?_;intro H _ _;(refine x_c H (zfd (bv HB3).ar yb) ?_;clear H;rintro e w1 ⟨v4,rfl,hF,hB⟩ H;replace hF:=hF.kp;rw[za0]at hB;obtain⟨b4,p4,m4,c4,rfl⟩:=hB.form;have HB4:=hid hB;clear hB);simp only[Int.not_lt,Int.not_le]at*;revert H;refine W15 ?_;intro H _ _;(refine xK H (zo9 (bv HB4).ar yb yb) ?_;clear H;intro w1 hF H);clear HK HK2
  by_cases hfu:k=9007199254740992
  ·subst hfu
   by_cases ho:2047≤u+1+1075
   ·have HV:Hid (zab neg mode 9007199254740992 u=zaK neg mode):=hid (pack_full.trans (if_pos ho));simp only[Int.not_lt,Int.not_le]at*;revert H;refine W15 ?_;intro H _ _ _ _ _ _;(refine xK H (zcs _ neg mode) ?_;clear H;intro w1 hF H);simp only[Int.not_lt,Int.not_le]at*;revert H;refine W15 ?_;intro H
    go_ret
    exact⟨by rw[HV.out];rfl,H.fr⟩
   ·have HV:Hid (zab neg mode 9007199254740992 u=zJ neg ((u+1+1075).toNat*4503599627370496)):=hid (pack_full.trans (if_neg ho));simp only[Int.not_lt,Int.not_le]at*;revert H;refine W29 ?_;intro H _ _ _ _;(refine xK H (zcW _ ((u+1+1075).toNat*4503599627370496) neg yb yb) ?_;clear H;intro w1 hF H);simp only[Int.not_lt,Int.not_le]at*;revert H;refine W15 ?_;intro H
    go_ret
    exact⟨by rw[HV.out];rfl,H.fr⟩
  ·by_cases hsm:k<4503599627370496
   ·have HV:Hid (zab neg mode k u=zJ neg k):=hid (zeB hsm);simp only[Int.not_lt,Int.not_le]at*;revert H;refine W15 ?_;intro H _ _ _ _ _ _;(refine xK H (zaQ _ k neg yb) ?_;clear H;intro w1 hF H);simp only[Int.not_lt,Int.not_le]at*;revert H;refine W15 ?_;intro H
    go_ret
    exact⟨by rw[HV.out];rfl,H.fr⟩
   ·by_cases ho:2047≤u+1075
    ·have HV:Hid (zab neg mode k u=zaK neg mode):=hid ((zdC yb hfu).trans (if_pos ho));simp only[Int.not_lt,Int.not_le]at*;revert H;refine W15 ?_;intro H _ _ _ _ _ _;(refine xK H (zcs _ neg mode) ?_;clear H;intro w1 hF H);simp only[Int.not_lt,Int.not_le]at*;revert H;refine W15 ?_;intro H
     go_ret
     exact⟨by rw[HV.out];rfl,H.fr⟩
    ·have HV:Hid (zab neg mode k u=zJ neg ((u+1075).toNat*4503599627370496+(k-4503599627370496))):=hid ((zdC yb hfu).trans (if_neg ho));simp only[Int.not_lt,Int.not_le]at*;revert H;refine W29 ?_;intro H _ _ _ _;(refine xK H (zcW _ ((u+1075).toNat*4503599627370496+(k-4503599627370496)) neg yb yb) ?_;clear H;intro w1 hF H);simp only[Int.not_lt,Int.not_le]at*;revert H;refine W15 ?_;intro H
     go_ret
     exact⟨by rw[HV.out];rfl,H.fr⟩
end
end Go.Proofs.YtaijhllckmndhaaGreatDoor
