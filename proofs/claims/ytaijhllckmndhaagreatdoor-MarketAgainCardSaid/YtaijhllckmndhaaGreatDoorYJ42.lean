import Derived.Test.YtaijhllckmndhaaGreatDoorYJ0
import Derived.Test.YtaijhllckmndhaaGreatDoorYJ41
import Derived.Test.YtaijhllckmndhaaGreatDoorYJ40
import Derived.Test.YtaijhllckmndhaaGreatDoorYJ26
import Derived.Test.YtaijhllckmndhaaGreatDoorYJ34
import Derived.Test.YtaijhllckmndhaaGreatDoorYJ27
import Derived.Test.YtaijhllckmndhaaGreatDoorYJ25
namespace Go.Proofs.YtaijhllckmndhaaGreatDoor
set_option linter.all false
set_option maxHeartbeats 64000000
set_option maxRecDepth 100000
section
open Go.RowKit
def zeD{w:World}{va vb:Value}{x e y f:Int}(mode:Int)(ha:Dn w va x e)(hb:Dn w vb y f)(hx:x≠0)(hy:y≠0)(hbx:bl x.natAbs≤30000)(hby:bl y.natAbs≤30000)(he: -30000≤e∧e≤30000)(hf: -30000≤f∧f≤30000)(hT:La w):
 Calls Tryz.prog 185 #[va,vb, .int .i64 mode] w fun r w'=>r= .returned (.int .u64 (zK (!(decide (x<0)==decide (y<0))) mode x.natAbs y.natAbs (e-f):Nat))∧Fr [] w w':=by
 have HDA:=hid ha;have HDB:=hid hb;have HT:=hid hT;have HX:=hid (ze3 hx);have HY:=hid (ze3 hy);have hX:=hid hx;have hY:=hid hy;obtain⟨m1,e1,b1,p1,n1,c1,rfl,_,_⟩:=ha;obtain⟨m2,e2,b2,p2,n2,c2,rfl,_,_⟩:=hb;clear hT hx hy;obtain⟨s1,hs1⟩:∃s,Int.sign x=s:=⟨_,rfl⟩;obtain⟨s2,hs2⟩:∃s,Int.sign y=s:=⟨_,rfl⟩;have HS1:=hid hs1;have HS2:=hid hs2;have hn1:s1≠0:=by rw[←hs1];exact HX.out
 have hn2:s2≠0:=by rw[←hs2];exact HY.out
 clear hs1 hs2;have H:=Hp.start [] w
 go_enter Tryz.func185,Tryz.ntmps185
 revert H;refine W15 ?_;intro _ _ _ _ _ g w1 hg H hf _ _
 (revert H;refine zR 4 (.st 0 (.st 2 (.ld 1 (.ld 3 (.ldf 4 (.ld 5 .done)))))) ?_;intro w1 hf H;(first|replace hf:=hf.kp|clear hf))
 iterate 2 refine p_q ?_
 ((refine p_c H rfl rfl Tryz.func179 (zfn (dn HDA) yb yb yb (HT.out.fr H.fr)) ?_;clear H;rintro e w1 ⟨v3,rfl,hF,hD⟩ H;refine p_r ?_;replace hF:=hF.kp);have HD3:=hid hD;obtain⟨m3,e3,b3,p3,n3,c3,rfl,hN,hB⟩:=hD;have HN3:=hid hN;have HB3:=hid hB;clear hN hB)
 ((refine p_c H rfl rfl Tryz.func179 (zfn (dn HDB) yb yb yb (HT.out.fr H.fr)) ?_;clear H;rintro e w1 ⟨v4,rfl,hF,hD⟩ H;refine p_r ?_;replace hF:=hF.kp);have HD4:=hid hD;obtain⟨m4,e4,b4,p4,n4,c4,rfl,hN,hB⟩:=hD;have HN4:=hid hN;have HB4:=hid hB;clear hN hB)
 (revert H;refine zmV ?_;intro w1 hf H hk;clear hf;change Kp _ _ at hk)
 (revert H;refine zZ ?_;intro w1 hf H hk;clear hf;change Kp _ _ at hk)
 (refine zf ?_)
 all_goals
  revert H;refine W15 ?_;intro H _ _ _ _ _ _;(refine x_c H (zfe (dn HD4) yb yb yb (HT.out.fr H.fr)) ?_;clear H;rintro e w1 ⟨rfl,hF⟩ H;replace hF:=hF.kp;rw[HS2.out]);simp only[Int.not_lt,Int.not_le]at*;revert H;refine W15 ?_;intro H _ _ _ _;(refine x_c H (zfe (dn HD3) yb yb yb (HT.out.fr H.fr)) ?_;clear H;rintro e w1 ⟨rfl,hF⟩ H;replace hF:=hF.kp;rw[HS1.out]);simp only[Int.not_lt,Int.not_le]at*;revert H;refine W15 ?_;intro H _ _ _ _;(refine x_c H (zn3 (dn HD3) (dn HD4) hX.out hY.out hbx hby yb yb) ?_;clear H;rintro e w1 ⟨v6,rfl,hF,N,D,E,hR,hE⟩ H;replace hF:=hF.kp;skip);have HE:=hid (hE (!(decide (x<0)==decide (y<0))) mode);have HRL:=hid hR;clear hR hE;simp only[Int.not_lt,Int.not_le]at*;revert H;refine W15 ?_;intro H _ _;(refine x_c H (zf0 mode (rl HRL) (HT.out.fr H.fr)) ?_;clear H;rintro e w1 ⟨rfl,hF⟩ H;replace hF:=hF.kp;rw[HE.out])
  simp only[Int.not_lt,Int.not_le]at*;revert H;refine W15 ?_;intro H
  go_ret
  exact⟨rfl,H.fr⟩
end
section
open Go.RowKit
def zsd{l:List UInt8}(h:l.all dig=true)(h0:l≠[])(hl:l.length≤1024):pz l=((num l:Int),0):=by
 obtain⟨b,r,rfl⟩:∃b r,l=b::r:=by
  cases l with
  | nil=>exact absurd rfl h0
  | cons b r=>exact⟨b,r,rfl⟩
 have hb:dig b=true:=by rw[List.all_cons,Bool.and_eq_true]at h;exact h.1
 have h1:b≠45:=fun e=>by rw[e]at hb;exact absurd hb yf
 have h2:b≠43:=fun e=>by rw[e]at hb;exact absurd hb yf
 have hbody:body (b::r)=b::r:=by
  unfold body;rw[if_neg]
  rintro(h|h)
  ·simp at h;exact h1 h
  ·simp at h;exact h2 h
 have hs:sgn (b::r)=false:=by unfold sgn;simpa using h1
 unfold pz;rw[if_neg yb,hbody,if_neg (by rintro(h3|h3);exact h0 h3;rw[h]at h3;cases h3),hs]
 rfl
def zmt(w:World){s:List UInt8}{z:Int}(hs:s.length≤2000000)(hz:Hid (pz s=(z,0))):
 Calls Tryz.prog 117 #[ze s] w fun e w'=>∃v1,e= .returned (.tuple #[v1, .int .i64 0])∧Fr [] w w'∧Bv w' v1 z 1024:=by
 have h:=zh5 w s hs;rw[hz.out]at h;exact h
def zbk(n:Nat):((10^n:Nat):Int).natAbs=10^n:=Int.natAbs_natCast _
def zg3(w:World){z:Int}(n:Nat)(hz:z=(n:Int))(hn:n≤5000):
 Calls Tryz.prog 187 #[.int .i64 z] w fun e w'=>∃v1,e= .returned v1∧Fr [] w w'∧Bv w' v1 ((10^n:Nat):Int) (bl (10^n)):=by
 subst hz;exact zdb w n hn
def zgW{neg:Bool}{N:Nat}(h:0<N):decide (sg neg N<0)=neg:=by
 unfold sg
 cases neg
 ·exact decide_eq_false yg
 ·exact decide_eq_true yn
def zua{N L:Nat}(h:N<10^L):bl N≤4*L+1:=Nat.le_trans (zbe (Nat.le_of_lt h)) (zbY L)
def zgJ(w:World)(s:List UInt8)(mode:Int)(hT:La w):
 Calls Tryz.prog 120 #[ze s, .int .i64 mode] w fun r w'=>r= .returned (.tuple #[.int .u64 ((dpz 1024 s mode).1:Nat), .int .i64 (dpz 1024 s mode).2])∧Fr [] w w':=by
 have HT:=hid hT;clear hT;have H:=Hp.start [] w
 by_cases hl:1024<s.length
 ·have HZ:Hid (dpz 1024 s mode=(0,2)):=hid (by unfold dpz;rw[if_pos hl])
  go_enter Tryz.func120,Tryz.ntmps120
  revert H;refine W35 ?_;intro H _ _ _;refine bodyPost_ret (results_tmp2 rfl _ _ _) rfl ?_;exact⟨by rw[HZ.out];rfl,H.fr⟩
 ·have hsp:=zrh mode (Nat.le_of_not_lt hl);have hr:=zdz;obtain⟨⟨⟨neg,ds,x⟩,e⟩,hrd⟩:∃r,rdS s=r:=⟨_,rfl⟩;rw[hrd]at hsp;have HRD:=hid hrd;clear hrd hr;obtain⟨V,hV⟩:∃V,dpz 1024 s mode=V:=⟨_,rfl⟩;rw[hV]at hsp ⊢;clear hV;have hle:s.length≤1024:=by omega
  rcases hsp with⟨a1,a2,a3,a4⟩|⟨a1,a2,a3,a4,a5,a6⟩
  ·have HV:=hid a4;simp only[]at a1 a2 a3;clear a4
   go_enter Tryz.func120,Tryz.ntmps120
   simp only[Int.not_lt,Int.not_le]at*;revert H;refine W35 ?_;intro H _ _ _ _ _;(refine x_c H (zdz _ s hle) ?_;clear H;rintro e w1 ⟨rfl,hF⟩ H;replace hF:=hF.kp;rw[HRD.out]);simp only[Int.not_lt,Int.not_le]at*;revert H;refine W35 ?_;intro g _ hg hf w1 H hk _ _;refine bodyPost_ret (results_tmp2 rfl _ _ _) rfl ?_;exact⟨by rw[HV.out];rfl,H.fr⟩
  ·simp only[]at a1 a2 a3 a4 a5 a6;subst a1;have HV:=hid a6;have hnl:=zb0 ds;have hla:=zeU a2;have hln:=zrj a2;have hll:(zW ds).length≤ds.length:=(List.dropWhile_suffix _).length_le;have HL:Hid (ds.dropWhile (· ==48)=zW ds):=hid rfl;obtain⟨d,hd⟩:∃d,zW ds=d:=⟨_,rfl⟩;rw[hd]at hnl hla hln hll HL;clear hd a6 hl
   by_cases h0:d=[]
   ·have hz:=hln.1 h0;have HZ:Hid (zck neg mode (num ds) x=zJ neg 0):=hid (by unfold zck;rw[if_pos hz]);have HE:Hid ((d==[])=true):=hid (by rw[h0];rfl);clear hnl hla hln hz h0
    cases neg
    ·go_enter Tryz.func120,Tryz.ntmps120
     revert H;refine W35 ?_;intro H _ _ _ _ _;(refine x_c H (zdz _ s hle) ?_;clear H;rintro e w1 ⟨rfl,hF⟩ H;replace hF:=hF.kp;rw[HRD.out]);simp only[Int.not_lt,Int.not_le]at*;revert H;refine W35 ?_;intro g _ hg hf w1 H hk _ _ _ _;(refine x_c H (zaw _ ds) ?_;clear H;rintro e w1 ⟨rfl,hF⟩ H;replace hF:=hF.kp;rw[HL.out]);simp only[Int.not_lt,Int.not_le]at*;revert H;refine W35 ?_;intro H _ _;refine bodyPost_ret (results_tmp2 rfl _ _ _) rfl ?_;exact⟨by rw[HV.out,HZ.out];rfl,H.fr⟩
    ·go_enter Tryz.func120,Tryz.ntmps120
     revert H;refine W35 ?_;intro H _ _ _ _ _;(refine x_c H (zdz _ s hle) ?_;clear H;rintro e w1 ⟨rfl,hF⟩ H;replace hF:=hF.kp;rw[HRD.out]);simp only[Int.not_lt,Int.not_le]at*;revert H;refine W35 ?_;intro g _ hg hf w1 H hk _ _ _ _;(refine x_c H (zaw _ ds) ?_;clear H;rintro e w1 ⟨rfl,hF⟩ H;replace hF:=hF.kp;rw[HL.out]);simp only[Int.not_lt,Int.not_le]at*;revert H;refine W35 ?_;intro H _ _ _ _;refine bodyPost_ret (results_tmp2 rfl _ _ _) rfl ?_;exact⟨by rw[HV.out,HZ.out];rfl,H.fr⟩
   ·have hn0:num ds≠0:=fun h=>h0 (hln.2 h)
    have hpz:=zsd hla h0 yb;have hlt:=zeg d hla;rw[hnl]at hpz hlt;have HE:Hid ((d==[])=false):=hid (by simpa using h0);obtain⟨N,hN⟩:∃N,num ds=N:=⟨_,rfl⟩;rw[hN]at hpz hlt hn0 HV;obtain⟨X,hX⟩:∃X,max (min x 2000) (-2000-(d.length:Int))=X:=⟨_,rfl⟩;have hXb: -3024≤X∧X≤2000:=by omega
    have HV2:Hid (V=(dvF neg mode N X,0)):=hid (by
     rw[HV.out];unfold zck
     rw[if_neg hn0,←zqy neg mode (Nat.pos_of_ne_zero hn0) hlt,hX])
    have HX:=hid hX;have HPZ:=hid hpz;have hbn:=zua hlt;have hNp:0<N:=Nat.pos_of_ne_zero hn0;clear HV hnl hla hln hpz hN hX h0
    go_enter Tryz.func120,Tryz.ntmps120
    revert H;refine W35 ?_;intro H _ _ _ _ _;(refine x_c H (zdz _ s hle) ?_;clear H;rintro e w1 ⟨rfl,hF⟩ H;replace hF:=hF.kp;rw[HRD.out]);simp only[Int.not_lt,Int.not_le]at*;revert H;refine W35 ?_;intro g _ hg hf w1 H hk _ _ _ _;(refine x_c H (zaw _ ds) ?_;clear H;rintro e w1 ⟨rfl,hF⟩ H;replace hF:=hF.kp;rw[HL.out]);simp only[Int.not_lt,Int.not_le]at*;revert H;refine W36 ?_;intro H _ _ _ _;(refine x_c H (zmt _ yb HPZ) ?_;clear H;rintro e w1 ⟨v3,rfl,hF,hB⟩ H;replace hF:=hF.kp;replace hB:=hB.c;rw[Int.natAbs_natCast]at hB;obtain⟨b3,p3,m3,c3,rfl⟩:=hB.form;have HB3:=hid hB;clear hB)
    have HMZ:Hid (0≤X→∃j:Nat,X=(j:Int)∧j≤2000∧dvF neg mode N X=zK neg mode (N*10^j) 1 0):=hid (fun h=>by
     obtain⟨j,rfl⟩:=Int.eq_ofNat_of_zero_le h
     exact⟨j,rfl,by omega,zsl neg mode N j⟩)
    have HMN:Hid (X<0→∃j:Nat, -X=(j:Int)∧j≤3024∧dvF neg mode N X=zK neg mode N (10^j) 0):=hid (fun h=>by
     obtain⟨j,hj⟩:=Int.eq_ofNat_of_zero_le (show 0≤ -X by omega)
     exact⟨j,hj,by omega,by rw[show X= -(j:Int) by omega];exact zsA neg mode N j⟩)
    cases neg
    ·simp only[Int.not_lt,Int.not_le]at*;revert H;refine W35 ?_;intro g _ hg hf w1 H hk _ _ _ _;(refine x_c H (zfm _ 1 yl (HT.out.fr H.fr)) ?_;clear H;rintro e w1 ⟨v5,rfl,hF,hD⟩ H;replace hF:=hF.kp;have HD5:=hid hD;obtain⟨m5,e5,b5,p5,n5,c5,rfl,hN,hB⟩:=hD;have HN5:=hid hN;have HB5:=hid hB;clear hN hB)
     by_cases hX0:0≤X
     ·obtain⟨j,rfl,hj,hdv⟩:=HMZ.out hX0;have HDV:=hid hdv;have hbj:=zbY j;have hbp:=zcK N (10^j);have hp:=zD j
      have HY:Hid (((N:Int)*((10^j:Nat):Int)).natAbs=N*10^j∧(!(decide ((N:Int)*((10^j:Nat):Int)<0)==decide ((1:Int)<0)))=false∧(N:Int)*((10^j:Nat):Int)≠0):=hid (by
       have h1:(N:Int)*((10^j:Nat):Int)=sg false (N*10^j):=by unfold sg;simp[Int.natCast_mul,Int.neg_mul]
       have h2:0<N*10^j:=Nat.mul_pos hNp hp;rw[h1,zgW h2];refine⟨za0 _ _,rfl,fun h=>?_⟩;rw[zdg]at h
       omega)
      clear HMZ HMN hdv;simp only[Int.not_lt,Int.not_le]at*;revert H;refine W35 ?_;intro g _ hg hf w1 H hk _ _ _ _
      (revert H;refine zR 10 (.st 0 (.st 1 (.st 5 (.st 6 (.ld 2 (.ld 3 (.ld 4 (.ld 7 (.st 8 (.st 9 .done)))))))))) ?_;intro w1 hf H;(first|replace hf:=hf.kp|clear hf))
      iterate 4 refine p_q ?_
      ((refine p_c H rfl rfl Tryz.func187 (zdb _ j yb) ?_;clear H;rintro e w1 ⟨v6,rfl,hF,hB⟩ H;refine p_r ?_;replace hF:=hF.kp);obtain⟨b6,p6,m6,c6,rfl⟩:=hB.form;have HB6:=hid hB;clear hB)
      ((refine p_c H rfl rfl Tryz.func186 (zdB (bv HB3).ar (bv HB6).ar yb yb) ?_;clear H;rintro e w1 ⟨v7,rfl,hF,hB⟩ H;refine p_r ?_;replace hF:=hF.kp);replace hB:=hB.c;obtain⟨b7,p7,m7,c7,rfl⟩:=hB.form;have HB7:=hid hB;clear hB)
      ((refine p_c H rfl rfl Tryz.func119 (za4 (bv HB7).ar yt yt (HT.out.fr H.fr)) ?_;clear H;rintro e w1 ⟨v8,rfl,hF,hD⟩ H;refine p_r ?_;replace hF:=hF.kp);have HD8:=hid hD;clear hD)
      ((refine p_c H rfl rfl Tryz.func185 (zeD mode (dn HD8) (dn HD5) HY.out.2.2 yf yt yf yb yb (HT.out.fr H.fr)) ?_;clear H;rintro e w1 ⟨rfl,hF⟩ H;refine p_r ?_;replace hF:=hF.kp);rw[HY.out.1,HY.out.2.1])
      iterate 2 refine p_q ?_
      (refine zf ?_)
      all_goals
       revert H;refine W35 ?_;intro H;refine bodyPost_ret (results_tmp2 rfl _ _ _) rfl ?_;exact⟨by rw[HV2.out,HDV.out];rfl,H.fr⟩
     ·obtain⟨j,hj1,hj,hdv⟩:=HMN.out yb;have HDV:=hid hdv;have HJ:=hid hj1;have hbj:=zbY j;have hp:=zD j
      have HY:Hid (((N:Int)).natAbs=N∧(!(decide ((N:Int)<0)==decide (((10^j:Nat):Int)<0)))=false∧(N:Int)≠0∧((10^j:Nat):Int)≠0):=hid (by
       have h1:(N:Int)=sg false N:=rfl;rw[h1,zgW hNp,show decide (((10^j:Nat):Int)<0)=false from decide_eq_false yb];refine⟨za0 _ _,rfl,fun h=>?_,by omega⟩;rw[zdg]at h
       omega)
      clear HMZ HMN hdv hj1;simp only[Int.not_lt,Int.not_le]at*;revert H;refine W35 ?_;intro g _ hg hf w1 H hk _ _ _ _;(refine x_c H (za4 (bv HB3).ar yt yt (HT.out.fr H.fr)) ?_;clear H;rintro e w1 ⟨v8,rfl,hF,hD⟩ H;replace hF:=hF.kp;have HD8:=hid hD;clear hD);simp only[Int.not_lt,Int.not_le]at*;revert H;refine W35 ?_;intro H _ _;(refine x_c H (zg3 _ j HJ.out yb) ?_;clear H;rintro e w1 ⟨v6,rfl,hF,hB⟩ H;replace hF:=hF.kp;obtain⟨b6,p6,m6,c6,rfl⟩:=hB.form;have HB6:=hid hB;clear hB);simp only[Int.not_lt,Int.not_le]at*;revert H;refine W35 ?_;intro H _ _;(refine x_c H (za4 (bv HB6).ar yH yH (HT.out.fr H.fr)) ?_;clear H;rintro e w1 ⟨v7,rfl,hF,hD⟩ H;replace hF:=hF.kp;have HD7:=hid hD;clear hD);simp only[Int.not_lt,Int.not_le]at*;revert H;refine W35 ?_;intro H _ _
      (refine x_c H (zeD mode (dn HD8) (dn HD7) HY.out.2.2.1 HY.out.2.2.2 yt yH yb yb (HT.out.fr H.fr)) ?_;clear H;rintro e w1 ⟨rfl,hF⟩ H;replace hF:=hF.kp;rw[HY.out.1,HY.out.2.1,zbk]);simp only[Int.not_lt,Int.not_le]at*;revert H;refine W35 ?_;intro H;refine bodyPost_ret (results_tmp2 rfl _ _ _) rfl ?_;exact⟨by rw[HV2.out,HDV.out];rfl,H.fr⟩
    ·simp only[Int.not_lt,Int.not_le]at*;revert H;refine W35 ?_;intro g _ hg hf w1 H hk _ _ _ _;(refine x_c H (za7 (bv HB3).ar yb) ?_;clear H;rintro e w1 ⟨v4,rfl,hF,hB⟩ H;replace hF:=hF.kp;replace hB:=hB.c;rw[Int.natAbs_neg,Int.natAbs_natCast]at hB;obtain⟨b4,p4,m4,c4,rfl⟩:=hB.form;have HB4:=hid hB;clear hB);simp only[Int.not_lt,Int.not_le]at*;revert H;refine W35 ?_;intro w1 H hk _ _ _ _;(refine x_c H (zfm _ 1 yl (HT.out.fr H.fr)) ?_;clear H;rintro e w1 ⟨v5,rfl,hF,hD⟩ H;replace hF:=hF.kp;have HD5:=hid hD;obtain⟨m5,e5,b5,p5,n5,c5,rfl,hN,hB⟩:=hD;have HN5:=hid hN;have HB5:=hid hB;clear hN hB)
     by_cases hX0:0≤X
     ·obtain⟨j,rfl,hj,hdv⟩:=HMZ.out hX0;have HDV:=hid hdv;have hbj:=zbY j;have hbp:=zcK N (10^j);have hp:=zD j
      have HY:Hid ((-(N:Int)*((10^j:Nat):Int)).natAbs=N*10^j∧(!(decide (-(N:Int)*((10^j:Nat):Int)<0)==decide ((1:Int)<0)))=true∧ -(N:Int)*((10^j:Nat):Int)≠0):=hid (by
       have h1: -(N:Int)*((10^j:Nat):Int)=sg true (N*10^j):=by unfold sg;simp[Int.natCast_mul,Int.neg_mul]
       have h2:0<N*10^j:=Nat.mul_pos hNp hp;rw[h1,zgW h2];refine⟨za0 _ _,rfl,fun h=>?_⟩;rw[zdg]at h
       omega)
      clear HMZ HMN hdv;simp only[Int.not_lt,Int.not_le]at*;revert H;refine W35 ?_;intro g _ hg hf w1 H hk _ _ _ _
      (revert H;refine zR 10 (.st 0 (.st 1 (.st 5 (.st 6 (.ld 2 (.ld 3 (.ld 4 (.ld 7 (.st 8 (.st 9 .done)))))))))) ?_;intro w1 hf H;(first|replace hf:=hf.kp|clear hf))
      iterate 4 refine p_q ?_
      ((refine p_c H rfl rfl Tryz.func187 (zdb _ j yb) ?_;clear H;rintro e w1 ⟨v6,rfl,hF,hB⟩ H;refine p_r ?_;replace hF:=hF.kp);obtain⟨b6,p6,m6,c6,rfl⟩:=hB.form;have HB6:=hid hB;clear hB)
      ((refine p_c H rfl rfl Tryz.func186 (zdB (bv HB4).ar (bv HB6).ar yb yb) ?_;clear H;rintro e w1 ⟨v7,rfl,hF,hB⟩ H;refine p_r ?_;replace hF:=hF.kp);replace hB:=hB.c;obtain⟨b7,p7,m7,c7,rfl⟩:=hB.form;have HB7:=hid hB;clear hB)
      ((refine p_c H rfl rfl Tryz.func119 (za4 (bv HB7).ar yt yt (HT.out.fr H.fr)) ?_;clear H;rintro e w1 ⟨v8,rfl,hF,hD⟩ H;refine p_r ?_;replace hF:=hF.kp);have HD8:=hid hD;clear hD)
      ((refine p_c H rfl rfl Tryz.func185 (zeD mode (dn HD8) (dn HD5) HY.out.2.2 yf yt yf yb yb (HT.out.fr H.fr)) ?_;clear H;rintro e w1 ⟨rfl,hF⟩ H;refine p_r ?_;replace hF:=hF.kp);rw[HY.out.1,HY.out.2.1])
      iterate 2 refine p_q ?_
      (refine zf ?_)
      all_goals
       revert H;refine W35 ?_;intro H;refine bodyPost_ret (results_tmp2 rfl _ _ _) rfl ?_;exact⟨by rw[HV2.out,HDV.out];rfl,H.fr⟩
     ·obtain⟨j,hj1,hj,hdv⟩:=HMN.out yb;have HDV:=hid hdv;have HJ:=hid hj1;have hbj:=zbY j;have hp:=zD j
      have HY:Hid ((-(N:Int)).natAbs=N∧(!(decide (-(N:Int)<0)==decide (((10^j:Nat):Int)<0)))=true∧ -(N:Int)≠0∧((10^j:Nat):Int)≠0):=hid (by
       have h1: -(N:Int)=sg true N:=rfl;rw[h1,zgW hNp,show decide (((10^j:Nat):Int)<0)=false from decide_eq_false yb];refine⟨za0 _ _,rfl,fun h=>?_,by omega⟩;rw[zdg]at h
       omega)
      clear HMZ HMN hdv hj1;simp only[Int.not_lt,Int.not_le]at*;revert H;refine W35 ?_;intro g _ hg hf w1 H hk _ _ _ _;(refine x_c H (za4 (bv HB4).ar yt yt (HT.out.fr H.fr)) ?_;clear H;rintro e w1 ⟨v8,rfl,hF,hD⟩ H;replace hF:=hF.kp;have HD8:=hid hD;clear hD);simp only[Int.not_lt,Int.not_le]at*;revert H;refine W35 ?_;intro H _ _;(refine x_c H (zg3 _ j HJ.out yb) ?_;clear H;rintro e w1 ⟨v6,rfl,hF,hB⟩ H;replace hF:=hF.kp;obtain⟨b6,p6,m6,c6,rfl⟩:=hB.form;have HB6:=hid hB;clear hB);simp only[Int.not_lt,Int.not_le]at*;revert H;refine W35 ?_;intro H _ _;(refine x_c H (za4 (bv HB6).ar yH yH (HT.out.fr H.fr)) ?_;clear H;rintro e w1 ⟨v7,rfl,hF,hD⟩ H;replace hF:=hF.kp;have HD7:=hid hD;clear hD);simp only[Int.not_lt,Int.not_le]at*;revert H;refine W35 ?_;intro H _ _
      (refine x_c H (zeD mode (dn HD8) (dn HD7) HY.out.2.2.1 HY.out.2.2.2 yt yH yb yb (HT.out.fr H.fr)) ?_;clear H;rintro e w1 ⟨rfl,hF⟩ H;replace hF:=hF.kp;rw[HY.out.1,HY.out.2.1,zbk]);simp only[Int.not_lt,Int.not_le]at*;revert H;refine W35 ?_;intro H;refine bodyPost_ret (results_tmp2 rfl _ _ _) rfl ?_;exact⟨by rw[HV2.out,HDV.out];rfl,H.fr⟩
end
section
open Go.RowKit
def zcZ(x:Int)(hx: -9223372036854775808≤x∧x≤9223372036854775807)(w:World)(ht:La w){l:List UInt8}(hl:Hid (fmt x=l)):
 Calls Tryz.prog 48 #[.int .i64 x] w fun e w'=>e= .returned (ze l)∧Fr [] w w':=by
 refine Calls.mono (Tryz.strconv_Itoa x yb yb w ht.2) ?_;rintro e w' ⟨rfl,k,os,rfl⟩;refine⟨?_,Fr.grow w k os⟩;rw[←hl.out];unfold Lib.itoa fmt dec
 split
 ·rfl
 ·rw[show x.toNat=x.natAbs by omega];rfl
def zcT(w:World)(s:List UInt8)(mode:Int)(hT:La w){v:Nat}{e:Int}(h:Hid (dpz 1024 s mode=(v,e))):
 Calls Tryz.prog 120 #[ze s, .int .i64 mode] w fun r w'=>r= .returned (.tuple #[.int .u64 (v:Int), .int .i64 e])∧Fr [] w w':=by
 have hp:=zgJ w s mode hT;rw[h.out]at hp;exact hp
def mns(b:Nat):List UInt8:=if 9223372036854775808≤b then [45]else []
def Fmt(b z:Nat)(l:List UInt8):Prop:=∃n ds x,1≤n∧n≤17∧Dgs z n ds x∧dpz 1024 (txt n ds x) 0=(z,0)∧(∀m es y,1≤m→m<n→Dgs z m es y→dpz 1024 (txt m es y) 0≠(z,0))∧l=mns b++txt n ds x
def zkR(w:World){b z:Nat}(hb:b<18446744073709551616)(hk:zax b=1)(hz:Hid (b%9223372036854775808=z))(h0:0<z)(hz1:z<9218868437227405312)(hT:La w):
 Calls Tryz.prog 98 #[.int .u64 (b:Int)] w fun r w'=>∃l,r= .returned (ze l)∧Fr [] w w'∧Fmt b z l:=by
 have HK:=hid hk;have HT:=hid hT;clear hk hT;have H:=Hp.start [] w
 by_cases hm:9223372036854775808≤b
 ·have HI:=hid (show(if 9223372036854775808≤b then 9223372036854775808 else 0:Nat)=9223372036854775808 from if_pos hm);have HMN:Hid (mns b=[45]):=hid (if_pos hm);clear hm
  go_enter Tryz.func98,Tryz.ntmps98
  revert H;refine W17 ?_;intro H _ _ _ _ _ _ _;(refine xK H (zcq _ hb HK) ?_;clear H;intro w1 hF H);simp only[Int.not_lt,Int.not_le]at*;revert H;refine W15 ?_;intro H
  go_loopw [4] (fun s4 wr=>∃n:Nat,s4= .int .i64 (n:Int)∧1≤n∧n≤17∧Hid (∀m es y,1≤m→m<n→Dgs z m es y→dpz 1024 (txt m es y) 0≠(z,0))∧Hp [] w wr []) (fun v _=>(17-intOf v).toNat)
  case atStart=>exact⟨1,rfl,by omega,by omega,hid (fun m es y h1 h2=>by omega),H⟩
  case round=>
   clear H;obtain⟨n,rfl,hn1,hn2,HALL,H⟩:=hrel;revert H;refine W15 ?_;intro H _ _ _ _ _ _ _;(refine x_c H (zfY _ hb HK.out hz h0 hz1 hn1 yb (HT.out.fr H.fr)) ?_;clear H;rintro e w1 ⟨ds,x,rfl,hF,hdg⟩ H;replace hF:=hF.kp;skip);have HDG:=hid hdg;have hdv:=hdg.val h0 hn1
   have hxb: -332≤x∧x≤310:=by
    obtain⟨k,h1,h2,_,_,_,hx,_⟩:=hdv
    have:=zdD h0 hz1 h1 h2
    omega
   have hdl:ds.length=n:=by
    obtain⟨k,_,_,h,_⟩:=hdv;exact h
   have hfl:=zc6 (x:=x) yb;have hpz:=zkn hdg h0 hz1 hn1 yb 0;have h17:n=17→dpz 1024 (txt n ds x) 0=(z,0):=fun h=>by subst h;exact zjX hdg h0 hz1
   obtain⟨A,hA⟩:∃A,ds.take 1=A:=⟨_,rfl⟩;obtain⟨B,hB⟩:∃A,ds.drop 1=A:=⟨_,rfl⟩;obtain⟨F,hF2⟩:∃A,fmt x=A:=⟨_,rfl⟩;have hAl:A.length≤1:=by rw[←hA,List.length_take];omega
   have hBl:B.length≤17:=by rw[←hB,List.length_drop];omega
   rw[hF2]at hfl;have HA:Hid (ds.take (1:Int).toNat=A):=hid hA;have HB:Hid (ds.drop (1:Int).toNat=B):=hid hB;have HF:=hid hF2;obtain⟨C,hC⟩:∃W,[46]++B=W:=⟨_,rfl⟩;obtain⟨S1,hS1⟩:∃W,A++C=W:=⟨_,rfl⟩;obtain⟨E,hE⟩:∃W,[101]++F=W:=⟨_,rfl⟩;obtain⟨S,hS⟩:∃S,txt n ds x=S:=⟨_,rfl⟩;have hCl:C.length≤18:=by rw[←hC,List.length_append,List.length_singleton];omega
   have hSl1:S1.length≤19:=by rw[←hS1,List.length_append];omega
   have hEl:E.length≤7:=by rw[←hE,List.length_append,List.length_singleton];omega
   have hS2:(if 1<n then S1++E else A++E)=S:=by
    rw[←hS];unfold txt;rw[hA,hB,hF2,←hS1,←hE,←hC]
    split<;>simp
   have hSl:S.length≤26:=by rw[←hS2];split<;>rw[List.length_append]<;>omega
   rw[hS]at hpz h17;obtain⟨V,hV⟩:∃V,zck false 0 (num ds) (x-(n-1))=V:=⟨_,rfl⟩;rw[hV]at hpz;have HPZ:=hid hpz;have HC:=hid hC;have HS1:=hid hS1;have HE:=hid hE;have HSS:=hid hS;have H17:=hid h17;obtain⟨R,hR⟩:∃R,[45]++S=R:=⟨_,rfl⟩;have HM:=hid hR;clear hA hB hF2 hC hS1 hE hS hdv hdg hV hpz h17 hR
   by_cases hn0:1<n
   ·have HS2:=hid (show S1++E=S by rw[if_pos hn0]at hS2;exact hS2);clear hS2;simp only[Int.not_lt,Int.not_le]at*;revert H;refine W37 ?_;intro H _ _ _ _;(refine xK H (zcZ x yb _ (HT.out.fr H.fr) HF) ?_;clear H;intro w1 hF H);simp only[Int.not_lt,Int.not_le]at*;revert H;refine W37 ?_;intro H _ _ _ _;(refine xK H (zcT _ S 0 (HT.out.fr H.fr) HPZ) ?_;clear H;intro w1 hF H);simp only[Int.not_lt,Int.not_le]at*;revert H;refine W15 ?_;intro H _ _ _ _;(refine xK H (zdH _ hb yad hz) ?_;clear H;intro w1 hF H)
    by_cases hVz:V=z
    ·have HFM:Hid (Fmt b z R):=hid ⟨n,ds,x,hn1,hn2,HDG.out,by rw[HSS.out,HPZ.out,hVz],HALL.out,by rw[HMN.out,HSS.out,HM.out]⟩;simp only[Int.not_lt,Int.not_le]at*;revert H;refine W38 ?_;intro H
     go_ret
     exact⟨_,rfl,H.fr,HFM.out⟩
    ·have hn17:n<17:=by
      have h:=H17.out
      rcases Nat.lt_or_ge n 17 with h1|h1
      ·exact h1
      ·have h2:=h yb;rw[HPZ.out]at h2;exact absurd (congrArg Prod.fst h2) hVz
     have HALL2:Hid (∀m es y,1≤m→m<n+1→Dgs z m es y→dpz 1024 (txt m es y) 0≠(z,0)):=hid (fun m es y h1 h2 h3=>by
      by_cases hmn:m=n
      ·subst hmn;obtain⟨rfl,rfl⟩:=h3.one HDG.out;rw[HSS.out,HPZ.out];exact fun h=>hVz (congrArg Prod.fst h)
      ·exact HALL.out m es y h1 yb h3)
     clear HALL H17;simp only[Int.not_lt,Int.not_le]at*;revert H;refine W39 ?_;intro H
     go_roundw
     case rel=>exact⟨n+1,rfl,by omega,by omega,HALL2,H⟩
     case measure=>(simp[intOf];try omega)
   ·have HS2:=hid (show A++E=S by rw[if_neg hn0]at hS2;exact hS2);clear hS2;simp only[Int.not_lt,Int.not_le]at*;revert H;refine W37 ?_;intro H _ _ _ _;(refine xK H (zcZ x yb _ (HT.out.fr H.fr) HF) ?_;clear H;intro w1 hF H);simp only[Int.not_lt,Int.not_le]at*;revert H;refine W37 ?_;intro H _ _ _ _;(refine xK H (zcT _ S 0 (HT.out.fr H.fr) HPZ) ?_;clear H;intro w1 hF H);simp only[Int.not_lt,Int.not_le]at*;revert H;refine W15 ?_;intro H _ _ _ _;(refine xK H (zdH _ hb yad hz) ?_;clear H;intro w1 hF H)
    by_cases hVz:V=z
    ·have HFM:Hid (Fmt b z R):=hid ⟨n,ds,x,hn1,hn2,HDG.out,by rw[HSS.out,HPZ.out,hVz],HALL.out,by rw[HMN.out,HSS.out,HM.out]⟩;simp only[Int.not_lt,Int.not_le]at*;revert H;refine W38 ?_;intro H
     go_ret
     exact⟨_,rfl,H.fr,HFM.out⟩
    ·have hn17:n<17:=by
      have h:=H17.out
      rcases Nat.lt_or_ge n 17 with h1|h1
      ·exact h1
      ·have h2:=h yb;rw[HPZ.out]at h2;exact absurd (congrArg Prod.fst h2) hVz
     have HALL2:Hid (∀m es y,1≤m→m<n+1→Dgs z m es y→dpz 1024 (txt m es y) 0≠(z,0)):=hid (fun m es y h1 h2 h3=>by
      by_cases hmn:m=n
      ·subst hmn;obtain⟨rfl,rfl⟩:=h3.one HDG.out;rw[HSS.out,HPZ.out];exact fun h=>hVz (congrArg Prod.fst h)
      ·exact HALL.out m es y h1 yb h3)
     clear HALL H17;simp only[Int.not_lt,Int.not_le]at*;revert H;refine W39 ?_;intro H
     go_roundw
     case rel=>exact⟨n+1,rfl,by omega,by omega,HALL2,H⟩
     case measure=>(simp[intOf];try omega)
 ·have HI:=hid (show(if 9223372036854775808≤b then 9223372036854775808 else 0:Nat)=0 from if_neg hm);have HMN:Hid (mns b=[]):=hid (if_neg hm);clear hm
  go_enter Tryz.func98,Tryz.ntmps98
  revert H;refine W17 ?_;intro H _ _ _ _ _ _ _;(refine xK H (zcq _ hb HK) ?_;clear H;intro w1 hF H);simp only[Int.not_lt,Int.not_le]at*;revert H;refine W15 ?_;intro H
  go_loopw [4] (fun s4 wr=>∃n:Nat,s4= .int .i64 (n:Int)∧1≤n∧n≤17∧Hid (∀m es y,1≤m→m<n→Dgs z m es y→dpz 1024 (txt m es y) 0≠(z,0))∧Hp [] w wr []) (fun v _=>(17-intOf v).toNat)
  case atStart=>exact⟨1,rfl,by omega,by omega,hid (fun m es y h1 h2=>by omega),H⟩
  case round=>
   clear H;obtain⟨n,rfl,hn1,hn2,HALL,H⟩:=hrel;revert H;refine W15 ?_;intro H _ _ _ _ _ _ _;(refine x_c H (zfY _ hb HK.out hz h0 hz1 hn1 yb (HT.out.fr H.fr)) ?_;clear H;rintro e w1 ⟨ds,x,rfl,hF,hdg⟩ H;replace hF:=hF.kp;skip);have HDG:=hid hdg;have hdv:=hdg.val h0 hn1
   have hxb: -332≤x∧x≤310:=by
    obtain⟨k,h1,h2,_,_,_,hx,_⟩:=hdv
    have:=zdD h0 hz1 h1 h2
    omega
   have hdl:ds.length=n:=by
    obtain⟨k,_,_,h,_⟩:=hdv;exact h
   have hfl:=zc6 (x:=x) yb;have hpz:=zkn hdg h0 hz1 hn1 yb 0;have h17:n=17→dpz 1024 (txt n ds x) 0=(z,0):=fun h=>by subst h;exact zjX hdg h0 hz1
   obtain⟨A,hA⟩:∃A,ds.take 1=A:=⟨_,rfl⟩;obtain⟨B,hB⟩:∃A,ds.drop 1=A:=⟨_,rfl⟩;obtain⟨F,hF2⟩:∃A,fmt x=A:=⟨_,rfl⟩;have hAl:A.length≤1:=by rw[←hA,List.length_take];omega
   have hBl:B.length≤17:=by rw[←hB,List.length_drop];omega
   rw[hF2]at hfl;have HA:Hid (ds.take (1:Int).toNat=A):=hid hA;have HB:Hid (ds.drop (1:Int).toNat=B):=hid hB;have HF:=hid hF2;obtain⟨C,hC⟩:∃W,[46]++B=W:=⟨_,rfl⟩;obtain⟨S1,hS1⟩:∃W,A++C=W:=⟨_,rfl⟩;obtain⟨E,hE⟩:∃W,[101]++F=W:=⟨_,rfl⟩;obtain⟨S,hS⟩:∃S,txt n ds x=S:=⟨_,rfl⟩;have hCl:C.length≤18:=by rw[←hC,List.length_append,List.length_singleton];omega
   have hSl1:S1.length≤19:=by rw[←hS1,List.length_append];omega
   have hEl:E.length≤7:=by rw[←hE,List.length_append,List.length_singleton];omega
   have hS2:(if 1<n then S1++E else A++E)=S:=by
    rw[←hS];unfold txt;rw[hA,hB,hF2,←hS1,←hE,←hC]
    split<;>simp
   have hSl:S.length≤26:=by rw[←hS2];split<;>rw[List.length_append]<;>omega
   rw[hS]at hpz h17;obtain⟨V,hV⟩:∃V,zck false 0 (num ds) (x-(n-1))=V:=⟨_,rfl⟩;rw[hV]at hpz;have HPZ:=hid hpz;have HC:=hid hC;have HS1:=hid hS1;have HE:=hid hE;have HSS:=hid hS;have H17:=hid h17;obtain⟨R,hR⟩:∃R,[]++S=R:=⟨_,rfl⟩;have HM:=hid hR;clear hA hB hF2 hC hS1 hE hS hdv hdg hV hpz h17 hR
   by_cases hn0:1<n
   ·have HS2:=hid (show S1++E=S by rw[if_pos hn0]at hS2;exact hS2);clear hS2;simp only[Int.not_lt,Int.not_le]at*;revert H;refine W37 ?_;intro H _ _ _ _;(refine xK H (zcZ x yb _ (HT.out.fr H.fr) HF) ?_;clear H;intro w1 hF H);simp only[Int.not_lt,Int.not_le]at*;revert H;refine W37 ?_;intro H _ _ _ _;(refine xK H (zcT _ S 0 (HT.out.fr H.fr) HPZ) ?_;clear H;intro w1 hF H);simp only[Int.not_lt,Int.not_le]at*;revert H;refine W15 ?_;intro H _ _ _ _;(refine xK H (zdH _ hb yad hz) ?_;clear H;intro w1 hF H)
    by_cases hVz:V=z
    ·have HFM:Hid (Fmt b z R):=hid ⟨n,ds,x,hn1,hn2,HDG.out,by rw[HSS.out,HPZ.out,hVz],HALL.out,by rw[HMN.out,HSS.out,HM.out]⟩;simp only[Int.not_lt,Int.not_le]at*;revert H;refine W40 ?_;intro H
     go_ret
     exact⟨_,rfl,H.fr,HFM.out⟩
    ·have hn17:n<17:=by
      have h:=H17.out
      rcases Nat.lt_or_ge n 17 with h1|h1
      ·exact h1
      ·have h2:=h yb;rw[HPZ.out]at h2;exact absurd (congrArg Prod.fst h2) hVz
     have HALL2:Hid (∀m es y,1≤m→m<n+1→Dgs z m es y→dpz 1024 (txt m es y) 0≠(z,0)):=hid (fun m es y h1 h2 h3=>by
      by_cases hmn:m=n
      ·subst hmn;obtain⟨rfl,rfl⟩:=h3.one HDG.out;rw[HSS.out,HPZ.out];exact fun h=>hVz (congrArg Prod.fst h)
      ·exact HALL.out m es y h1 yb h3)
     clear HALL H17;simp only[Int.not_lt,Int.not_le]at*;revert H;refine W39 ?_;intro H
     go_roundw
     case rel=>exact⟨n+1,rfl,by omega,by omega,HALL2,H⟩
     case measure=>(simp[intOf];try omega)
   ·have HS2:=hid (show A++E=S by rw[if_neg hn0]at hS2;exact hS2);clear hS2;simp only[Int.not_lt,Int.not_le]at*;revert H;refine W37 ?_;intro H _ _ _ _;(refine xK H (zcZ x yb _ (HT.out.fr H.fr) HF) ?_;clear H;intro w1 hF H);simp only[Int.not_lt,Int.not_le]at*;revert H;refine W37 ?_;intro H _ _ _ _;(refine xK H (zcT _ S 0 (HT.out.fr H.fr) HPZ) ?_;clear H;intro w1 hF H);simp only[Int.not_lt,Int.not_le]at*;revert H;refine W15 ?_;intro H _ _ _ _;(refine xK H (zdH _ hb yad hz) ?_;clear H;intro w1 hF H)
    by_cases hVz:V=z
    ·have HFM:Hid (Fmt b z R):=hid ⟨n,ds,x,hn1,hn2,HDG.out,by rw[HSS.out,HPZ.out,hVz],HALL.out,by rw[HMN.out,HSS.out,HM.out]⟩;simp only[Int.not_lt,Int.not_le]at*;revert H;refine W40 ?_;intro H
     go_ret
     exact⟨_,rfl,H.fr,HFM.out⟩
    ·have hn17:n<17:=by
      have h:=H17.out
      rcases Nat.lt_or_ge n 17 with h1|h1
      ·exact h1
      ·have h2:=h yb;rw[HPZ.out]at h2;exact absurd (congrArg Prod.fst h2) hVz
     have HALL2:Hid (∀m es y,1≤m→m<n+1→Dgs z m es y→dpz 1024 (txt m es y) 0≠(z,0)):=hid (fun m es y h1 h2 h3=>by
      by_cases hmn:m=n
      ·subst hmn;obtain⟨rfl,rfl⟩:=h3.one HDG.out;rw[HSS.out,HPZ.out];exact fun h=>hVz (congrArg Prod.fst h)
      ·exact HALL.out m es y h1 yb h3)
     clear HALL H17;simp only[Int.not_lt,Int.not_le]at*;revert H;refine W39 ?_;intro H
     go_roundw
     case rel=>exact⟨n+1,rfl,by omega,by omega,HALL2,H⟩
     case measure=>(simp[intOf];try omega)
end
end Go.Proofs.YtaijhllckmndhaaGreatDoor
