import Derived.Test.YtaijhllckmndhaaGreatDoorYJ0
import Derived.Test.YtaijhllckmndhaaGreatDoorYJ34
import Derived.Deep.DeepCutAuto
import Derived.Deep.CutBlock
namespace Go.Proofs.YtaijhllckmndhaaGreatDoor
set_option linter.all false
set_option maxHeartbeats 64000000
set_option maxRecDepth 100000
section
open Go.RowKit
def zhV{w:World}{b:Bool}{p:Option Addr}{n c k:Nat}{z:Int}(h:Bv w (.agg #[.bool b, .slice p n c]) z k):b=decide (z<0):=by
 obtain⟨⟨q,d,he,_⟩,_⟩:=h
 simp at he
 exact he.1
def ze3{x:Int}(h:x≠0):Int.sign x≠0:=fun h0=>h (Int.sign_eq_zero_iff_zero.1 h0)
def rl{w w':World}{v:Value}{neg:Bool}{N D:Nat}{E:Int}(h:Hid (Rl w v neg N D E))(k:Kp w w':=by repeat first|assumption|exact Kp.refl _|refine Kp.trans ?_ yo):Rl w' v neg N D E:=by
 obtain⟨b,p,kk,c,n,m,ex,more,rfl,hB,h⟩:=h.out;exact⟨b,p,kk,c,n,m,ex,more,rfl,bv (hid hB) k,h⟩
def zmF{N D n:Nat}(hN:N≠0)(hD:D≠0)(h:59+bl D≤bl N+n):2^58≤N*2^n/D:=by
 obtain⟨h1,h2⟩:=zb5 hN;have h3:=zay D;rw[Nat.le_div_iff_mul_le yb];have h4:2^(bl N-1)*2^n≤N*2^n:=Nat.mul_le_mul_right _ h1;rw[←Nat.pow_add]at h4;have h5:2^58*D≤2^58*2^bl D:=Nat.mul_le_mul_left _ yb;rw[←Nat.pow_add]at h5;have h6:2^(58+bl D)≤2^(bl N-1+n):=Nat.pow_le_pow_right yf yb
 omega
def zn3{w:World}{va vb:Value}{x e y f:Int}(ha:Dn w va x e)(hb:Dn w vb y f)(hx:x≠0)(hy:y≠0)(hbx:bl x.natAbs≤30000)(hby:bl y.natAbs≤30000)(he: -100000≤e∧e≤100000)(hf: -100000≤f∧f≤100000):
 Calls Tryz.prog 253 #[va,vb, .int .i64 56] w fun r w'=>∃v1,r= .returned v1∧Fr [] w w'∧∃(N D:Nat) (E:Int),Rl w' v1 (!(decide (x<0)==decide (y<0))) N D E∧∀neg mode,zK neg mode N D E=zK neg mode x.natAbs y.natAbs (e-f):=by
 obtain⟨m1,e1,b1,p1,n1,c1,rfl,g1,h1⟩:=ha;obtain⟨m2,e2,b2,p2,n2,c2,rfl,g2,h2⟩:=hb;have hl1:=g1.le;have hl2:=g2.le;have hbm1:bl m1.natAbs≤30000:=by omega
 have hbm2:bl m2.natAbs≤30000:=by omega
 have hm1:=g1.ne hx;have hm2:=g2.ne hy;have hrr:=fun neg mode=>zgM neg mode g1 g2 hx hy
 have hng1:=(zhV h1).trans g1.neg;have hng2:=(zhV h2).trans g2.neg;rw[←hng1,←hng2];have HRR:=hid hrr;have HA1:=hid h1;have HA2:=hid h2;have H1:m1.natAbs≠0:=by omega
 have H2:m2.natAbs≠0:=by omega
 clear h1 h2 hng1 hng2 hrr g1 g2;obtain⟨N,hN⟩:∃N,m1.natAbs=N:=⟨_,rfl⟩;obtain⟨D,hD⟩:∃N,m2.natAbs=N:=⟨_,rfl⟩;have HN:=hid hN;have HD:=hid hD;rw[hN]at H1 hl1 HRR;rw[hD]at H2 hl2 HRR;have hdn0:(D:Int)≠0:=by omega
 have HDN:=hid hdn0;obtain⟨n,hn⟩:∃n:Nat,max 0 (56+3+(bl D:Int)-bl N)=(n:Int):=⟨(max 0 (56+3+(bl D:Int)-bl N)).toNat,by omega⟩;have hnb:n≤30059∧59+bl D≤bl N+n:=by omega
 have HMX:=hid hn;have hq:=zmF H1 H2 hnb.2;have hbN:bl (N*2^n)=bl N+n:=zdm H1 n;have hbq:bl (N*2^n/D)≤bl (N*2^n):=zbe (Nat.div_le_self _ _);have hbr:bl (N*2^n%D)≤bl D:=zbe (Nat.le_of_lt (Nat.mod_lt _ yb))
 have hq59:59≤bl (N*2^n/D):=by
  apply Classical.byContradiction
  intro hc;have h3:=zay (N*2^n/D);have h4:2^bl (N*2^n/D)≤2^58:=Nat.pow_le_pow_right yf yb
  omega
 have hq0:N*2^n/D≠0:=by intro h;rw[h]at hq;simp at hq
 clear hn hN hD hdn0 hm1 hm2 hq;have HPOS:Hid (0<N∧0<D):=hid ⟨by omega,by omega⟩;obtain⟨M,hM⟩:∃M,N*2^n=M:=⟨_,rfl⟩;have HM:=hid hM;rw[hM]at hbN hbq hbr hq59 hq0;obtain⟨q,hqq⟩:∃q,M/D=q:=⟨_,rfl⟩;have HQ:=hid hqq;obtain⟨r,hr⟩:∃q,M%D=q:=⟨_,rfl⟩;have HR:=hid hr;rw[hqq]at hbq hq59 hq0;rw[hr]at hbr;have HZQ:Hid ((M:Int)/(D:Int)=(q:Int)):=hid (by rw[←hqq,Int.natCast_ediv]);have HZR:Hid ((M:Int)%(D:Int)=(r:Int)):=hid (by rw[←hr,Int.natCast_emod]);clear hM hqq hr;have H:=Hp.start [] w
 go_enter Tryz.func253,Tryz.ntmps253
 revert H;refine W15 ?_;intro _ _ _ _ _ _ _ _ _ g w1 hg H hf _ _
 (revert H;refine zR 12 (.st 0 (.st 1 (.st 2 (.st 3 (.st 6 (.st 7 (.ld 4 (.st 5 (.ld 8 (.st 9 (.st 10 (.st 11 .done)))))))))))) ?_;intro w1 hf H;(first|replace hf:=hf.kp|clear hf))
 iterate 3 refine p_q ?_
 (refine p_l ?_);refine p_q ?_;(refine p_l ?_)
 ((refine p_c H rfl rfl Tryz.func213 (zbi (HA2.out.fr H.fr).ar yb) ?_;clear H;rintro e w1 ⟨rfl,hF⟩ H;refine p_r ?_;replace hF:=hF.kp);rw[HD.out])
 refine p_q ?_
 ((refine p_c H rfl rfl Tryz.func213 (zbi (HA1.out.fr H.fr).ar yb) ?_;clear H;rintro e w1 ⟨rfl,hF⟩ H;refine p_r ?_;replace hF:=hF.kp);rw[HN.out])
 refine p_q ?_;(refine p_e rfl (fun w H=>zuA (z:=(n:Int)) rfl rfl rfl HMX.out) ?_);refine p_q ?_;(refine zf ?_)
 all_goals
  revert H;refine W15 ?_;intro H _ _
  go_cut [3,4,6,7,8,9] (fun s3 s4 s6 s7 s8 s9 wx=>∃(g3 g4 g6 g8 g9:Nat) (b8 b9:Bool) (p8 p9:Option Addr) (m8 c8 m9 c9:Nat),s3= .pointer (some ⟨g3,0,none⟩)∧s4= .pointer (some ⟨g4,0,none⟩)∧s6= .pointer (some ⟨g6,0,none⟩)∧s7= .int .i64 (n:Int)∧s8= .pointer (some ⟨g8,0,none⟩)∧s9= .pointer (some ⟨g9,0,none⟩)∧Hp [] w wx [.blk g9 [.bool b9, .slice p9 m9 c9] 118, .blk g8 [.bool b8, .slice p8 m8 c8] 118, .blk g6 [.bool false, .bool false, .slice none 0 0, .int .i64 0, .bool false] 209, .blk g4 [.bool false, .bool b2, .slice p2 n2 c2, .int .i64 e2] 123, .blk g3 [.bool false, .bool b1, .slice p1 n1 c1, .int .i64 e1] 123]∧Hid (Bv wx (.agg #[.bool b8, .slice p8 m8 c8]) (q:Int) (bl q))∧Hid (Bv wx (.agg #[.bool b9, .slice p9 m9 c9]) (r:Int) (bl r)))
  case first=>
   (revert H;refine zR 18 (.st 0 (.st 1 (.st 3 (.st 5 (.st 6 (.ld3 2 (.ld3 4 (.ld3 7 (.ld3 8 (.st 9 (.st 10 (.st 11 (.st 12 (.ld2 13 (.ld 14 (.ld 15 (.ld 16 (.st 17 .done)))) 14 (.ld 13 (.ld 15 (.ld 16 (.st 17 .done))))))))) 13 (.ld2 8 (.st 9 (.st 10 (.st 11 (.st 12 (.ld 14 (.ld 15 (.ld 16 (.st 17 .done)))))))) 14 (.ld 8 (.st 9 (.st 10 (.st 11 (.st 12 (.ld 15 (.ld 16 (.st 17 .done))))))))) 14 (.ld2 8 (.st 9 (.st 10 (.st 11 (.st 12 (.ld 13 (.ld 15 (.ld 16 (.st 17 .done)))))))) 13 (.ld 8 (.st 9 (.st 10 (.st 11 (.st 12 (.ld 15 (.ld 16 (.st 17 .done)))))))))) 13 (.ld2 7 (.ld2 8 (.st 9 (.st 10 (.st 11 (.st 12 (.ld 14 (.ld 15 (.ld 16 (.st 17 .done)))))))) 14 (.ld 8 (.st 9 (.st 10 (.st 11 (.st 12 (.ld 15 (.ld 16 (.st 17 .done))))))))) 14 (.ld 7 (.ld 8 (.st 9 (.st 10 (.st 11 (.st 12 (.ld 15 (.ld 16 (.st 17 .done)))))))))) 14 (.ld2 7 (.ld2 8 (.st 9 (.st 10 (.st 11 (.st 12 (.ld 13 (.ld 15 (.ld 16 (.st 17 .done)))))))) 13 (.ld 8 (.st 9 (.st 10 (.st 11 (.st 12 (.ld 15 (.ld 16 (.st 17 .done))))))))) 13 (.ld 7 (.ld 8 (.st 9 (.st 10 (.st 11 (.st 12 (.ld 15 (.ld 16 (.st 17 .done))))))))))) 13 (.ld2 4 (.ld2 7 (.ld2 8 (.st 9 (.st 10 (.st 11 (.st 12 (.ld 14 (.ld 15 (.ld 16 (.st 17 .done)))))))) 14 (.ld 8 (.st 9 (.st 10 (.st 11 (.st 12 (.ld 15 (.ld 16 (.st 17 .done))))))))) 14 (.ld 7 (.ld 8 (.st 9 (.st 10 (.st 11 (.st 12 (.ld 15 (.ld 16 (.st 17 .done)))))))))) 14 (.ld 4 (.ld 7 (.ld 8 (.st 9 (.st 10 (.st 11 (.st 12 (.ld 15 (.ld 16 (.st 17 .done))))))))))) 14 (.ld2 4 (.ld2 7 (.ld2 8 (.st 9 (.st 10 (.st 11 (.st 12 (.ld 13 (.ld 15 (.ld 16 (.st 17 .done)))))))) 13 (.ld 8 (.st 9 (.st 10 (.st 11 (.st 12 (.ld 15 (.ld 16 (.st 17 .done))))))))) 13 (.ld 7 (.ld 8 (.st 9 (.st 10 (.st 11 (.st 12 (.ld 15 (.ld 16 (.st 17 .done)))))))))) 13 (.ld 4 (.ld 7 (.ld 8 (.st 9 (.st 10 (.st 11 (.st 12 (.ld 15 (.ld 16 (.st 17 .done)))))))))))) 13 (.ld2 2 (.ld2 4 (.ld2 7 (.ld2 8 (.st 9 (.st 10 (.st 11 (.st 12 (.ld 14 (.ld 15 (.ld 16 (.st 17 .done)))))))) 14 (.ld 8 (.st 9 (.st 10 (.st 11 (.st 12 (.ld 15 (.ld 16 (.st 17 .done))))))))) 14 (.ld 7 (.ld 8 (.st 9 (.st 10 (.st 11 (.st 12 (.ld 15 (.ld 16 (.st 17 .done)))))))))) 14 (.ld 4 (.ld 7 (.ld 8 (.st 9 (.st 10 (.st 11 (.st 12 (.ld 15 (.ld 16 (.st 17 .done))))))))))) 14 (.ld 2 (.ld 4 (.ld 7 (.ld 8 (.st 9 (.st 10 (.st 11 (.st 12 (.ld 15 (.ld 16 (.st 17 .done)))))))))))) 14 (.ld2 2 (.ld2 4 (.ld2 7 (.ld2 8 (.st 9 (.st 10 (.st 11 (.st 12 (.ld 13 (.ld 15 (.ld 16 (.st 17 .done)))))))) 13 (.ld 8 (.st 9 (.st 10 (.st 11 (.st 12 (.ld 15 (.ld 16 (.st 17 .done))))))))) 13 (.ld 7 (.ld 8 (.st 9 (.st 10 (.st 11 (.st 12 (.ld 15 (.ld 16 (.st 17 .done)))))))))) 13 (.ld 4 (.ld 7 (.ld 8 (.st 9 (.st 10 (.st 11 (.st 12 (.ld 15 (.ld 16 (.st 17 .done))))))))))) 13 (.ld 2 (.ld 4 (.ld 7 (.ld 8 (.st 9 (.st 10 (.st 11 (.st 12 (.ld 15 (.ld 16 (.st 17 .done)))))))))))))))))) ?_;intro w1 hf H;(first|replace hf:=hf.kp|clear hf))
   repeat' (first|refine zuy ?_ ?_ ?_|refine zcF ?_ ?_|(show Plan.wp _ _ _ _ _ (.st _ _) _ _;first|refine p_q ?_|refine p_l ?_)|(show Plan.wp _ _ _ _ _ (.ld 2 _) _ _;(refine p_c H rfl rfl Tryz.func245 (zfd (HA1.out.fr H.fr).ar yb) ?_;clear H;rintro e w1 ⟨v4,rfl,hF,hB⟩ H;refine p_r ?_;replace hF:=hF.kp);rw[HN.out]at hB;obtain⟨b4,p4,m4,c4,rfl⟩:=hB.form;have HB4:=hid hB;clear hB)|(show Plan.wp _ _ _ _ _ (.ld 7 _) _ _;(refine p_c H rfl rfl Tryz.func245 (zfd (HA2.out.fr H.fr).ar yb) ?_;clear H;rintro e w1 ⟨v5,rfl,hF,hB⟩ H;refine p_r ?_;replace hF:=hF.kp);rw[HD.out]at hB;obtain⟨b5,p5,m5,c5,rfl⟩:=hB.form;have HB5:=hid hB;clear hB)|(show Plan.wp _ _ _ _ _ (.ld 4 _) _ _;(refine p_c H rfl rfl Tryz.func259 (zc3 n rfl (bv HB4).ar yb yb) ?_;clear H;rintro e w1 ⟨v6,rfl,hF,hB⟩ H;refine p_r ?_;replace hF:=hF.kp);rw[HM.out]at hB;obtain⟨b6,p6,m6,c6,rfl⟩:=hB.form;have HB6:=hid hB;clear hB)|(show Plan.wp _ _ _ _ _ (.ld 8 _) _ _;(refine p_c H rfl rfl Tryz.func278 (zh7 (bv HB6).ar (bv HB5).ar yb yb HDN.out) ?_;clear H;rintro e w1 ⟨v7,v8,rfl,hF,hB,hB2⟩ H;refine p_r ?_;replace hF:=hF.kp);rw[HZQ.out]at hB;rw[HZR.out]at hB2;obtain⟨b7,p7,m7,c7,rfl⟩:=hB.form;have HB7:=hid hB;clear hB;obtain⟨b8,p8,m8,c8,rfl⟩:=hB2.form;have HB8:=hid hB2;clear hB2)|(show Plan.wp _ _ _ _ _ (.ld 13 _) _ _;(revert H;refine p_g ?_;intro g w1 hg hf H;(first|replace hf:=hf.kp|clear hf)))|(show Plan.wp _ _ _ _ _ (.ld 14 _) _ _;(revert H;refine p_g ?_;intro g w1 hg hf H;(first|replace hf:=hf.kp|clear hf)))|(show Plan.wp _ _ _ _ _ (.ld 15 _) _ _;(revert H;refine zZ ?_;intro w1 hf H hk;clear hf;change Kp _ _ at hk))|(show Plan.wp _ _ _ _ _ (.ld 16 _) _ _;(revert H;refine zZ ?_;intro w1 hf H hk;clear hf;change Kp _ _ at hk)))
   all_goals
    refine zf ?_;revert H;refine W15 ?_;intro H
    go_meet
    case rel=>exact⟨_,_,_,_,_,_,_,_,_,_,_,_,_,rfl,rfl,rfl,rfl,rfl,rfl,by(refine Hp.arr H ?_;repeat (first|exact Pm.nil _|(apply Pm.cons;· (repeat first|exact Rm.here _|apply Rm.there)))),hid (bv HB7).c,hid (bv HB8).c⟩
  case rest=>
   clear H;obtain⟨g3,g4,g6,g8,g9,b8,b9,p8,p9,m8,c8,m9,c9,rfl,rfl,rfl,rfl,rfl,rfl,H,HB8,HB9⟩:=hcut
   by_cases r0:r=0
   ·have HR0:=hid (show(r:Int)=0 by omega);have HMO:Hid (false=decide (N*2^n%D≠0)):=hid (by rw[HM.out,HR.out,r0];rfl);clear r0;revert H;refine W15 ?_;intro H _ _
    (revert H;refine zR 19 (.st 0 (.st 1 (.st 2 (.st 3 (.st 4 (.st 5 (.st 6 (.st 7 (.st 8 (.st 9 (.st 10 (.st 11 (.st 12 (.st 13 (.st 14 (.st 15 (.ld 16 (.st 17 (.st 18 (.ld 19 .done)))))))))))))))))))) ?_;intro w1 hf H;(first|replace hf:=hf.kp|clear hf))
    iterate 16 refine p_q ?_
    ((refine p_c H rfl rfl Tryz.func211 (zdF (bv HB9).ar yb HR0.out) ?_;clear H;rintro e w1 ⟨rfl,hF⟩ H;refine p_r ?_;replace hF:=hF.kp);skip)
    iterate 2 refine p_q ?_
    (revert H;refine zZ ?_;intro w1 hf H hk;clear hf;change Kp _ _ at hk)
    (refine zf ?_)
    all_goals
     revert H;refine W15 ?_;intro H;refine zk H rfl rfl rfl ?_;refine⟨_,rfl,H.fr,N,D,e1-e2,⟨_,_,_,_,n,q,_,_,rfl,?_,HPOS.out.1,HPOS.out.2,by rw[HM.out,HQ.out],hq0,by omega,HMO.out, .inr yb,by omega,by omega,by omega⟩,HRR.out⟩;exact bv HB8
   ·have HR0:=hid (show(r:Int)≠0 by omega);have HMO:Hid (true=decide (N*2^n%D≠0)):=hid (by rw[HM.out,HR.out,decide_eq_true r0]);clear r0;revert H;refine W15 ?_;intro H _ _
    (revert H;refine zR 19 (.st 0 (.st 1 (.st 2 (.st 3 (.st 4 (.st 5 (.st 6 (.st 7 (.st 8 (.st 9 (.st 10 (.st 11 (.st 12 (.st 13 (.st 14 (.st 15 (.ld 16 (.st 17 (.st 18 (.ld 19 .done)))))))))))))))))))) ?_;intro w1 hf H;(first|replace hf:=hf.kp|clear hf))
    iterate 16 refine p_q ?_
    ((refine p_c H rfl rfl Tryz.func211 (zbv (bv HB9).ar yb HR0.out) ?_;clear H;rintro e w1 ⟨s6,rfl,hs6,hF⟩ H;refine p_r ?_;replace hF:=hF.kp);skip)
    iterate 2 refine p_q ?_
    (revert H;refine zZ ?_;intro w1 hf H hk;clear hf;change Kp _ _ at hk)
    (refine zf ?_)
    all_goals
     revert H;refine W15 ?_;intro H;refine zk H rfl rfl rfl ?_;refine⟨_,rfl,H.fr,N,D,e1-e2,⟨_,_,_,_,n,q,_,_,rfl,?_,HPOS.out.1,HPOS.out.2,by rw[HM.out,HQ.out],hq0,by omega,HMO.out, .inr yb,by omega,by omega,by omega⟩,HRR.out⟩;exact bv HB8
end
end Go.Proofs.YtaijhllckmndhaaGreatDoor
