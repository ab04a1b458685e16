import Derived.Test.YtaijhllckmndhaaGreatDoorYJ0
import Derived.Test.YtaijhllckmndhaaGreatDoorYJ37
import Derived.Test.YtaijhllckmndhaaGreatDoorYJ32
import Derived.Test.YtaijhllckmndhaaGreatDoorYJ24
namespace Go.Proofs.YtaijhllckmndhaaGreatDoor
set_option linter.all false
set_option maxHeartbeats 64000000
set_option maxRecDepth 100000
section
open Go.RowKit
attribute [local irreducible] wpList Code.wp Plan.wp
def zsF{w:World}{u:Value}{x z:Int}{n:Nat}(k:Nat)(hz:Hid (z=(k:Int)))(h:Av w u x n)(hn:n≤200000)(hk:k≤1048576):
 Calls Tryz.prog 259 #[u, .int .i64 z] w fun e w'=>∃v1,e= .returned v1∧Fr [] w w'∧Bv w' v1 (x*2^k) (bl (x*2^k).natAbs):=by
 rw[hz.out];exact zko k h hn hk
def zuK{x e m e':Int}(h:Nm x e m e'){z:Int}(hz:min 0 e'=z):Nm (m*2^(e'-z).toNat) z m e':=by
 by_cases h0:m=0
 ·have he:e'=0:=by
   rcases h with⟨_,_,h⟩|⟨hx,t,h2,_⟩
   ·exact h
   ·rw[h0,Int.zero_mul]at h2;exact absurd h2 hx
  refine .inl ⟨by rw[h0,Int.zero_mul],h0,?_⟩;exact he
 ·refine .inr ⟨?_,(e'-z).toNat,rfl,by omega⟩;intro k
  rcases Int.mul_eq_zero.1 k with k|k
  ·exact h0 k
  ·exact absurd k (Int.ne_of_gt (zhQ _))
def zq4{m:Int}{k n:Nat}(h:bl m.natAbs≤n):bl (m*2^k).natAbs≤n+k+1:=by
 have e:(m*2^k).natAbs=m.natAbs*2^k:=by rw[Int.natAbs_mul,Int.natAbs_pow];rfl
 have h1:=zcK m.natAbs (2^k);rw[zjg]at h1;rw[e]
 omega
def zgq{w:World}{g c:Nat}{b:Bool}{p:Option Addr}{n cc:Nat}{x e e1:Int}(hg:g<w.heap.size)(hc:∀j u,([.bool false, .bool b, .slice p n cc, .int .i64 e1]:List Value)[j]? =some u→w.cell? ⟨g,0+j,none⟩=some u)(hD:Dn w (.agg #[.bool false, .bool b, .slice p n cc, .int .i64 e1]) x e)(hb:bl x.natAbs≤64)(he: -2000≤e∧e≤2000)(hT:La w):
 Calls Tryz.prog 189 #[.slice (some ⟨g,0,none⟩) 1 c] w fun r w'=>∃v1 x2 e2 m e',r= .returned v1∧Fr [] w w'∧Dn w' v1 x2 e2∧Nm x e m e'∧Nm x2 e2 m e'∧bl x2.natAbs≤4500∧ -2000≤e2∧e2≤2000:=by
 have HT:=hid hT;have HD:=hid hD;have H:=((Hp.start [] w).pushRng (b:=g) (off:=0) hg yg hc).newRow 5 (e:=123) (sz:=4);clear hT hD hc
 go_enter Tryz.func189,Tryz.ntmps189
 revert H;refine W64 ?_;intro _ g0 w1 hg H hf _ _
 go_loopw [3,4,14] (fun s3 s4 s14 wr=>∃(k:Nat) (z4:Int) (v:Value) (S:List Nat) (cs:List Value),s3=v∧s4= .int .i64 z4∧s14= .int .i64 (k:Int)∧k≤1∧Hp [] w wr [.obj 5 S (RowAt 123 4 v k cs S), .rng g 0 [.bool false, .bool b, .slice p n cc, .int .i64 e1], .blk g0 [.bool false, .bool false, .slice none 0 0, .int .i64 0] 123]∧((k=0∧z4=0∧v= .slice none 0 0∧cs=[])∨(k=1∧∃(m2 e2:Int) (b2:Bool) (p2:Option Addr) (n2 c2:Nat),cs=[.bool false, .bool b2, .slice p2 n2 c2, .int .i64 e2]∧Hid (Nm x e m2 e2)∧Hid (Bv wr (.agg #[.bool b2, .slice p2 n2 c2]) m2 (bl m2.natAbs))∧Hid (min 0 e2=z4)))) (fun _ _ v _=>1-(intOf v).toNat)
 case atStart=>exact⟨0,0,_,_,_,rfl,rfl,rfl,by omega,H.arr ye, .inl ⟨rfl,rfl,rfl,rfl⟩⟩
 case round=>
  clear H;obtain⟨k,z4,v,S,cs,hv,rfl,rfl,hk1,H,hcase⟩:=hrel;subst hv
  rcases hcase with⟨rfl,rfl,rfl,rfl⟩|⟨rfl,m2,e2,b2,p2,n2,c2,rfl,HN2,HB2,HZ⟩
  ·have hFk:=H.fr.kp
   obtain rfl:S=[]:=by
    obtain⟨_,⟨h,_⟩|⟨_,_,_,_,h,_⟩⟩:=H.rowo 5
    ·exact h
    ·cases h
   have hpre:([.bool false, .bool b, .slice p n cc, .int .i64 e1]:List Value)<+:List.drop 0 [.bool false, .bool b, .slice p n cc, .int .i64 e1]:=List.prefix_rfl;revert H;refine W64 ?_;intro _ _ _ g1 _ hg hf w1 H hk _ _ _ _;(refine x_c H (zhK (dn HD) yb yb yb (HT.out.fr H.fr)) ?_;clear H;rintro e w1 ⟨v6,rfl,hF,hD⟩ H;replace hF:=hF.kp;obtain⟨m6,e6,b6,p6,n6,c6,rfl,hN,hB⟩:=hD;have HN6:=hid hN;have HB6:=hid hB;clear hN hB);obtain⟨z,hz0⟩:∃z,min 0 e6=z:=⟨_,rfl⟩;have HZ:=hid hz0;clear hz0;simp only[Int.not_lt,Int.not_le]at*;revert H;refine W65 ?_;intro g2 _ _ _ _ hk g3 _ hg _ p1 c1 w1 S' H hf
   go_roundw
   case rel=>exact⟨1,z,_,S',_,rfl,rfl,rfl,by omega,H.arr ye, .inr ⟨rfl,m6,e6,b6,p6,n6,c6,rfl,HN6,hid (bv HB6),HZ⟩⟩
   case measure=>(simp[intOf];try omega)
  ·obtain⟨gv,cv,rfl,rfl⟩:=(H.rowo 5).some yb;have hl2:=HN2.out.le;have hz4:=HZ.out;have hzb: -2000≤z4∧z4≤0∧z4≤e2∧e2-z4≤2100:=by omega
   obtain⟨K,hK0⟩:∃K,(e2-z4).toNat=K:=⟨_,rfl⟩;have hKl:K≤2100:=by omega
   have HK:=hid (show e2-z4=(K:Int) by omega);have hbK:=zq4 (m:=m2) (k:=K) (n:=64) yb;have HNX:=hid (show Nm (m2*2^K) z4 m2 e2 by rw[←hK0];exact zuK HN2.out HZ.out);clear hz4 hK0 HZ;obtain⟨X,hX⟩:∃X,m2*2^K=X:=⟨_,rfl⟩;rw[hX]at hbK HNX;have HX:=hid hX;clear hX;revert H;refine W64 ?_;intro _ _ _ g1 w1 hg H hf _ _
   go_loopw [37] (fun s37 wr=>∃(k:Nat) (b7:Bool) (p7:Option Addr) (n7 c7:Nat),s37= .int .i64 (k:Int)∧k≤1∧Hp [] w wr [.blk g1 [.bool b7, .slice p7 n7 c7] 118, .obj 5 [gv] (RowAt 123 4 (.slice (some ⟨gv,0,none⟩) 1 cv) 1 [.bool false, .bool b2, .slice p2 n2 c2, .int .i64 e2] [gv]), .blk g0 [.bool false, .bool false, .slice none 0 0, .int .i64 0] 123]∧Hid (Bv wr (.agg #[.bool b2, .slice p2 n2 c2]) m2 (bl m2.natAbs))∧((k=0∧b7=false∧p7=none∧n7=0∧c7=0)∨(k=1∧Hid (Bv wr (.agg #[.bool b7, .slice p7 n7 c7]) X (bl X.natAbs))))) (fun v _=>1-(intOf v).toNat)
   case atStart=>exact⟨0,_,_,_,_,rfl,by omega,H.arr ye,hid (bv HB2), .inl ⟨rfl,rfl,rfl,rfl,rfl⟩⟩
   case round=>
    clear H HB2;obtain⟨k,b7,p7,n7,c7,rfl,hk7,H,HB2,hcase⟩:=hrel
    rcases hcase with⟨rfl,rfl,rfl,rfl,rfl⟩|⟨rfl,HB7⟩
    ·have hFk:=H.fr.kp;revert H;refine W66 ?_;intro _ _ _ g2 _ hg hf w1 H hk;have HB7:=hid (zbq w1)
     (revert H;refine zR 9 (.st 0 (.st 1 (.st 2 (.st 3 (.st 4 (.st 5 (.st 6 (.ld 7 (.ld 8 (.ld 9 .done)))))))))) ?_;intro w1 hf H;(first|replace hf:=hf.kp|clear hf))
     (refine p_l ?_);refine p_q ?_;(refine p_l ?_)
     iterate 4 refine p_q ?_
     ((refine p_c H rfl rfl Tryz.func259 (zsF K HK (bv HB2).ar yb yb) ?_;clear H;rintro e w1 ⟨v8,rfl,hF,hB⟩ H;refine p_r ?_;replace hF:=hF.kp);rw[HX.out]at hB;obtain⟨b8,p8,m8,c8,rfl⟩:=hB.form;have HB8:=hid hB;clear hB)
     ((refine p_c H rfl rfl Tryz.func258 (zb9 (zbq _).ar (bv HB8).ar yb yb) ?_;clear H;rintro e w1 ⟨v9,rfl,hF,hB⟩ H;refine p_r ?_;replace hF:=hF.kp);obtain⟨b9,p9,m9,c9,rfl⟩:=hB.form;have HB9:=hid hB;clear hB)
     (revert H;refine zcQ ?_;intro w1 hf H hk;clear hf;change Kp _ _ at hk)
     (refine zf ?_)
     all_goals
      revert H;refine W64 ?_;intro H
      go_roundw
      case rel=>exact⟨1,_,_,_,_,rfl,by omega,H.arr ye,hid (bv HB2), .inr ⟨rfl,hid (by have h:=(bv HB9).c;rw[Int.zero_add]at h;exact h)⟩⟩
      case measure=>(simp[intOf];try omega)
    ·revert H;refine W64 ?_;intro H _ _ _ _ _ _ _;(refine x_c H (zcj (bv HB7).ar yb yb yb (HT.out.fr H.fr)) ?_;clear H;rintro e w1 ⟨v10,rfl,hF,hD⟩ H;replace hF:=hF.kp;obtain⟨m10,e10,b10,p10,n10,c10,rfl,hN,hB⟩:=hD;have HN10:=hid hN;have HB10:=hid hB;clear hN hB);simp only[Int.not_lt,Int.not_le]at*;revert H;refine W64 ?_;intro w1 H hk;refine zk H rfl rfl rfl ?_;exact⟨_,X,z4,m2,e2,rfl,H.fr,⟨_,_,_,_,_,_,rfl,HN10.out,bv HB10⟩,HN2.out,HNX.out,by omega,by omega,by omega⟩
end
end Go.Proofs.YtaijhllckmndhaaGreatDoor
