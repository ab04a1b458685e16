import Derived.Test.YtaijhllckmndhaaGreatDoorYJ0
import Derived.Test.YtaijhllckmndhaaGreatDoorYJ11
import Derived.Deep.DeepCutAuto
import Derived.Deep.CutBlock
namespace Go.Proofs.YtaijhllckmndhaaGreatDoor
set_option linter.all false
set_option maxHeartbeats 64000000
set_option maxRecDepth 100000
section
variable {pre seg post d:List Nat} {j i x r k u bb D q V U n dd u0 u1 u2 v1 v2 m:Nat}
open Go.RowKit
def zty(hj:pre.length=j)(h:seg[i]? =some x):(pre++seg++post)[j+i]? =some x:=by
 subst hj;rw[List.append_assoc,List.getElem?_append_right yb,Nat.add_sub_cancel_left,List.getElem?_append_left (List.getElem?_eq_some_iff.1 h).1,h]
def zhJ(hj:pre.length=j)(h:seg[i]? =some x):(zj (pre++seg++post))[j+i]? =some (.int .u32 (x:Int)):=limbs_at (zty hj h)
def zhm{r:List Nat}(hk:k=pre.length+d.length):(pre++(d++x::r)++post)[k]? =some x:=by
 subst hk;rw[List.append_assoc,List.getElem?_append_right yb,Nat.add_sub_cancel_left,List.append_assoc,List.getElem?_append_right (Nat.le_refl _),Nat.sub_self]
 rfl
def zee{r:List Nat}{y:Nat}(hk:k=pre.length+d.length):(pre++(d++x::r)++post).set k y=pre++((d++[y])++r)++post:=by
 subst hk;rw[List.append_assoc,List.set_append_right _ _ yb,Nat.add_sub_cancel_left,List.append_assoc,List.set_append_right _ _ (Nat.le_refl _),Nat.sub_self]
 simp
def zr6{Y:Int}(h0:0≤Y)(h1:Y<18446744073709551616):bits BinOp.and IntKind.u64 Y 1=Y%2:=by
 obtain⟨y,rfl⟩:∃y:Nat,Y=(y:Int):=⟨Y.toNat,by omega⟩
 have h2:(BitVec.ofInt 64 (y:Int)).toNat=y:=by
  rw[BitVec.ofInt_natCast,BitVec.toNat_ofNat];exact Nat.mod_eq_of_lt yb
 show IntKind.u64.wrap ((BitVec.ofInt 64 (y:Int)&&& BitVec.ofInt 64 1).toNat:Int)=_
 rw[BitVec.toNat_and,h2,show(BitVec.ofInt 64 1).toNat=1 from rfl,Nat.and_one_is_mod,zX yl]
 omega
def zh8{lo:Nat}(hu:u<4294967296)(hl:lo<4294967296)(hb:bb≤1):∃d b':Nat,bits BinOp.and IntKind.u64 (IntKind.u64.wrap (IntKind.u64.wrap ((u:Int)-(lo:Int))-(bb:Int))) 4294967295%4294967296=(d:Int)∧bits BinOp.and IntKind.u64 (IntKind.u64.wrap (IntKind.u64.wrap ((u:Int)-(lo:Int))-(bb:Int))/4294967296) 1=(b':Int)∧b'≤1∧d<4294967296∧u+4294967296*b'=d+lo+bb:=by
 obtain⟨d,b',f1,f2,_,f4,f5,f6⟩:=zgr (Z:=IntKind.u64.wrap ((u:Int)-(lo:Int))-(bb:Int)) (x:=u) (y:=lo) (bo:=bb) (by rw[IntKind.wrap_u64];omega) hu hl hb
 have h0:0≤IntKind.u64.wrap (IntKind.u64.wrap ((u:Int)-(lo:Int))-(bb:Int))∧IntKind.u64.wrap (IntKind.u64.wrap ((u:Int)-(lo:Int))-(bb:Int))<18446744073709551616:=by
  rw[IntKind.wrap_u64 (IntKind.u64.wrap ((u:Int)-(lo:Int))-(bb:Int))];omega
 generalize IntKind.u64.wrap (IntKind.u64.wrap ((u:Int)-(lo:Int))-(bb:Int))=Z at*;refine⟨d,b',?_,?_,f4,f5,f6⟩
 ·rw[and_low32 _ h0.1 h0.2];omega
 ·rw[zr6 yb yb];exact f2
def zp7{A cc b':Nat}(h:D+q*V=A+4294967296^n*(cc+bb))(hU:U=A+4294967296^n*u)(hd:u+4294967296*b'=dd+cc+bb):D+4294967296^n*dd+q*V=U+4294967296^(n+1)*b':=by
 rw[zbm,Nat.mul_assoc,hU];generalize 4294967296^n=P at*;have h2:P*(u+4294967296*b')=P*(dd+cc+bb):=by rw[hd]
 have e1:P*(u+4294967296*b')=P*u+P*(4294967296*b'):=Nat.mul_add ..;have e2:P*(dd+cc+bb)=P*dd+P*cc+P*bb:=by rw[Nat.mul_add,Nat.mul_add]
 have e3:P*(cc+bb)=P*cc+P*bb:=Nat.mul_add ..
 omega
def zqW{E cy W:Nat}(hV:0<V)(hE:E<4294967296^n)(hVn:V<4294967296^n)(hq:U/V≤q)(hX:q*V<U+V)(hD:D<4294967296^(n+1))(h1:E+4294967296^n*cy=W+V)(h2:D=W+4294967296^n*dd)(hT:D+q*V=U+4294967296^(n+1)):
 dd+cy=4294967296∧E=U%V∧1≤q∧q-1=U/V:=by
 have hlt:U<q*V:=by omega
 have h3:q=U/V+1:=by
  rcases zuS hV hq hX with h|h
  ·rw[h]at hlt
   have:=Nat.div_mul_le_self U V
   omega
  ·exact h.1
 have h4:=Nat.div_add_mod U V;have h5:=Nat.mod_lt U hV;have h6:q*V=V*(U/V)+V:=by rw[h3,Nat.add_mul,Nat.one_mul,Nat.mul_comm]
 rw[zbm]at hT;generalize 4294967296^n=P at*;have h7:E+P*(dd+cy)=P*4294967296+U%V:=by rw[Nat.mul_add];omega
 have h8:E=U%V:=by
  have a:=congrArg (· %P) h7;simp only[Nat.add_mul_mod_self_left,Nat.mul_add_mod]at a
  rwa [Nat.mod_eq_of_lt hE,Nat.mod_eq_of_lt yb]at a
 have h9:P*(dd+cy)=P*4294967296:=by omega
 exact⟨Nat.eq_of_mul_eq_mul_left yb h9,h8,by rw[h3];exact Nat.le_add_left _ _,by rw[h3,Nat.add_sub_cancel]⟩
def Est(U V u0 u1 u2 v1 v2 m:Nat):Prop:=v1*4294967296^(m+1)≤V∧U<(u0*4294967296+u1+1)*4294967296^(m+1)∧(v2+4294967296*v1)*4294967296^m≤V∧U<(u2+4294967296*(u0*4294967296+u1)+1)*4294967296^m∧V<(v2+4294967296*v1+1)*4294967296^m∧(u2+4294967296*(u0*4294967296+u1))*4294967296^m≤U
def zsi(hq:4294967295<q)(h:U<4294967296*V):U/V<q:=by
 have:U/V<4294967296:=Nat.div_lt_of_lt_mul (by rw[Nat.mul_comm];exact h)
 omega
def zsZ(h:Est U V u0 u1 u2 v1 v2 m)(ht:q*v1+r=u0*4294967296+u1)(hc:r*4294967296+u2<q*v2):U/V<q:=
 zu0 h.2.2.1 h.2.2.2.1 (Nat.div_mul_le_self U V) ht hc
def zhE(h:Est U V u0 u1 u2 v1 v2 m)(hv:0<v1)(ht:q*v1+r=u0*4294967296+u1)(hq:q<4294967296)(hc:q*v2≤r*4294967296+u2):q*V<U+V:=by
 refine zvo hq h.2.2.2.2.1 ?_ h.2.2.2.2.2 ?_
 ·have h1:=h.1;have h2:1*4294967296^(m+1)≤v1*4294967296^(m+1):=Nat.mul_le_mul_right _ hv;rw[Nat.one_mul,Nat.pow_succ,Nat.mul_comm]at h2;rw[Nat.pow_succ,Nat.mul_comm (4294967296^m)]at h1
  omega
 ·rw[Nat.mul_add,Nat.mul_left_comm,←ht]
  omega
def zjf(h:Est U V u0 u1 u2 v1 v2 m)(hUV:U<4294967296*V)(hv:0<v1)(hv2:v2<4294967296)(ht:q*v1+r=u0*4294967296+u1)(hr:4294967296≤r):q<4294967296∧q*v2≤r*4294967296+u2:=by
 have h5:=h.2.2.2.2.1;have h6:=h.2.2.2.2.2;have hP:0<4294967296^m:=Nat.pow_pos yf
 have h7:(u2+4294967296*(u0*4294967296+u1))*4294967296^m<4294967296*(v2+4294967296*v1+1)*4294967296^m:=by
  rw[Nat.mul_assoc 4294967296]
  omega
 have h8:=Nat.lt_of_mul_lt_mul_right h7
 have h9:q<4294967296:=by
  apply Classical.byContradiction
  intro hn
  have:4294967296*v1≤q*v1:=Nat.mul_le_mul_right _ yb
  omega
 refine⟨h9,?_⟩;have h10:q*v2≤4294967296*4294967296:=Nat.mul_le_mul yb yb;have h11:4294967296*4294967296≤r*4294967296:=Nat.mul_le_mul_right _ hr
 omega
def zgH{T:Nat}(h:q*v1+r=T)(hq:0<q):(q-1)*v1+(r+v1)=T:=by
 obtain⟨k,rfl⟩:∃k,q=k+1:=⟨q-1,by omega⟩;rw[Nat.add_mul,Nat.one_mul]at h;rw[Nat.add_sub_cancel]
 omega
def zpb{w:World}{g j cap n c:Nat}{pre seg post v:List Nat}{pv:Option Addr}
 (hg:w.heap[g]? =some (.cells (zj (pre++seg++post)).toArray 160 (0,0))) (hj:pre.length=j) (hs:seg.length=n+1) (hv:v.length=n) (hn2:2≤n) (hn:n≤1000000) (hj0:j≤1000000) (hcap:n+1≤cap) (hcap2:cap≤9223372036854775807)
 (ls:Lim seg) (hlt:val seg<4294967296*val v) (hr:LR w pv c v) (hne:∀b off,pv=some ⟨b,off,none⟩→b≠g) (hv1:v[n-1]? ≠some 0):
 Calls Tryz.prog 317 #[.slice (some ⟨g,j,none⟩) (n+1) cap, .slice pv n c] w fun e w'=>∃seg':List Nat,e= .returned (.int .u32 ((val seg/val v:Nat):Int))∧Fr [g] w w'∧seg'.length=n+1∧Lim seg'∧val seg'=val seg%val v∧w'.heap[g]? =some (.cells (zj (pre++seg'++post)).toArray 160 (0,0)):=by
 obtain⟨m,hnm⟩:∃m,n=m+2:=⟨n-2,by omega⟩;obtain⟨hlc,hc⟩:=hr.clen;have lv:=hr.lim;obtain⟨b1,off1,rfl,hb1,hcell⟩:=hr.rd.rng (zH (i:=0) yb);have hb1g:b1≠g:=hne _ _ rfl;obtain⟨u0,hu0⟩:∃x,seg[m+2]? =some x:=⟨_,List.getElem?_eq_getElem yb⟩;obtain⟨u1,hu1⟩:∃x,seg[m+1]? =some x:=⟨_,List.getElem?_eq_getElem yb⟩;obtain⟨u2,hu2⟩:∃x,seg[m]? =some x:=⟨_,List.getElem?_eq_getElem yb⟩;obtain⟨v1,hw1⟩:∃x,v[m+1]? =some x:=⟨_,List.getElem?_eq_getElem yb⟩;obtain⟨v2,hw2⟩:∃x,v[m]? =some x:=⟨_,List.getElem?_eq_getElem yb⟩;have hE:=est (by rw[hs,hnm]) (by rw[hv,hnm]) ls lv hu0 hu1 hu2 hw1 hw2;have HU0:=hid (show seg[n]? =some u0 by rw[hnm];exact hu0)
 have hv1p:0<v1:=by
  rcases Nat.eq_zero_or_pos v1 with h|h
  ·rw[h,show m+1=n-1 by omega]at hw1;exact absurd hw1 hv1
  ·exact h
 have hu0B:=ls.at hu0;have hu1B:=ls.at hu1;have hu2B:=ls.at hu2;have hv1B:=lv.at hw1;have hv2B:=lv.at hw2;have hA0:=zhJ (pre:=pre) (post:=post) hj hu0;have hA1:=zhJ (pre:=pre) (post:=post) hj hu1;have hA2:=zhJ (pre:=pre) (post:=post) hj hu2;have hB1:=limbs_at hw1;have hB2:=limbs_at hw2;rw[show m+2=n by omega]at hA0;rw[show m+1=((n:Int)-1).toNat by omega]at hA1 hB1;rw[show m=((n:Int)-2).toNat by omega]at hA2 hB2;have Hnm:=hid hnm;have HE:Hid (Est (val seg) (val v) u0 u1 u2 v1 v2 m):=hid hE;have Hs:=hid hs;have Hv:=hid hv;have Hlt:=hid hlt;have Hj:=hid hj
 have H:Hp [g] w w [.blk g (zj (pre++seg++post)) 160, .rng b1 off1 (zj v)]:=by
  have K:=(Hp.start [g] w).pushRng (b:=b1) (off:=off1) hb1 (by simpa using hb1g) hcell;exact K.push hg (.inl yg) yac
 rw[hv]at hlc;clear hE hu0 hu1 hu2 hw1 hw2 hv1 hne hb1g hcell hr hg hs hv hlt hj hnm
 go_enter Tryz.func317,Tryz.ntmps317
 go_wp2_with(first|refine x_q H ?_|refine zm ?_ ?_<;>intro h|(revert H;(first|(refine x_g ?_;intro g w1 hg hf H)|(refine x_s ?_;intro w1 hf H));(try clear hf)))
 (revert H;refine w_p 14 (.st 0 (.st 1 (.st 2 (.st 3 (.st 4 (.st 5 (.st 6 (.st 7 (.st 8 (.st 9 (.st 10 (.st 11 (.st 12 (.st 13 .done)))))))))))))) ?_;intro w1 H)
 iterate 5 refine p_q ?_
 (refine p_e rfl (fun w H=>zer rfl rfl) ?_)
 iterate 6 refine p_q ?_
 (refine p_e rfl (fun w H=>zkp rfl rfl rfl) ?_);refine p_q ?_;(refine zf ?_)
 have Hq0:Hid (val seg/val v≤(u0*4294967296+u1)/v1):=hid (by
  have h1:=zuB HE.out.1 HE.out.2.1 (Nat.div_mul_le_self (val seg) (val v))
  exact(Nat.le_div_iff_mul_le hv1p).2 h1)
 have Hqi:Hid (inr .u64 (((u0:Int)*4294967296+(u1:Int))/(v1:Int))):=hid (by
  have h1:((u0:Int)*4294967296+(u1:Int))/(v1:Int)=(((u0*4294967296+u1)/v1:Nat):Int):=by rw[Int.natCast_ediv];congr 1
  have h2:(u0*4294967296+u1)/v1≤u0*4294967296+u1:=Nat.div_le_self _ _;rw[h1];generalize (u0*4294967296+u1)/v1=z at h2
  show(0:Int)≤(z:Int)∧(z:Int)≤(18446744073709551615:Int)
  omega)
 all_goals
  go_wp2_with(first|refine x_q H ?_|refine zm ?_ ?_<;>intro h|(revert H;(first|(refine x_g ?_;intro g w1 hg hf H)|(refine x_s ?_;intro w1 hf H));(try clear hf)))
  (revert H;refine w_p 18 (.st 0 (.st 1 (.st 2 (.st 3 (.st 4 (.st 5 (.st 6 (.st 7 (.st 8 (.st 9 (.st 10 (.st 11 (.st 12 (.st 13 (.st 14 (.st 15 (.st 16 (.st 17 .done)))))))))))))))))) ?_;intro w1 H)
  iterate 7 refine p_q ?_
  (refine p_e rfl (fun w H=>zj8 rfl rfl rfl yb yb Hqi.out) ?_)
  iterate 10 refine p_q ?_
  (refine zf ?_)
 all_goals
  go_upto_block 0 with(first|refine x_q H ?_|refine zm (fun h=>?_) (fun h=>?_)|(revert H;(first|(refine x_g ?_;intro g w1 hg hf H)|(refine x_s ?_;intro w1 hf H));(try clear hf)))
  rw[show((n:Int)-1).toNat=n-1 by omega]
  go_cut [7,8] (fun s7 s8 wx=>∃q:Nat,s7= .int .u64 (q:Int)∧q<4294967296∧Hid (val seg/val v≤q)∧Hid (q*val v<val seg+val v)∧Hp [g] w wx [.blk g (zj (pre++seg++post)) 160, .rng b1 off1 (zj v)])
  case first=>
   go_wp2_with(first|refine x_q H ?_|refine zm ?_ ?_<;>intro h|(revert H;(first|(refine x_g ?_;intro g w1 hg hf H)|(refine x_s ?_;intro w1 hf H));(try clear hf)))
   go_loopw [7,8] (fun s7 s8 wr=>∃q r:Nat,s7= .int .u64 (q:Int)∧s8= .int .u64 (r:Int)∧Hid (q*v1+r=u0*4294967296+u1)∧Hid (val seg/val v≤q)∧r<4294967296∧q<18446744073709551616∧Hp [g] w wr [.blk g (zj (pre++seg++post)) 160, .rng b1 off1 (zj v)]) (fun v _ _=>(intOf v).toNat)
   case atStart=>exact⟨(u0*4294967296+u1)/v1,(u0*4294967296+u1)%v1,by rw[Int.natCast_ediv];rfl,by rw[Int.natCast_emod];rfl,hid (by rw[Nat.mul_comm];exact Nat.div_add_mod _ _),Hq0,Nat.lt_trans (Nat.mod_lt _ hv1p) hv1B,Nat.lt_of_le_of_lt (Nat.div_le_self _ _) yb,H⟩
   case round=>
    clear H;clear Hqi;obtain⟨q,r,rfl,rfl,Ht,Hq,hrB,hq64,H⟩:=hrel
    by_cases hbig:4294967295<q
    ·have HD:=hid (zsi hbig Hlt.out)
     go_wp2_with(first|refine x_q H ?_|refine zm ?_ ?_<;>intro h|(revert H;(first|(refine x_g ?_;intro g w1 hg hf H)|(refine x_s ?_;intro w1 hf H));(try clear hf)))
     (revert H;refine w_p 22 (.st 0 (.st 1 (.st 2 (.st 3 (.st 4 (.st 5 (.st 6 (.st 7 (.st 8 (.st 9 (.st 10 (.st 11 (.st 12 (.st 13 (.st 14 (.st 15 (.st 16 (.st 17 (.st 18 (.st 19 (.st 20 (.st 21 .done)))))))))))))))))))))) ?_;intro w1 H)
     iterate 3 refine p_q ?_
     iterate 9 (first|refine p_q ?_|refine p_n ?_)
     (first|(refine p_e rfl (fun w H=>ev_shl8 rfl rfl y5 y5) ?_)|refine p_n ?_)
     iterate 6 (first|refine p_q ?_|refine p_n ?_)
     (first|(refine p_e rfl (fun w H=>ev_or8 rfl rfl rfl y5 y5) ?_)|refine p_n ?_)
     (first|refine p_q ?_|refine p_n ?_)
     refine p_q ?_;(refine zf ?_)
     all_goals
      go_wp2_with(first|refine x_q H ?_|refine zm ?_ ?_<;>intro h|(revert H;(first|(refine x_g ?_;intro g w1 hg hf H)|(refine x_s ?_;intro w1 hf H));(try clear hf)))
      ·go_meet
       case rel=>
        have hx:4294967295<(r:Int)+(v1:Int):=by assumption
        have hq0:0<q:=Nat.lt_of_le_of_lt (Nat.zero_le _) HD.out;have h1:=zgH Ht.out hq0;obtain⟨h2,h3⟩:=zjf HE.out Hlt.out hv1p hv2B h1 yb;exact⟨q-1,by go_num,h2,hid yab,hid (zhE HE.out hv1p h1 h2 h3),H⟩
      ·go_roundw
       case rel=>
        have hx:¬ 4294967295<(r:Int)+(v1:Int):=by assumption
        have hq0:0<q:=Nat.lt_of_le_of_lt (Nat.zero_le _) HD.out;exact⟨q-1,r+v1,by go_num,by go_num,hid (zgH Ht.out hq0),hid yab,by omega,by omega,H⟩
       case measure=>
        have hq0:0<q:=Nat.lt_of_le_of_lt (Nat.zero_le _) HD.out
        simp[intOf];omega
    ·have hM:inr .u64 ((q:Int)*(v2:Int)):=by
      have h1:q*v2≤4294967295*4294967295:=Nat.mul_le_mul yb yb;have h2:(q:Int)*(v2:Int)=((q*v2:Nat):Int):=by rw[Int.natCast_mul]
      rw[h2];generalize q*v2=z at h1
      show(0:Int)≤(z:Int)∧(z:Int)≤(18446744073709551615:Int)
      omega
     by_cases hc:r*4294967296+u2<q*v2
     ·have hcI:(r:Int)*4294967296+(u2:Int)<(q:Int)*(v2:Int):=by
       have h2:(q:Int)*(v2:Int)=((q*v2:Nat):Int):=by rw[Int.natCast_mul]
       rw[h2];omega
      have HD:=hid (zsZ HE.out Ht.out hc);have hq1:1≤q:=Nat.lt_of_le_of_lt (Nat.zero_le _) HD.out;have Hc:=hid hc;clear hc
      go_wp2_with(first|refine x_q H ?_|refine zm ?_ ?_<;>intro h|(revert H;(first|(refine x_g ?_;intro g w1 hg hf H)|(refine x_s ?_;intro w1 hf H));(try clear hf)))
      (revert H;refine w_p 22 (.st 0 (.st 1 (.st 2 (.st 3 (.st 4 (.st 5 (.st 6 (.st 7 (.st 8 (.st 9 (.st 10 (.st 11 (.st 12 (.st 13 (.st 14 (.st 15 (.st 16 (.st 17 (.st 18 (.st 19 (.st 20 (.st 21 .done)))))))))))))))))))))) ?_;intro w1 H)
      iterate 3 refine p_q ?_
      iterate 9 (first|refine p_q ?_|refine p_n ?_)
      (refine p_e rfl (fun w H=>zer rfl rfl) ?_)
      iterate 6 (first|refine p_q ?_|refine p_n ?_)
      (refine p_e rfl (fun w H=>zkp rfl rfl rfl) ?_)
      (first|refine p_q ?_|refine p_n ?_)
      refine p_q ?_;(refine zf ?_)
      all_goals
       go_wp2_with(first|refine x_q H ?_|refine zm ?_ ?_<;>intro h|(revert H;(first|(refine x_g ?_;intro g w1 hg hf H)|(refine x_s ?_;intro w1 hf H));(try clear hf)))
       ·go_meet
        case rel=>
         have hx:4294967295<(r:Int)+(v1:Int):=by assumption
         have hq0:0<q:=Nat.lt_of_le_of_lt (Nat.zero_le _) HD.out;have h1:=zgH Ht.out hq0;obtain⟨h2,h3⟩:=zjf HE.out Hlt.out hv1p hv2B h1 yb;exact⟨q-1,by go_num,h2,hid yab,hid (zhE HE.out hv1p h1 h2 h3),H⟩
       ·go_roundw
        case rel=>
         have hx:¬ 4294967295<(r:Int)+(v1:Int):=by assumption
         have hq0:0<q:=Nat.lt_of_le_of_lt (Nat.zero_le _) HD.out;exact⟨q-1,r+v1,by go_num,by go_num,hid (zgH Ht.out hq0),hid yab,by omega,by omega,H⟩
        case measure=>
         have hq0:0<q:=Nat.lt_of_le_of_lt (Nat.zero_le _) HD.out
         simp[intOf];omega
     ·have hcI:¬(r:Int)*4294967296+(u2:Int)<(q:Int)*(v2:Int):=by
       have h2:(q:Int)*(v2:Int)=((q*v2:Nat):Int):=by rw[Int.natCast_mul]
       rw[h2];omega
      have HX:=hid (zhE HE.out hv1p Ht.out yb yb);clear hc
      go_wp2_with(first|refine x_q H ?_|refine zm ?_ ?_<;>intro h|(revert H;(first|(refine x_g ?_;intro g w1 hg hf H)|(refine x_s ?_;intro w1 hf H));(try clear hf)))
      (revert H;refine w_p 22 (.st 0 (.st 1 (.st 2 (.st 3 (.st 4 (.st 5 (.st 6 (.st 7 (.st 8 (.st 9 (.st 10 (.st 11 (.st 12 (.st 13 (.st 14 (.st 15 (.st 16 (.st 17 (.st 18 (.st 19 (.st 20 (.st 21 .done)))))))))))))))))))))) ?_;intro w1 H)
      iterate 3 refine p_q ?_
      iterate 9 (first|refine p_q ?_|refine p_n ?_)
      (refine p_e rfl (fun w H=>zer rfl rfl) ?_)
      iterate 6 (first|refine p_q ?_|refine p_n ?_)
      (refine p_e rfl (fun w H=>zkp rfl rfl rfl) ?_)
      (first|refine p_q ?_|refine p_n ?_)
      refine p_q ?_;(refine zf ?_)
      all_goals
       go_wp2_with(first|refine x_q H ?_|refine zm ?_ ?_<;>intro h|(revert H;(first|(refine x_g ?_;intro g w1 hg hf H)|(refine x_s ?_;intro w1 hf H));(try clear hf)))
       go_meet
       case rel=>exact⟨q,(by first|rfl|go_num),by omega,Hq,HX,H⟩
  case rest=>
   clear H;obtain⟨q,rfl,hqB,Hq,HX,H⟩:=hcut;have hpre:pre.length=j:=Hj.out;have hslen:seg.length=n+1:=Hs.out;have hvlen:v.length=n:=Hv.out;have Hpre:=hid hpre;have Hslen:=hid hslen;have Hvlen:=hid hvlen;clear hpre hslen hvlen hA0 hA1 hA2 hB1 hB2 Hq0 Hqi
   go_wp2_with(first|refine x_q H ?_|refine zm ?_ ?_<;>intro h|(revert H;(first|(refine x_g ?_;intro g w1 hg hf H)|(refine x_s ?_;intro w1 hf H));(try clear hf)))
   go_loopw [9,10,86] (fun s9 s10 s86 wr=>∃(i cc bb:Nat) (d:List Nat),i≤n∧s86= .int .i64 (i:Int)∧s9= .int .u64 (cc:Int)∧s10= .int .u64 (bb:Int)∧cc<4294967296∧bb≤1∧Hid (d.length=i)∧Hid (Lim d)∧Hid (val d+q*val (v.take i)=val (seg.take i)+4294967296^i*(cc+bb))∧Hp [g] w wr [.blk g (zj (pre++(d++seg.drop i)++post)) 160, .rng b1 off1 (zj v)]) (fun _ _ z _=>n-(intOf z).toNat)
   case atStart=>exact⟨0,0,0,[],Nat.zero_le _,rfl,rfl,rfl,by decide,by decide,hid rfl,hid Lim.nil,hid (by simp[val]),H⟩
   case round=>
    clear H;obtain⟨i,cc,bb,d,hi,rfl,rfl,rfl,hcc,hbb,Hdl,Hdlim,Hinv,H⟩:=hrel
    by_cases hin:i<n
    ·obtain⟨x,hx⟩:∃x,v[i]? =some x:=⟨_,List.getElem?_eq_getElem (by rw[Hvlen.out];exact hin)⟩;obtain⟨u,hu⟩:∃u,seg[i]? =some u:=⟨_,List.getElem?_eq_getElem (by rw[Hslen.out];omega)⟩;have hxv:=limbs_at hx;have hxB:=lv.at hx;have huB:=ls.at hu;have Hx:=hid hx;have Hu:=hid hu;have hdrop:=zaq hu;have Hdrop:=hid hdrop;rw[hdrop]at H;have huv:(zj (pre++(d++u::seg.drop (i+1))++post))[j+i]? =some (.int .u32 (u:Int)):=limbs_at (zhm y3);clear hx hu hdrop
     have hpB:q*x+cc<18446744073709551616:=by
      have:=Nat.mul_le_mul (show q≤4294967295 by omega) (show x≤4294967295 by omega)
      omega
     obtain⟨p,hp⟩:∃p,q*x+cc=p:=⟨_,rfl⟩;rw[hp]at hpB
     have HP1:Hid (IntKind.u64.wrap (IntKind.u64.wrap ((q:Int)*(x:Int))+(cc:Int))=(p:Int)):=hid (by
      have e1:IntKind.u64.wrap ((q:Int)*(x:Int))=((q*x:Nat):Int):=zdO _ (by rw[Int.natCast_mul]) yb;rw[e1]
      exact zdO _ yb hpB)
     have HpE:=hid hp;have hpj:j≤pre.length:=by have:=Hpre.out;omega
     have hdi:i≤d.length:=by have:=Hdl.out;omega
     have hst:j+i<(zj (pre++(d++u::seg.drop (i+1))++post)).length:=by rw[zbT];simp only[List.length_append,List.length_cons];omega
     clear hp;have HL:Hid (bits BinOp.and IntKind.u64 (p:Int) 4294967295=((p%4294967296:Nat):Int)):=hid (by rw[and_low32 _ yb yb];omega);obtain⟨dd,b',f1,f2,f4,f5,f6⟩:=zh8 (u:=u) (lo:=p%4294967296) (bb:=bb) huB (Nat.mod_lt _ yf) hbb;have F1:=hid f1;have F2:=hid f2;have F6:=hid f6;have HpB:=hid hpB;clear f1 f2 f6 hpB
     go_wp2_with(first|refine x_q H ?_|refine x_e (zgZ rfl rfl) ?_|refine x_e (zfP rfl rfl) ?_|refine zm ?_ ?_<;>intro h|(revert H;(first|(refine x_g ?_;intro g w1 hg hf H)|(refine x_s ?_;intro w1 hf H));(try clear hf)))
     rw[HP1.out,HL.out,F1.out,z7,zee y3]at H;rw[HP1.out,HL.out,F2.out]
     go_roundw
     case rel=>exact⟨i+1,p/4294967296,b',d++[dd],by omega,by go_num,by rw[Int.natCast_ediv];rfl,rfl,by have:=HpB.out;omega,f4,hid (by rw[List.length_append,Hdl.out];rfl),hid (Hdlim.out.app (Lim.cons f5 Lim.nil)),hid (by
      rw[zbo,Hdl.out,zw Hx.out,zw Hu.out]
      exact zlU Hinv.out (by rw[HpE.out];omega) F6.out),H⟩
     case measure=>(simp[intOf];try omega)
    ·have e:i=n:=by omega
     rw[e]at Hdl Hinv H;clear e;have hd1:seg.drop n=[u0]:=by rw[zaq HU0.out,List.drop_eq_nil_of_le (by rw[Hslen.out];exact Nat.le_refl _)]
     rw[hd1]at H;clear hd1;have hpj:j≤pre.length:=by have:=Hpre.out;omega
     have hdi:n≤d.length:=by have:=Hdl.out;omega
     have hst:j+n<(zj (pre++(d++[u0])++post)).length:=by rw[zbT];simp only[List.length_append,List.length_cons];omega
     have huv:(zj (pre++(d++[u0])++post))[j+n]? =some (.int .u32 (u0:Int)):=limbs_at (zhm y3);obtain⟨dd,b',f1,f2,f4,f5,f6⟩:=zh8 (u:=u0) (lo:=cc) (bb:=bb) hu0B hcc hbb;have F1:=hid f1;have F2:=hid f2
     have HT:Hid (val (d++[dd])+q*val v=val seg+4294967296^(n+1)*b'):=hid (by
      have h1:=Hinv.out;rw[List.take_of_length_le (show v.length≤n by rw[Hvlen.out];exact Nat.le_refl _)]at h1
      have h2:val seg=val (seg.take n)+4294967296^n*u0:=by
       rw[←zw HU0.out,List.take_of_length_le (by rw[Hslen.out];exact Nat.le_refl _)]
      rw[zbo,Hdl.out]
      exact zp7 h1 h2 f6)
     clear f1 f2 f6
     have hVp:0<val v:=by
      have h1:=HE.out.1;have h2:0<v1*4294967296^(m+1):=Nat.mul_pos hv1p (Nat.pow_pos yf)
      omega
     have HVp:=hid hVp;have HDL:Hid ((d++[dd]).length=n+1):=hid (by rw[List.length_append,Hdl.out];rfl);have HDlim:Hid (Lim (d++[dd])):=hid (Hdlim.out.app (Lim.cons f5 Lim.nil));have HDn:Hid ((d++[dd])[n]? =some dd):=hid (by rw[List.getElem?_append_right (by rw[Hdl.out];exact Nat.le_refl _),Hdl.out,Nat.sub_self];rfl);have HB1:Hid (¬bits BinOp.and IntKind.u64 (IntKind.u64.wrap (IntKind.u64.wrap ((u0:Int)-(cc:Int))-(bb:Int))/4294967296) 1=0→b'=1):=hid (fun h=>by rw[F2.out]at h;omega);clear hVp
     go_wp2_with(first|refine x_q H ?_|refine x_e (zgZ rfl rfl) ?_|refine x_e (zfP rfl rfl) ?_|refine zm ?_ ?_<;>intro h|(revert H;(first|(refine x_g ?_;intro g w1 hg hf H)|(refine x_s ?_;intro w1 hf H));(try clear hf)))
     ·rename_i h;rw[F2.out]at h;rw[F1.out,z7,zee y3]at H;have hb0:b'=0:=by omega
      have hT:=HT.out;rw[hb0,Nat.mul_zero,Nat.add_zero]at hT;have hQ:=zta HVp.out Hq.out (show q*val v≤val seg by omega)
      go_ret
      refine⟨d++[dd],by rw[←hQ];rfl,H.fr,HDL.out,HDlim.out,?_,by simpa using H.at g⟩;have h1:=Nat.div_add_mod (val seg) (val v);rw[←hQ,Nat.mul_comm]at h1
      omega
     ·have hb0:b'=1:=HB1.out yo;rw[F1.out,z7,zee y3,List.append_nil]at H;have hT:=HT.out;rw[hb0,Nat.mul_one]at hT;have HT2:=hid hT;clear hT hb0 hpj hdi hst huv F1 F2 HT HB1;generalize d++[dd]=D at*
      go_loopw [9,142] (fun s9 s142 wr=>∃(i cc:Nat) (e:List Nat),i≤n∧s142= .int .i64 (i:Int)∧s9= .int .u64 (cc:Int)∧cc≤1∧Hid (e.length=i)∧Hid (Lim e)∧Hid (val e+4294967296^i*cc=val (D.take i)+val (v.take i))∧Hp [g] w wr [.blk g (zj (pre++(e++D.drop i)++post)) 160, .rng b1 off1 (zj v)]) (fun _ z _=>n-(intOf z).toNat)
      case atStart=>exact⟨0,0,[],Nat.zero_le _,rfl,rfl,by decide,hid rfl,hid Lim.nil,hid (by simp[val]),H⟩
      case round=>
       clear H;obtain⟨i,cy,e,hi,rfl,rfl,hcy,Hel,Helim,Hinv2,H⟩:=hrel
       by_cases hin2:i<n
       ·obtain⟨y,hy⟩:∃y,v[i]? =some y:=⟨_,List.getElem?_eq_getElem (by rw[Hvlen.out];exact hin2)⟩;obtain⟨x,hx⟩:∃x,D[i]? =some x:=⟨_,List.getElem?_eq_getElem (by rw[HDL.out];omega)⟩;have hyv:=limbs_at hy;have hyB:=lv.at hy;have hxB:=HDlim.out.at hx;have Hx:=hid hx;have Hy:=hid hy;have hdrop:=zaq hx;rw[hdrop]at H;have hxv:(zj (pre++(e++x::D.drop (i+1))++post))[j+i]? =some (.int .u32 (x:Int)):=limbs_at (zhm y7);have hpj:j≤pre.length:=by have:=Hpre.out;omega
        have hdi:i≤e.length:=by have:=Hel.out;omega
        have hst:j+i<(zj (pre++(e++x::D.drop (i+1))++post)).length:=by rw[zbT];simp only[List.length_append,List.length_cons];omega
        clear hx hy hdrop
        go_wp2_with(first|refine x_q H ?_|refine x_e (zgZ rfl rfl) ?_|refine x_e (zfP rfl rfl) ?_|refine zm ?_ ?_<;>intro h|(revert H;(first|(refine x_g ?_;intro g w1 hg hf H)|(refine x_s ?_;intro w1 hf H));(try clear hf)))
        rw[show((x:Int)+(y:Int)+(cy:Int))%4294967296=(((x+y+cy)%4294967296:Nat):Int) by omega,z7,zee y7]at H
        go_roundw
        case rel=>exact⟨i+1,(x+y+cy)/4294967296,e++[(x+y+cy)%4294967296],by omega,by go_num,by rw[show((x:Int)+(y:Int)+(cy:Int))/4294967296=(((x+y+cy)/4294967296:Nat):Int) by omega],by omega,hid (by rw[List.length_append,Hel.out];rfl),hid (Helim.out.app (Lim.cons (Nat.mod_lt _ yf) Lim.nil)),hid (by rw[zbo,Hel.out,zw Hx.out,zw Hy.out];exact zmb Hinv2.out rfl),H⟩
        case measure=>(simp[intOf];try omega)
       ·have ei:i=n:=by omega
        rw[ei]at Hel Hinv2 H;clear ei;have hd1:D.drop n=[dd]:=by rw[zaq HDn.out,List.drop_eq_nil_of_le (by rw[HDL.out];exact Nat.le_refl _)]
        rw[hd1]at H;clear hd1;have hpj:j≤pre.length:=by have:=Hpre.out;omega
        have hdi:n≤e.length:=by have:=Hel.out;omega
        have hst:j+n<(zj (pre++(e++[dd])++post)).length:=by rw[zbT];simp only[List.length_append,List.length_cons];omega
        have hxv:(zj (pre++(e++[dd])++post))[j+n]? =some (.int .u32 (dd:Int)):=limbs_at (zhm y7)
        obtain⟨k1,k2,k3⟩:=zqW (E:=val e) (cy:=cy) (dd:=dd) (q:=q) (U:=val seg) (V:=val v) (n:=n) HVp.out
         (by have h1:=zaA Helim.out;rwa [Hel.out]at h1)
         (by have h1:=zaA lv;rwa [Hvlen.out]at h1)
         Hq.out HX.out (zaA HDlim.out|>fun h1=>by rwa [HDL.out]at h1)
         (by
          have h1:=Hinv2.out;rw[List.take_of_length_le (show v.length≤n by rw[Hvlen.out];exact Nat.le_refl _)]at h1
          exact h1)
         (by rw[←zw HDn.out,List.take_of_length_le (by rw[HDL.out];exact Nat.le_refl _)]) HT2.out
        have K1:=hid k1;have K2:=hid k2;have hq1:1≤q:=k3.1;have K3:=hid k3.2;clear k1 k2 k3
        go_wp2_with(first|refine x_q H ?_|refine x_e (zgZ rfl rfl) ?_|refine x_e (zfP rfl rfl) ?_|refine zm ?_ ?_<;>intro h|(revert H;(first|(refine x_g ?_;intro g w1 hg hf H)|(refine x_s ?_;intro w1 hf H));(try clear hf)))
        rw[show((dd:Int)+(cy:Int))%4294967296=((0:Nat):Int) by have:=K1.out;omega,z7,zee y7,List.append_nil]at H
        go_ret
        refine⟨e++[0],?_,H.fr,by rw[List.length_append,Hel.out];rfl,Helim.out.app (Lim.cons yf Lim.nil),?_,H.at g⟩
        ·rw[←K3.out,show((q-1:Nat):Int)=(q:Int)-1 by omega]
         rfl
        ·rw[zbo,Nat.mul_zero,Nat.add_zero];exact K2.out
end
end Go.Proofs.YtaijhllckmndhaaGreatDoor
