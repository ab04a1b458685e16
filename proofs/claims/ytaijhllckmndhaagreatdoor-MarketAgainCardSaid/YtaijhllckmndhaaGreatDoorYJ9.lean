import Derived.Test.YtaijhllckmndhaaGreatDoorYJ0
import Derived.Test.YtaijhllckmndhaaGreatDoorYJ8
namespace Go.Proofs.YtaijhllckmndhaaGreatDoor
set_option linter.all false
set_option maxHeartbeats 64000000
set_option maxRecDepth 100000
section
open Go.RowKit
def zC(x y:Int):Int:=if x<y then -1 else if y<x then 1 else 0
def zhu(w:World)(x:Int):Calls Tryz.prog 204 #[.int .i64 x] w fun e w'=>e= .returned (.bool false)∧Fr [] w w':=by
 have H:=Hp.start [] w
 go_enter Tryz.func204,Tryz.ntmps204
 revert H;refine W00 ?_;intro H
 go_ret
 exact⟨rfl,H.fr⟩
def zvh(w:World)(x y:Int):Calls Tryz.prog 257 #[.int .i64 x, .int .i64 y] w fun e w'=>e= .returned (.int .i64 (zC x y))∧Fr [] w w':=by
 have H:=Hp.start [] w;have hz:zC x y=if x<y then -1 else if y<x then 1 else 0:=rfl
 by_cases h1:x<y
 ·have Hz:Hid (zC x y= -1):=hid (by rw[hz,if_pos h1]);clear hz
  go_enter Tryz.func257,Tryz.ntmps257
  revert H;refine W00 ?_;intro H _ _ _ _ _;(refine x_c H (zhu _ x) ?_;clear H;rintro e w1 ⟨rfl,hF⟩ H);simp only[Int.not_lt,Int.not_le]at*;revert H;refine W00 ?_;intro H _ _ _ _;(refine x_c H (zhu _ y) ?_;clear H;rintro e w1 ⟨rfl,hF⟩ H);simp only[Int.not_lt,Int.not_le]at*;revert H;refine W00 ?_;intro H _ _
  go_ret
  exact⟨by rw[Hz.out];rfl,H.fr⟩
 ·by_cases h2:y<x
  ·have Hz:Hid (zC x y=1):=hid (by rw[hz,if_neg h1,if_pos h2]);clear hz
   go_enter Tryz.func257,Tryz.ntmps257
   simp only[Int.not_lt,Int.not_le]at*;revert H;refine W00 ?_;intro H _ _ _ _ _;(refine x_c H (zhu _ x) ?_;clear H;rintro e w1 ⟨rfl,hF⟩ H);simp only[Int.not_lt,Int.not_le]at*;revert H;refine W00 ?_;intro H _ _ _ _;(refine x_c H (zhu _ y) ?_;clear H;rintro e w1 ⟨rfl,hF⟩ H);simp only[Int.not_lt,Int.not_le]at*;revert H;refine W00 ?_;intro H _ _
   go_ret
   exact⟨by rw[Hz.out];rfl,H.fr⟩
  ·have Hz:Hid (zC x y=0):=hid (by rw[hz,if_neg h1,if_neg h2]);clear hz
   go_enter Tryz.func257,Tryz.ntmps257
   simp only[Int.not_lt,Int.not_le]at*;revert H;refine W00 ?_;intro H _ _ _ _ _;(refine x_c H (zhu _ x) ?_;clear H;rintro e w1 ⟨rfl,hF⟩ H);simp only[Int.not_lt,Int.not_le]at*;revert H;refine W00 ?_;intro H _ _ _ _;(refine x_c H (zhu _ y) ?_;clear H;rintro e w1 ⟨rfl,hF⟩ H);simp only[Int.not_lt,Int.not_le]at*;revert H;refine W00 ?_;intro H
   go_ret
   exact⟨by rw[Hz.out];rfl,H.fr⟩
def zhz(w:World)(x:Int):Calls Tryz.prog 321 #[.int .u32 x] w fun e w'=>e= .returned (.bool false)∧Fr [] w w':=by
 have H:=Hp.start [] w
 go_enter Tryz.func321,Tryz.ntmps321
 revert H;refine W00 ?_;intro H
 go_ret
 exact⟨rfl,H.fr⟩
def zvf(w:World)(x y:Int):Calls Tryz.prog 316 #[.int .u32 x, .int .u32 y] w fun e w'=>e= .returned (.int .i64 (zC x y))∧Fr [] w w':=by
 have H:=Hp.start [] w;have hz:zC x y=if x<y then -1 else if y<x then 1 else 0:=rfl
 by_cases h1:x<y
 ·have Hz:Hid (zC x y= -1):=hid (by rw[hz,if_pos h1]);clear hz
  go_enter Tryz.func316,Tryz.ntmps316
  revert H;refine W00 ?_;intro H _ _ _ _ _;(refine x_c H (zhz _ x) ?_;clear H;rintro e w1 ⟨rfl,hF⟩ H);simp only[Int.not_lt,Int.not_le]at*;revert H;refine W00 ?_;intro H _ _ _ _;(refine x_c H (zhz _ y) ?_;clear H;rintro e w1 ⟨rfl,hF⟩ H);simp only[Int.not_lt,Int.not_le]at*;revert H;refine W00 ?_;intro H _ _
  go_ret
  exact⟨by rw[Hz.out];rfl,H.fr⟩
 ·by_cases h2:y<x
  ·have Hz:Hid (zC x y=1):=hid (by rw[hz,if_neg h1,if_pos h2]);clear hz
   go_enter Tryz.func316,Tryz.ntmps316
   simp only[Int.not_lt,Int.not_le]at*;revert H;refine W00 ?_;intro H _ _ _ _ _;(refine x_c H (zhz _ x) ?_;clear H;rintro e w1 ⟨rfl,hF⟩ H);simp only[Int.not_lt,Int.not_le]at*;revert H;refine W00 ?_;intro H _ _ _ _;(refine x_c H (zhz _ y) ?_;clear H;rintro e w1 ⟨rfl,hF⟩ H);simp only[Int.not_lt,Int.not_le]at*;revert H;refine W00 ?_;intro H _ _
   go_ret
   exact⟨by rw[Hz.out];rfl,H.fr⟩
  ·have Hz:Hid (zC x y=0):=hid (by rw[hz,if_neg h1,if_neg h2]);clear hz
   go_enter Tryz.func316,Tryz.ntmps316
   simp only[Int.not_lt,Int.not_le]at*;revert H;refine W00 ?_;intro H _ _ _ _ _;(refine x_c H (zhz _ x) ?_;clear H;rintro e w1 ⟨rfl,hF⟩ H);simp only[Int.not_lt,Int.not_le]at*;revert H;refine W00 ?_;intro H _ _ _ _;(refine x_c H (zhz _ y) ?_;clear H;rintro e w1 ⟨rfl,hF⟩ H);simp only[Int.not_lt,Int.not_le]at*;revert H;refine W00 ?_;intro H
   go_ret
   exact⟨by rw[Hz.out];rfl,H.fr⟩
def zbr{x y:Int}(h:x<y):zC x y= -1:=by unfold zC;rw[if_pos h]
def zb2{x y:Int}(h:y<x):zC x y=1:=by unfold zC;rw[if_neg yb,if_pos h]
def zem(x:Int):zC x x=0:=by unfold zC;rw[if_neg yb,if_neg yb]
def zrq{a b:Nat}(h:(zd a).length≠(zd b).length):zC ((zd a).length:Nat) ((zd b).length:Nat)=zC a b:=by
 rcases Nat.lt_or_ge (zd a).length (zd b).length with h1|h1
 ·rw[zbr yb,zbr (by have:=zd4 h1;omega)]
 ·have h2:(zd b).length<(zd a).length:=by omega
  rw[zb2 yb,zb2 (by have:=zd4 h2;omega)]
def zsP{a b:List Nat}(ha:Lim a)(hb:Lim b)(hl:a.length=b.length){i x y:Nat}(hx:a[i]? =some x)(hy:b[i]? =some y)(hd:a.drop (i+1)=b.drop (i+1))(hne:x≠y):zC x y=zC (val a) (val b):=by
 rcases Nat.lt_or_ge x y with h|h
 ·rw[zbr yb,zbr (by have:=zpr ha hb hl hx hy hd h;omega)]
 ·rw[zb2 yb,zb2 (by have:=zpr hb ha hl.symm hy hx hd.symm yb ;omega)]
def zoi{a b:List Nat}{i x:Nat}(hx:a[i]? =some x)(hy:b[i]? =some x)(hd:a.drop (i+1)=b.drop (i+1)):a.drop i=b.drop i:=by
 obtain⟨h1,e1⟩:=List.getElem?_eq_some_iff.1 hx;obtain⟨h2,e2⟩:=List.getElem?_eq_some_iff.1 hy;rw[List.drop_eq_getElem_cons h1,List.drop_eq_getElem_cons h2,hd,e1,e2]
def za5{w:World}{p q:Option Addr}{n m c d:Nat}(a b:Nat)(hn:(zd a).length=n)(hm:(zd b).length=m)(h:LR w p c (zd a))(k:LR w q d (zd b)):
 Calls Tryz.prog 300 #[.slice p n c, .slice q m d] w fun e w'=>e= .returned (.int .i64 (zC a b))∧Fr [] w w':=by
 obtain⟨hlc,hc⟩:=h.clen;obtain⟨hlc2,hc2⟩:=k.clen;rw[hn]at hlc;rw[hm]at hlc2;have Hh:=hid h;have Hk:=hid k;have Hn:=hid hn;have Hm:=hid hm;clear h k hn hm;have H:=Hp.start [] w
 by_cases hnm:n=m
 ·have Hnm:=hid hnm;have hnm1:n≤m:=by omega
  have hnm2:m≤n:=by omega
  clear hnm
  go_enter Tryz.func300,Tryz.ntmps300
  revert H;refine W00 ?_;intro H _ _ _
  go_loopw [5] (fun s5 wr=>∃i:Nat,i≤n∧s5= .int .i64 ((i:Int)-1)∧Hid ((zd a).drop i=(zd b).drop i)∧Hp [] w wr []) (fun v _=>(intOf v+1).toNat)
  case atStart=>exact⟨n,Nat.le_refl _,rfl,hid (by rw[List.drop_eq_nil_of_le (by rw[Hn.out];exact Nat.le_refl _),List.drop_eq_nil_of_le (by rw[Hm.out];omega)]),H⟩
  case round=>
   clear H;obtain⟨i,hi,rfl,hd,H⟩:=hrel
   by_cases h0:i=0
   ·have Hz:Hid (zC a b=0):=hid (by
     have:=hd.out
     rw[h0,List.drop_zero,List.drop_zero]at this
     rw[zjq this,zem])
    have h0':(i:Int)-1<0:=by omega
    clear h0;revert H;refine W00 ?_;intro H _ _ _
    go_ret
    exact⟨by rw[Hz.out];rfl,H.fr⟩
   ·obtain⟨j,rfl⟩:∃j,i=j+1:=⟨i-1,by omega⟩;obtain⟨x,hx⟩:∃x,(zd a)[j]? =some x:=⟨_,List.getElem?_eq_getElem (by rw[Hn.out];omega)⟩;obtain⟨y,hy⟩:∃y,(zd b)[j]? =some y:=⟨_,List.getElem?_eq_getElem (by rw[Hm.out];omega)⟩;have hxv:=limbs_at hx;have hyv:=limbs_at hy;have Hx:=hid hx;have Hy:=hid hy;clear hx hy h0;have r1:=Hh.out.rd;have r2:=Hk.out.rd;rw[Hn.out]at r1;rw[Hm.out]at r2;obtain⟨b0,off,rfl,hb0,hcell⟩:=r1.rng (zH (i:=j) (by rw[Hn.out];omega));obtain⟨b1,off1,rfl,hb1,hcell1⟩:=r2.rng (zH (i:=j) (by rw[Hm.out];omega));have H1:=(H.pushRng (b:=b0) (off:=off) hb0 yg hcell).pushRng (b:=b1) (off:=off1) hb1 yg hcell1;clear H hcell hcell1 r1 r2;have H:=H1;clear H1;have e1:(((j+1:Nat):Int)-1)=(j:Int):=by omega
    rw[e1];clear e1;have hjm:j<m:=by omega
    by_cases hxy:x=y
    ·subst hxy;have Hd:=hid (zoi Hx.out Hy.out hd.out);revert H;refine W00 ?_;intro H _ _ _ _ _
     (revert H;refine w_p 9 (.st 0 (.st 1 (.st 2 (.st 3 (.st 4 (.st 5 (.st 6 (.st 7 (.st 8 .done))))))))) ?_;intro w1 H)
     iterate 9 refine p_q ?_
     (refine zf ?_)
     all_goals
      revert H;refine W00 ?_;intro H
      go_roundw
      case rel=>exact⟨j,by omega,by go_num,Hd,H.sub yd⟩
      case measure=>(simp[intOf];try omega)
    ·have Hz:=hid (zsP (zaO a) (zaO b) (by rw[Hn.out,Hm.out,Hnm.out]) Hx.out Hy.out hd.out hxy);have hxy1:¬(x:Int)=(y:Int):=by omega
     revert H;refine W00 ?_;intro H _ _ _ _ _
     (revert H;refine w_p 9 (.st 0 (.st 1 (.st 2 (.st 3 (.st 4 (.st 5 (.st 6 (.st 7 (.st 8 .done))))))))) ?_;intro w1 H)
     iterate 9 refine p_q ?_
     (refine zf ?_)
     all_goals
      revert H;refine W00 ?_;intro H _ _
      (revert H;refine w_p 10 (.st 0 (.st 1 (.st 2 (.st 3 (.st 4 (.st 5 (.st 6 (.st 7 (.ld 8 (.st 9 .done)))))))))) ?_;intro w1 H)
      iterate 8 refine p_q ?_
      ((refine zag rfl rfl (fun K hK=>zdq rfl Tryz.func316 yh rfl (zvf _ x y) (fun e w1 hpost=>?_)));obtain⟨rfl,hF⟩:=hpost;refine⟨_,rfl,?_⟩;have H1:=H.step hF yg ;refine hK _ _ (fun hne=>by first|exact absurd rfl hne|exact H1.sub yd) ?_;clear hK K;(clear H;have H:=H1;clear H1);(simp only[nrm,↓reduceIte,Nat.reduceAdd]))
      refine p_q ?_;(refine zf ?_)
      all_goals
       revert H;refine W00 ?_;intro H
       go_ret
       exact⟨by rw[Hz.out,zg,zg];rfl,H.fr⟩
 ·have hnm1:¬(n:Int)=(m:Int):=by omega
  have Hz:=hid (zrq (a:=a) (b:=b) (by rw[Hn.out,Hm.out];exact hnm));rw[Hn.out,Hm.out]at Hz;clear hnm
  go_enter Tryz.func300,Tryz.ntmps300
  revert H;refine W00 ?_;intro H _ _ _ _ _ _ _;(refine x_c H (zvh _ n m) ?_;clear H;rintro e w1 ⟨rfl,hF⟩ H);simp only[Int.not_lt,Int.not_le]at*;revert H;refine W00 ?_;intro H
  go_ret
  exact⟨by rw[←Hz.out];rfl,H.fr⟩
end
section
open Go.RowKit
def Hp.blkObj{T:List Nat}{w0 w:World}{l:List Ent}{g:Nat}{cs:List Value}{e:TypeId}(H:Hp T w0 w (.blk g cs e::l))(k:Nat){Q:World→Prop}(hq:Q w)[m:Fm [g] Q]:Hp T w0 w (.obj k [g] Q::l):=H.recast (.head _) rfl ⟨hq,m.h,fun x hx=>by simp only[List.mem_singleton]at hx;subst hx;exact(H.ok _ (.head _)).2⟩
instance {e:TypeId} {sz:Nat} {v:Value} {n:Nat} {xs:List Value} {S:List Nat}:Fm S (RowAt e sz v n xs S):=⟨RowAt.firm⟩
def LR.trim{w:World}{p:Option Addr}{c:Nat}{l:List Nat}(h:LR w p c l):LR w p c (zd (val l)):=by
 have:=h.pre (zI h.lim)
 rwa [ziv h.lim]at this
def zb3(o:List Nat)(t:Nat):zj o++[.int .u32 (t:Int)]=zj (o++[t]):=by simp[zj]
def zir(n:Nat)(v:Value):(List.replicate n [v]).flatten.length=n:=by simp
def zcl{w:World}{p q:Option Addr}{n m c d:Nat}(a b:List Nat)(hn:a.length=n)(hm:b.length=m)(hn0:n≤1000000)(hm0:m≤1000000)(h:LR w p c a)(k:LR w q d b):
 Calls Tryz.prog 176 #[.slice p n c, .slice q m d] w fun e w'=>∃p' c',e= .returned (.slice p' (zd (val a+val b)).length c')∧Fr [] w w'∧LR w' p' c' (zd (val a+val b)):=by
 subst hn hm;have Hh:=hid h;have Hk:=hid k;clear h k;have H:=Hp.start [] w
 by_cases hmn:b.length≤a.length
 ·go_enter Tryz.func176,Tryz.ntmps176
  revert H;refine W00 ?_;intro _ g w1 hg H _ _;rw[show((a.length:Int)+1).toNat=a.length+1 by omega]at H;have H1:=H.blkObj 0 (Q:=RowAt 160 1 (.slice (some ⟨g,0,none⟩) 0 (a.length+1)) 0 [] [g]) ⟨rfl, .inr ⟨g,a.length+1,(List.replicate (a.length+1) [Value.int .u32 0]).flatten,rfl,rfl,Nat.zero_le _,by unfold maxLen;omega,by rw[List.nil_append,zir,Nat.mul_one],H.at g⟩⟩;clear H hg;have H:=H1;clear H1
  go_loopw [5,6,23] (fun s5 s6 s23 wr=>∃(i:Nat) (o:List Nat) (cy:Nat) (pv:Value) (S:List Nat),i≤a.length∧s23= .int .i64 i∧s6= .int .u64 cy∧s5=pv∧Hid (o.length=i)∧Hid (Lim o)∧cy≤1∧Hid (val o+4294967296^i*cy=val (a.take i)+val (b.take i))∧Hp [] w wr [.obj 0 S (RowAt 160 1 pv i (zj o) S)]) (fun _ _ v _=>a.length-(intOf v).toNat)
  case atStart=>exact⟨0,[],0,_,_,Nat.zero_le _,rfl,rfl,by simp,hid rfl,hid Lim.nil,Nat.zero_le _,hid rfl,H⟩
  case round=>
   clear H;obtain⟨i,o,cy,pv,S,hi,rfl,rfl,hpv,Hol,Hlo,hcy,Hv,H⟩:=hrel;obtain⟨p5,c5,he,_⟩:=(H.rowo 0).form;subst he;subst hpv
   by_cases hin:i<a.length
   ·obtain⟨x,hx⟩:∃x,a[i]? =some x:=⟨_,List.getElem?_eq_getElem hin⟩;have hxv:=limbs_at hx;have hxB:=Hh.out.lim.at hx;have Hx:=hid hx;clear hx;obtain⟨b0,off,rfl,hb0,hcell⟩:=Hh.out.rd.rng (zH (i:=i) hin);have H1:=H.pushRng (b:=b0) (off:=off) hb0 yg hcell;clear H hcell;have H:=H1;clear H1
    by_cases him:i<b.length
    ·obtain⟨y,hy⟩:∃y,b[i]? =some y:=⟨_,List.getElem?_eq_getElem him⟩;have hyv:=limbs_at hy;have hyB:=Hk.out.lim.at hy;have Hy:=hid hy;clear hy;obtain⟨b1,off1,rfl,hb1,hcell1⟩:=Hk.out.rd.rng (zH (i:=i) him);have H1:=H.pushRng (b:=b1) (off:=off1) hb1 yg hcell1;clear H hcell1;have H:=H1;clear H1;revert H;refine W01 ?_;intro g _ hg p1 c1 w1 S' H;have e1:((x:Int)+(cy:Int)+(y:Int))%4294967296=(((x+y+cy)%4294967296:Nat):Int):=by omega
     rw[e1,zb3]at H
     go_roundw
     case rel=>exact⟨i+1,o++[(x+y+cy)%4294967296],(x+y+cy)/4294967296,_,S',by omega,by go_num,by rw[show((x:Int)+(cy:Int)+(y:Int))/4294967296=(((x+y+cy)/4294967296:Nat):Int) by omega],rfl,hid yQ,hid (Hlo.out.app (Lim.cons (Nat.mod_lt _ yf) Lim.nil)),by omega,hid (by rw[zdp Hol.out Hv.out rfl,zw Hx.out,zw Hy.out];omega),H.sub yd⟩
     case measure=>(simp[intOf];try omega)
    ·revert H;refine W02 ?_;intro g _ hg p1 c1 w1 S' H;have e1:((x:Int)+(cy:Int))%4294967296=(((x+0+cy)%4294967296:Nat):Int):=by omega
     rw[e1,zb3]at H
     go_roundw
     case rel=>exact⟨i+1,o++[(x+0+cy)%4294967296],(x+0+cy)/4294967296,_,S',by omega,by go_num,by rw[show((x:Int)+(cy:Int))/4294967296=(((x+0+cy)/4294967296:Nat):Int) by omega],rfl,hid yQ,hid (Hlo.out.app (Lim.cons (Nat.mod_lt _ yf) Lim.nil)),by omega,hid (by rw[zdp Hol.out Hv.out rfl,zw Hx.out,zfg yb];omega),H.sub yd⟩
     case measure=>(simp[intOf];try omega)
   ·have e:i=a.length:=by omega
    have Hi:=hid e
    have HV:Hid (val (o++[cy])=val a+val b):=hid (by
     have:=Hv.out
     rw[e,List.take_of_length_le (Nat.le_refl _),List.take_of_length_le yb]at this
     rw[zbo,Hol.out,e,this])
    have Hl1:Hid (Lim (o++[cy])):=hid (Hlo.out.app (Lim.cons yb Lim.nil));clear e;revert H;refine W03 ?_;intro _ _ _ _ _ g _ hg p1 c1 w1 S' H _ _;rw[zb3]at H;obtain⟨p6,c6,e6,e7,hL⟩:=LR.of_row (H.rowo 0) Hl1.out
    injection e6 with e61 e62 e63
    subst e61 e63;have HL:=hid hL;refine Calls.mono (zt (o++[cy]) e7 HL.out) ?_;rintro e w1 ⟨rfl,hF⟩;have HL2:=hid (hL.fr hF).trim;have H1:=H.step hF yg;clear H hF hL HL e7;have H:=H1;clear H1;revert H;refine W00 ?_;intro H
    go_ret
    rw[HV.out]at HL2;exact⟨_,_,by rw[HV.out];rfl,H.fr,HL2.out⟩
 ·have hmn2:a.length≤b.length:=by omega
  go_enter Tryz.func176,Tryz.ntmps176
  revert H;refine W00 ?_;intro _ g w1 hg H _ _;rw[show((b.length:Int)+1).toNat=b.length+1 by omega]at H;have H1:=H.blkObj 0 (Q:=RowAt 160 1 (.slice (some ⟨g,0,none⟩) 0 (b.length+1)) 0 [] [g]) ⟨rfl, .inr ⟨g,b.length+1,(List.replicate (b.length+1) [Value.int .u32 0]).flatten,rfl,rfl,Nat.zero_le _,by unfold maxLen;omega,by rw[List.nil_append,zir,Nat.mul_one],H.at g⟩⟩;clear H hg;have H:=H1;clear H1
  go_loopw [5,6,23] (fun s5 s6 s23 wr=>∃(i:Nat) (o:List Nat) (cy:Nat) (pv:Value) (S:List Nat),i≤b.length∧s23= .int .i64 i∧s6= .int .u64 cy∧s5=pv∧Hid (o.length=i)∧Hid (Lim o)∧cy≤1∧Hid (val o+4294967296^i*cy=val (b.take i)+val (a.take i))∧Hp [] w wr [.obj 0 S (RowAt 160 1 pv i (zj o) S)]) (fun _ _ v _=>b.length-(intOf v).toNat)
  case atStart=>exact⟨0,[],0,_,_,Nat.zero_le _,rfl,rfl,by simp,hid rfl,hid Lim.nil,Nat.zero_le _,hid rfl,H⟩
  case round=>
   clear H;obtain⟨i,o,cy,pv,S,hi,rfl,rfl,hpv,Hol,Hlo,hcy,Hv,H⟩:=hrel;obtain⟨p5,c5,he,_⟩:=(H.rowo 0).form;subst he;subst hpv
   by_cases hin:i<b.length
   ·obtain⟨x,hx⟩:∃x,b[i]? =some x:=⟨_,List.getElem?_eq_getElem hin⟩;have hxv:=limbs_at hx;have hxB:=Hk.out.lim.at hx;have Hx:=hid hx;clear hx;obtain⟨b0,off,rfl,hb0,hcell⟩:=Hk.out.rd.rng (zH (i:=i) hin);have H1:=H.pushRng (b:=b0) (off:=off) hb0 yg hcell;clear H hcell;have H:=H1;clear H1
    by_cases him:i<a.length
    ·obtain⟨y,hy⟩:∃y,a[i]? =some y:=⟨_,List.getElem?_eq_getElem him⟩;have hyv:=limbs_at hy;have hyB:=Hh.out.lim.at hy;have Hy:=hid hy;clear hy;obtain⟨b1,off1,rfl,hb1,hcell1⟩:=Hh.out.rd.rng (zH (i:=i) him);have H1:=H.pushRng (b:=b1) (off:=off1) hb1 yg hcell1;clear H hcell1;have H:=H1;clear H1;revert H;refine W01 ?_;intro g _ hg p1 c1 w1 S' H;have e1:((x:Int)+(cy:Int)+(y:Int))%4294967296=(((x+y+cy)%4294967296:Nat):Int):=by omega
     rw[e1,zb3]at H
     go_roundw
     case rel=>exact⟨i+1,o++[(x+y+cy)%4294967296],(x+y+cy)/4294967296,_,S',by omega,by go_num,by rw[show((x:Int)+(cy:Int)+(y:Int))/4294967296=(((x+y+cy)/4294967296:Nat):Int) by omega],rfl,hid yQ,hid (Hlo.out.app (Lim.cons (Nat.mod_lt _ yf) Lim.nil)),by omega,hid (by rw[zdp Hol.out Hv.out rfl,zw Hx.out,zw Hy.out];omega),H.sub yd⟩
     case measure=>(simp[intOf];try omega)
    ·revert H;refine W02 ?_;intro g _ hg p1 c1 w1 S' H;have e1:((x:Int)+(cy:Int))%4294967296=(((x+0+cy)%4294967296:Nat):Int):=by omega
     rw[e1,zb3]at H
     go_roundw
     case rel=>exact⟨i+1,o++[(x+0+cy)%4294967296],(x+0+cy)/4294967296,_,S',by omega,by go_num,by rw[show((x:Int)+(cy:Int))/4294967296=(((x+0+cy)/4294967296:Nat):Int) by omega],rfl,hid yQ,hid (Hlo.out.app (Lim.cons (Nat.mod_lt _ yf) Lim.nil)),by omega,hid (by rw[zdp Hol.out Hv.out rfl,zw Hx.out,zfg yb];omega),H.sub yd⟩
     case measure=>(simp[intOf];try omega)
   ·have e:i=b.length:=by omega
    have Hi:=hid e
    have HV:Hid (val (o++[cy])=val a+val b):=hid (by
     have:=Hv.out
     rw[e,List.take_of_length_le (Nat.le_refl _),List.take_of_length_le yb]at this
     rw[zbo,Hol.out,e,this];exact Nat.add_comm _ _)
    have Hl1:Hid (Lim (o++[cy])):=hid (Hlo.out.app (Lim.cons yb Lim.nil));clear e;revert H;refine W03 ?_;intro _ _ _ _ _ g _ hg p1 c1 w1 S' H _ _;rw[zb3]at H;obtain⟨p6,c6,e6,e7,hL⟩:=LR.of_row (H.rowo 0) Hl1.out
    injection e6 with e61 e62 e63
    subst e61 e63;have HL:=hid hL;refine Calls.mono (zt (o++[cy]) e7 HL.out) ?_;rintro e w1 ⟨rfl,hF⟩;have HL2:=hid (hL.fr hF).trim;have H1:=H.step hF yg;clear H hF hL HL e7;have H:=H1;clear H1;revert H;refine W00 ?_;intro H
    go_ret
    rw[HV.out]at HL2;exact⟨_,_,by rw[HV.out];rfl,H.fr,HL2.out⟩
end
section
open Go.RowKit
section
variable {P:Program} {w:World} {a:Act} {o:Oper}
def zvv{t t':TypeId}{x y:Operand}(ho:o.op= .binOp .sub t x y t'){m n:Int}(hx:a.eval x= .int .u64 m)(hy:a.eval y= .int .u64 n):(execOp a.eval o).run P w= .ok (.value (.int .u64 ((m-n)%18446744073709551616))) w:=by
 rw[zlF ho hx hy,IntKind.wrap_u64]
def zvH{t t':TypeId}{x:Operand}(ho:o.op= .binOp .and t x (.const (.int .u64 1)) t'){m:Int}(hx:a.eval x= .int .u64 m)(h0:0≤m:=by omega)(h1:m<18446744073709551616:=by omega):(execOp a.eval o).run P w= .ok (.value (.int .u64 (m%2))) w:=
 za1 ho hx rfl (fun w=>by
  have e:=bits_mask .u64 64 yf (fun n h0 h1=>zX yl) 1 yf m h0 yb
  show(pure (Value.int .u64 (bits .and .u64 m 1)):Sem Value).run P w=_
  have e2:bits .and .u64 m 1=m%2:=e
  rw[e2];rfl)
def zvF{t t':TypeId}{x:Operand}{kk:IntKind}(ho:o.op= .binOp .shr t x (.const (.int kk 63)) t'){m:Int}(hx:a.eval x= .int .u64 m):(execOp a.eval o).run P w= .ok (.value (.int .u64 (m/9223372036854775808))) w:=by
 have e1:(eqGuard .shr t x (.const (.int kk 63)) (.int .u64 m) (.int kk 63)).run P w= .ok () w:=by unfold eqGuard;simp
 have hn:a.eval (.const (.int kk 63))= .int kk 63:=rfl;unfold execOp;simp only[ho,hx,hn,Sem.run_bind,e1,Result.andThen_ok,binOp];rw[shift_shr_any _ _ _ _ yf]
 rfl
end
def za3(n:Nat):(List.replicate n [Value.int .u32 0]).flatten=zj (List.replicate n 0):=by
 induction n with
 | zero=>rfl
 | succ n ih=>rw[List.replicate_succ,List.flatten_cons,ih,List.replicate_succ];rfl
def zgr{Z:Int}{x y bo:Nat}(hZ:Z%18446744073709551616=((x:Int)-(bo:Int)-(y:Int))%18446744073709551616)(hx:x<4294967296)(hy:y<4294967296)(hb:bo≤1):∃d b':Nat,IntKind.u64.wrap Z%4294967296=(d:Int)∧IntKind.u64.wrap Z/4294967296%2=(b':Int)∧IntKind.u64.wrap Z/9223372036854775808=(b':Int)∧b'≤1∧d<4294967296∧x+4294967296*b'=d+y+bo:=by
 rw[IntKind.wrap_u64]
 by_cases h:bo+y≤x
 ·exact⟨x-(bo+y),0,by omega,by omega,by omega,by omega,by omega,by omega⟩
 ·exact⟨x+4294967296-(bo+y),1,by omega,by omega,by omega,by omega,by omega,by omega⟩
def zc4{w:World}{p q:Option Addr}{n m c d:Nat}(a b:List Nat)(hn:a.length=n)(hm:b.length=m)(hmn:m≤n)(hn0:n≤1000000)(hle:val b≤val a)(h:LR w p c a)(k:LR w q d b):
 Calls Tryz.prog 301 #[.slice p n c, .slice q m d] w fun e w'=>∃p' c',e= .returned (.slice p' (zd (val a-val b)).length c')∧Fr [] w w'∧LR w' p' c' (zd (val a-val b)):=by
 subst hn hm;have Hh:=hid h;have Hk:=hid k;have Hle:=hid hle;clear h k hle;have H:=Hp.start [] w
 go_enter Tryz.func301,Tryz.ntmps301
 revert H;refine W00 ?_;intro _ g w1 hg H _ _;rw[Int.toNat_natCast,za3]at H
 go_loopw [6,15] (fun s6 s15 wr=>∃(i:Nat) (o:List Nat) (bo:Nat),i≤a.length∧s15= .int .i64 i∧s6= .int .u64 bo∧Hid (o.length=a.length)∧Hid (Lim o)∧bo≤1∧Hid (val (o.take i)+val (b.take i)=val (a.take i)+4294967296^i*bo)∧Hp [] w wr [.blk g (zj o) 160]) (fun _ v _=>a.length-(intOf v).toNat)
 case atStart=>exact⟨0,List.replicate a.length 0,0,Nat.zero_le _,rfl,rfl,hid List.length_replicate,hid (Lim.zeros _),Nat.zero_le _,hid rfl,H⟩
 case round=>
  clear H;obtain⟨i,o,bo,hi,rfl,rfl,Hol,Hlo,hbo,Hv,H⟩:=hrel
  by_cases hin:i<a.length
  ·obtain⟨x,hx⟩:∃x,a[i]? =some x:=⟨_,List.getElem?_eq_getElem hin⟩;have hxv:=limbs_at hx;have hxB:=Hh.out.lim.at hx;have Hx:=hid hx;clear hx;have hio:i<o.length:=by rw[Hol.out];exact hin
   obtain⟨b0,off,rfl,hb0,hcell⟩:=Hh.out.rd.rng (zH (i:=i) hin);have H1:=H.pushRng (b:=b0) (off:=off) hb0 yg hcell;clear H hcell;have H:=H1;clear H1
   by_cases him:i<b.length
   ·obtain⟨y,hy⟩:∃y,b[i]? =some y:=⟨_,List.getElem?_eq_getElem him⟩;have hyv:=limbs_at hy;have hyB:=Hk.out.lim.at hy;have Hy:=hid hy;clear hy;obtain⟨b1,off1,rfl,hb1,hcell1⟩:=Hk.out.rd.rng (zH (i:=i) him);have H1:=H.pushRng (b:=b1) (off:=off1) hb1 yg hcell1;clear H hcell1;have H:=H1;clear H1;obtain⟨dd,b',f1,f2,_,f4,f5,f6⟩:=zgr (Z:=IntKind.u64.wrap ((x:Int)-(bo:Int))-(y:Int)) (x:=x) (y:=y) (bo:=bo) (by rw[IntKind.wrap_u64];omega) hxB hyB hbo;have F1:=hid f1;have F2:=hid f2;have F6:=hid f6;clear f1 f2 f6;revert H;refine W04 ?_;intro w1 H;rw[F1.out,z7]at H
    go_roundw
    case rel=>exact⟨i+1,o.set i dd,b',by omega,by go_num,by rw[F2.out],hid yB,hid (Hlo.out.set i f5),f4,hid (by rw[ze1 _ _ _ hio,zbo,List.length_take,Nat.min_eq_left yb,zw Hx.out,zw Hy.out];exact zfX Hv.out F6.out),H.sub yd⟩
    case measure=>(simp[intOf];try omega)
   ·obtain⟨dd,b',f1,f2,_,f4,f5,f6⟩:=zgr (Z:=(x:Int)-(bo:Int)) (x:=x) (y:=0) (bo:=bo) yb hxB yf hbo;have F1:=hid f1;have F2:=hid f2;have F6:=hid f6;clear f1 f2 f6;revert H;refine W04 ?_;intro w1 H;rw[F1.out,z7]at H
    go_roundw
    case rel=>exact⟨i+1,o.set i dd,b',by omega,by go_num,by rw[F2.out],hid yB,hid (Hlo.out.set i f5),f4,hid (by
     rw[ze1 _ _ _ hio,zbo,List.length_take,Nat.min_eq_left yb,zw Hx.out,zfg yb]
     have:=zfX Hv.out F6.out
     simpa using this),H.sub yd⟩
    case measure=>(simp[intOf];try omega)
  ·have e:i=a.length:=by omega
   have hV:val o=val a-val b:=by
    have h1:=Hv.out;rw[e,List.take_of_length_le yJ,List.take_of_length_le (Nat.le_refl _),List.take_of_length_le hmn]at h1;have h2:=zaA Hlo.out;rw[Hol.out]at h2;exact(zpl h2 Hle.out h1).2
   have HV:=hid hV;clear e hV;revert H;refine W00 ?_;intro H _ _ _ _ _ _ _;have hL:LR _ (some ⟨g,0,none⟩) a.length o:=LR.of_blk (pad:=[]) yE Hlo.out yJ yk;have HL:=hid hL;refine Calls.mono (zt o Hol.out HL.out) ?_;rintro e w1 ⟨rfl,hF⟩;have HL2:=hid (hL.fr hF).trim;have H1:=H.step hF yg;clear H hF hL HL;have H:=H1;clear H1;revert H;refine W00 ?_;intro H
   go_ret
   rw[HV.out]at HL2;exact⟨_,_,by rw[HV.out];rfl,H.fr,HL2.out⟩
end
section
open Go.RowKit
def LR.empty{w w':World}{p:Option Addr}{c:Nat}(h:LR w p c []):LR w' p c []:=⟨h.nil,h.cap,h.max,h.lim, .inl ⟨rfl,rfl,p,c,rfl⟩⟩
def LR.keep{w w':World}{p:Option Addr}{c:Nat}{l:List Nat}(h:LR w p c l){g:Nat}{cs:List Value}{t:TypeId}(hg:w.heap[g]? =some (.cells cs.toArray t (0,0)))(hc:∀u∈cs,∀x,u≠ .int .u32 x)(k:Fr [g] w w'):LR w' p c l:=by
 cases l with
 | nil=>exact h.empty
 | cons x l=>
  obtain⟨b,off,rfl,hb,hcell⟩:=h.rd.rng (by simp[zj])
  have hbg:b≠g:=fun e=>by
   subst e;have h0:=hcell 0 (.int .u32 (x:Int)) (by simp[zj]);rw[cell_of_row w b _ _ _ _ hg]at h0;have h1:cs[off+0]? =some (.int .u32 (x:Int)):=by simpa using h0
   exact hc _ (List.mem_of_getElem? h1) _ rfl
  refine⟨h.nil,h.cap,h.max,h.lim,h.rd.fr k (fun b' hb'=>?_)⟩
  have e:b'=b:=by
   simp[Value.ownBlock]at hb'
   omega
  subst e
  simpa using hbg
section
variable {P:Program} {Q:Exit→Act→World→Prop} {a:Act} {w w0:World} {o:Oper} {K:Act→World→Prop} {T:List Nat} {l:List Ent}
def zmO(H:Hp T w0 w l){t:TypeId}{x y:Operand}(ho:o.op= .store t x y){b:Nat}{u v:Value}(hx:a.eval x= .pointer (some ⟨b,0,none⟩))(hy:a.eval y= .agg #[u,v])[hs:Ro P t 2]{r s:Value}{t':TypeId}{f:Nat→List Value→List Ent}[hm:In b [r,s] t' l f](h1:u.oneCell'=true:=by rfl)(h2:v.oneCell'=true:=by rfl)(h3:∀x,r≠ .int .u32 x:=by intro x h;cases h)(h4:∀x,s≠ .int .u32 x:=by intro x h;cases h)
 (h:∀w',Fr [b] w w'→Hp T w0 w' (f b [u,v])→(∀p c l,LR w p c l→LR w' p c l)→K (a.put o.dst undef) w'):o.wp P a w K Q:=
 zdS H ho hx (vs:=[u,v]) hy rfl (by intro z hz;simp only[List.mem_cons,List.not_mem_nil,or_false]at hz;rcases hz with rfl|rfl<;>assumption) yg (fun w' hf H1=>h w' hf H1 (fun p c l hL=>hL.keep (H.at b) (by intro z hz x;simp only[List.mem_cons,List.not_mem_nil,or_false]at hz;rcases hz with rfl|rfl;exact h3 x;exact h4 x) hf))
def zvX{P:Program}{ops:Array Oper}{Q:Exit→Act→World→Prop}{w w0:World}{rest:List Oper}{o:Oper}{T:List Nat}{l:List Ent}{L:List Value}{ds:List Deferred}{b:Nat}{l':List Ent}{L':List Value}
 (h:∀w',Fr [b] w w'→Hp T w0 w' l'→(∀p c l,LR w p c l→LR w' p c l)→wpList P ops Q rest ⟨L'.toArray,ds⟩ w')
 (hw:Region.wanted o (yielded ops L.toArray)=true:=by rfl)
 (he:Hp T w0 w l→∀K:Act→World→Prop,(∀w',Fr [b] w w'→Hp T w0 w' l'→(∀p c l,LR w p c l→LR w' p c l)→K (Act.put ⟨L.toArray,ds⟩ o.dst undef) w')→o.wp P ⟨L.toArray,ds⟩ w K Q:=by intro H K hK;exact zmO H rfl rfl rfl (h:=hK))
 (hs:zad L o.dst undef=L':=by((try simp only[nrm,zP,zQ,↓reduceIte,Nat.reduceAdd]);(try exact rfl))) (H:Hp T w0 w l):wpList P ops Q (o::rest) ⟨L.toArray,ds⟩ w:=
 zaB hw fun K hK=>he H K fun w' h2 h3 h4=>hK _ _ yO
def zcQ{P:Program}{lo:List Oper}{S:World→Prop}{f i:Nat}{k:Plan}{Q:Exit→Act→World→Prop}{w w0:World}{o:Oper}{T:List Nat}{l:List Ent}{L:List Value}{ds:List Deferred}{b:Nat}{l':List Ent}{L':List Value}
 (h:∀w',Fr [b] w w'→Hp T w0 w' l'→(∀p c l,LR w p c l→LR w' p c l)→k.wp P lo.toArray Q S f ⟨L'.toArray,ds⟩ w') (hi:lo[i]? =some o:=by rfl)
 (hw:Region.wanted o (yielded lo.toArray L.toArray)=true:=by rfl)
 (he:Hp T w0 w l→∀K:Act→World→Prop,(∀w',Fr [b] w w'→Hp T w0 w' l'→(∀p c l,LR w p c l→LR w' p c l)→K (Act.put ⟨L.toArray,ds⟩ o.dst undef) w')→o.wp P ⟨L.toArray,ds⟩ w K Q:=by intro H K hK;exact zmO H rfl rfl rfl (h:=hK))
 (hs:zad L o.dst undef=L':=by((try simp only[nrm,zP,zQ,↓reduceIte,Nat.reduceAdd]);(try exact rfl)))
 (hS:i≠f→∀w',Hp T w0 w' l'→S w':=by intro hne w' H1;first|exact absurd rfl hne|exact trivial|exact H1.sub yd)
 (H:Hp T w0 w l):Plan.wp P lo.toArray Q S f (.ld i k) ⟨L.toArray,ds⟩ w:=
 zag hi hw fun K hK=>he H K fun w' h2 h3 h4=>hK _ _ (fun hne=>hS hne w' h3) yO
end
def zmP(neg:Bool)(l:List Nat):zv neg l<0↔neg=true∧val l≠0:=by
 unfold zv;cases neg<;>simp<;>omega
def LR.zero(w:World):LR w none 0 []:=⟨fun _=>rfl,Nat.zero_le _,by unfold maxLen;omega,Lim.nil, .inl ⟨rfl,rfl,_,_,rfl⟩⟩
def zM{w:World}{p:Option Addr}{n c:Nat}(neg:Bool)(l:List Nat)(hl:l.length=n)(h:LR w p c l):
 Calls Tryz.prog 178 #[.bool neg, .slice p n c] w fun e w'=>Big e w w' (zv neg l):=by
 have Hh:=hid h;obtain⟨hlc,hc⟩:=h.clen;have H:=Hp.start [] w;have Hl:=hid hl;clear h hl
 go_enter Tryz.func178,Tryz.ntmps178
 revert H;refine W00 ?_;intro _ g w1 hg H _ _ _ _;refine Calls.mono (zt l Hl.out (Hh.out.fr H.fr)) ?_;rintro e w1 ⟨rfl,hF⟩;have H1:=H.step hF yg;clear H hF;have H:=H1;clear H1;have hml:(zd (val l)).length≤l.length:=zI Hh.out.lim
 by_cases h0:val l=0
 ·have e0:(zd (val l)).length=0:=by rw[h0,zn];rfl
  have Hz:Hid (zv neg l=0):=hid (by unfold zv;rw[h0];split<;>rfl);rw[e0];clear e0 h0 hml;revert H;refine W05 ?_;intro _ _ w1 H hk2;refine zk H rfl rfl rfl ?_;refine⟨none,0,?_,H.fr,?_⟩
  ·rw[Hz.out,show(0:Int).natAbs=0 from rfl,zn];rfl
  ·rw[Hz.out,show(0:Int).natAbs=0 from rfl,zn];exact LR.zero _
 ·have Hn0:=hid h0
  have hp:0<(zd (val l)).length:=by
   rcases Nat.eq_zero_or_pos (zd (val l)).length with e|e
   ·exact absurd (zvi.1 (List.eq_nil_of_length_eq_zero e)) h0
   ·exact e
  obtain⟨m,hm⟩:∃m,(zd (val l)).length=m:=⟨_,rfl⟩;have Hm:=hid hm;rw[hm]at hp hml ⊢;clear hm h0;revert H;refine W05 ?_;intro w1 H hk2;refine zk H rfl rfl rfl ?_;refine⟨p,c,?_,H.fr,?_⟩
  ·rw[zdG,Hm.out]
   have:decide (zv neg l<0)=neg:=by
    rw[Bool.eq_iff_iff,decide_eq_true_eq,zmP];exact⟨fun h=>h.1,fun h=>⟨h,Hn0.out⟩⟩
   rw[this]
  ·rw[zdG];exact Hh.out.trim.fr H.fr
end
end Go.Proofs.YtaijhllckmndhaaGreatDoor
