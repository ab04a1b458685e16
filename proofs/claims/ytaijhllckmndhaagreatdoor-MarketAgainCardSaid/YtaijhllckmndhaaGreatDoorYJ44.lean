import Derived.Test.YtaijhllckmndhaaGreatDoorYJ0
import Derived.Test.YtaijhllckmndhaaGreatDoorYJ43
import Derived.Test.YtaijhllckmndhaaGreatDoorYJ28
import Derived.Test.YtaijhllckmndhaaGreatDoorYJ32
import Derived.Test.YtaijhllckmndhaaGreatDoorYJ33
namespace Go.Proofs.YtaijhllckmndhaaGreatDoor
set_option linter.all false
set_option maxHeartbeats 64000000
set_option maxRecDepth 100000
section
open Go.RowKit
attribute [local irreducible] wpList Code.wp Plan.wp
def coE(h:Hd)(m n:Nat)(ws:List (List UInt8)):Option En:=
 match zdo h m n ws with
 | none=>none
 | some p=>if h.field=2 then some (p.1,p.2,4607182418800017408)else(zai h.field (ws.getD 2 [])).map fun f=>(p.1,p.2,f)
def zuG(o:Option En)(e:Ending):Prop:=∃(x:En) (b:Bool),e= .returned (.tuple #[.agg (eC x).toArray, .bool b])∧b=o.isSome∧(∀y,o=some y→y=x)∧x.2.2<18446744073709551616
def zfS{x:List UInt8}{a:Nat}{ok:Bool}(h:zbb x=(a,ok)):a≤1073741824:=by
 unfold zbb at h
 split at h
 ·cases h;omega
 ·cases h;omega
def zps{h:Hd}{m n:Nat}{ws:List (List UInt8)}{a0 a1:Nat}{ok0 ok1:Bool}(hl:ws.length=if h.field=2 then 2 else 3)(h0:zbb (ws.getD 0 [])=(a0,ok0))(h1:zbb (ws.getD 1 [])=(a1,ok1))(hm:m≤200)(hn:n≤200):
 zdo h m n ws=if ok0=true∧ok1=true∧1≤a0∧a0≤m∧1≤a1∧a1≤n∧may h.sym a0 a1=true then some (a0-1,a1-1)else none:=by
 have e0:zT (ws.getD 0 [])=ok0:=by rw[←zes,h0]
 have e1:zT (ws.getD 1 [])=ok1:=by rw[←zes,h1]
 unfold zdo;simp only[];rw[e0,e1]
 cases ok0
 ·rw[if_neg (fun k=>by cases k.2.1),if_neg (fun k=>by cases k.1)]
 ·cases ok1
  ·rw[if_neg (fun k=>by cases k.2.2.1),if_neg (fun k=>by cases k.2.1)]
  ·have f0:=zcJ e0;have f1:=zcJ e1;rw[h0]at f0;rw[h1]at f1;simp only at f0 f1
   by_cases g:a0≤m∧a1≤n
   ·have g0:num (ws.getD 0 [])=a0:=by omega
    have g1:num (ws.getD 1 [])=a1:=by omega
    rw[g0,g1];simp only[hl,true_and]
   ·rw[if_neg (fun k=>g ⟨by omega,by omega⟩),if_neg (fun k=>g ⟨k.2.2.2.1,k.2.2.2.2.2.1⟩)]
def zpC(w:World)(h:Hd)(hs2:h.sym≤2)(hf2:h.field≤2)(m n:Nat)(hm:m≤200)(hn:n≤200){q c:Nat}{ws:List (List UInt8)}(hq:w.heap[q]? =some (.cells (ws.map ze).toArray 9 (0,0)))(hwn:ws.length≤2000001)(hwz:∀x∈ws,x.length≤2000000)(hT:La w){o:Option En}(ho:Hid (coE h m n ws=o)):
 Calls Tryz.prog 73 #[.slice (some ⟨q,0,none⟩) ws.length c,zbO h, .int .i64 (m:Int), .int .i64 (n:Int)] w fun e w'=>Fr [] w w'∧zuG o e:=by
 have HT:=hid hT;have HWZ:=hid hwz
 have H:=(Hp.start [] w).pushRng (b:=q) (off:=0) (cs:=ws.map ze) (zbg hq) yg (by
  intro j u hj;simp only[World.cell?,hq]
  simpa using hj)
 clear hq hT hwz;obtain⟨arr,field,sym⟩:=h;simp only at hs2 hf2;unfold zbO
 by_cases h2:field=2
 ·subst h2
  by_cases hl:ws.length=2
  ·obtain⟨x,y,rfl⟩:=znA hl;obtain⟨a0,ok0,h0⟩:∃a ok,zbb x=(a,ok):=⟨_,_,rfl⟩;obtain⟨a1,ok1,h1⟩:∃a ok,zbb y=(a,ok):=⟨_,_,rfl⟩;have HX:=hid h0;have HY:=hid h1;have HP:=hid (zps (h:=⟨arr,2,sym⟩) (ws:=[x,y]) rfl h0 h1 hm hn);have hxl:=HWZ.out x yg;have hyl:=HWZ.out y yg;have ha0:a0≤1073741824:=zfS h0;have ha1:a1≤1073741824:=zfS h1;clear h0 h1 hl hwn
   go_enter Tryz.func73,Tryz.ntmps73
   go_wp2_with(first|refine x_q H ?_|refine x_l H ?_|refine x_e (zG rfl rfl) ?_|refine zm ?_ ?_<;>intro h|(revert H;(first|(refine x_g ?_;intro g1 w1 hg hf H)|(refine x_s ?_;intro w1 hf H)|(refine zau ?_;intro w1 hf H hk;clear hf hk));(first|replace hf:=hf.kp|clear hf)))
   (refine xA H (zbn _ x yb HX) ?_;clear H;intro w1 H)
   go_wp2_with(first|refine x_q H ?_|refine x_l H ?_|refine x_e (zG rfl rfl) ?_|refine zm ?_ ?_<;>intro h|(revert H;(first|(refine x_g ?_;intro g1 w1 hg hf H)|(refine x_s ?_;intro w1 hf H)|(refine zau ?_;intro w1 hf H hk;clear hf hk));(first|replace hf:=hf.kp|clear hf)))
   (refine xA H (zbn _ y yb HY) ?_;clear H;intro w1 H)
   cases ok0
   ·(have HO:Hid (o=none):=hid (by rw[←ho.out];unfold coE;rw[HP.out,if_neg (fun k=>by cases k.1)]);clear ho HP)
    go_wp2_with(first|refine x_q H ?_|refine x_l H ?_|refine x_e (zG rfl rfl) ?_|refine zm ?_ ?_<;>intro h|(revert H;(first|(refine x_g ?_;intro g1 w1 hg hf H)|(refine x_s ?_;intro w1 hf H)|(refine zau ?_;intro w1 hf H hk;clear hf hk));(first|replace hf:=hf.kp|clear hf)))
    (refine zi H rfl rfl rfl rfl ?_;exact⟨H.fr,(0,0,0),false,rfl,yz,fun y h=> yw,by decide⟩)
   cases ok1
   ·(have HO:Hid (o=none):=hid (by rw[←ho.out];unfold coE;rw[HP.out,if_neg (fun k=>by cases k.2.1)]);clear ho HP)
    go_wp2_with(first|refine x_q H ?_|refine x_l H ?_|refine x_e (zG rfl rfl) ?_|refine zm ?_ ?_<;>intro h|(revert H;(first|(refine x_g ?_;intro g1 w1 hg hf H)|(refine x_s ?_;intro w1 hf H)|(refine zau ?_;intro w1 hf H hk;clear hf hk));(first|replace hf:=hf.kp|clear hf)))
    (refine zi H rfl rfl rfl rfl ?_;exact⟨H.fr,(0,0,0),false,rfl,yz,fun y h=> yw,by decide⟩)
   by_cases b0:1≤a0
   case neg=>
    (have HO:Hid (o=none):=hid (by rw[←ho.out];unfold coE;rw[HP.out,if_neg (fun k=>b0 k.2.2.1)]);clear ho HP)
    go_wp2_with(first|refine x_q H ?_|refine x_l H ?_|refine x_e (zG rfl rfl) ?_|refine zm ?_ ?_<;>intro h|(revert H;(first|(refine x_g ?_;intro g1 w1 hg hf H)|(refine x_s ?_;intro w1 hf H)|(refine zau ?_;intro w1 hf H hk;clear hf hk));(first|replace hf:=hf.kp|clear hf)))
    (refine zi H rfl rfl rfl rfl ?_;exact⟨H.fr,(0,0,0),false,rfl,yz,fun y h=> yw,by decide⟩)
   by_cases b1:a0≤m
   case neg=>
    (have HO:Hid (o=none):=hid (by rw[←ho.out];unfold coE;rw[HP.out,if_neg (fun k=>b1 k.2.2.2.1)]);clear ho HP)
    go_wp2_with(first|refine x_q H ?_|refine x_l H ?_|refine x_e (zG rfl rfl) ?_|refine zm ?_ ?_<;>intro h|(revert H;(first|(refine x_g ?_;intro g1 w1 hg hf H)|(refine x_s ?_;intro w1 hf H)|(refine zau ?_;intro w1 hf H hk;clear hf hk));(first|replace hf:=hf.kp|clear hf)))
    (refine zi H rfl rfl rfl rfl ?_;exact⟨H.fr,(0,0,0),false,rfl,yz,fun y h=> yw,by decide⟩)
   by_cases b2:1≤a1
   case neg=>
    (have HO:Hid (o=none):=hid (by rw[←ho.out];unfold coE;rw[HP.out,if_neg (fun k=>b2 k.2.2.2.2.1)]);clear ho HP)
    go_wp2_with(first|refine x_q H ?_|refine x_l H ?_|refine x_e (zG rfl rfl) ?_|refine zm ?_ ?_<;>intro h|(revert H;(first|(refine x_g ?_;intro g1 w1 hg hf H)|(refine x_s ?_;intro w1 hf H)|(refine zau ?_;intro w1 hf H hk;clear hf hk));(first|replace hf:=hf.kp|clear hf)))
    (refine zi H rfl rfl rfl rfl ?_;exact⟨H.fr,(0,0,0),false,rfl,yz,fun y h=> yw,by decide⟩)
   by_cases b3:a1≤n
   case neg=>
    (have HO:Hid (o=none):=hid (by rw[←ho.out];unfold coE;rw[HP.out,if_neg (fun k=>b3 k.2.2.2.2.2.1)]);clear ho HP)
    go_wp2_with(first|refine x_q H ?_|refine x_l H ?_|refine x_e (zG rfl rfl) ?_|refine zm ?_ ?_<;>intro h|(revert H;(first|(refine x_g ?_;intro g1 w1 hg hf H)|(refine x_s ?_;intro w1 hf H)|(refine zau ?_;intro w1 hf H hk;clear hf hk));(first|replace hf:=hf.kp|clear hf)))
    (refine zi H rfl rfl rfl rfl ?_;exact⟨H.fr,(0,0,0),false,rfl,yz,fun y h=> yw,by decide⟩)
   obtain⟨mb,hmb⟩:∃b,may sym a0 a1=b:=⟨_,rfl⟩;have HB:=hid hmb
   cases mb
   ·(have HO:Hid (o=none):=hid (by rw[←ho.out];unfold coE;rw[HP.out,if_neg (fun k=>by rw[hmb]at k;cases k.2.2.2.2.2.2)]);clear ho HP)
    clear hmb
    go_wp2_with(first|refine x_q H ?_|refine x_l H ?_|refine x_e (zG rfl rfl) ?_|refine zm ?_ ?_<;>intro h|(revert H;(first|(refine x_g ?_;intro g1 w1 hg hf H)|(refine x_s ?_;intro w1 hf H)|(refine zau ?_;intro w1 hf H hk;clear hf hk));(first|replace hf:=hf.kp|clear hf)))
    (refine xA H (zbW _ sym a0 a1 hs2 HB) ?_;clear H;intro w1 H)
    go_wp2_with(first|refine x_q H ?_|refine x_l H ?_|refine x_e (zG rfl rfl) ?_|refine zm ?_ ?_<;>intro h|(revert H;(first|(refine x_g ?_;intro g1 w1 hg hf H)|(refine x_s ?_;intro w1 hf H)|(refine zau ?_;intro w1 hf H hk;clear hf hk));(first|replace hf:=hf.kp|clear hf)))
    (refine zi H rfl rfl rfl rfl ?_;exact⟨H.fr,(0,0,0),false,rfl,yz,fun y h=> yw,by decide⟩)
   clear hmb
   ·have HO:Hid (o=some (a0-1,a1-1,4607182418800017408)):=hid (by rw[←ho.out];unfold coE;rw[HP.out,if_pos ⟨rfl,rfl,b0,b1,b2,b3,HB.out⟩];rfl);clear ho HP
    go_wp2_with(first|refine x_q H ?_|refine x_l H ?_|refine x_e (zG rfl rfl) ?_|refine zm ?_ ?_<;>intro h|(revert H;(first|(refine x_g ?_;intro g1 w1 hg hf H)|(refine x_s ?_;intro w1 hf H)|(refine zau ?_;intro w1 hf H hk;clear hf hk));(first|replace hf:=hf.kp|clear hf)))
    (refine xA H (zbW _ sym a0 a1 hs2 HB) ?_;clear H;intro w1 H)
    go_wp2_with(first|refine x_q H ?_|refine x_l H ?_|refine x_e (zG rfl rfl) ?_|refine zm ?_ ?_<;>intro h|(revert H;(first|(refine x_g ?_;intro g1 w1 hg hf H)|(refine x_s ?_;intro w1 hf H)|(refine zau ?_;intro w1 hf H hk;clear hf hk));(first|replace hf:=hf.kp|clear hf)))
    refine zi H rfl rfl rfl rfl ?_;refine⟨H.fr,(a0-1,a1-1,4607182418800017408),true,?_,yz,fun y h=>(by rw[HO.out]at h;cases h;rfl),(by show 4607182418800017408<18446744073709551616;decide)⟩;have e0:((a0-1:Nat):Int)=(a0:Int)-1:=by omega
    have e1:((a1-1:Nat):Int)=(a1:Int)-1:=by omega
    unfold eC;rw[e0,e1]
    rfl
  ·have HO:Hid (o=none):=hid (by rw[←ho.out];unfold coE zdo;simp only[if_true];rw[if_neg (fun k=>hl k.1)]);have hl':¬(ws.length:Int)=2:=by omega
   clear hl ho
   go_enter Tryz.func73,Tryz.ntmps73
   go_wp2_with(first|refine x_q H ?_|refine x_l H ?_|refine x_e (zG rfl rfl) ?_|refine zm ?_ ?_<;>intro h|(revert H;(first|(refine x_g ?_;intro g1 w1 hg hf H)|(refine x_s ?_;intro w1 hf H)|(refine zau ?_;intro w1 hf H hk;clear hf hk));(first|replace hf:=hf.kp|clear hf)))
   (refine zi H rfl rfl rfl rfl ?_;exact⟨H.fr,(0,0,0),false,rfl,yz,fun y h=> yw,by decide⟩)
 ·have h2':¬(field:Int)=2:=by omega
  by_cases hl:ws.length=3
  ·obtain⟨x,y,z,rfl⟩:=zkz hl;obtain⟨a0,ok0,h0⟩:∃a ok,zbb x=(a,ok):=⟨_,_,rfl⟩;obtain⟨a1,ok1,h1⟩:∃a ok,zbb y=(a,ok):=⟨_,_,rfl⟩;have HX:=hid h0;have HY:=hid h1;have HP:=hid (zps (h:=⟨arr,field,sym⟩) (ws:=[x,y,z]) (by show 3=if field=2 then 2 else 3;rw[if_neg h2]) h0 h1 hm hn);have hxl:=HWZ.out x yg;have hyl:=HWZ.out y yg;have hzl:=HWZ.out z yg;have ha0:a0≤1073741824:=zfS h0;have ha1:a1≤1073741824:=zfS h1;clear h0 h1 hl hwn
   go_enter Tryz.func73,Tryz.ntmps73
   go_wp2_with(first|refine x_q H ?_|refine x_l H ?_|refine x_e (zG rfl rfl) ?_|refine zm ?_ ?_<;>intro h|(revert H;(first|(refine x_g ?_;intro g1 w1 hg hf H)|(refine x_s ?_;intro w1 hf H)|(refine zau ?_;intro w1 hf H hk;clear hf hk));(first|replace hf:=hf.kp|clear hf)))
   (refine xA H (zbn _ x yb HX) ?_;clear H;intro w1 H)
   go_wp2_with(first|refine x_q H ?_|refine x_l H ?_|refine x_e (zG rfl rfl) ?_|refine zm ?_ ?_<;>intro h|(revert H;(first|(refine x_g ?_;intro g1 w1 hg hf H)|(refine x_s ?_;intro w1 hf H)|(refine zau ?_;intro w1 hf H hk;clear hf hk));(first|replace hf:=hf.kp|clear hf)))
   (refine xA H (zbn _ y yb HY) ?_;clear H;intro w1 H)
   cases ok0
   ·(have HO:Hid (o=none):=hid (by rw[←ho.out];unfold coE;rw[HP.out,if_neg (fun k=>by cases k.1)]);clear ho HP)
    go_wp2_with(first|refine x_q H ?_|refine x_l H ?_|refine x_e (zG rfl rfl) ?_|refine zm ?_ ?_<;>intro h|(revert H;(first|(refine x_g ?_;intro g1 w1 hg hf H)|(refine x_s ?_;intro w1 hf H)|(refine zau ?_;intro w1 hf H hk;clear hf hk));(first|replace hf:=hf.kp|clear hf)))
    (refine zi H rfl rfl rfl rfl ?_;exact⟨H.fr,(0,0,0),false,rfl,yz,fun y h=> yw,by decide⟩)
   cases ok1
   ·(have HO:Hid (o=none):=hid (by rw[←ho.out];unfold coE;rw[HP.out,if_neg (fun k=>by cases k.2.1)]);clear ho HP)
    go_wp2_with(first|refine x_q H ?_|refine x_l H ?_|refine x_e (zG rfl rfl) ?_|refine zm ?_ ?_<;>intro h|(revert H;(first|(refine x_g ?_;intro g1 w1 hg hf H)|(refine x_s ?_;intro w1 hf H)|(refine zau ?_;intro w1 hf H hk;clear hf hk));(first|replace hf:=hf.kp|clear hf)))
    (refine zi H rfl rfl rfl rfl ?_;exact⟨H.fr,(0,0,0),false,rfl,yz,fun y h=> yw,by decide⟩)
   by_cases b0:1≤a0
   case neg=>
    (have HO:Hid (o=none):=hid (by rw[←ho.out];unfold coE;rw[HP.out,if_neg (fun k=>b0 k.2.2.1)]);clear ho HP)
    go_wp2_with(first|refine x_q H ?_|refine x_l H ?_|refine x_e (zG rfl rfl) ?_|refine zm ?_ ?_<;>intro h|(revert H;(first|(refine x_g ?_;intro g1 w1 hg hf H)|(refine x_s ?_;intro w1 hf H)|(refine zau ?_;intro w1 hf H hk;clear hf hk));(first|replace hf:=hf.kp|clear hf)))
    (refine zi H rfl rfl rfl rfl ?_;exact⟨H.fr,(0,0,0),false,rfl,yz,fun y h=> yw,by decide⟩)
   by_cases b1:a0≤m
   case neg=>
    (have HO:Hid (o=none):=hid (by rw[←ho.out];unfold coE;rw[HP.out,if_neg (fun k=>b1 k.2.2.2.1)]);clear ho HP)
    go_wp2_with(first|refine x_q H ?_|refine x_l H ?_|refine x_e (zG rfl rfl) ?_|refine zm ?_ ?_<;>intro h|(revert H;(first|(refine x_g ?_;intro g1 w1 hg hf H)|(refine x_s ?_;intro w1 hf H)|(refine zau ?_;intro w1 hf H hk;clear hf hk));(first|replace hf:=hf.kp|clear hf)))
    (refine zi H rfl rfl rfl rfl ?_;exact⟨H.fr,(0,0,0),false,rfl,yz,fun y h=> yw,by decide⟩)
   by_cases b2:1≤a1
   case neg=>
    (have HO:Hid (o=none):=hid (by rw[←ho.out];unfold coE;rw[HP.out,if_neg (fun k=>b2 k.2.2.2.2.1)]);clear ho HP)
    go_wp2_with(first|refine x_q H ?_|refine x_l H ?_|refine x_e (zG rfl rfl) ?_|refine zm ?_ ?_<;>intro h|(revert H;(first|(refine x_g ?_;intro g1 w1 hg hf H)|(refine x_s ?_;intro w1 hf H)|(refine zau ?_;intro w1 hf H hk;clear hf hk));(first|replace hf:=hf.kp|clear hf)))
    (refine zi H rfl rfl rfl rfl ?_;exact⟨H.fr,(0,0,0),false,rfl,yz,fun y h=> yw,by decide⟩)
   by_cases b3:a1≤n
   case neg=>
    (have HO:Hid (o=none):=hid (by rw[←ho.out];unfold coE;rw[HP.out,if_neg (fun k=>b3 k.2.2.2.2.2.1)]);clear ho HP)
    go_wp2_with(first|refine x_q H ?_|refine x_l H ?_|refine x_e (zG rfl rfl) ?_|refine zm ?_ ?_<;>intro h|(revert H;(first|(refine x_g ?_;intro g1 w1 hg hf H)|(refine x_s ?_;intro w1 hf H)|(refine zau ?_;intro w1 hf H hk;clear hf hk));(first|replace hf:=hf.kp|clear hf)))
    (refine zi H rfl rfl rfl rfl ?_;exact⟨H.fr,(0,0,0),false,rfl,yz,fun y h=> yw,by decide⟩)
   obtain⟨mb,hmb⟩:∃b,may sym a0 a1=b:=⟨_,rfl⟩;have HB:=hid hmb
   cases mb
   ·(have HO:Hid (o=none):=hid (by rw[←ho.out];unfold coE;rw[HP.out,if_neg (fun k=>by rw[hmb]at k;cases k.2.2.2.2.2.2)]);clear ho HP)
    clear hmb
    go_wp2_with(first|refine x_q H ?_|refine x_l H ?_|refine x_e (zG rfl rfl) ?_|refine zm ?_ ?_<;>intro h|(revert H;(first|(refine x_g ?_;intro g1 w1 hg hf H)|(refine x_s ?_;intro w1 hf H)|(refine zau ?_;intro w1 hf H hk;clear hf hk));(first|replace hf:=hf.kp|clear hf)))
    (refine xA H (zbW _ sym a0 a1 hs2 HB) ?_;clear H;intro w1 H)
    go_wp2_with(first|refine x_q H ?_|refine x_l H ?_|refine x_e (zG rfl rfl) ?_|refine zm ?_ ?_<;>intro h|(revert H;(first|(refine x_g ?_;intro g1 w1 hg hf H)|(refine x_s ?_;intro w1 hf H)|(refine zau ?_;intro w1 hf H hk;clear hf hk));(first|replace hf:=hf.kp|clear hf)))
    (refine zi H rfl rfl rfl rfl ?_;exact⟨H.fr,(0,0,0),false,rfl,yz,fun y h=> yw,by decide⟩)
   clear hmb
   ·obtain⟨ov,hov0⟩:∃v,zai field z=v:=⟨_,rfl⟩;have HOV:=hid hov0;have HO:Hid (o=ov.map fun f=>(a0-1,a1-1,f)):=hid (by rw[←ho.out];unfold coE;rw[HP.out,if_pos ⟨rfl,rfl,b0,b1,b2,b3,HB.out⟩];show(if field=2 then _ else _)=_;rw[if_neg h2,←hov0];rfl);clear ho HP hov0
    go_wp2_with(first|refine x_q H ?_|refine x_l H ?_|refine x_e (zG rfl rfl) ?_|refine zm ?_ ?_<;>intro h|(revert H;(first|(refine x_g ?_;intro g1 w1 hg hf H)|(refine x_s ?_;intro w1 hf H)|(refine zau ?_;intro w1 hf H hk;clear hf hk));(first|replace hf:=hf.kp|clear hf)))
    (refine xA H (zbW _ sym a0 a1 hs2 HB) ?_;clear H;intro w1 H)
    go_wp2_with(first|refine x_q H ?_|refine x_l H ?_|refine x_e (zG rfl rfl) ?_|refine zm ?_ ?_<;>intro h|(revert H;(first|(refine x_g ?_;intro g1 w1 hg hf H)|(refine x_s ?_;intro w1 hf H)|(refine zau ?_;intro w1 hf H hk;clear hf hk));(first|replace hf:=hf.kp|clear hf)))
    (revert H;refine w_p 12 (.st 0 (.st 1 (.st 2 (.st 3 (.st 4 (.ld 5 (.st 6 (.st 7 (.st 8 (.st 9 (.ld 10 (.st 11 .done)))))))))))) ?_ (hs:=(.cons _ (List.Sublist.refl _)));intro w1 H)
    iterate 5 refine p_q ?_
    (refine p_c H rfl rfl Tryz.func74 (ziu _ z field hf2 hzl (HT.out.fr H.fr) HOV) ?_;clear H;rintro e w1 ⟨f,b,rfl,hF,hf64,hb,hfb⟩ H;refine p_r ?_;clear hF)
    iterate 4 refine p_q ?_
    (revert H;refine p_s ?_;intro w1 hf H;(first|replace hf:=hf.kp|clear hf))
    refine p_q ?_;(refine zf ?_)
    all_goals
     go_wp2_with(first|refine x_q H ?_|refine x_l H ?_|refine x_e (zG rfl rfl) ?_|refine zm ?_ ?_<;>intro h|(revert H;(first|(refine x_g ?_;intro g1 w1 hg hf H)|(refine x_s ?_;intro w1 hf H)|(refine zau ?_;intro w1 hf H hk;clear hf hk));(first|replace hf:=hf.kp|clear hf)))
     refine zi H rfl rfl rfl rfl ?_;refine⟨H.fr,(a0-1,a1-1,f),b,?_,(by rw[HO.out,hb];cases ov<;>rfl),fun y h=>?_,hf64⟩
     ·have e0:((a0-1:Nat):Int)=(a0:Int)-1:=by omega
      have e1:((a1-1:Nat):Int)=(a1:Int)-1:=by omega
      unfold eC;rw[e0,e1]
     ·rw[HO.out]at h;obtain⟨f',hf',rfl⟩:=Option.map_eq_some_iff.1 h;rw[hfb f' hf']
  ·have HO:Hid (o=none):=hid (by rw[←ho.out];unfold coE zdo;simp only[if_neg h2];rw[if_neg (fun k=>hl k.1)]);have hl':¬(ws.length:Int)=3:=by omega
   clear hl ho
   go_enter Tryz.func73,Tryz.ntmps73
   go_wp2_with(first|refine x_q H ?_|refine x_l H ?_|refine x_e (zG rfl rfl) ?_|refine zm ?_ ?_<;>intro h|(revert H;(first|(refine x_g ?_;intro g1 w1 hg hf H)|(refine x_s ?_;intro w1 hf H)|(refine zau ?_;intro w1 hf H hk;clear hf hk));(first|replace hf:=hf.kp|clear hf)))
   (refine zi H rfl rfl rfl rfl ?_;exact⟨H.fr,(0,0,0),false,rfl,yz,fun y h=> yw,by decide⟩)
end
section
variable {b k:Nat} {x e m e':Int} {S L:List En}
def nzF:Nat:=9223372036854775808
def zbU(b:Nat):Nat:=if b=nzF then 0 else b
def zos(h:b<18446744073709551616):zbU b<18446744073709551616:=by unfold zbU;split<;>omega
def zlS(h:zS b=true):zS (zbU b)=true:=by
 unfold zbU;split
 ·decide
 ·exact h
def Nm.zero(h:Nm x e m e')(hm:m=0):x=0:=by
 rcases h with⟨h,_⟩|⟨h,t,h2,_⟩
 ·exact h
 ·rw[hm,Int.zero_mul]at h2;exact h2
def Nm.zero'(h:Nm x e m e')(hx:x=0):m=0:=by
 rcases h with⟨_,h,_⟩|⟨h,_⟩
 ·exact h
 ·exact absurd hx h
def zd3(hb:b<18446744073709551616)(hf:zS b=true){x2 e2:Int}(h:Nm (sg (decide (9223372036854775808≤b)) (zA (b%9223372036854775808))) (zh (b%9223372036854775808)) m e')(g:Nm x2 e2 m e'):
 zbU b=if x2=0 then 0 else zK (decide (x2<0)) 0 x2.natAbs 1 e2:=by
 by_cases h0:b%9223372036854775808=0
 ·have e0:zA (b%9223372036854775808)=0:=by rw[h0];rfl
  have hm:m=0:=h.zero' (by rw[e0,zfJ]);rw[if_pos (g.zero hm)];unfold zbU nzF
  split
  ·rfl
  ·omega
 ·have hfin:b%9223372036854775808<9218868437227405312:=by
   unfold zS at hf;simp only[bne_iff_ne,ne_eq]at hf
   omega
  have hp:0<zA (b%9223372036854775808):=zcm yb
  have hx:sg (decide (9223372036854775808≤b)) (zA (b%9223372036854775808))≠0:=by
   intro k
   have:=zdg.1 k
   omega
  have hm:m≠0:=h.ne hx;have hx2:x2≠0:=fun k=>hm (g.zero' k)
  have hd:decide (x2<0)=decide (9223372036854775808≤b):=by
   rw[←g.neg,h.neg];unfold sg
   by_cases k:9223372036854775808≤b
   ·simp only[k,decide_true,if_true];simp;omega
   ·simp only[k,decide_false,Bool.false_eq_true,if_false];simp
  rw[if_neg hx2,hd];have r1:=zgM (decide (9223372036854775808≤b)) 0 g (Nm.refl (x:=1) (e:=0) yf) hx2 yf;have r2:=zgM (decide (9223372036854775808≤b)) 0 h (Nm.refl (x:=1) (e:=0) yf) hx yf;rw[Int.sub_zero,Int.sub_zero]at r1 r2;rw[za0]at r2;have r3:=zqr (decide (9223372036854775808≤b)) 0 (b:=b%9223372036854775808) yb hfin;have r4:zK (decide (9223372036854775808≤b)) 0 x2.natAbs 1 e2=zJ (decide (9223372036854775808≤b)) (b%9223372036854775808):=r1.symm.trans (r2.trans r3);rw[r4];unfold zbU nzF zJ
  by_cases k:9223372036854775808≤b
  ·rw[if_neg yb,if_pos y6];omega
  ·rw[if_neg yb,if_neg y6];omega
def clE(x:En):En:=(x.1,x.2.1,zbU x.2.2)
def zna(h:S.Pairwise ltE):(S.map clE).Pairwise ltE:=by
 rw[List.pairwise_map];exact h.imp fun k=>by unfold ltE clE at*;exact k
def zsI(S:List En)(j:Nat):pre (S.map clE) j=pre S j:=by
 unfold pre;rw[List.filter_map,List.length_map]
 rfl
def zqd(S:List En):(S.map clE).map (·.1)=S.map (·.1):=by rw[List.map_map];rfl
def zb8(L:List En)(k:Nat)(y:En):Nat:=if y.2.2=nzF∧y∈L.take k then nzF else zbU y.2.2
def zoS(L S:List En):S.map (zb8 L 0)=(S.map clE).map (·.2.2):=by
 rw[List.map_map]
 apply List.map_congr_left
 intro y _;unfold zb8;rw[if_neg yg]
 rfl
def znO{x:En}(hx:L[k]? =some x)(hn:x.2.2≠nzF):S.map (zb8 L (k+1))=S.map (zb8 L k):=by
 apply List.map_congr_left
 intro y _;unfold zb8;rw[List.take_add_one,hx]
 by_cases h1:y.2.2=nzF
 ·have:y≠x:=fun e=>hn (e ▸ h1)
  simp[h1,this]
 ·simp[h1]
def zp0(hS:S.Pairwise ltE){q:Nat}{x:En}(hx:L[k]? =some x)(hn:x.2.2=nzF)(hq:S[q]? =some x):(S.map (zb8 L k)).set q nzF=S.map (zb8 L (k+1)):=by
 have hql:=(List.getElem?_eq_some_iff.1 hq).1
 apply List.ext_getElem?
 intro i;rw[List.getElem?_set,List.getElem?_map,List.getElem?_map]
 by_cases h1:q=i
 ·subst h1;rw[if_pos rfl,if_pos (by simpa using hql),hq];simp only[Option.map_some];unfold zb8;rw[if_pos ⟨hn,by rw[List.take_add_one,hx];simp⟩]
 ·rw[if_neg h1]
  cases hy:S[i]? with
  | none=>rfl
  | some y=>
   simp only[Option.map_some]
   have hne:y≠x:=by
    intro e;subst e;have hil:=(List.getElem?_eq_some_iff.1 hy).1;have e1:=(List.getElem?_eq_some_iff.1 hy).2;have e2:=(List.getElem?_eq_some_iff.1 hq).2
    rcases Nat.lt_or_gt_of_ne h1 with h|h
    ·have:=List.pairwise_iff_getElem.1 hS q i hql hil h
     rw[e1,e2]at this;exact ltE.irrefl _ this
    ·have:=List.pairwise_iff_getElem.1 hS i q hil hql h
     rw[e1,e2]at this;exact ltE.irrefl _ this
   congr 1
   unfold zb8;rw[List.take_add_one,hx]
   simp[hne]
def zrf(h:∀x∈S,x∈L):S.map (zb8 L L.length)=S.map (·.2.2):=by
 apply List.map_congr_left
 intro y hy;unfold zb8;rw[List.take_length]
 by_cases h1:y.2.2=nzF
 ·rw[if_pos ⟨h1,h y hy⟩,h1]
 ·rw[if_neg (fun k=>h1 k.1)];unfold zbU;rw[if_neg h1]
end
section
variable {line:List UInt8} {h hd:Hd} {m n z:Nat} {Ls:List (List UInt8)}
def zpB(e:hdr line=some h):h.field≤2∧h.sym≤2:=by
 unfold hdr at e
 split at e
 ·split at e
  ·rename_i k;have e:=Option.some.inj e;subst e;exact⟨zhA k.2.2.2.1,zhM k.2.2.2.2.1⟩
  ·cases e
 ·cases e
def zka{w:List (List UInt8)}(e:zas h w= .ok (m,n,z)):m≤200∧n≤200∧z≤10000∧(h.sym=0∨m=n)∧(h.arr=true→z=zV h.sym m n):=by
 unfold zas at e
 by_cases k:w.length=(if h.arr=true then 2 else 3)∧w.all zT=true∧(h.sym=0∨zW (w.getD 0 [])=zW (w.getD 1 []))
 ·rw[if_pos k]at e;simp only[]at e;generalize hc:(if h.arr=true then zV h.sym (num (w.getD 0 [])) (num (w.getD 1 []))else num (w.getD 2 []))=c at e
  by_cases g:num (w.getD 0 [])≤200∧num (w.getD 1 [])≤200∧c≤10000∧(h.sym=0∨2*c≤10000)
  ·rw[if_pos g]at e;have e:=Except.ok.inj e;have e1:=congrArg Prod.fst e;have e2:=congrArg (fun x=>x.2.1) e;have e3:=congrArg (fun x=>x.2.2) e;simp only at e1 e2 e3
   have hmn:h.sym=0∨m=n:=by
    rcases k.2.2 with g|g
    ·exact .inl g
    ·refine .inr ?_;rw[←e1,←e2,←zb0,g,zb0]
   refine⟨by omega,by omega,by omega,hmn,fun ha=>?_⟩;rw[←e3,←e1,←e2,←hc,if_pos ha]
  ·rw[if_neg g]at e;cases e
 ·rw[if_neg k]at e;cases e
def zpM{k:Nat}(e:szP Ls 1 h= .ok (k,m,n,z)):k≤Ls.length+1∧m≤200∧n≤200∧z≤10000∧(h.sym=0∨m=n)∧(h.arr=true→z=zV h.sym m n):=by
 unfold szP at e
 split at e
 ·cases e
 ·rename_i k' ws r hsig
  split at e
  ·cases e
  ·rename_i q hq;obtain⟨m',n',z'⟩:=q;have e:=Except.ok.inj e
   cases e
   have h1:=zcM hsig;exact⟨by omega,zka hq⟩
def znM{s:List UInt8}(h1:zak s=line::Ls)(h2:hdr line=some hd):zF s=match szP (line::Ls) 1 hd with
 | .error e=> .error e
 | .ok (k,m,n,z)=>match zac hd m n (Ls.length+2) z [] (sig k ((line::Ls).drop k))with
  | .error e=> .error e
  | .ok (L,[])=> .ok (hd,m,n,L)
  | .ok (_,(k,_)::_)=> .error (k,103):=by
 unfold zF;rw[h1];simp only[h2];unfold szP;have e:(line::Ls).drop 1=Ls:=rfl;rw[e]
 cases hsig:sig 1 Ls with
 | nil=>rfl
 | cons a r=>
  obtain⟨i,w⟩:=a;simp only
  cases hq:zas hd w with
  | error x=>rfl
  | ok q=>
   obtain⟨m,n,c⟩:=q;have hsig':sig 1 ((line::Ls).drop 1)=(i,w)::r:=hsig;have h3:=(zcM hsig').2.2.1;simp only;rw[h3]
   rfl
def zjI{N:Nat}{ls r:List (Nat×List (List UInt8))}{L:List En}(hs2:hd.sym≤2)(hmn:hd.sym=0∨m=n)(hz:hd.arr=true→z=zV hd.sym m n)(e:zac hd m n N z [] ls= .ok (L,r)):okM m n (zz hd.sym L)∧∀x∈L,zS x.2.2=true∧x.2.2<18446744073709551616:=by
 have h:=zhG (h:=hd) (m:=m) (n:=n) (fun ha=>by
  rw[List.length_nil,Nat.zero_add,hz ha,←zdW _ _ _ hs2 hmn,zfE,List.length_map]
  exact Nat.le_refl _) ⟨.nil,by simp⟩ e
 exact⟨zlu h.1 hmn,fun x hx=>⟨(h.1.2 x hx).2.2.2.1,(h.1.2 x hx).2.2.2.2⟩⟩
end
section
open Go.RowKit
attribute [local irreducible] wpList Code.wp Plan.wp
def zde(sym:Nat)(x:En):List En:=if sym=0∨x.1=x.2.1 then []else [(x.2.1,x.1,if sym=2 then zbV x.2.2 else x.2.2)]
def zo4(sym:Nat)(L:List En):zz sym L=L++L.flatMap (zde sym):=by
 unfold zz
 congr 1
 induction L with
 | nil=>rfl
 | cons x L ih=>
  rw[List.flatMap_cons,←ih,List.filter_cons];unfold zde
  by_cases h:sym=0∨x.1=x.2.1
  ·rw[if_pos h];have hb:(!(sym==0||x.1==x.2.1))=false:=by rcases h with h|h<;>simp[h]
   rw[hb]
   simp
  ·rw[if_neg h]
   have hb:(!(sym==0||x.1==x.2.1))=true:=by
    rw[not_or]at h
    simp[h.1,h.2]
   rw[hb]
   simp
end
end Go.Proofs.YtaijhllckmndhaaGreatDoor
