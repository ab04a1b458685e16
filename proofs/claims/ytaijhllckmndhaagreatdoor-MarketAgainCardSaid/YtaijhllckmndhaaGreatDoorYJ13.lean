import Derived.Test.YtaijhllckmndhaaGreatDoorYJ0
import Derived.Test.YtaijhllckmndhaaGreatDoorYJ12
import Derived.Deep.DeepCutAuto
import Derived.Deep.CutBlock
import Derived.Test.YtaijhllckmndhaaGreatDoorYJ6
namespace Go.Proofs.YtaijhllckmndhaaGreatDoor
set_option linter.all false
set_option maxHeartbeats 64000000
set_option maxRecDepth 100000
section
open Go.RowKit
def zmh{w:World}{p:Option Addr}{n c:Nat}(A:Nat)(hl:(zd A).length=n)(hn:n≤2000000)(h:LR w p c (zd A)):
 Calls Tryz.prog 272 #[.slice p n c] w fun e w'=>e= .returned (.int .i64 (bl A:Int))∧Fr [] w w':=by
 have Hh:=hid h;have H:=Hp.start [] w;obtain⟨hlc,hc⟩:=h.clen;rw[hl]at hlc
 by_cases h0:n≤0
 ·have e:A=0:=zdf yb;have HB:Hid (bl A=0):=hid (by rw[e];rfl);clear h hl e
  go_enter Tryz.func272,Tryz.ntmps272
  revert H;refine W00 ?_;intro H _ _ _
  go_ret
  exact⟨by rw[HB.out];rfl,H.fr⟩
 ·obtain⟨k,hk⟩:∃k,n=k+1:=⟨n-1,by omega⟩;obtain⟨x,hx⟩:∃x,(zd A)[k]? =some x:=⟨_,List.getElem?_eq_getElem yb⟩;have hxv:=limbs_at hx;have hxB:=h.lim.at hx;obtain⟨b0,off,rfl,hb0,hcell⟩:=h.rd.rng (zH (i:=k) yb);have H1:=H.pushRng (b:=b0) (off:=off) hb0 yg hcell;clear H hcell;have H:=H1;clear H1
  have HB:Hid (bl A=32*(n-1)+bl x):=hid (by
   rw[show n-1=k by omega];have h2:=zsg (by rw[hl,hk]) (zaO A) hx (zby A x (by rw[hl,show n-1=k by omega];exact hx))
   rwa [zg]at h2)
  have hb32:=zhe hxB;have hn1:1≤n:=by omega
  rw[show k=((n:Int)-1).toNat by omega]at hxv;clear hx h hl h0 hk
  go_enter Tryz.func272,Tryz.ntmps272
  revert H;refine W00 ?_;intro H _ _ _ _ _;(refine x_c H (zoK _ hxB) ?_;clear H;rintro e w1 ⟨rfl,hF⟩ H);simp only[Int.not_lt,Int.not_le]at*;revert H;refine W00 ?_;intro H
  go_ret
  exact⟨by rw[HB.out];go_num,H.fr⟩
end
section
open Go.RowKit
def zkK{w:World}{p q:Option Addr}{n m c d:Nat}(A B:Nat)(hn:(zd A).length=n)(hm:(zd B).length=m)(hn0:n≤1000000)(hlt:A<B)(h:LR w p c (zd A))(k:LR w q d (zd B)):
 Calls Tryz.prog 304 #[.slice p n c, .slice q m d] w fun e w'=>∃p1 c1 p2 c2,e= .returned (.tuple #[.slice p1 (zd (A/B)).length c1, .slice p2 (zd (A%B)).length c2])∧Fr [] w w'∧LR w' p1 c1 (zd (A/B))∧LR w' p2 c2 (zd (A%B)):=by
 have Hh:=hid h;have Hk:=hid k;have Hn:=hid hn;have Hm:=hid hm;have hc:=zgk hlt;have HQ:=hid (Nat.div_eq_of_lt hlt);have HR:=hid (Nat.mod_eq_of_lt hlt);clear h k hn hm hlt;have H:=Hp.start [] w
 go_enter Tryz.func304,Tryz.ntmps304
 revert H;refine W10 ?_;intro H _ _ _ _ _ _ _;(refine x_c H (za5 A B Hn.out Hm.out (Hh.out.fr H.fr) (Hk.out.fr H.fr)) ?_;clear H;rintro e w1 ⟨rfl,hF⟩ H);generalize zC A B=z at hc ⊢;simp only[Int.not_lt,Int.not_le]at*;revert H;refine W10 ?_;intro H _ _ _ _;refine Calls.mono (zc9 (zd A) Hn.out hn0 (Hh.out.fr H.fr)) ?_;rintro e w1 ⟨p2,c2,rfl,hF,hL⟩;have HL:=hid hL;have H1:=H.step hF yg;clear H hF hL;have H:=H1;clear H1;simp only[Int.not_lt,Int.not_le]at*;revert H;refine W10 ?_;intro H;refine bodyPost_ret (results_tmp2 rfl _ _ _) rfl ?_;rw[HQ.out,HR.out,zn,Hn.out];exact⟨none,0,p2,c2,rfl,H.fr,LR.zero _,HL.out⟩
def znd{w:World}{p q:Option Addr}{n m c d:Nat}(A B:Nat)(hn:(zd A).length=n)(hm:(zd B).length=m)(hn0:n≤1000000)(hle:B≤A)(hm1:m=1)(h:LR w p c (zd A))(k:LR w q d (zd B)):
 Calls Tryz.prog 304 #[.slice p n c, .slice q m d] w fun e w'=>∃p1 c1 p2 c2,e= .returned (.tuple #[.slice p1 (zd (A/B)).length c1, .slice p2 (zd (A%B)).length c2])∧Fr [] w w'∧LR w' p1 c1 (zd (A/B))∧LR w' p2 c2 (zd (A%B)):=by
 obtain⟨x,hx⟩:∃x,(zd B)[0]? =some x:=⟨_,List.getElem?_eq_getElem yb⟩;have hxB:=k.lim.at hx
 have hBx:B=x:=by
  have h1:=zjy k.lim hx;rw[zg,Nat.pow_zero,Nat.div_one]at h1;have h2:=zbu B;rw[hm,hm1,Nat.pow_one]at h2
  omega
 have hx0:0<x:=by
  have:=zby B x (by rw[hm,hm1];exact hx)
  omega
 have hxv:=limbs_at hx;obtain⟨b0,off,rfl,hb0,hcell⟩:=k.rd.rng (zH (i:=0) yb);have Hh:=hid h;have Hk:=hid k;have Hn:=hid hn;have Hm:=hid hm;have HB:=hid hBx;have hc:=zcV hle;have hm2:m≤1:=by omega
 have hm3:1≤m:=by omega
 obtain⟨hlc,hcc⟩:=k.clen;rw[hm]at hlc;have H:=(Hp.start [] w).pushRng (b:=b0) (off:=off) hb0 yg hcell;clear h k hn hm hle hx hBx hcell hm1
 go_enter Tryz.func304,Tryz.ntmps304
 revert H;refine W10 ?_;intro H _ _ _ _ _ _ _;(refine x_c H (za5 A B Hn.out Hm.out (Hh.out.fr H.fr) (Hk.out.fr H.fr)) ?_;clear H;rintro e w1 ⟨rfl,hF⟩ H);generalize zC A B=z at hc ⊢;simp only[Int.not_lt,Int.not_le]at*;revert H;refine W10 ?_;intro H _ _ _ _ _ _;refine Calls.mono (znT (zd A) x Hn.out hn0 (Hh.out.fr H.fr) hx0 hxB) ?_;rintro e w1 ⟨p1,c1,rfl,hF,hL⟩;rw[zg]at hL ⊢;have HL:=hid hL;have H1:=H.step hF yg;clear H hF hL;have H:=H1;clear H1;simp only[Int.not_lt,Int.not_le]at*;revert H;refine W11 ?_;intro _ _ g w1 hg H hfk _ _;have hxr:A%x<x:=Nat.mod_lt _ hx0;have hlr:Lim [A%x]:=Lim.cons yb Lim.nil;have hL2:LR _ (some ⟨g,0,none⟩) 1 [A%x]:=LR.of_blk (pad:=[]) (by have:=H.at g;rw[show((A:Int)%(x:Int))=((A%x:Nat):Int) by rw[Int.natCast_emod]]at this;simpa[zj]using this) hlr yg yk;have HL2:=hid hL2;have HL1:=hid (HL.out.fr hfk.out);refine Calls.mono (zt [A%x] rfl hL2) ?_
 rintro e w1 ⟨rfl,hF⟩;have HL3:=hid (HL2.out.fr hF).trim;have HL4:=hid (HL1.out.fr hF);have H1:=H.step hF yg;clear H hF hL2;have H:=H1;clear H1;have HV:Hid (val [A%x]=A%x):=hid (by simp[val]);rw[HV.out]at HL3 ⊢;simp only[Int.not_lt,Int.not_le]at*;revert H;refine W10 ?_;intro H;refine bodyPost_ret (results_tmp2 rfl _ _ _) rfl ?_;rw[HB.out];exact⟨p1,c1,_,_,rfl,H.fr,HL4.out,HL3.out⟩
end
section
open Go.RowKit
def zjB{x:Nat}(h0:x≠0)(hx:x<4294967296):2147483648≤x*2^(32-bl x)∧x*2^(32-bl x)<4294967296:=by
 obtain⟨a1,a2⟩:=zb5 h0;have a3:=zay x;have a4:=zhe hx
 have e1:2^(bl x-1)*2^(32-bl x)=2147483648:=by
  rw[←Nat.pow_add,show bl x-1+(32-bl x)=31 by omega]
 have e2:2^bl x*2^(32-bl x)=4294967296:=by
  rw[←Nat.pow_add,show bl x+(32-bl x)=32 by omega]
 constructor
 ·rw[←e1];exact Nat.mul_le_mul_right _ a1
 ·rw[←e2];exact Nat.mul_lt_mul_of_pos_right a3 (Nat.two_pow_pos _)
def zqA{B n x:Nat}(hn:(zd B).length=n+1)(hx:(zd B)[n]? =some x):(zd (B*2^(32-bl x))).length=n+1:=by
 have hx0:=zby B x (by rw[hn,Nat.add_sub_cancel];exact hx);have hxB:=(zaO B).at hx;obtain⟨h1,h2⟩:=zjB hx0 hxB;have hv:=zaH (zd B) n;rw[Nat.min_eq_left yb,zg,zav hx,List.drop_eq_nil_of_le yb,zcn]at hv;have ht:=zaA ((zaO B).take n);rw[List.length_take,Nat.min_eq_left yb]at ht;have a3:=zay x;have a4:=zhe hxB;have hs:=Nat.two_pow_pos (32-bl x);generalize val ((zd B).take n)=T at*;have hP:0<4294967296^n:=Nat.pow_pos yf;have e1:4294967296^n*(x+1)≤4294967296^n*2^bl x:=Nat.mul_le_mul_left _ a3;rw[Nat.mul_add,Nat.mul_one]at e1;have e0:x+4294967296*0=x:=by omega
 rw[e0]at hv;have hB:B<4294967296^n*2^bl x:=by omega
 apply Nat.le_antisymm
 ·apply zap
  have e2:B*2^(32-bl x)<4294967296^n*2^bl x*2^(32-bl x):=Nat.mul_lt_mul_of_pos_right hB hs;rw[Nat.mul_assoc,←Nat.pow_add,show bl x+(32-bl x)=32 by omega]at e2;rw[Nat.pow_succ];exact e2
 ·apply Classical.byContradiction
  intro hlt;have e3:=zbu (B*2^(32-bl x));have e4:4294967296^(zd (B*2^(32-bl x))).length≤4294967296^n:=Nat.pow_le_pow_right yf yb;have e5:4294967296^n*1≤4294967296^n*x:=Nat.mul_le_mul_left _ yb;have e6:B*1≤B*2^(32-bl x):=Nat.mul_le_mul_left _ hs
  omega
end
section
open Go.RowKit
def zm7{V Q R u S:Nat}(hS:S=u+4294967296*R):u+4294967296*(V*Q+R)=V*(S/V+4294967296*Q)+S%V:=by
 have h1:=Nat.div_add_mod S V;rw[Nat.mul_add,Nat.mul_add,Nat.mul_left_comm V]
 omega
def zr8{V R u:Nat}(hu:u<4294967296)(hR:R<V):u+4294967296*R<4294967296*V:=by omega
def zrl{A B s Q R:Nat}(hB:0<B)(h:A*2^s=B*2^s*Q+R)(hR:R<B*2^s):Q=A/B∧R/2^s=A%B:=by
 have hs:=Nat.two_pow_pos s;have hV:0<B*2^s:=Nat.mul_pos hB hs
 have h1:A*2^s/(B*2^s)=Q:=by
  rw[h,Nat.mul_add_div hV,Nat.div_eq_of_lt hR,Nat.add_zero]
 have h2:A*2^s%(B*2^s)=R:=by
  rw[h,Nat.mul_add_mod,Nat.mod_eq_of_lt hR]
 refine⟨?_,?_⟩
 ·rw[←h1,zmI hs]
 ·rw[←h2,zmZ hs]
def zgP{l:List Nat}(h:∀(k x:Nat),l[k]? =some x→x=0):val l=0:=by
 induction l with
 | nil=>rfl
 | cons x l ih=>
  have h0:=h 0 x rfl
  have:=ih (fun k y hk=>h (k+1) y hk)
  simp only[val,this,h0]
def zrY{B n x:Nat}(hn:(zd B).length=n+1)(hx:(zd B)[n]? =some x):2147483648*4294967296^n≤B*2^(32-bl x)∧32-bl x≤31:=by
 have hx0:=zby B x (by rw[hn,Nat.add_sub_cancel];exact hx);obtain⟨h1,_⟩:=zjB hx0 ((zaO B).at hx);have hv:=zaH (zd B) n;rw[Nat.min_eq_left yb,zg,zav hx,List.drop_eq_nil_of_le yb,zcn]at hv;have e0:x+4294967296*0=x:=by omega
 rw[e0]at hv;refine⟨?_,by have:=(zb5 hx0).2;omega⟩;have h2:4294967296^n*x≤B:=by omega
 have h3:4294967296^n*x*2^(32-bl x)≤B*2^(32-bl x):=Nat.mul_le_mul_right _ h2;have h4:4294967296^n*2147483648≤4294967296^n*(x*2^(32-bl x)):=Nat.mul_le_mul_left _ h1;rw[←Nat.mul_assoc]at h4;rw[Nat.mul_comm 2147483648]
 omega
def zmQ{A V n mm s:Nat}(hA:A<4294967296^n)(hs:s≤31)(hV:2147483648*4294967296^mm≤V)(hmn:mm≤n):A*2^s<V*4294967296^(n-mm):=by
 have h1:2^s≤2^31:=Nat.pow_le_pow_right yf hs;have h2:A*2^s<4294967296^n*2^s:=Nat.mul_lt_mul_of_pos_right hA (Nat.two_pow_pos s);have h3:4294967296^n*2^s≤4294967296^n*2^31:=Nat.mul_le_mul_left _ h1;have h4:2147483648*4294967296^mm*4294967296^(n-mm)≤V*4294967296^(n-mm):=Nat.mul_le_mul_right _ hV;rw[Nat.mul_assoc,←Nat.pow_add,show mm+(n-mm)=n by omega,Nat.mul_comm]at h4;exact Nat.lt_of_lt_of_le (Nat.lt_of_lt_of_le h2 h3) h4
end
section
open Go.RowKit
def Hp.wrote{T:List Nat}{w0 w w':World}{g g0:Nat}{cs cs0 cs1:List Value}{t t0:TypeId}(H:Hp T w0 w [.blk g cs t, .blk g0 cs0 t0])(hF:Fr [g0] w w')(hg:w'.heap[g0]? =some (.cells cs1.toArray t0 (0,0))):Hp T w0 w' [.blk g cs t, .blk g0 cs1 t0]:=by
 have hn:=H.nodup;simp only[List.flatMap_cons,List.flatMap_nil,Ent.own,List.cons_append,List.nil_append,List.append_nil,List.nodup_cons,List.mem_cons,List.not_mem_nil,or_false]at hn;have a1:=H.ok _ (.head _);have a2:=H.ok _ (.tail _ (.head _));refine⟨H.fr.andThen hF (fun x hx=>?_),fun e he=>?_,by simpa[List.flatMap_cons,Ent.own]using hn.1⟩
 ·simp only[List.mem_singleton]at hx;subst hx;exact a2.2
 ·simp only[List.mem_cons,List.not_mem_nil,or_false]at he
  rcases he with rfl|rfl
  ·exact⟨hF.get a1.1 (by simpa using hn.1),a1.2⟩
  ·exact⟨hg,a2.2⟩
end
section
variable {U l o:List Nat} {m n V j A B mm s ul:Nat}
open Go.RowKit
structure Long (V m n:Nat) (U:List Nat) (i:Nat) (l o:List Nat):Prop where
 hl:l.length=n+1
 lim:Lim l
 ol:o.length=n+1-m
 olim:Lim o
 tk:l.take i=U.take i
 z:∀(k x:Nat),i+m≤k→l[k]? =some x→x=0
 v:val (U.drop i)=V*val (o.drop i)+val (l.drop i)
 lt:val (l.drop i)<V
def zth(hU:U.length=n+1)(lU:Lim U)(hm:m≤n+1)(hlt:val (U.drop (n+1-m))<V):Long V m n U (n+1-m) U (List.replicate (n+1-m) 0) where
 hl:=hU
 lim:=lU
 ol:=List.length_replicate
 olim:=Lim.zeros _
 tk:=rfl
 z:=fun k x hk hx=>by
  have:=(List.getElem?_eq_some_iff.1 hx).1
  omega
 v:=by
  have e:(List.replicate (n+1-m) 0).drop (n+1-m)=[]:=List.drop_eq_nil_of_le yg;rw[e,zcn,Nat.mul_zero,Nat.zero_add]
 lt:=hlt
def zd2{i:Nat}(h:∀(k x:Nat),i≤k→l[k]? =some x→x=0):val (l.drop i)=0:=
 zgP (fun k x hk=>h (i+k) x (Nat.le_add_right _ _) (by rwa [List.getElem?_drop]at hk))
def Long.cut(h:Long V m n U (j+1) l o)(hj:j+m≤n):
 l=l.take j++(l.drop j).take (m+1)++l.drop (j+(m+1))∧(l.take j).length=j∧((l.drop j).take (m+1)).length=m+1∧Lim ((l.drop j).take (m+1))∧val ((l.drop j).take (m+1))=val (l.drop j)∧val ((l.drop j).take (m+1))<4294967296*V:=by
 have hl:=h.hl;have h1:((l.drop j).take (m+1)).length=m+1:=by rw[List.length_take,List.length_drop];omega
 have h2:val ((l.drop j).take (m+1))=val (l.drop j):=by
  have e:=zaH (l.drop j) (m+1);have hz:val (l.drop (j+(m+1)))=0:=zd2 (fun k x hk hx=>h.z k x yb hx);rw[List.drop_drop,hz,Nat.mul_zero,Nat.add_zero]at e;exact e.symm
 refine⟨?_,by rw[List.length_take];omega,h1,(h.lim.drop _).take _,h2,?_⟩
 ·rw[←List.drop_drop,List.append_assoc,List.take_append_drop,List.take_append_drop]
 ·rw[h2];obtain⟨x,hx⟩:∃x,l[j]? =some x:=⟨_,List.getElem?_eq_getElem yb⟩;rw[zav hx];exact zr8 (h.lim.at hx) h.lt
def Long.next{sg:List Nat}(h:Long V m n U (j+1) l o)(hj:j+m≤n)(hV:V≤4294967296^m)(hs:sg.length=m+1)(ls:Lim sg)(hv:val sg=val ((l.drop j).take (m+1))%V):Long V m n U j (l.take j++sg++l.drop (j+(m+1))) (o.set j (val ((l.drop j).take (m+1))/V)):=by
 obtain⟨hcut,c1,c2,c3,c4,c5⟩:=h.cut hj;have hl:=h.hl;have hol:=h.ol
 have hVp:0<V:=by
  rcases Nat.eq_zero_or_pos V with e|e
  ·rw[e]at c5;omega
  ·exact e
 obtain⟨x,hx⟩:∃x,l[j]? =some x:=⟨_,List.getElem?_eq_getElem yb⟩
 have hUj:U[j]? =some x:=by
  have e:=congrArg (·[j]?) h.tk;simp only[List.getElem?_take]at e;rw[if_pos yb,if_pos yb]at e;rw[←e,hx]
 have hmod:val sg<V:=by rw[hv];exact Nat.mod_lt _ hVp
 have hz2:val (l.drop (j+(m+1)))=0:=zd2 (fun k x hk hx=>h.z k x yb hx)
 have hd:(l.take j++sg++l.drop (j+(m+1))).drop j=sg++l.drop (j+(m+1)):=by
  rw[List.append_assoc,List.drop_append_of_le_length yb,List.drop_eq_nil_of_le yb,List.nil_append]
 have hvd:val (sg++l.drop (j+(m+1)))=val sg:=by rw[zeo,hz2,Nat.mul_zero,Nat.add_zero]
 have hq:val ((l.drop j).take (m+1))/V<4294967296:=Nat.div_lt_of_lt_mul (by rw[Nat.mul_comm];exact c5);refine⟨?_,?_,?_,h.olim.set _ hq,?_,?_,?_,?_⟩
 ·rw[List.length_append,List.length_append,c1,hs,List.length_drop];omega
 ·exact((h.lim.take _).app ls).app (h.lim.drop _)
 ·rw[List.length_set];exact hol
 ·rw[List.append_assoc,List.take_append_of_le_length yb,List.take_of_length_le yb];have e:=congrArg (List.take j) h.tk
  rwa [List.take_take,List.take_take,Nat.min_eq_left yb]at e
 ·intro k y hk hy
  by_cases hkm:k=j+m
  ·subst hkm;rw[List.append_assoc,List.getElem?_append_right yb,c1,show j+m-j=m by omega,List.getElem?_append_left yb]at hy;rw[List.length_take]at c1;have e1:=zw hy;rw[List.take_of_length_le yb]at e1
   rcases Nat.eq_zero_or_pos y with e|e
   ·exact e
   ·have e2:4294967296^m*1≤4294967296^m*y:=Nat.mul_le_mul_left _ e
    omega
  ·rw[List.getElem?_append_right (by rw[List.length_append,c1,hs];omega),List.length_append,c1,hs,List.getElem?_drop,show j+(m+1)+(k-(j+(m+1)))=k by omega]at hy;exact h.z k y yb hy
 ·rw[hd,hvd,hv,zgC _ _ _ yb,zaF,zav hUj,h.v];exact zm7 (by rw[c4,zav hx])
 ·rw[hd,hvd];exact hmod
def zmT(hA:A<4294967296^n)(hul:ul≤n+1)(he:(zd (A*2^s)).length=ul)(hmn:mm+1≤n)(hB:2147483648*4294967296^mm≤B*2^s∧s≤31):Long (B*2^s) (mm+1) n (zd (A*2^s)++List.replicate (n+1-ul) 0) (n-mm) (zd (A*2^s)++List.replicate (n+1-ul) 0) (List.replicate (n-mm) 0):=by
 have lU:Lim (zd (A*2^s)++List.replicate (n+1-ul) 0):=(zaO _).app (Lim.zeros _);have hv:val (zd (A*2^s)++List.replicate (n+1-ul) 0)=A*2^s:=by rw[zeo,zda,Nat.mul_zero,Nat.add_zero,zg]
 have h:=zth (V:=B*2^s) (m:=mm+1) (n:=n) (by rw[List.length_append,he,List.length_replicate];omega) lU yb (by
  rw[←zeY lU,hv,show n+1-(mm+1)=n-mm by omega]
  exact Nat.div_lt_of_lt_mul (by rw[Nat.mul_comm (4294967296^(n-mm))];exact zmQ hA hB.2 hB.1 yb))
 rwa [show n+1-(mm+1)=n-mm by omega]at h
def Long.whole(hB:0<B)(h:Long (B*2^s) (mm+1) n (zd (A*2^s)++List.replicate (n+1-ul) 0) 0 l o)(hmn:mm+1≤n):val o=A/B∧val (l.take (mm+1))/2^s=A%B:=by
 have h1:=h.v;have h2:=h.lt;rw[List.drop_zero,List.drop_zero,List.drop_zero,zeo,zda,Nat.mul_zero,Nat.add_zero,zg]at h1;rw[List.drop_zero]at h2
 have h3:val (l.take (mm+1))=val l:=by
  have e:=zaH l (mm+1);have hz:val (l.drop (mm+1))=0:=zd2 (fun k x hk hx=>h.z k x yb hx);rw[hz,Nat.mul_zero,Nat.add_zero]at e;exact e.symm
 rw[h3];exact zrl hB h1 h2
end
section
open Go.RowKit
def zlR{U:List Nat}{n ul:Nat}(h:ul≤n+1)(hu:U.length=ul):zL (zj (List.replicate (n+1) 0)) 0 (zj U)=zj (U++List.replicate (n+1-ul) 0):=by
 subst hu;unfold zL zj
 simp
 try omega
def zk7{w:World}{p q:Option Addr}{n m c d:Nat}(A B:Nat)(hn:(zd A).length=n)(hm:(zd B).length=m)(hn0:n≤400000)(hle:B≤A)(hm1:2≤m)(h:LR w p c (zd A))(k:LR w q d (zd B)):
 Calls Tryz.prog 304 #[.slice p n c, .slice q m d] w fun e w'=>∃p1 c1 p2 c2,e= .returned (.tuple #[.slice p1 (zd (A/B)).length c1, .slice p2 (zd (A%B)).length c2])∧Fr [] w w'∧LR w' p1 c1 (zd (A/B))∧LR w' p2 c2 (zd (A%B)):=by
 have hmn:m≤n:=by have:=za6 hle;omega
 obtain⟨mm,hmm⟩:∃mm,m=mm+1:=⟨m-1,by omega⟩;obtain⟨x,hx⟩:∃x,(zd B)[mm]? =some x:=⟨_,List.getElem?_eq_getElem yb⟩;have hxB:=k.lim.at hx;have hx0:=zby B x (by rw[hm,hmm,Nat.add_sub_cancel];exact hx);have hb32:=zhe hxB;have HNL:=hid (zqA (by rw[hm,hmm]) hx);have HGE:=hid (zrY (by rw[hm,hmm]) hx);have hxv:=limbs_at hx;rw[show mm=((m:Int)-1).toNat by omega]at hxv;obtain⟨b0,off,rfl,hb0,hcell⟩:=k.rd.rng (zH (i:=0) yb);have Hh:=hid h;have Hk:=hid k;have Hn:=hid hn;have Hm:=hid hm;have Hmm:=hid hmm;have hmm2:mm+1≤n:=by omega
 have hmm1:1≤mm:=by omega
 have hc:=zcV hle;obtain⟨hlc,hcc⟩:=k.clen;rw[hm]at hlc;have H:=(Hp.start [] w).pushRng (b:=b0) (off:=off) hb0 yg hcell;obtain⟨s,hs⟩:∃s,32-bl x=s:=⟨_,rfl⟩;rw[hs]at HNL HGE;have hs32:s≤32:=by omega
 have Hs:=hid hs;clear h k hn hm hle hx hcell hmm hs hx0 hb32
 go_enter Tryz.func304,Tryz.ntmps304
 revert H;refine W10 ?_;intro H _ _ _ _ _ _ _;(refine x_c H (za5 A B Hn.out Hm.out (Hh.out.fr H.fr) (Hk.out.fr H.fr)) ?_;clear H;rintro e w1 ⟨rfl,hF⟩ H);generalize zC A B=z at hc ⊢;revert H;refine W10 ?_;intro H _ _ _ _;(refine x_c H (zmW _ hxB) ?_;clear H;rintro e w1 ⟨rfl,hF⟩ H);rw[Hs.out];revert H;refine W10 ?_;intro H _ _ _ _;refine Calls.mono (zjO (zd B) s Hm.out yb yb (Hk.out.fr H.fr)) ?_;rintro e wb ⟨pv,cv,rfl,hF,hL⟩;rw[zg]at hL ⊢;have HLV:=hid hL;have Hf0:=hid (H.step hF yg).fr;have Hh2:=hid (Hh.out.fr Hf0.out);obtain⟨hlv,hcv⟩:=hL.clen;rw[HNL.out]at hlv;rw[HNL.out];clear H hF hL Hh Hk hb0;have H:=Hp.start [] wb;revert H;refine W10 ?_;intro g w1 hg H hfk _ _ _ _;rw[show((n:Int)+1).toNat=n+1 by omega,za3]at H;obtain⟨g0,rfl⟩:∃g0,g0=g:=⟨g,rfl⟩;have hg0:=hg.1;refine Calls.mono (zjO (zd A) s Hn.out yb yb (Hh2.out.fr H.fr)) ?_;rintro e w2 ⟨pu,cu,rfl,hF,hL⟩;rw[zg]at hL ⊢;have HLU:=hid hL
 have H1:=H.step hF yg;clear H hF hL;have H:=H1;clear H1
 have HUL:Hid ((zd (A*2^s)).length≤n+1):=hid (by
  apply zap
  have h1:=zbu A;rw[Hn.out]at h1;have h2:2^s≤2^32:=Nat.pow_le_pow_right yf hs32;rw[Nat.pow_succ]
  exact Nat.lt_of_lt_of_le (Nat.mul_lt_mul_of_pos_right h1 (Nat.two_pow_pos s)) (Nat.mul_le_mul_left _ h2))
 obtain⟨ul,hul⟩:∃ul,(zd (A*2^s)).length=ul:=⟨_,rfl⟩;have hul2:ul≤n+1:=by rw[←hul];exact HUL.out
 have Hul:=hid hul;rw[hul];clear hul;revert H;refine W12 ?_;intro _ _ g w1 hg H hfk _ _;rw[show((n:Int)+1-((mm:Int)+1)).toNat=n-mm by omega]at H ⊢;rw[za3,zlR hul2 Hul.out]at H;have hgg:=hg.1;clear HLU HUL
 have HB:Hid (0<B):=hid (by
  rcases Nat.eq_zero_or_pos B with e|e
  ·have:=Hm.out;rw[e,zn]at this;simp at this;omega
  ·exact e)
 have HVB:Hid (B*2^s≤4294967296^(mm+1)):=hid (by have:=zbu (B*2^s);rw[HNL.out]at this;exact Nat.le_of_lt this)
 have Hne:Hid (∀b off,pv=some ⟨b,off,none⟩→b≠g0):=hid (by
  intro b off hb;obtain⟨b',off',e1,e2,_⟩:=HLV.out.rd.rng (zH (i:=0) (by rw[HNL.out];omega));rw[hb]at e1
  cases e1
  omega)
 have hlong:=zmT (s:=s) (ul:=ul) (mm:=mm) (B:=B) (by have h1:=zbu A;rwa [Hn.out]at h1) hul2 Hul.out hmm2 HGE.out
 go_loopw [12] (fun s12 wr=>∃(i:Nat) (l o:List Nat),i≤n-mm∧s12= .int .i64 ((i:Int)-1)∧Long (B*2^s) (mm+1) n (zd (A*2^s)++List.replicate (n+1-ul) 0) i l o∧Hp [] wb wr [.blk g (zj o) 160, .blk g0 (zj l) 160]) (fun v _=>(intOf v+1).toNat)
 case atStart=>exact⟨n-mm,_,_,Nat.le_refl _,by go_num,hlong,H⟩
 case round=>
  clear H;obtain⟨i,l,o,hi,rfl,HLo,H⟩:=hrel
  by_cases h0:i=0
  ·have h0':(i:Int)-1<0:=by omega
   revert H;refine W10 ?_;intro H _ _ _ _ _ _ _;have hll:=HLo.hl;have hol:=HLo.ol;rw[h0]at HLo;obtain⟨hq,hr⟩:=HLo.whole HB.out hmm2;have htl:(l.take (mm+1)).length=mm+1:=by rw[List.length_take];omega
   have hL:=LR.of_blk (w:=wr) (g:=g0) (c:=n+1) (l:=l.take (mm+1)) (pad:=zj (l.drop (mm+1))) (by rw[zpj,List.take_append_drop];exact H.at g0) (HLo.lim.take _) yb yk;have hL2:=LR.of_blk (w:=wr) (g:=g) (c:=n-mm) (l:=o) (pad:=[]) yE HLo.olim yb yk;have HL:=hid hL;have HL2:=hid hL2;have Hq:=hid hq;have Hr:=hid hr;have Hol:=hid (show o.length=n-mm by omega);clear hL hL2 hq hr hol hll;refine Calls.mono (zt _ htl HL.out) ?_;rintro e w1 ⟨rfl,hF⟩;have HL3:=hid (HL.out.fr hF).trim;replace HL2:=hid (HL2.out.fr hF);have H1:=H.step hF yg;clear H hF htl;have H:=H1;clear H1
   have hdl:(zd (val (l.take (mm+1)))).length≤2000000:=by
    have h1:=zI (HLo.lim.take (mm+1));have h2:=HLo.hl;rw[List.length_take]at h1
    omega
   revert H;refine W10 ?_;intro H _ _;refine Calls.mono (zi7 _ s rfl hdl yb HL3.out) ?_;rintro e w1 ⟨p5,c5,rfl,hF,hL⟩;have HL5:=hid hL;replace HL2:=hid (HL2.out.fr hF);have H1:=H.step hF yg;clear H hF hL;have H:=H1;clear H1;rw[Hr.out]at HL5 ⊢;revert H;refine W10 ?_;intro H _ _ _ _;refine Calls.mono (zt o Hol.out HL2.out) ?_;rintro e w1 ⟨rfl,hF⟩;replace HL5:=hid (HL5.out.fr hF);replace HL2:=hid (HL2.out.fr hF).trim;have H1:=H.step hF yg;clear H hF;have H:=H1;clear H1;rw[Hq.out]at HL2 ⊢;revert H;refine W10 ?_;intro H;refine bodyPost_ret (results_tmp2 rfl _ _ _) rfl ?_;exact⟨_,_,p5,c5,rfl,Hf0.out.trans H.fr,HL2.out,HL5.out⟩
  ·obtain⟨j,rfl⟩:∃j,i=j+1:=⟨i-1,by omega⟩;have e1:(((j+1:Nat):Int)-1)=(j:Int):=by omega
   rw[e1];clear e1 h0;have hjm:j+(mm+1)≤n:=by omega
   obtain⟨hcut,c1,c2,c3,c4,c5⟩:=HLo.cut hjm;have Hcut:=hid hcut;have C1:=hid c1;have C2:=hid c2;have C4:=hid c4;clear hcut c1 c2 c4;revert H;refine W10 ?_;intro H _ _ _ _ _ h;rw[show j+(mm+1)+1-j=mm+1+1 by omega];refine Calls.mono (zpb (pre:=l.take j) (seg:=(l.drop j).take (mm+1+1)) (post:=l.drop (j+(mm+1+1))) (v:=zd (B*2^s)) (by rw[←Hcut.out];exact H.at g0) C1.out C2.out HNL.out yb yb yb yb yb c3 (by rw[zg];exact c5) (HLV.out.fr H.fr) Hne.out (fun hv=>zby (B*2^s) 0 (by rw[HNL.out];exact hv) rfl)) ?_;rintro e w1 ⟨sg,rfl,hF,k1,k2,k3,hgw⟩;rw[zg]at k3 ⊢;have HN:=HLo.next hjm HVB.out k1 k2 k3;generalize val ((l.drop j).take (mm+1+1))/(B*2^s)=qd at HN ⊢;have H1:=H.wrote hF hgw;clear H hF k3 hgw;have H:=H1;clear H1;have hjo:j<o.length:=by have:=HLo.ol;omega
   have K1:=hid k1;clear k1;revert H;refine W10 ?_;intro w1 H hfk;rw[z7]at H
   go_roundw
   case rel=>exact⟨j,_,_,by omega,rfl,HN,H⟩
   case measure=>(simp[intOf];try omega)
def zm0{w:World}{p q:Option Addr}{n m c d:Nat}(A B:Nat)(hn:(zd A).length=n)(hm:(zd B).length=m)(hn0:n≤400000)(hB:B≠0)(h:LR w p c (zd A))(k:LR w q d (zd B)):
 Calls Tryz.prog 304 #[.slice p n c, .slice q m d] w fun e w'=>∃p1 c1 p2 c2,e= .returned (.tuple #[.slice p1 (zd (A/B)).length c1, .slice p2 (zd (A%B)).length c2])∧Fr [] w w'∧LR w' p1 c1 (zd (A/B))∧LR w' p2 c2 (zd (A%B)):=by
 rcases Nat.lt_or_ge A B with h1|h1
 ·exact zkK A B hn hm yb h1 h k
 ·have:=zbR hB
  by_cases h2:m=1
  ·exact znd A B hn hm yb h1 h2 h k
  ·exact zk7 A B hn hm hn0 h1 yb h k
end
section
variable {nb:Bool} {A B:Nat} {w w':World} {z:Int}
open Go.RowKit
def zhX{a b q r:Int}(h:a=q*b+r)(h0:0≤r)(h1:r<b.natAbs):a/b=q∧a%b=r:=by
 rcases Int.lt_or_lt_of_ne (show b≠0 by omega)with hb|hb
 ·obtain⟨c,rfl⟩:∃c,b= -c:=⟨-b,by omega⟩;have h2:=(Int.ediv_emod_unique (a:=a) (r:=r) (q:= -q) (b:=c) yb).2 ⟨by rw[h,Int.mul_neg,Int.mul_neg,Int.mul_comm c];omega,h0,by omega⟩;rw[Int.ediv_neg,Int.emod_neg,h2.1,h2.2]
  omega
 ·exact(Int.ediv_emod_unique hb).2 ⟨by rw[h,Int.mul_comm b];omega,h0,by omega⟩
def sg(neg:Bool)(n:Nat):Int:=if neg then -(n:Int)else(n:Int)
def zan(neg:Bool)(l:List Nat):zv neg l=sg neg (val l):=rfl
def za0(neg:Bool)(n:Nat):(sg neg n).natAbs=n:=by unfold sg;split<;>omega
def zoz(a b:Bool)(n m:Nat):sg a n*sg b m=sg (!(a==b)) (n*m):=by
 unfold sg;cases a<;>cases b<;>simp[Int.natCast_mul,Int.neg_mul,Int.mul_neg]
def zfJ(a:Bool):sg a 0=0:=by unfold sg;cases a<;>rfl
def zpW(z:Int):sg (decide (z<0)) z.natAbs=z:=by unfold sg;by_cases h:z<0<;>simp[h]<;>omega
def zdg{a:Bool}{n:Nat}:sg a n=0↔n=0:=by unfold sg;cases a<;>simp<;>omega
def zcO{na:Bool}(hB:B≠0)(h:na=false∨A%B=0):sg na A/sg nb B=sg (!(na==nb)) (A/B)∧sg na A%sg nb B=((A%B:Nat):Int):=by
 refine zhX ?_ yb (by rw[za0];exact Int.ofNat_lt.2 (Nat.mod_lt _ (Nat.pos_of_ne_zero hB)));rw[zoz];have h1:=Nat.div_add_mod A B;rw[Nat.mul_comm]at h1;generalize A/B*B=X at*;generalize A%B=R at*;unfold sg
 rcases h with rfl|h
 ·cases nb<;>simp<;>omega
 ·cases na<;>cases nb<;>simp<;>omega
def zht(hB:B≠0)(h:A%B≠0):sg true A/sg nb B=sg (!(true==nb)) (A/B+1)∧sg true A%sg nb B=((B-A%B:Nat):Int):=by
 have h2:=Nat.mod_lt A (Nat.pos_of_ne_zero hB);refine zhX ?_ yb (by rw[za0];omega);rw[zoz];have h1:=Nat.div_add_mod A B;rw[Nat.mul_comm]at h1;rw[Nat.add_mul,Nat.one_mul];generalize A/B*B=X at*;generalize A%B=R at*;unfold sg
 cases nb<;>simp<;>omega
def BigV(w:World)(v:Value)(z:Int):Prop:=∃p c,v= .agg #[.bool (decide (z<0)), .slice p (zd z.natAbs).length c]∧LR w p c (zd z.natAbs)
def BigV.fr{v:Value}(h:BigV w v z)(k:Fr [] w w'):BigV w' v z:=by
 obtain⟨p,c,rfl,hl⟩:=h;exact⟨p,c,rfl,hl.fr k⟩
def Big.iff{e:Ending}:Big e w w' z↔∃v,e= .returned v∧Fr [] w w'∧BigV w' v z:=by
 constructor
 ·rintro⟨p,c,rfl,h1,h2⟩;exact⟨_,rfl,h1,p,c,rfl,h2⟩
 ·rintro⟨v,rfl,h1,p,c,rfl,h2⟩;exact⟨p,c,rfl,h1,h2⟩
def BigV.zero(w:World):BigV w (.agg #[.bool false, .slice none 0 0]) 0:=⟨none,0,by simp[zn],by simpa[zn]using LR.zero w⟩
end
section
open Go.RowKit
def zng{w:World}{p q:Option Addr}{n m c d:Nat}(na nb:Bool)(la lb:List Nat)(hn:la.length=n)(hm:lb.length=m)(hn0:n≤400000)(hm0:m≤400000)(h:LR w p c la)(k:LR w q d lb)(hb:val lb≠0):
 Calls Tryz.prog 278 #[.agg #[.bool na, .slice p n c], .agg #[.bool nb, .slice q m d]] w fun e w'=>∃v1 v2,e= .returned (.tuple #[v1,v2, .int .i64 0])∧Fr [] w w'∧BigV w' v1 (zv na la/zv nb lb)∧BigV w' v2 (zv na la%zv nb lb):=by
 subst hn hm;have Hh:=hid h;have Hk:=hid k;have hla:=zI h.lim;have hlb:=zI k.lim;have hy0:0<(zd (val lb)).length:=zbR hb;have Hb:=hid hb;have H:=Hp.start [] w;have hA:=hid (h.trim);have hB:=hid (k.trim);clear h k hb
 go_enter Tryz.func278,Tryz.ntmps278
 revert H;refine W10 ?_;intro _ _ _ _ _ _ _ _ _ _ _ _ _ g w1 hg H hfk _ _ _ _;(refine x_c H (zt lb rfl (Hk.out.fr H.fr)) ?_;clear H;rintro e w1 ⟨rfl,hF⟩ H);simp only[Int.not_lt,Int.not_le]at*;revert H;refine W10 ?_;intro H _ _ _ _;(refine x_c H (zt la rfl (Hh.out.fr H.fr)) ?_;clear H;rintro e w1 ⟨rfl,hF⟩ H);simp only[Int.not_lt,Int.not_le]at*;revert H;refine W10 ?_;intro H _ _;(refine x_c H (zm0 (val la) (val lb) rfl rfl yb Hb.out (hA.out.fr H.fr) (hB.out.fr H.fr)) ?_;clear H;rintro e w1 ⟨p1,c1,p2,c2,rfl,hF,hL1,hL2⟩ H;have HL1:=hid hL1;have HL2:=hid hL2;clear hL1 hL2)
 cases na
 ·simp only[Int.not_lt,Int.not_le]at*;revert H;refine W10 ?_;intro H _ _ _ _;revert H;refine W10 ?_;intro H;(refine x_c H (zM nb (zd (val la/val lb)) rfl HL1.out) ?_;clear H;rintro e w1 ⟨p6,c6,rfl,hF,hL⟩ H;have HL6:=hid hL;clear hL;have HR1:=hid ((HL2.out).fr hF));simp only[Int.not_lt,Int.not_le]at*;revert H;refine W10 ?_;intro H _ _;(refine x_c H (zM false (zd (val la%val lb)) rfl HR1.out) ?_;clear H;rintro e w1 ⟨p7,c7,rfl,hF,hL⟩ H;have HL7:=hid hL;clear hL;have HL8:=hid (HL6.out.fr hF));simp only[Int.not_lt,Int.not_le]at*;revert H;refine W13 ?_;intro _ hk2 _ w1 H hk4 hfk;refine zft H rfl rfl rfl rfl rfl rfl ?_;have e1:zv nb (zd (val la/val lb))=zv false la/zv nb lb:=(by rw[zan,zan,zan,zg];have e:=(zcO (na:=false) (nb:=nb) (A:=val la) Hb.out (.inl rfl)).1.symm;cases nb<;>exact e)
  have e2:zv false (zd (val la%val lb))=zv false la%zv nb lb:=(by rw[zan,zan,zan,zg];exact(zcO (na:=false) (nb:=nb) (A:=val la) Hb.out (.inl rfl)).2.symm);rw[e1]at HL8;rw[e2]at HL7;refine⟨_,_,rfl,H.fr,⟨p6,c6,by rw[e1],hk4.out _ _ _ HL8.out⟩,⟨p7,c7,by rw[e2],hk4.out _ _ _ HL7.out⟩⟩
 ·by_cases hr:val la%val lb=0
  ·have hr0:(zd (val la%val lb)).length≤0:=by rw[hr,zn];exact Nat.le_refl _
   have Hr:=hid hr;clear hr;simp only[Int.not_lt,Int.not_le]at*;revert H;refine W10 ?_;intro H _ _ _ _;revert H;refine W10 ?_;intro H;(refine x_c H (zM (!nb) (zd (val la/val lb)) rfl HL1.out) ?_;clear H;rintro e w1 ⟨p6,c6,rfl,hF,hL⟩ H;have HL6:=hid hL;clear hL;have HR1:=hid ((HL2.out).fr hF));simp only[Int.not_lt,Int.not_le]at*;revert H;refine W10 ?_;intro H _ _;(refine x_c H (zM false (zd (val la%val lb)) rfl HR1.out) ?_;clear H;rintro e w1 ⟨p7,c7,rfl,hF,hL⟩ H;have HL7:=hid hL;clear hL;have HL8:=hid (HL6.out.fr hF));simp only[Int.not_lt,Int.not_le]at*;revert H;refine W13 ?_;intro _ hk2 _ w1 H hk4 hfk;refine zft H rfl rfl rfl rfl rfl rfl ?_;have e1:zv (!nb) (zd (val la/val lb))=zv true la/zv nb lb:=(by rw[zan,zan,zan,zg];have e:=(zcO (na:=true) (nb:=nb) (A:=val la) Hb.out (.inr Hr.out)).1.symm;cases nb<;>exact e)
   have e2:zv false (zd (val la%val lb))=zv true la%zv nb lb:=(by rw[zan,zan,zan,zg];exact(zcO (na:=true) (nb:=nb) (A:=val la) Hb.out (.inr Hr.out)).2.symm);rw[e1]at HL8;rw[e2]at HL7;refine⟨_,_,rfl,H.fr,⟨p6,c6,by rw[e1],hk4.out _ _ _ HL8.out⟩,⟨p7,c7,by rw[e2],hk4.out _ _ _ HL7.out⟩⟩
  ·have hr0:0<(zd (val la%val lb)).length:=zbR hr;have Hr:=hid hr;have hrl:=za6 (Nat.le_of_lt (Nat.mod_lt (val la) (Nat.pos_of_ne_zero Hb.out)));have hql:=za6 (Nat.div_le_self (val la) (val lb));have hrB:=hid (Nat.le_of_lt (Nat.mod_lt (val la) (Nat.pos_of_ne_zero Hb.out)));clear hr;simp only[Int.not_lt,Int.not_le]at*;revert H;refine W10 ?_;intro _ _ g w1 hg H hfk _ _;have HO:=hid (LR.of_blk (l:=[1]) (c:=1) (pad:=[]) yA (Lim.cons yf Lim.nil) yg yk);(refine x_c H (zcl (zd (val la/val lb)) [1] rfl rfl yb yg (HL1.out.fr hfk.out) HO.out) ?_;clear H;rintro e w1 ⟨p3,c3,rfl,hF,hL⟩ H;have HL3:=hid hL;have HR1:=hid ((HL2.out.fr hfk.out).fr hF);clear hL);rw[zg,zhF]at HL3 ⊢;simp only[Int.not_lt,Int.not_le]at*;revert H;refine W10 ?_;intro H _ _
   (refine x_c H (zc4 (zd (val lb)) (zd (val la%val lb)) rfl rfl hrl yb (by rw[zg,zg];exact hrB.out) (hB.out.fr H.fr) HR1.out) ?_;clear H;rintro e w1 ⟨p4,c4,rfl,hF,hL⟩ H;have HL4:=hid hL;have HL5:=hid (HL3.out.fr hF);clear hL);rw[zg,zg]at HL4 ⊢;simp only[Int.not_lt,Int.not_le]at*;revert H;refine W10 ?_;intro H _ _ _ _;revert H;refine W10 ?_;intro H;(refine x_c H (zM (!nb) (zd (val la/val lb+1)) rfl HL5.out) ?_;clear H;rintro e w1 ⟨p6,c6,rfl,hF,hL⟩ H;have HL6:=hid hL;clear hL;have HR1:=hid ((HL4.out).fr hF));simp only[Int.not_lt,Int.not_le]at*;revert H;refine W10 ?_;intro H _ _;(refine x_c H (zM false (zd (val lb-val la%val lb)) rfl HR1.out) ?_;clear H;rintro e w1 ⟨p7,c7,rfl,hF,hL⟩ H;have HL7:=hid hL;clear hL;have HL8:=hid (HL6.out.fr hF));simp only[Int.not_lt,Int.not_le]at*;revert H;refine W13 ?_;intro _ hk2 _ w1 H hk4 hfk;refine zft H rfl rfl rfl rfl rfl rfl ?_
   have e1:zv (!nb) (zd (val la/val lb+1))=zv true la/zv nb lb:=(by rw[zan,zan,zan,zg];have e:=(zht (nb:=nb) (A:=val la) Hb.out Hr.out).1.symm;cases nb<;>exact e);have e2:zv false (zd (val lb-val la%val lb))=zv true la%zv nb lb:=(by rw[zan,zan,zan,zg];exact(zht (nb:=nb) (A:=val la) Hb.out Hr.out).2.symm);rw[e1]at HL8;rw[e2]at HL7;refine⟨_,_,rfl,H.fr,⟨p6,c6,by rw[e1],hk4.out _ _ _ HL8.out⟩,⟨p7,c7,by rw[e2],hk4.out _ _ _ HL7.out⟩⟩
end
end Go.Proofs.YtaijhllckmndhaaGreatDoor
