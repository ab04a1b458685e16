import Derived.Test.YtaijhllckmndhaaGreatDoorYJ0
import Derived.Test.YtaijhllckmndhaaGreatDoorYJ48
import Derived.Test.YtaijhllckmndhaaGreatDoorYJ46
import Derived.Test.YtaijhllckmndhaaGreatDoorYJ47
import Derived.Test.YtaijhllckmndhaaGreatDoorYJ27
import Derived.Test.YtaijhllckmndhaaGreatDoorYJ23
import Derived.Test.YtaijhllckmndhaaGreatDoorYJ33
import Derived.Test.YtaijhllckmndhaaGreatDoorYJ28
namespace Go.Proofs.YtaijhllckmndhaaGreatDoor
set_option linter.all false
set_option maxHeartbeats 64000000
set_option maxRecDepth 100000
section
open Go.RowKit
attribute [local irreducible] wpList Code.wp Plan.wp zat zal pre zN
def zul{S:List En}(hs:S.Pairwise ltE){j k:Nat}{x:En}(h1:pre S j≤k)(h2:k<pre S (j+1))(hx:S[k]? =some x):x.2.1=j:=by
 obtain⟨q,hq,hqc,_⟩:=zeO hs hx;have h3:=zbS S x.2.1
 rcases Nat.lt_trichotomy x.2.1 j with h|h|h
 ·have:=zeW S (show x.2.1+1≤j by omega)
  omega
 ·exact h
 ·have:=zeW S (show j+1≤x.2.1 by omega)
  omega
def zjL(w:World){rows cols N:Nat}{S:List En}{p1 p2 p3:Option Addr}{c1 c2 c3:Nat}(h:MatIn rows cols N S (S.map (·.2.2)) p1 p2 p3 c2 c3 w):
 Calls Tryz.prog 135 #[.agg #[iV rows,iV cols, .slice p1 (cols+1) c1, .slice p2 N c2, .slice p3 N c3]] w fun e w'=>∃v,e= .returned v∧Fr [] w w'∧w'.ownsRow w.heap.size 75 3 v N (S.flatMap eC):=by
 obtain⟨ga,rfl⟩:=h.hR1.some yg;have hc2:=h.hc2;have hN2:=h.hN2;have HR1:=hid h.hR1;have HR2:=hid h.hR2;have HR3:=hid h.hR3;have HN:=hid h.hN;have HS:=hid h.hs;have HB:=hid h.hb;clear h;have H:=(Hp.start [] w).newRow 2 (e:=75) (sz:=3);unfold iV
 go_enter Tryz.func135,Tryz.ntmps135
 revert H;refine W74 ?_;intro _ g0 w1 hg H hf _ _
 go_loopw [3,8] (fun s3 s8 wr=>∃(j n:Nat) (p:Option Addr) (c:Nat) (S0:List Nat) (cs:List Value),s3= .slice p n c∧s8= .int .i64 (j:Int)∧j≤cols∧n≤N∧Hid (pre S j=n)∧Hid (cs=(S.take n).flatMap eC)∧Hp [] w wr [.blk g0 [.int .i64 (rows:Int), .int .i64 (cols:Int), .slice (some ⟨ga,0,none⟩) (cols+1) c1, .slice p2 N c2, .slice p3 N c3] 28, .obj 2 S0 (RowAt 75 3 (.slice p n c) n cs S0)]) (fun _ v _=>cols-(intOf v).toNat)
 case atStart=>exact⟨0,0,none,0,[],[],rfl,rfl,Nat.zero_le _,Nat.zero_le _,hid (zgl S),hid rfl,H.arr ye⟩
 case round=>
  clear H;obtain⟨j,n,p,c,S0,cs,rfl,rfl,hj,hn,HP,HC,H⟩:=hrel
  by_cases hlt:j<cols
  ·have hple:=zd6 S (j+1);have hmono:=zeW S (show j≤j+1 by omega);rw[HN.out]at hple;rw[HP.out]at hmono;obtain⟨Bn,hBn⟩:∃Bn,pre S (j+1)=Bn:=⟨_,rfl⟩;rw[hBn]at hple hmono;have HBN:=hid hBn;have hs1:=hid (HR1.out.at (show _=some (.int .i64 (n:Int)) by rw[←HP.out];exact zbJ yb));have hs2:=hid (HR1.out.at (show _=some (.int .i64 (Bn:Int)) by rw[←hBn];exact zbJ yb));have HJ1:=hid (show(j:Int)+1=((j+1:Nat):Int) by omega);clear hBn;revert H;refine W77 ?_;intro H _ _ _
   go_loopw [3,5] (fun s3 s5 wr=>∃(k:Nat) (p:Option Addr) (c:Nat) (S0:List Nat) (cs:List Value),s3= .slice p k c∧s5= .int .i64 (k:Int)∧n≤k∧k≤Bn∧Hid (cs=(S.take k).flatMap eC)∧Hp [] w wr [.blk g0 [.int .i64 (rows:Int), .int .i64 (cols:Int), .slice (some ⟨ga,0,none⟩) (cols+1) c1, .slice p2 N c2, .slice p3 N c3] 28, .obj 2 S0 (RowAt 75 3 (.slice p k c) k cs S0)]) (fun _ v _=>Bn-(intOf v).toNat)
   case atStart=>exact⟨n,p,c,S0,cs,rfl,rfl,Nat.le_refl _,hmono,HC,H.arr ye⟩
   case round=>
    clear H HC;obtain⟨k,p,c,S0,cs,rfl,rfl,hnk,hkB,HC,H⟩:=hrel
    by_cases hlt2:k<Bn
    ·obtain⟨⟨xi,xj,xv⟩,hx⟩:∃x,S[k]? =some x:=⟨_,List.getElem?_eq_getElem yV⟩;obtain rfl:xj=j:=zul HS.out (by rw[HP.out];exact hnk) (by rw[HBN.out];exact hlt2) hx;obtain⟨g2',rfl⟩:=HR2.out.some yD;obtain⟨g3',rfl⟩:=HR3.out.some yD;have HX2:=hid (HR2.out.at (show((S.map (·.1)).map iV)[k]? =some (.int .i64 (xi:Int)) by rw[List.getElem?_map,List.getElem?_map,hx];rfl));have HX3:=hid (HR3.out.at (show((S.map (·.2.2)).map uV)[k]? =some (.int .u64 (xv:Int)) by rw[List.getElem?_map,List.getElem?_map,hx];rfl));have HC2:=hid (show cs++eC (xi,xj,xv)=(S.take (k+1)).flatMap eC by rw[zb7 hx,List.flatMap_append,HC.out];simp);clear hx;revert H;refine W78 ?_;intro H _ _ _
     (revert H;refine w_p 16 (.st 0 (.st 1 (.st 2 (.st 3 (.st 4 (.st 5 (.st 6 (.st 7 (.st 8 (.st 9 (.st 10 (.st 11 (.st 12 (.ld 13 (.ld 14 (.st 15 .done)))))))))))))))) ?_ (hs:=(.cons_cons _ (List.nil_sublist _)));intro w1 H)
     iterate 4 refine p_q ?_
     (refine p_e rfl (fun w H=>zY k k rfl rfl rfl (hid rfl)) ?_);(refine p_e rfl (fun w H=>zaz rfl rfl (H.fr.cell HX2.out yg)) ?_)
     iterate 4 refine p_q ?_
     (refine p_e rfl (fun w H=>zY k k rfl rfl rfl (hid rfl)) ?_);(refine p_e rfl (fun w H=>zaz rfl rfl (H.fr.cell HX3.out yg)) ?_);refine p_q ?_
     (revert H;refine p_g ?_;intro gi w1 hg hf H;(first|replace hf:=hf.kp|clear hf))
     (go_loud (refine zag rfl rfl (fun K hK=>zaN H rfl rfl rfl 2 (H.rd (b:=gi) (off:=0) (vs:=eC (xi,xj,xv)) List.prefix_rfl) rfl (by simp[Value.oneCell',eC]) yb yk (fun p2' c2' w1 S2' hf H1=>hK _ _ (fun hne=>by first|exact absurd rfl hne|exact trivial|exact H1.sub yd) ?_)));(clear hK K);(clear H;have H:=H1;clear H1;(try dsimp only at H);(first|replace hf:=hf.kp|clear hf));(simp only[nrm,↓reduceIte,Nat.reduceAdd]))
     refine p_q ?_;(refine zf ?_)
     all_goals
      revert H;refine W74 ?_;intro H
      go_roundw
      case rel=>exact⟨k+1,p2',c2',S2',_,rfl,rfl,by omega,hlt2,HC2,H.arr ye⟩
      case measure=>(simp[intOf];try omega)
    ·obtain rfl:k=Bn:=by omega
     revert H;refine W79 ?_;intro H _ _ _
     go_roundw
     case rel=>exact⟨j+1,k,p,c,S0,cs,rfl,rfl,by omega,hple,HBN,HC,H.arr ye⟩
     case measure=>(simp[intOf];try omega)
  ·obtain rfl:j=cols:=by omega
   have hnN:n=N:=by rw[←HP.out,zlx (fun x hx=>(HB.out x hx).2),HN.out]
   have HE:=hid (show cs=S.flatMap eC by rw[HC.out,hnN,←HN.out,List.take_length]);have HNN:=hid hnN;clear hnN HP HC;revert H;refine W74 ?_;intro H _ _ _
   go_ret
   have hr:=H.rowo 2;rw[HE.out]at hr;have he:=HNN.out;subst he;exact⟨_,rfl,H.fr,hr.owns (fun x hx=>(H.home 2 x hx).resolve_left yg)⟩
def zi6(w:World){rows cols N:Nat}{S:List En}{p1 p2 p3:Option Addr}{c1 c2 c3:Nat}(h:MatIn rows cols N S (S.map (·.2.2)) p1 p2 p3 c2 c3 w):
 Calls Tryz.prog 90 #[.agg #[iV rows,iV cols, .slice p1 (cols+1) c1, .slice p2 N c2, .slice p3 N c3]] w fun e w'=>∃v,e= .returned v∧Fr [] w w'∧w'.ownsRow w.heap.size 75 3 v N (S.flatMap eC):=by
 have HM:=hid h;clear h;have H:=Hp.start [] w;unfold iV
 go_enter Tryz.func90,Tryz.ntmps90
 revert H;refine W74 ?_;intro _ g0 w1 hg H hf _ _ _ _ _ _;(refine xA H (zdM _ (HM.out.fr H.fr)) ?_;clear H;intro w1 H);simp only[Int.not_lt,Int.not_le]at*;revert H;refine W74 ?_;intro H _ _ _ _;refine Calls.mono (zjL _ (HM.out.fr H.fr)) ?_;rintro e w1 ⟨v,rfl,hF,hown⟩;obtain⟨S0,H1⟩:=H.rowNew 2 hF hown;clear H hF hown;have H:=H1;clear H1;obtain⟨p0,c0,rfl,_⟩:=(H.rowo 2).form;simp only[Int.not_lt,Int.not_le]at*;revert H;refine W74 ?_;intro H
 go_ret
 exact⟨_,rfl,H.fr,(H.rowo 2).owns (fun x hx=>(H.home 2 x hx).resolve_left yg)⟩
end
section
open Go.RowKit
attribute [local irreducible] wpList Code.wp Plan.wp zat zal pre zN
def zoc(S:List En):zaf 0 S=S:=by
 unfold zaf;exact List.filter_eq_self.2 (fun x _=>by simp[may])
def zoR{S:List En}(hs:S.Pairwise ltE){i j v N:Nat}(hN:S.length=N)(h:((j,i,v):En)∈S):∃q k,S[q]? =some (j,i,v)∧q<N∧q=pre S i+k∧k<zN S i∧(((S.drop (pre S i)).take (zN S i)).map (·.1))[k]? =some j:=by
 obtain⟨q,hq⟩:=List.getElem?_of_mem h;obtain⟨k,h1,h2,h3⟩:=zeO hs hq;refine⟨q,k,hq,?_,h1,h2,?_⟩
 ·rw[←hN];exact(List.getElem?_eq_some_iff.1 hq).1
 ·rw[List.getElem?_map,h3];rfl
def zfH(w:World){rows cols N sym:Nat}{S:List En}{p1 p2 p3:Option Addr}{c1 c2 c3:Nat}(h:MatIn rows cols N S (S.map (·.2.2)) p1 p2 p3 c2 c3 w)(hs2:sym≤2)(hsq:sym=0∨rows=cols)(hsy:zgG sym S):
 Calls Tryz.prog 43 #[.agg #[iV rows,iV cols, .slice p1 (cols+1) c1, .slice p2 N c2, .slice p3 N c3], .int .i64 (sym:Int)] w fun e w'=>∃v,e= .returned (.tuple #[v, .bool true])∧Fr [] w w'∧w'.ownsRow w.heap.size 75 3 v (zaf sym S).length ((zaf sym S).flatMap eC):=by
 obtain⟨ga,rfl⟩:=h.hR1.some yg;have hc2:=h.hc2;have hN2:=h.hN2;have hNc:=h.hNc;have HM:=hid h;have HR1:=hid h.hR1;have HR2:=hid h.hR2;have HR3:=hid h.hR3;have HN:=hid h.hN;have HS:=hid h.hs;have HB:=hid h.hb;have HV:=hid (fun(x:En) (hx:x∈S)=>h.hv x.2.2 (List.mem_map.2 ⟨x,hx,rfl⟩));clear h;have H:=(Hp.start [] w).newRow 2 (e:=75) (sz:=3);unfold iV at HM ⊢
 go_enter Tryz.func43,Tryz.ntmps43
 revert H;refine W74 ?_;intro _ g0 w1 hg H hf _ _ _ _;refine Calls.mono (zi6 _ (HM.out.fr H.fr)) ?_;rintro e w1 ⟨v,rfl,hF,hown⟩;obtain⟨Ss,H1⟩:=H.rowNew 1 hF hown;clear H hF hown;have H:=H1;clear H1;obtain⟨p0,c0,rfl,_⟩:=(H.rowo 1).form
 by_cases hs0:sym=0
 ·subst hs0;have HW:=hid (zoc S);clear hsy hsq;simp only[Int.not_lt,Int.not_le]at*;revert H;refine W74 ?_;intro H _ _
  go_ret2
  have hr:=H.rowo 1;rw[HW.out,HN.out];exact⟨_,rfl,H.fr,hr.owns (fun x hx=>(H.home 1 x hx).resolve_left yg)⟩
 obtain rfl:cols=rows:=(hsq.resolve_left hs0).symm;have HSY:=hid (hsy.resolve_left hs0);have hs0':¬(sym:Int)=0:=by omega
 clear hsy hsq hs0;simp only[Int.not_lt,Int.not_le]at*;revert H;refine W74 ?_;intro H _ _
 go_loopw [7,25] (fun s7 s25 wr=>∃(k n:Nat) (p:Option Addr) (c:Nat) (S0:List Nat) (cs:List Value),s7= .slice p n c∧s25= .int .i64 (k:Int)∧k≤N∧n≤k∧Hid ((zaf sym (S.take k)).length=n)∧Hid (cs=(zaf sym (S.take k)).flatMap eC)∧Hp [] w wr [.obj 1 Ss (RowAt 75 3 (.slice p0 N c0) N (S.flatMap eC) Ss), .obj 2 S0 (RowAt 75 3 (.slice p n c) n cs S0), .blk g0 [.int .i64 (cols:Int), .int .i64 (cols:Int), .slice (some ⟨ga,0,none⟩) (cols+1) c1, .slice p2 N c2, .slice p3 N c3] 28]) (fun _ v _=>N-(intOf v).toNat)
 case atStart=>exact⟨0,0,none,0,[],[],rfl,rfl,Nat.zero_le _,Nat.zero_le _,hid rfl,hid rfl,H.arr ye⟩
 case round=>
  clear H;obtain⟨k,n,p,c,S0,cs,rfl,rfl,hk,hnk,HL,HC,H⟩:=hrel
  by_cases hlt:k<N
  ·obtain⟨⟨xi,xj,xv⟩,hx⟩:∃x,S[k]? =some x:=⟨_,List.getElem?_eq_getElem yT⟩;have hmem:=List.mem_of_getElem? hx;have hbx:=HB.out _ hmem;have hvx:=HV.out _ hmem;have hwant:=HSY.out _ hmem;obtain⟨wv,hwv⟩:∃wv,(if sym=2 then zbV xv else xv)=wv:=⟨_,rfl⟩;have hwant':((xj,xi,wv):En)∈S:=by rw[←hwv];exact hwant
   simp only at hbx hvx;have hv64:=hvx.1;have HK3:=zjY hvx.2;have hxi:=hbx.1;have hxj:=hbx.2;obtain⟨q,kx,hq,hqN,hqe,hkC,hkx⟩:=zoR HS.out HN.out hwant';obtain⟨A,hA⟩:∃A,pre S xi=A:=⟨_,rfl⟩;obtain⟨C,hC⟩:∃C,zN S xi=C:=⟨_,rfl⟩;obtain⟨Bn,hBn⟩:∃Bn,pre S (xi+1)=Bn:=⟨_,rfl⟩;have hpn:=zbS S xi;have hple:=zd6 S (xi+1);have hs1:=hid (HR1.out.at (show _=some (.int .i64 (A:Int)) by rw[←hA];exact zbJ yb));have hs2':=hid (HR1.out.at (show _=some (.int .i64 (Bn:Int)) by rw[←hBn];exact zbJ yb));have hrows:=zcX HS.out xi;rw[hA,hC]at hrows hkx hpn;rw[hBn]at hpn hple;rw[hA]at hqe;rw[hC]at hkC;rw[HN.out]at hple;obtain⟨g2',rfl⟩:=HR2.out.some yD;obtain⟨g3',rfl⟩:=HR3.out.some yD;have hvc:=hid (HR3.out.at (show((S.map (·.2.2)).map uV)[q]? =some (.int .u64 (wv:Int)) by rw[List.getElem?_map,List.getElem?_map,hq];rfl))
   have hlen:(((S.drop A).take C).map (·.1)).length=C:=by rw[List.length_map,List.length_take,List.length_drop,HN.out];omega
   have HLEN:=hid hlen;have HROW:=hid hrows;have HKX:=hid hkx;have HPN:=hid hpn;have hC10:C≤10000:=by omega
   have hA10:A≤10000:=by omega
   have HJ1:=hid (show(xi:Int)+1=((xi+1:Nat):Int) by omega);have HQ1:=hid (show(A:Int)+(kx:Int)=(q:Int) by rw[hqe];omega)
   have HCE:=hid (fun(z x:Nat) (hz:(((S.drop A).take C).map (·.1))[z]? =some x)=>show w.cell? ⟨g2',A+z,none⟩=some (iV x)from by
    have hzl:=(List.getElem?_eq_some_iff.1 hz).1;rw[hlen]at hzl;rw[List.getElem?_map,List.getElem?_take_of_lt yb,List.getElem?_drop]at hz;obtain⟨y,hy,rfl⟩:=Option.map_eq_some_iff.1 hz
    exact HR2.out.at (by rw[List.getElem?_map,List.getElem?_map,hy];rfl))
   have hpre:[.int .i64 (xi:Int), .int .i64 (xj:Int), .int .u64 (xv:Int)]<+:(S.flatMap eC).drop (k*3):=zdu hx;have HT1:=hid (zb7 hx);obtain⟨gs,cs0,hvs,rfl⟩:=(H.rowo 1).some yb
   cases hvs
   obtain⟨mb,hmb⟩:∃mb,may sym xi xj=mb:=⟨_,rfl⟩;have HMB:=hid hmb
   have HWN:Hid ((zaf sym (S.take (k+1)))=zaf sym (S.take k)++if mb=true then [(xi,xj,xv)]else []):=hid (by
    rw[HT1.out];unfold zaf;rw[List.filter_append]
    congr 1
    simp only[List.filter_cons,List.filter_nil,hmb])
   clear hx hmem hbx hvx hwant hwant' hq hqe hkx hrows hpn hlen hA hC hBn hmb;have hxr:xi<cols+1:=by omega
   by_cases hsk:sym=2
   ·have hs2a:2≤sym:=by omega
    have HWV:=hid (show zbV xv=wv by rw[←hwv,if_pos hsk]);clear hwv hsk;revert H;refine W80 ?_;intro _ _ _ g1 _ hg hf w1 H _ _ _ _;(refine xA H (zjs _ hv64 (hid rfl) HK3 HWV) ?_;clear H;intro w1 H);simp only[Int.not_lt,Int.not_le]at*;revert H;refine W74 ?_;intro H _ _
    (revert H;refine w_p 24 (.st 0 (.st 1 (.st 2 (.st 3 (.st 4 (.st 5 (.st 6 (.st 7 (.st 8 (.st 9 (.st 10 (.st 11 (.st 12 (.st 13 (.st 14 (.st 15 (.st 16 (.st 17 (.ld 18 (.st 19 (.st 20 (.st 21 (.st 22 (.st 23 .done)))))))))))))))))))))))) ?_;intro w1 H)
    iterate 6 refine p_q ?_
    (refine p_e rfl (fun w H=>zY xi xi rfl rfl rfl (hid rfl)) ?_);(refine p_e rfl (fun w H=>zaz rfl rfl (H.fr.cell hs1.out yg)) ?_)
    iterate 5 refine p_q ?_
    (refine p_e rfl (fun w H=>zY (xi+1) (xi+1) rfl rfl rfl HJ1) ?_);(refine p_e rfl (fun w H=>zaz rfl rfl (H.fr.cell hs2'.out yg)) ?_);(refine p_e rfl (fun w H=>zgT rfl rfl rfl rfl C yL yb yL) ?_)
    iterate 2 refine p_q ?_
    ((refine p_c H rfl rfl Tryz.func91 (zcY _ (((S.drop A).take C).map (·.1)) HLEN.out yb HROW.out (fun z x hz=>H.fr.cell (HCE.out z x hz) yg) HKX.out) ?_;clear H;rintro e w1 ⟨rfl,hF⟩ H;refine p_r ?_;clear hF))
    iterate 5 refine p_q ?_
    (refine zf ?_);revert H;refine W74 ?_;intro H _ _ _ _
    (revert H;refine w_p 18 (.st 0 (.st 1 (.st 2 (.st 3 (.st 4 (.st 5 (.st 6 (.st 7 (.st 8 (.st 9 (.st 10 (.st 11 (.st 12 (.st 13 (.st 14 (.st 15 (.st 16 (.st 17 .done)))))))))))))))))) ?_;intro w1 H)
    iterate 3 refine p_q ?_
    iterate 6 (first|refine p_q ?_|refine p_n ?_)
    (first|refine p_e rfl (fun w H=>zY xi xi rfl rfl rfl (hid rfl)) ?_|refine p_n ?_)
    (first|refine p_e rfl (fun w H=>zaz rfl rfl (H.fr.cell hs1.out yg)) ?_|refine p_n ?_)
    iterate 2 (first|refine p_q ?_|refine p_n ?_)
    (first|refine p_e rfl (fun w H=>zY q q rfl rfl rfl HQ1) ?_|refine p_n ?_)
    (first|refine p_e rfl (fun w H=>zaz rfl rfl (H.fr.cell hvc.out yg)) ?_|refine p_n ?_)
    (first|refine p_q ?_|refine p_n ?_)
    (first|refine p_e rfl (fun w H=>zbM rfl rfl rfl rfl yZ) ?_|refine p_n ?_)
    refine p_q ?_;(refine zf ?_);revert H;refine W74 ?_;intro H _ _ _ _;(refine xA H (zbW _ _ xi xj yb HMB) ?_;clear H;intro w1 H)
    cases mb with
    | true=>
     have HL2:=hid (show(zaf sym (S.take (k+1))).length=n+1 by rw[HWN.out,if_pos rfl,List.length_append,HL.out];rfl);have HC2:=hid (show cs++eC (xi,xj,xv)=(zaf sym (S.take (k+1))).flatMap eC by rw[HWN.out,if_pos rfl,List.flatMap_append,HC.out];simp);clear HL HC HWN;simp only[Int.not_lt,Int.not_le]at*;revert H;refine W81 ?_;intro g2 _ hg hf p1 c1 w1 S' H
     go_roundw
     case rel=>exact⟨k+1,n+1,_,_,S',_,rfl,rfl,hlt,by omega,HL2,HC2,H.arr ye⟩
     case measure=>(simp[intOf];try omega)
    | false=>
     have HL2:=hid (show(zaf sym (S.take (k+1))).length=n by rw[HWN.out,if_neg yf,List.append_nil,HL.out]);have HC2:=hid (show cs=(zaf sym (S.take (k+1))).flatMap eC by rw[HWN.out,if_neg yf,List.append_nil,HC.out]);clear HL HC HWN;simp only[Int.not_lt,Int.not_le]at*;revert H;refine W74 ?_;intro H
     go_roundw
     case rel=>exact⟨k+1,n,p,c,S0,cs,rfl,rfl,hlt,by omega,HL2,HC2,H.arr ye⟩
     case measure=>(simp[intOf];try omega)
   ·have hsk2:¬(sym:Int)=2:=by omega
    obtain rfl:xv=wv:=by rw[←hwv,if_neg hsk]
    clear hwv hsk;revert H;refine W80 ?_;intro _ _ _ g1 _ hg hf w1 H _ _
    (revert H;refine w_p 24 (.st 0 (.st 1 (.st 2 (.st 3 (.st 4 (.st 5 (.st 6 (.st 7 (.st 8 (.st 9 (.st 10 (.st 11 (.st 12 (.st 13 (.st 14 (.st 15 (.st 16 (.st 17 (.ld 18 (.st 19 (.st 20 (.st 21 (.st 22 (.st 23 .done)))))))))))))))))))))))) ?_;intro w1 H)
    iterate 6 refine p_q ?_
    (refine p_e rfl (fun w H=>zY xi xi rfl rfl rfl (hid rfl)) ?_);(refine p_e rfl (fun w H=>zaz rfl rfl (H.fr.cell hs1.out yg)) ?_)
    iterate 5 refine p_q ?_
    (refine p_e rfl (fun w H=>zY (xi+1) (xi+1) rfl rfl rfl HJ1) ?_);(refine p_e rfl (fun w H=>zaz rfl rfl (H.fr.cell hs2'.out yg)) ?_);(refine p_e rfl (fun w H=>zgT rfl rfl rfl rfl C yL yb yL) ?_)
    iterate 2 refine p_q ?_
    ((refine p_c H rfl rfl Tryz.func91 (zcY _ (((S.drop A).take C).map (·.1)) HLEN.out yb HROW.out (fun z x hz=>H.fr.cell (HCE.out z x hz) yg) HKX.out) ?_;clear H;rintro e w1 ⟨rfl,hF⟩ H;refine p_r ?_;clear hF))
    iterate 5 refine p_q ?_
    (refine zf ?_);revert H;refine W74 ?_;intro H _ _ _ _
    (revert H;refine w_p 18 (.st 0 (.st 1 (.st 2 (.st 3 (.st 4 (.st 5 (.st 6 (.st 7 (.st 8 (.st 9 (.st 10 (.st 11 (.st 12 (.st 13 (.st 14 (.st 15 (.st 16 (.st 17 .done)))))))))))))))))) ?_;intro w1 H)
    iterate 3 refine p_q ?_
    iterate 6 (first|refine p_q ?_|refine p_n ?_)
    (first|refine p_e rfl (fun w H=>zY xi xi rfl rfl rfl (hid rfl)) ?_|refine p_n ?_)
    (first|refine p_e rfl (fun w H=>zaz rfl rfl (H.fr.cell hs1.out yg)) ?_|refine p_n ?_)
    iterate 2 (first|refine p_q ?_|refine p_n ?_)
    (first|refine p_e rfl (fun w H=>zY q q rfl rfl rfl HQ1) ?_|refine p_n ?_)
    (first|refine p_e rfl (fun w H=>zaz rfl rfl (H.fr.cell hvc.out yg)) ?_|refine p_n ?_)
    (first|refine p_q ?_|refine p_n ?_)
    (first|refine p_e rfl (fun w H=>zbM rfl rfl rfl rfl yZ) ?_|refine p_n ?_)
    refine p_q ?_;(refine zf ?_);revert H;refine W74 ?_;intro H _ _ _ _;(refine xA H (zbW _ _ xi xj yb HMB) ?_;clear H;intro w1 H)
    cases mb with
    | true=>
     have HL2:=hid (show(zaf sym (S.take (k+1))).length=n+1 by rw[HWN.out,if_pos rfl,List.length_append,HL.out];rfl);have HC2:=hid (show cs++eC (xi,xj,xv)=(zaf sym (S.take (k+1))).flatMap eC by rw[HWN.out,if_pos rfl,List.flatMap_append,HC.out];simp);clear HL HC HWN;simp only[Int.not_lt,Int.not_le]at*;revert H;refine W81 ?_;intro g2 _ hg hf p1 c1 w1 S' H
     go_roundw
     case rel=>exact⟨k+1,n+1,_,_,S',_,rfl,rfl,hlt,by omega,HL2,HC2,H.arr ye⟩
     case measure=>(simp[intOf];try omega)
    | false=>
     have HL2:=hid (show(zaf sym (S.take (k+1))).length=n by rw[HWN.out,if_neg yf,List.append_nil,HL.out]);have HC2:=hid (show cs=(zaf sym (S.take (k+1))).flatMap eC by rw[HWN.out,if_neg yf,List.append_nil,HC.out]);clear HL HC HWN;simp only[Int.not_lt,Int.not_le]at*;revert H;refine W74 ?_;intro H
     go_roundw
     case rel=>exact⟨k+1,n,p,c,S0,cs,rfl,rfl,hlt,by omega,HL2,HC2,H.arr ye⟩
     case measure=>(simp[intOf];try omega)
  ·obtain rfl:k=N:=by omega
   have HE:=hid (show(zaf sym S).length=n∧cs=(zaf sym S).flatMap eC by
    have h1:=HL.out;have h2:=HC.out;rw[List.take_of_length_le (by rw[HN.out];exact Nat.le_refl _)]at h1 h2
    exact⟨h1,h2⟩)
   clear HL HC;revert H;refine W74 ?_;intro H _ _ _
   go_ret2
   have hr:=H.rowo 2;rw[HE.out.2]at hr;rw[HE.out.1];exact⟨_,rfl,H.fr,hr.owns (fun x hx=>(H.home 2 x hx).resolve_left yg)⟩
end
section
variable {field v n c:Nat} {p:Option Addr}
open Go.RowKit
attribute [local irreducible] wpList Code.wp Plan.wp zat zal pre zN
def zii(w:World)(v0 v1 v2 v3 v4:Value)(arr:Bool)(field sym:Nat)(hf:field≤2)(hs:sym≤2)(ha:¬(arr=true∧field=2)):
 Calls Tryz.prog 42 #[.agg ([v0,v1,v2,v3,v4, .bool arr, .int .i64 (field:Int), .int .i64 (sym:Int)]).toArray] w fun e w'=>e= .returned (.bool true)∧Fr [] w w':=by
 have H:=Hp.start [] w
 cases arr with
 | false=>
  clear ha
  go_enter Tryz.func42,Tryz.ntmps42
  revert H;refine W74 ?_;intro g0 w1 hg H hf
  go_ret
  exact⟨rfl,H.fr⟩
 | true=>
  have h2:field≠2:=fun e=>ha ⟨rfl,e⟩
  clear ha
  go_enter Tryz.func42,Tryz.ntmps42
  revert H;refine W74 ?_;intro g0 w1 hg H hf
  go_ret
  exact⟨rfl,H.fr⟩
def zk2(w:World)(v0 v1 v2 v3 v4:Value)(arr:Bool)(field sym m n:Nat)(hs:sym≤2)(hm:m≤200)(hn:n≤200){z:Nat}(hz:Hid (zV sym m n=z)):
 Calls Tryz.prog 44 #[.agg ([v0,v1,v2,v3,v4, .bool arr, .int .i64 (field:Int), .int .i64 (sym:Int)]).toArray, .int .i64 (m:Int), .int .i64 (n:Int)] w fun e w'=>e= .returned (.int .i64 (z:Int))∧Fr [] w w':=by
 have H:=Hp.start [] w;have k1:m*(m+1)≤200*201:=Nat.mul_le_mul hm yb;have k2:m*n≤200*200:=Nat.mul_le_mul hm hn;have k3:m*(m-1)≤200*200:=Nat.mul_le_mul hm yb
 rcases(show sym=0∨sym=1∨sym=2 by omega)with rfl|rfl|rfl
 ·have e1:(m:Int)*(n:Int)=((m*n:Nat):Int):=by rw[Int.natCast_mul]
  have i1:inr .i64 ((m:Int)*(n:Int)):=by rw[e1];simp only[inr];omega
  have E1:=hid e1;clear e1 k1 k2 k3
  go_enter Tryz.func44,Tryz.ntmps44
  revert H;refine W82 ?_;intro g0 w1 hg H hf
  go_ret
  refine⟨?_,H.fr⟩;rw[E1.out,←hz.out]
  rfl
 ·have e1:(m:Int)*((m:Int)+1)=((m*(m+1):Nat):Int):=by rw[Int.natCast_mul];rfl
  have i1:inr .i64 ((m:Int)*((m:Int)+1)):=by rw[e1];simp only[inr];omega
  have e2:((m:Int)*((m:Int)+1)).tdiv 2=((m*(m+1)/2:Nat):Int):=by rw[e1,Int.tdiv_eq_ediv_of_nonneg yb];omega
  have E2:=hid e2;have KW:=hid (show -9223372036854775808≤((m*(m+1)/2:Nat):Int)∧((m*(m+1)/2:Nat):Int)≤9223372036854775807 from⟨by omega,by omega⟩);clear e1 e2 k1 k2 k3
  go_enter Tryz.func44,Tryz.ntmps44
  revert H;refine W82 ?_;intro _ g0 w1 hg H hf _ _
  go_ret
  refine⟨?_,H.fr⟩;rw[←hz.out];exact congrArg (fun z=>Ending.returned (.int .i64 z)) ((congrArg wrap64 E2.out).trans ((zdR KW.out).trans rfl))
 ·have e0:(m:Int)*((m:Int)-1)=((m*(m-1):Nat):Int):=by
   rcases Nat.eq_zero_or_pos m with h0|h0
   ·subst h0;rfl
   ·rw[Int.natCast_mul];congr 1;omega
  have i1:inr .i64 ((m:Int)*((m:Int)-1)):=by rw[e0];simp only[inr];omega
  have e2:((m:Int)*((m:Int)-1)).tdiv 2=((m*(m-1)/2:Nat):Int):=by rw[e0,Int.tdiv_eq_ediv_of_nonneg yb];omega
  have E2:=hid e2;have KW:=hid (show -9223372036854775808≤((m*(m-1)/2:Nat):Int)∧((m*(m-1)/2:Nat):Int)≤9223372036854775807 from⟨by omega,by omega⟩);clear e0 e2 k1 k2 k3
  go_enter Tryz.func44,Tryz.ntmps44
  revert H;refine W82 ?_;intro _ g0 w1 hg H hf _ _
  go_ret
  refine⟨?_,H.fr⟩;rw[←hz.out];exact congrArg (fun z=>Ending.returned (.int .i64 z)) ((congrArg wrap64 E2.out).trans ((zdR KW.out).trans rfl))
def zeA(field v:Nat):Prop:=zS v=true∧v<18446744073709551616∧(field=2→v=4607182418800017408)∧(field=1→∃Z,zfy v Z∧zai 1 (fmt Z)=some v∧v≠9223372036854775808∧Z.natAbs<2^1024)
def zrn(w:World)(hf:field≤2)(h:zeA field v)(hT:La w):
 Calls Tryz.prog 47 #[.int .u64 (v:Int), .int .i64 (field:Int)] w fun r w'=>r= .returned (.bool true)∧Fr [] w w':=by
 rcases(show field=0∨field=1∨field=2 by omega)with e|e|e
 ·subst e;exact zpL w v
 ·subst e;obtain⟨Z,h1,h2,h3,h4⟩:=h.2.2.2 rfl;exact zoX w h.2.1 h.1 h1 h3 hT
 ·subst e;exact zn1 w v (h.2.2.1 rfl)
def zkD(w:World)(hf:field≤1)(h:zeA field v)(hT:La w):
 Calls Tryz.prog 49 #[.int .u64 (v:Int), .int .i64 (field:Int)] w fun r w'=>∃l,r= .returned (ze l)∧Fr [] w w'∧zfq field v l:=by
 rcases(show field=0∨field=1 by omega)with e|e
 ·subst e;exact znt w h.2.1 h.1 hT
 ·subst e;obtain⟨Z,h1,h2,h3,h4⟩:=h.2.2.2 rfl;exact zod w h.2.1 h.1 h1 h2 h4 hT
def ztd{h:Hd}{m:Nat}{x:En}(h1:okE h.sym m n x)(h2:okV h x):zeA h.field x.2.2:=by
 refine⟨h1.2.2.2.1,h1.2.2.2.2,h2.1,fun e=>?_⟩;obtain⟨Z,g1,g2,g3,g4⟩:=zqP (by have:=h2.2 yb ;rwa [e]at this);exact⟨Z,g3,g1,g2,g4⟩
def znm(w:World){g0:Nat}(x:En)(hfd:field≤2)(hx:zeA field x.2.2)(hc:w.cell? ⟨g0,6,none⟩=some (.int .i64 (field:Int)))(hT:La w):
 Calls Tryz.prog 46 #[.agg (eC x).toArray, .pointer (some ⟨g0,0,none⟩)] w fun e w'=>e= .returned (.bool false)∧Fr [] w w':=by
 obtain⟨xi,xj,xv⟩:=x;have HX:=hid hx;have HC:=hid hc;have HT:=hid hT;have hv:=hx.2.1;simp only at hv;clear hx hc hT;have H:=Hp.start [] w;unfold eC
 go_enter Tryz.func46,Tryz.ntmps46
 simp only[Int.not_lt,Int.not_le]at*;revert H;refine W83 ?_;intro _ g1 w1 hg H hf _ _ _ _;(refine xA H (zrn _ hfd HX.out (HT.out.fr H.fr)) ?_;clear H;intro w1 H);simp only[Int.not_lt,Int.not_le]at*;revert H;refine W74 ?_;intro H
 go_ret
 exact⟨rfl,H.fr⟩
def zvT{P:Program}{a:Act}{w:World}{o:Oper}{t:TypeId}{x:Operand}(ho:o.op= .load t x){b p:Nat}(hx:a.eval x= .pointer (some ⟨b,p,none⟩))[s:Ro P t n]{vs:List Value}(hv:∀(j:Nat) u,vs[j]? =some u→w.cell? ⟨b,p+j,none⟩=some u)(hn:vs.length=n):(execOp a.eval o).run P w= .ok (.value (.agg vs.toArray)) w:=
 zdw ho hx (by rw[hn];exact s.h) hv
def zk3(w:World){g0:Nat}(E:List En)(hn:E.length=n)(hn2:n≤100000)(hfd:field≤2)(hE:∀x∈E,zeA field x.2.2)(hR:EntR w p E)(hc:w.cell? ⟨g0,6,none⟩=some (.int .i64 (field:Int)))(hT:La w):
 Calls Tryz.prog 93 #[.slice p n c, .func (.func 46) #[] #[.pointer (some ⟨g0,0,none⟩)]] w fun e w'=>e= .returned (.int .i64 (-1:Int))∧Fr [] w w':=by
 have HE:=hid hE;have HN:=hid hn;have HC:=hid hc;have HT:=hid hT;have HR:=hid hR;clear hE hn hc hT hR;have H:=Hp.start [] w
 go_enter Tryz.func93,Tryz.ntmps93
 revert H;refine W74 ?_;intro H _ _ _
 go_loopw [8] (fun s8 wr=>∃k:Nat,s8= .int .i64 (k:Int)∧k≤n∧Hp [] w wr []) (fun v _=>n-(intOf v).toNat)
 case atStart=>exact⟨0,rfl,Nat.zero_le _,H⟩
 case round=>
  clear H;obtain⟨k,rfl,hk,H⟩:=hrel
  by_cases hlt:k<n
  ·obtain⟨x,hx⟩:∃x,E[k]? =some x:=⟨_,List.getElem?_eq_getElem yT⟩;obtain⟨g,hg⟩:=HR.out.some hx;subst hg
   have HX:=hid (fun(j:Nat) (u:Value) (hj:(eC x)[j]? =some u)=>show w.cell? ⟨g,k*3+j,none⟩=some u from by
    have hj3:j<3:=(List.getElem?_eq_some_iff.1 hj).1;have h:=zbQ hx j hj3;rw[hj]at h;obtain⟨g',hg',hc'⟩:=HR.out _ _ h
    cases hg'
    exact hc')
   have HXV:=hid (HE.out x (List.mem_of_getElem? hx));clear hx;revert H;refine W84 ?_;intro H _ _ _ _ _ _ _;(refine xA H (znm _ x hfd HXV.out (H.fr.cell HC.out yg) (HT.out.fr H.fr)) ?_;clear H;intro w1 H);simp only[Int.not_lt,Int.not_le]at*;revert H;refine W74 ?_;intro H
   go_roundw
   case rel=>exact⟨k+1,congrArg (Value.int .i64) yb,hlt,H⟩
   case measure=>(simp[intOf];try omega)
  ·revert H;refine W74 ?_;intro H _ _ _
   go_ret
   exact⟨rfl,H.fr⟩
def zeh(w:World){g0:Nat}(E:List En)(hn:E.length=n)(hn2:n≤100000)(hfd:field≤2)(hE:∀x∈E,zeA field x.2.2)(hR:EntR w p E)(hc:w.cell? ⟨g0,6,none⟩=some (.int .i64 (field:Int)))(hT:La w):
 Calls Tryz.prog 45 #[.slice p n c, .func (.func 46) #[] #[.pointer (some ⟨g0,0,none⟩)]] w fun e w'=>e= .returned (.bool false)∧Fr [] w w':=by
 have HE:=hid hE;have HN:=hid hn;have HC:=hid hc;have HT:=hid hT;have HR:=hid hR;clear hE hn hc hT hR;have H:=Hp.start [] w
 go_enter Tryz.func45,Tryz.ntmps45
 revert H;refine W74 ?_;intro H _ _ _ _ _;(refine xA H (zk3 _ E HN.out hn2 hfd HE.out (HR.out.fr H.fr) (H.fr.cell HC.out yg) (HT.out.fr H.fr)) ?_;clear H;intro w1 H);simp only[Int.not_lt,Int.not_le]at*;revert H;refine W74 ?_;intro H
 go_ret
 exact⟨rfl,H.fr⟩
end
section
variable {w:World} {c n:Nat} {s l:List UInt8} {S:List Nat}
open Go.RowKit
attribute [local irreducible] wpList Code.wp Plan.wp zat zal pre zN
def zgO{a:Act}{o:Oper}{x y:Operand}{i:Nat}(ho:o.op= .indexAddr 91 x y){b:Nat}(hx:a.eval x= .pointer (some ⟨b,0,none⟩))(hy:a.eval y= .int .i64 (i:Int))(h1:i<3):
 (execOp a.eval o).run Tryz.prog w= .ok (.value (.pointer (some ⟨b,i,none⟩))) w:=by
 have hu:Tryz.prog.underlying 91=some (.array 3 9):=Tryz.underlying91;have hz:(sizeOf 9).run Tryz.prog w= .ok 1 w:=Tryz.sizeOf9 w;unfold execOp;simp only[ho,hx,hy,Instr.indexAt,Sem.run_bind,asIntOf,Sem.run_pure,Result.andThen_ok,run_underlying hu];have h2:(i:Int)<3:=by omega
 have h0:(0:Int)≤(i:Int):=by omega
 simp[h0,h2,hz,zaL,Instr.sureAddr]
def zop(gs:List (List UInt8)):(gs.map fun s=>(⟨s.toArray⟩:ByteArray)).map (·.data.toList)=gs:=by
 rw[List.map_map]
 conv=>rhs;rw[←List.map_id gs]
 exact List.map_congr_left (fun s _=>by simp)
def zc2{g:Nat}(gs:List (List UInt8))(sep:List UInt8)(hln:gs.length=n)(hc:∀(j:Nat) u,(gs.map ze)[j]? =some u→w.cell? ⟨g,j,none⟩=some u)(hg:g<w.heap.size)(hn:n≤1000000)(hcap:n≤c)(hl:s.length≤100000000)(hs:Hid (Lib.join gs sep=s)):
 Calls Tryz.prog 50 #[.slice (some ⟨g,0,none⟩) n c, .string ⟨sep.toArray⟩] w fun e w'=>e= .returned (ze s)∧Fr [] w w':=by
 subst hln;have hm:=zop gs;have hj:Lib.join gs (⟨sep.toArray⟩:ByteArray).data.toList=s:=by simpa using hs.out
 have h:=Tryz.strings_Join g 0 c (gs.map fun s=>(⟨s.toArray⟩:ByteArray)) (⟨sep.toArray⟩:ByteArray) w (fun j x hx=>by
  rw[List.getElem?_map]at hx;obtain⟨s,hs,rfl⟩:=Option.map_eq_some_iff.1 hx;rw[Nat.zero_add]
  exact hc j (ze s) (by rw[List.getElem?_map,hs];rfl)) hg (by rw[List.length_map];omega) (by rw[List.length_map];exact hcap) (by rw[hm,hj];omega)
 rw[hm,List.length_map]at h;refine Calls.mono h ?_;rintro e w' ⟨rfl,hb⟩;exact⟨by rw[hj];rfl,Fr.of_below hb⟩
def zp6(n:Nat):fmt (n:Int)=dec n:=by unfold fmt;rw[if_neg yb,Int.natAbs_natCast]
def zbP(w:World)(n:Nat)(hn:n≤1000000)(hT:La w)(hl:Hid (dec n=l)):
 Calls Tryz.prog 48 #[.int .i64 (n:Int)] w fun e w'=>e= .returned (ze l)∧Fr [] w w':=
 zcZ (n:Int) ⟨by omega,by omega⟩ w hT (hid (by rw[zp6];exact hl.out))
def zhZ(a f s:List UInt8):zq [[37,37,77,97,116,114,105,120,77,97,114,107,101,116],zfi,a,f,s]=((([37,37,77,97,116,114,105,120,77,97,114,107,101,116,32,109,97,116,114,105,120,32]++a)++[32])++f++[32])++s:=by
 simp[zq,Lib.join,List.intercalate,zfi]
def znJ(a b:List UInt8):zq [a,b]=(a++[32])++b:=by simp[zq,Lib.join,List.intercalate]
def zmX(a b c:List UInt8):zq [a,b,c]=((a++[32])++b)++([32]++c):=by simp[zq,Lib.join,List.intercalate]
def zdU(w:World)(n:Nat)(hn:n≤1000000){z:Int}(hz:Hid (z=(n:Int)))(hT:La w)(hl:Hid (dec n=l)):
 Calls Tryz.prog 48 #[.int .i64 z] w fun e w'=>e= .returned (ze l)∧Fr [] w w':=by
 rw[hz.out];exact zbP w n hn hT hl
def zgD(ws:List (List UInt8)):zq ws=Lib.join ws [32]:=rfl
def ze5{ws:List (List UInt8)}(h:∀y∈ws,y.length≤2000)(h3:ws.length≤3):(Lib.join ws [32]).length≤100000:=by
 have h1:=zgx h;unfold zq at h1;have h2:=Nat.mul_le_mul_right (1+2000) h3
 omega
def zqq{g:Nat}(h:OwnM (.slice (some ⟨g,0,none⟩) s.length c) s S w):s.length≤c:=by
 obtain⟨g',cap,cur,fz,rfl,h1,h2,h3,h4,_⟩:=h
 cases h1
 exact h4
def zfO(h:Hd)(m n:Nat)(W:List En)(w:World)(e:Ending)(w':World):Prop:=
 Fr [] w w'∧∃(R:List (En×List UInt8)) (p:Option Addr) (c:Nat),R.map (·.1)=W∧(∀q∈R,q.2.length≤2000∧(h.field≠2→zai h.field q.2=some q.1.2.2∧zaT q.2))∧(za2 h m n R).length≤1000000∧(za2 h m n R).length≤c∧
  e= .returned (.tuple #[.slice p (za2 h m n R).length c, .int .i64 0])∧Rd w' (.slice p (za2 h m n R).length c) (za2 h m n R).length (zx (za2 h m n R))
def zg0{h:Hd}{m:Nat}{W:List En}{w':World}{e:Ending}{R:List (En×List UInt8)}{g:Nat}(h1:R.map (·.1)=W)(h2:∀q∈R,q.2.length≤2000∧(h.field≠2→zai h.field q.2=some q.1.2.2∧zaT q.2))(h3:za2 h m n R=s)(h4:s.length≤1000000)(h5:Fr [] w w')
 (h7:OwnM (.slice (some ⟨g,0,none⟩) s.length c) s S w') (h6:e= .returned (.tuple #[.slice (some ⟨g,0,none⟩) s.length c, .int .i64 0])):zfO h m n W w e w':=by
 subst h3;exact⟨h5,R,_,c,h1,h2,h4,zqq h7,h6,h7.rd⟩
end
end Go.Proofs.YtaijhllckmndhaaGreatDoor
