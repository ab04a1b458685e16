import Derived.Test.YtaijhllckmndhaaGreatDoorYJ0
import Derived.Test.YtaijhllckmndhaaGreatDoorYJ33
import Derived.Test.YtaijhllckmndhaaGreatDoorYJ34
namespace Go.Proofs.YtaijhllckmndhaaGreatDoor
set_option linter.all false
set_option maxHeartbeats 64000000
set_option maxRecDepth 100000
section
open Go.RowKit
attribute [local irreducible] wpList Code.wp Plan.wp
def zdK{L:List En}{t:Nat}{u:En}(h:L[t]? =some u)(pad:List Value):eC u<+:(L.flatMap eC++pad).drop (t*3):=by
 obtain⟨hl,he⟩:=List.getElem?_eq_some_iff.1 h;have e:L=L.take t++u::L.drop (t+1):=by rw[←he,List.getElem_cons_drop,List.take_append_drop]
 have h2:=zaP (L.take t) (L.drop (t+1)) u pad;rw[←e,List.length_take,Nat.min_eq_left yb]at h2;exact h2
def ze7{x y:En}{c:Int}(h:zdY y x=c)(hc:¬c<0):leE x y:=by
 have:¬ltE y x:=fun k=>hc (h ▸ (zeX y x).2 k)
 unfold ltE at this;unfold leE
 omega
def zfC{x y:En}{c:Int}(h:zdY y x=c)(hc:c<0):ltE y x:=(zeX y x).1 (h ▸ hc)
def zia{Z:List En}(hZ:Z.Pairwise leE){i j:Nat}{u v:En}(hu:Z[i]? =some u)(hv:Z[j]? =some v)(hij:i≤j):leE u v:=by
 obtain⟨h1,rfl⟩:=List.getElem?_eq_some_iff.1 hu;obtain⟨h2,rfl⟩:=List.getElem?_eq_some_iff.1 hv;exact zfc hZ h1 h2 hij
def zoU{w:World}{q cap N a m b:Nat}(P Y S:List En)(x:En)(pad:List Value)(hq:w.heap[q]? =some (.cells ((P++(x::(Y++S))).flatMap eC++pad).toArray 75 (0,0)))(hN:(P++(x::(Y++S))).length=N)(hN2:N≤100000)(ha:P.length=a)(hm:a+1=m)(hb:m+Y.length=b)(hY:Y.Pairwise leE):
 Calls Tryz.prog 315 #[.slice (some ⟨q,0,none⟩) N cap, .int .i64 (a:Int), .int .i64 (m:Int), .int .i64 (b:Int), .func (.func 255) #[] #[]] w fun e w'=>e= .returned (.tuple #[])∧Fr [q] w w'∧
  ∃Z:List En,(x::Y).Perm Z∧Z.Pairwise leE∧w'.heap[q]? =some (.cells ((P++(Z++S)).flatMap eC++pad).toArray 75 (0,0)):=by
 have H:=(Hp.start [q] w).push hq (.inl yg) yg;clear hq;have hlen:=hN;simp only[List.length_append,List.length_cons]at hlen;obtain⟨n,hn⟩:∃n,Y.length=n:=⟨_,rfl⟩;rw[hn]at hb hlen;have hbN:b≤N:=by omega
 have HYL:=hid hn;have HPL:=hid ha;have HY:=hid hY;have hcl:Hid (((P++(x::(Y++S))).flatMap eC++pad).length=N*3+pad.length):=hid (by rw[List.length_append,zaI,hN]);have hpx0:eC x<+:((P++(x::(Y++S))).flatMap eC++pad).drop (a*3):=by rw[←ha];exact zaP P (Y++S) x pad
 have HPY:=hid (fun(t:Nat) (y:En) (h:Y[t]? =some y)=>show eC y<+:((P++(x::(Y++S))).flatMap eC++pad).drop ((m+t)*3)from zdK (by
  have htl:=(List.getElem?_eq_some_iff.1 h).1;rw[List.getElem?_append_right yb,show m+t-P.length=t+1 by omega,List.getElem?_cons_succ,List.getElem?_append_left htl]
  exact h) pad)
 obtain⟨cs,hcs⟩:∃cs,(P++(x::(Y++S))).flatMap eC++pad=cs:=⟨_,rfl⟩;rw[hcs]at H hcl hpx0 HPY;have HC:=hid hcs;have hma:=hid (show(m:Int)-(a:Int)=1 by omega);clear hcs hn hY hN hlen ha
 go_enter Tryz.func315,Tryz.ntmps315
 revert H;refine W59 ?_;intro H _ _ _ _ _
 go_loopw [10,11] (fun s10 s11 wr=>∃i j:Nat,s10= .int .i64 (i:Int)∧s11= .int .i64 (j:Int)∧m≤i∧i≤j∧j≤b∧Hid (∀t y,t<i-m→Y[t]? =some y→ltE y x)∧Hid (∀y,Y[j-m]? =some y→leE x y)∧Hp [q] w wr [.blk q cs 75]) (fun v u _=>(intOf u).toNat-(intOf v).toNat)
 case atStart=>exact⟨m,b,rfl,rfl,Nat.le_refl _,by omega,Nat.le_refl _,hid (fun t y h=>by omega),hid (fun y h=>by
  have:=(List.getElem?_eq_some_iff.1 h).1
  have:=HYL.out
  omega),H⟩
 case round=>
  clear H;obtain⟨i,j,rfl,rfl,hmi,hij,hjb,HLo,HHi,H⟩:=hrel
  by_cases hlt:i<j
  ·obtain⟨h,hh0⟩:∃h,(i+j)/2=h:=⟨_,rfl⟩;have hh1:i≤h:=by omega
   have hh2:h<j:=by omega
   have HH:=hid (show((i:Int)+(j:Int))/2=(h:Int) by omega);obtain⟨y,hy⟩:∃y,Y[h-m]? =some y:=⟨_,List.getElem?_eq_getElem yag⟩;have HYH:=hid hy
   have hpy:eC y<+:cs.drop (h*3):=by
    have:=HPY.out _ y hy
    rwa [show m+(h-m)=h by omega]at this
   obtain⟨c,hc⟩:∃c,zdY y x=c:=⟨_,rfl⟩;have HCC:=hid hc;have hex:(eC x).length=3:=rfl;have hey:(eC y).length=3:=rfl;clear hh0 hy hc
   by_cases hneg:c<0
   ·have HLo2:=hid (fun(t:Nat) (u:En) (ht:t<h+1-m) (hu:Y[t]? =some u)=>show ltE u x from by
     have h1:=zia HY.out hu HYH.out yb;have h2:=zfC HCC.out hneg
     unfold leE at h1;unfold ltE at*;omega)
    revert H;refine W60 ?_;intro H _ _ _
    (revert H;refine w_p 11 (.st 0 (.st 1 (.st 2 (.st 3 (.st 4 (.st 5 (.st 6 (.st 7 (.st 8 (.ld 9 (.st 10 .done))))))))))) ?_;intro w1 H)
    iterate 4 refine p_q ?_
    (refine p_e rfl (fun w H=>zah H rfl rfl (hv:=hpy) (hn:=rfl)) ?_)
    iterate 3 refine p_q ?_
    (refine p_e rfl (fun w H=>zah H rfl rfl (hv:=hpx0) (hn:=rfl)) ?_);(refine zfu H rfl rfl rfl Tryz.func255 (zcr _ y x HCC) ?_;clear H;rintro e w1 ⟨rfl,hF⟩ H;refine p_r ?_;clear hF);refine p_q ?_;(refine zf ?_)
    all_goals
     revert H;refine W59 ?_;intro H
     go_roundw
     case rel=>exact⟨h+1,j,congrArg (Value.int .i64) yb,rfl,by omega,by omega,hjb,HLo2,HHi,H⟩
     case measure=>(simp[intOf];try omega)
   ·have HHi2:=hid (fun(u:En) (hu:Y[h-m]? =some u)=>show leE x u from by
     rw[HYH.out]at hu
     cases hu
     exact ze7 HCC.out hneg)
    simp only[Int.not_lt,Int.not_le]at*;revert H;refine W60 ?_;intro H _ _ _
    (revert H;refine w_p 11 (.st 0 (.st 1 (.st 2 (.st 3 (.st 4 (.st 5 (.st 6 (.st 7 (.st 8 (.ld 9 (.st 10 .done))))))))))) ?_;intro w1 H)
    iterate 4 refine p_q ?_
    (refine p_e rfl (fun w H=>zah H rfl rfl (hv:=hpy) (hn:=rfl)) ?_)
    iterate 3 refine p_q ?_
    (refine p_e rfl (fun w H=>zah H rfl rfl (hv:=hpx0) (hn:=rfl)) ?_);(refine zfu H rfl rfl rfl Tryz.func255 (zcr _ y x HCC) ?_;clear H;rintro e w1 ⟨rfl,hF⟩ H;refine p_r ?_;clear hF);refine p_q ?_;(refine zf ?_)
    all_goals
     revert H;refine W59 ?_;intro H
     go_roundw
     case rel=>exact⟨i,h,rfl,rfl,hmi,hh1,by omega,HLo,HHi2,H⟩
     case measure=>(simp[intOf];try omega)
  ·obtain rfl:i=j:=by omega
   obtain⟨r,hr⟩:∃r,i-m=r:=⟨_,rfl⟩;have hr2:i=m+r:=by omega
   rw[hr]at HLo HHi;have hrn:r≤n:=by omega
   have hi1:(i:Int)-1=((a+r:Nat):Int):=by omega
   have HI1:=hid hi1;clear hr hlt hi1;revert H;refine W59 ?_;intro H _ _ _ _ _
   go_loopw [13] (fun s13 wr=>∃(t:Nat) (cs2:List Value),s13= .int .i64 ((a+t:Nat):Int)∧t≤r∧Hid (cs2.length=N*3+pad.length)∧Hid (cs2=(P++((Y.take t++x::Y.drop t)++S)).flatMap eC++pad)∧Hp [q] w wr [.blk q cs2 75]) (fun v _=>a+r-(intOf v).toNat)
   case atStart=>exact⟨0,cs,rfl,Nat.zero_le _,hcl,hid (by rw[←HC.out];simp),H⟩
   case round=>
    clear H;obtain⟨t,cs2,rfl,htr,hcl2,HC2,H⟩:=hrel
    by_cases hlt:t<r
    ·obtain⟨y,hy⟩:∃y,Y[t]? =some y:=⟨_,List.getElem?_eq_getElem yag⟩
     have hdy:Y.drop t=y::Y.drop (t+1):=by
      obtain⟨hl,he⟩:=List.getElem?_eq_some_iff.1 hy;rw[←he,List.getElem_cons_drop]
     have hty:Y.take (t+1)=Y.take t++[y]:=by rw[List.take_add_one,hy];rfl
     obtain⟨P1,hP1⟩:∃P1,P++Y.take t=P1:=⟨_,rfl⟩;obtain⟨R1,hR1⟩:∃R1,Y.drop (t+1)++S=R1:=⟨_,rfl⟩;have hPl:P1.length=a+t:=by rw[←hP1,List.length_append,List.length_take,HPL.out,HYL.out];omega
     have hcs:cs2=(P1++x::(y::R1)).flatMap eC++pad:=by
      rw[HC2.out,hdy,←hP1,←hR1];simp only[List.append_assoc,List.cons_append]
     have hnew:P++((Y.take (t+1)++x::Y.drop (t+1))++S)=P1++y::(x::R1):=by
      rw[hty,←hP1,←hR1];simp only[List.append_assoc,List.cons_append,List.nil_append]
     have e2:(((a+t:Nat):Int)+1).toNat=a+t+1:=by omega
     have hpx:eC x<+:cs2.drop ((a+t)*3):=by
      rw[hcs,←hPl];exact zaP P1 (y::R1) x pad
     have hpy:eC y<+:cs2.drop ((((a+t:Nat):Int)+1).toNat*3):=by
      have h:=zaP (P1++[x]) R1 y pad;rw[show(P1++[x]).length=a+t+1 by rw[List.length_append,List.length_singleton];omega]at h;rw[e2,hcs]
      simpa only[List.append_assoc,List.cons_append,List.nil_append]using h
     have hex:(eC x).length=3:=rfl;have hey:(eC y).length=3:=rfl;have hox:∀v∈eC x,v.oneCell'=true:=zcC x;have hoy:∀v∈eC y,v.oneCell'=true:=zcC y;have hb1:(a+t)*3+3≤cs2.length:=by rw[hcl2.out];omega
     have hb2:(((a+t:Nat):Int)+1).toNat*3+3≤(zL cs2 ((a+t)*3) (eC y)).length:=by rw[zaZ _ _ _ yaf,hcl2.out,e2];omega
     have hfin:zL (zL cs2 ((a+t)*3) (eC y)) ((((a+t:Nat):Int)+1).toNat*3) (eC x)=(P1++y::(x::R1)).flatMap eC++pad:=by
      rw[hcs,zbh P1 (y::R1) x y pad (by rw[hPl])];have h:=zbh (P1++[y]) R1 y x pad (k:=(((a+t:Nat):Int)+1).toNat*3) (by rw[e2,List.length_append,List.length_singleton];omega)
      simpa only[List.append_assoc,List.cons_append,List.nil_append]using h
     have HLEN:=hid (show(zL (zL cs2 ((a+t)*3) (eC y)) ((((a+t:Nat):Int)+1).toNat*3) (eC x)).length=N*3+pad.length by
      rw[zaZ _ _ _ (by rw[hex];exact hb2),zaZ _ _ _ yaf];exact hcl2.out)
     have HFIN:=hid (show zL (zL cs2 ((a+t)*3) (eC y)) ((((a+t:Nat):Int)+1).toNat*3) (eC x)=(P++((Y.take (t+1)++x::Y.drop (t+1))++S)).flatMap eC++pad by rw[hfin,hnew]);clear hy hdy hty hP1 hR1 hPl hcs hnew hfin e2 HC2;revert H;refine W59 ?_;intro H _ _ _
     (revert H;refine w_p 15 (.st 0 (.st 1 (.stf 2 (.stf 3 (.stf 4 (.st 5 (.st 6 (.st 7 (.st 8 (.st 9 (.st 10 (.st 11 (.st 12 (.st 13 (.st 14 (.ldf 15 (.st 16 (.ld 17 .done)))))))))))))))))) ?_;intro w1 H)
     iterate 2 refine p_q ?_
     refine zeE ?_;refine zeE ?_;(refine zjC rfl (fun w _=>zkw rfl rfl rfl yl) ?_)
     iterate 4 refine p_q ?_
     (refine p_e rfl (fun w H=>zah H rfl rfl (hv:=hpy) (hn:=rfl)) ?_)
     iterate 3 refine p_q ?_
     (refine p_e rfl (fun w H=>zah H rfl rfl (hv:=hpx) (hn:=rfl)) ?_);refine p_q ?_
     (revert H;refine zgp ?_;intro w1 hf H;(first|replace hf:=hf.kp|clear hf))
     refine p_q ?_
     (revert H;refine p_s ?_;intro w1 hf H;(first|replace hf:=hf.kp|clear hf))
     (refine zf ?_)
     all_goals
      revert H;refine W59 ?_;intro H
      go_roundw
      case rel=>exact⟨t+1,_,congrArg (Value.int .i64) yb,by omega,HLEN,HFIN,H⟩
      case measure=>(simp[intOf];try omega)
    ·obtain rfl:t=r:=by omega
     have hat:=H.at q;rw[HC2.out]at hat
     have HFIN:=hid (And.intro (show(x::Y).Perm (Y.take t++x::Y.drop t)from by
      refine List.Perm.trans ?_ List.perm_middle.symm
      rw[List.take_append_drop]) (zkN HY.out (fun k y hk hy=>HLo.out k y yb hy) HHi.out))
     have HAT:=hid hat;clear hat HC2 HLo HHi;revert H;refine W59 ?_;intro H _ _ _;refine bodyPost_ret (results_none rfl _ _ _) rfl ?_;exact⟨rfl,H.fr,_,HFIN.out.1,HFIN.out.2,HAT.out⟩
end
section
open Go.RowKit
attribute [local irreducible] wpList Code.wp Plan.wp
def zm3{w:World}{q cap N a m b:Nat}(P X S:List En)(y:En)(pad:List Value)(hq:w.heap[q]? =some (.cells ((P++(X++(y::S))).flatMap eC++pad).toArray 75 (0,0)))(hN:(P++(X++(y::S))).length=N)(hN2:N≤100000)(ha:P.length=a)(hm:a+X.length=m)(hX2:2≤X.length)(hb:m+1=b)(hX:X.Pairwise leE):
 Calls Tryz.prog 315 #[.slice (some ⟨q,0,none⟩) N cap, .int .i64 (a:Int), .int .i64 (m:Int), .int .i64 (b:Int), .func (.func 255) #[] #[]] w fun e w'=>e= .returned (.tuple #[])∧Fr [q] w w'∧
  ∃Z:List En,(X++[y]).Perm Z∧Z.Pairwise leE∧w'.heap[q]? =some (.cells ((P++(Z++S)).flatMap eC++pad).toArray 75 (0,0)):=by
 have H:=(Hp.start [q] w).push hq (.inl yg) yg;clear hq;have hlen:=hN;simp only[List.length_append,List.length_cons]at hlen;obtain⟨n,hn⟩:∃n,X.length=n:=⟨_,rfl⟩;rw[hn]at hm hX2 hlen;have hbN:b≤N:=by omega
 have HXL:=hid hn;have HPL:=hid ha;have HX:=hid hX;have hcl:Hid (((P++(X++(y::S))).flatMap eC++pad).length=N*3+pad.length):=hid (by rw[List.length_append,zaI,hN])
 have hpy0:eC y<+:((P++(X++(y::S))).flatMap eC++pad).drop (m*3):=by
  have h:=zaP (P++X) S y pad;rw[List.length_append,ha,hn,hm,List.append_assoc]at h;exact h
 have HPX:=hid (fun(t:Nat) (x:En) (h:X[t]? =some x)=>show eC x<+:((P++(X++(y::S))).flatMap eC++pad).drop ((a+t)*3)from zdK (by
  have htl:=(List.getElem?_eq_some_iff.1 h).1;rw[List.getElem?_append_right yb,show a+t-P.length=t by omega,List.getElem?_append_left htl]
  exact h) pad)
 obtain⟨cs,hcs⟩:∃cs,(P++(X++(y::S))).flatMap eC++pad=cs:=⟨_,rfl⟩;rw[hcs]at H hcl hpy0 HPX;have HC:=hid hcs;have hma:¬(m:Int)-(a:Int)=1:=by omega
 have hbm:(b:Int)-(m:Int)=1:=by omega
 clear hcs hn hX hN hlen ha
 go_enter Tryz.func315,Tryz.ntmps315
 revert H;refine W59 ?_;intro H _ _ _ _ _
 go_loopw [14,15] (fun s14 s15 wr=>∃i j:Nat,s14= .int .i64 (i:Int)∧s15= .int .i64 (j:Int)∧a≤i∧i≤j∧j≤m∧Hid (∀t x,t<i-a→X[t]? =some x→leE x y)∧Hid (∀x,X[j-a]? =some x→¬leE x y)∧Hp [q] w wr [.blk q cs 75]) (fun v u _=>(intOf u).toNat-(intOf v).toNat)
 case atStart=>exact⟨a,m,rfl,rfl,Nat.le_refl _,by omega,Nat.le_refl _,hid (fun t y h=>by omega),hid (fun x h=>by
  have:=(List.getElem?_eq_some_iff.1 h).1
  have:=HXL.out
  omega),H⟩
 case round=>
  clear H;obtain⟨i,j,rfl,rfl,hai,hij,hjm,HLo,HHi,H⟩:=hrel
  by_cases hlt:i<j
  ·obtain⟨h,hh0⟩:∃h,(i+j)/2=h:=⟨_,rfl⟩;have hh1:i≤h:=by omega
   have hh2:h<j:=by omega
   have HH:=hid (show((i:Int)+(j:Int))/2=(h:Int) by omega);obtain⟨x,hx⟩:∃x,X[h-a]? =some x:=⟨_,List.getElem?_eq_getElem yah⟩;have HXH:=hid hx
   have hpx:eC x<+:cs.drop (h*3):=by
    have:=HPX.out _ x hx
    rwa [show a+(h-a)=h by omega]at this
   obtain⟨c,hc⟩:∃c,zdY y x=c:=⟨_,rfl⟩;have HCC:=hid hc;have hex:(eC x).length=3:=rfl;have hey:(eC y).length=3:=rfl;clear hh0 hx hc
   by_cases hneg:c<0
   ·have HHi2:=hid (fun(u:En) (hu:X[h-a]? =some u)=>show ¬leE u y from by
     rw[HXH.out]at hu
     cases hu
     have:=zfC HCC.out hneg
     unfold ltE at this;unfold leE;omega)
    revert H;refine W60 ?_;intro H _ _ _
    (revert H;refine w_p 12 (.st 0 (.st 1 (.st 2 (.st 3 (.st 4 (.st 5 (.st 6 (.st 7 (.st 8 (.ld 9 (.st 10 (.st 11 .done)))))))))))) ?_;intro w1 H)
    iterate 4 refine p_q ?_
    (refine p_e rfl (fun w H=>zah H rfl rfl (hv:=hpy0) (hn:=rfl)) ?_)
    iterate 3 refine p_q ?_
    (refine p_e rfl (fun w H=>zah H rfl rfl (hv:=hpx) (hn:=rfl)) ?_);(refine zfu H rfl rfl rfl Tryz.func255 (zcr _ y x HCC) ?_;clear H;rintro e w1 ⟨rfl,hF⟩ H;refine p_r ?_;clear hF)
    iterate 2 refine p_q ?_
    (refine zf ?_)
    all_goals
     revert H;refine W59 ?_;intro H
     go_roundw
     case rel=>exact⟨i,h,rfl,rfl,hai,hh1,by omega,HLo,HHi2,H⟩
     case measure=>(simp[intOf];try omega)
   ·have HLo2:=hid (fun(t:Nat) (u:En) (ht:t<h+1-a) (hu:X[t]? =some u)=>show leE u y from
     (zia HX.out hu HXH.out yb).trans (ze7 HCC.out hneg))
    simp only[Int.not_lt,Int.not_le]at*;revert H;refine W60 ?_;intro H _ _ _
    (revert H;refine w_p 12 (.st 0 (.st 1 (.st 2 (.st 3 (.st 4 (.st 5 (.st 6 (.st 7 (.st 8 (.ld 9 (.st 10 (.st 11 .done)))))))))))) ?_;intro w1 H)
    iterate 4 refine p_q ?_
    (refine p_e rfl (fun w H=>zah H rfl rfl (hv:=hpy0) (hn:=rfl)) ?_)
    iterate 3 refine p_q ?_
    (refine p_e rfl (fun w H=>zah H rfl rfl (hv:=hpx) (hn:=rfl)) ?_);(refine zfu H rfl rfl rfl Tryz.func255 (zcr _ y x HCC) ?_;clear H;rintro e w1 ⟨rfl,hF⟩ H;refine p_r ?_;clear hF)
    iterate 2 refine p_q ?_
    (refine zf ?_)
    all_goals
     revert H;refine W59 ?_;intro H
     go_roundw
     case rel=>exact⟨h+1,j,congrArg (Value.int .i64) yb,rfl,by omega,by omega,hjm,HLo2,HHi,H⟩
     case measure=>(simp[intOf];try omega)
  ·obtain rfl:i=j:=by omega
   obtain⟨r,hr⟩:∃r,i-a=r:=⟨_,rfl⟩;have hr2:i=a+r:=by omega
   rw[hr]at HLo HHi;have hrn:r≤n:=by omega
   clear hr hlt;revert H;refine W59 ?_;intro H _ _ _ _ _
   go_loopw [17] (fun s17 wr=>∃(t:Nat) (cs2:List Value),s17= .int .i64 ((a+t:Nat):Int)∧r≤t∧t≤n∧Hid (cs2.length=N*3+pad.length)∧Hid (cs2=(P++((X.take t++y::X.drop t)++S)).flatMap eC++pad)∧Hp [q] w wr [.blk q cs2 75]) (fun v _=>(intOf v).toNat)
   case atStart=>exact⟨n,cs,congrArg (Value.int .i64) yb,hrn,Nat.le_refl _,hcl,hid (by rw[←HC.out,List.take_of_length_le (by rw[HXL.out];exact Nat.le_refl _),List.drop_of_length_le (by rw[HXL.out];exact Nat.le_refl _)];simp),H⟩
   case round=>
    clear H;obtain⟨t,cs2,rfl,htr,htn,hcl2,HC2,H⟩:=hrel
    by_cases hlt:r<t
    ·obtain⟨u,rfl⟩:∃u,t=u+1:=⟨t-1,by omega⟩;obtain⟨x,hx⟩:∃x,X[u]? =some x:=⟨_,List.getElem?_eq_getElem yah⟩
     have hdx:X.drop u=x::X.drop (u+1):=by
      obtain⟨hl,he⟩:=List.getElem?_eq_some_iff.1 hx;rw[←he,List.getElem_cons_drop]
     have htx:X.take (u+1)=X.take u++[x]:=by rw[List.take_add_one,hx];rfl
     obtain⟨P1,hP1⟩:∃P1,P++X.take u=P1:=⟨_,rfl⟩;obtain⟨R1,hR1⟩:∃R1,X.drop (u+1)++S=R1:=⟨_,rfl⟩;have hPl:P1.length=a+u:=by rw[←hP1,List.length_append,List.length_take,HPL.out,HXL.out];omega
     have hcs:cs2=(P1++x::(y::R1)).flatMap eC++pad:=by
      rw[HC2.out,htx,←hP1,←hR1];simp only[List.append_assoc,List.cons_append,List.nil_append]
     have hnew:P++((X.take u++y::X.drop u)++S)=P1++y::(x::R1):=by
      rw[hdx,←hP1,←hR1];simp only[List.append_assoc,List.cons_append]
     have e2:(((a+(u+1):Nat):Int)-1).toNat=a+u:=by omega
     have hpx:eC x<+:cs2.drop ((((a+(u+1):Nat):Int)-1).toNat*3):=by
      rw[e2,hcs,←hPl];exact zaP P1 (y::R1) x pad
     have hpy:eC y<+:cs2.drop ((a+(u+1))*3):=by
      have h:=zaP (P1++[x]) R1 y pad;rw[show(P1++[x]).length=a+(u+1) by rw[List.length_append,List.length_singleton];omega]at h;rw[hcs]
      simpa only[List.append_assoc,List.cons_append,List.nil_append]using h
     have hex:(eC x).length=3:=rfl;have hey:(eC y).length=3:=rfl;have hox:∀v∈eC x,v.oneCell'=true:=zcC x;have hoy:∀v∈eC y,v.oneCell'=true:=zcC y;have hb1:(a+(u+1))*3+3≤cs2.length:=by rw[hcl2.out];omega
     have hb2:(((a+(u+1):Nat):Int)-1).toNat*3+3≤(zL cs2 ((a+(u+1))*3) (eC x)).length:=by rw[zaZ _ _ _ yae,hcl2.out,e2];omega
     have hfin:zL (zL cs2 ((a+(u+1))*3) (eC x)) ((((a+(u+1):Nat):Int)-1).toNat*3) (eC y)=(P1++y::(x::R1)).flatMap eC++pad:=by
      have h:=zbh (P1++[x]) R1 y x pad (k:=(a+(u+1))*3) (by rw[List.length_append,List.length_singleton];omega);rw[show P1++[x]++y::R1=P1++x::(y::R1) by simp,show P1++[x]++x::R1=P1++x::(x::R1) by simp]at h;rw[hcs,h,zbh P1 (x::R1) x y pad (by rw[e2,hPl])]
     have HLEN:=hid (show(zL (zL cs2 ((a+(u+1))*3) (eC x)) ((((a+(u+1):Nat):Int)-1).toNat*3) (eC y)).length=N*3+pad.length by
      rw[zaZ _ _ _ (by rw[hey];exact hb2),zaZ _ _ _ yae];exact hcl2.out)
     have HFIN:=hid (show zL (zL cs2 ((a+(u+1))*3) (eC x)) ((((a+(u+1):Nat):Int)-1).toNat*3) (eC y)=(P++((X.take u++y::X.drop u)++S)).flatMap eC++pad by rw[hfin,hnew]);clear hx hdx htx hP1 hR1 hPl hcs hnew hfin e2 HC2;revert H;refine W59 ?_;intro H _ _ _
     (revert H;refine w_p 15 (.st 0 (.st 1 (.stf 2 (.stf 3 (.stf 4 (.st 5 (.st 6 (.st 7 (.st 8 (.st 9 (.st 10 (.st 11 (.st 12 (.st 13 (.st 14 (.ldf 15 (.st 16 (.ld 17 .done)))))))))))))))))) ?_;intro w1 H)
     iterate 2 refine p_q ?_
     refine zeE ?_;refine zeE ?_;(refine zjC rfl (fun w _=>zjx rfl rfl rfl yl) ?_)
     iterate 4 refine p_q ?_
     (refine p_e rfl (fun w H=>zah H rfl rfl (hv:=hpx) (hn:=rfl)) ?_)
     iterate 3 refine p_q ?_
     (refine p_e rfl (fun w H=>zah H rfl rfl (hv:=hpy) (hn:=rfl)) ?_);refine p_q ?_
     (revert H;refine zgp ?_;intro w1 hf H;(first|replace hf:=hf.kp|clear hf))
     refine p_q ?_
     (revert H;refine p_s ?_;intro w1 hf H;(first|replace hf:=hf.kp|clear hf))
     (refine zf ?_)
     all_goals
      revert H;refine W59 ?_;intro H
      go_roundw
      case rel=>exact⟨u,_,congrArg (Value.int .i64) yb,by omega,by omega,HLEN,HFIN,H⟩
      case measure=>(simp[intOf];try omega)
    ·obtain rfl:t=r:=by omega
     have hat:=H.at q;rw[HC2.out]at hat
     have HFIN:=hid (And.intro (show(X++[y]).Perm (X.take t++y::X.drop t)from by
      refine List.Perm.trans ?_ List.perm_middle.symm;rw[List.take_append_drop]
      exact List.perm_append_comm) (zmx HX.out (fun k x hk hx=>HLo.out k x yb hx) HHi.out))
     have HAT:=hid hat;clear hat HC2 HLo HHi;revert H;refine W59 ?_;intro H _ _ _;refine bodyPost_ret (results_none rfl _ _ _) rfl ?_;exact⟨rfl,H.fr,_,HFIN.out.1,HFIN.out.2,HAT.out⟩
end
section
variable {w:World} {b m z:Nat} {P:Program} {a:Act} {o:Oper} {t t':TypeId} {x:Operand}
open Go.RowKit
def zjl{g c:Nat}(hb:b<18446744073709551616)(hc:w.cell? ⟨g,0,none⟩=some (.int .u64 (b:Int))):
 Calls Tryz.prog 121 #[.slice (some ⟨g,0,none⟩) 1 c] w fun r w'=>r= .returned (.bool (decide (zax b=3)))∧Fr [] w w':=by
 have HC:=hid hc;obtain⟨k,hk⟩:∃k,zax b=k:=⟨_,rfl⟩;have HK:=hid hk;rw[hk];clear hc hk;have H:=Hp.start [] w
 go_enter Tryz.func121,Tryz.ntmps121
 revert H;refine W15 ?_;intro H _ _ _
 go_loopw [7] (fun s7 wr=>((s7= .int .i64 0)∨(s7= .int .i64 1∧Hid (k≠3)))∧Hp [] w wr []) (fun v _=>(2-intOf v).toNat)
 case atStart=>exact⟨.inl rfl,H⟩
 case round=>
  clear H;obtain⟨hs,H⟩:=hrel
  rcases hs with rfl|⟨rfl,HN⟩
  ·have HC2:=H.fr.cell HC.out yg;revert H;refine W18 ?_;intro H _ _ _ _ _ _ _;(refine xK H (zcq _ hb HK) ?_;clear H;intro w1 hF H)
   by_cases h3:k=3
   ·subst h3;simp only[Int.not_lt,Int.not_le]at*;revert H;refine W15 ?_;intro H
    go_ret
    exact⟨rfl,H.fr⟩
   ·have HN:=hid h3;simp only[Int.not_lt,Int.not_le]at*;revert H;refine W15 ?_;intro H
    go_roundw
    case rel=>exact⟨.inr ⟨rfl,HN⟩,H⟩
    case measure=>(simp[intOf];try omega)
  ·revert H;refine W15 ?_;intro H _ _ _
   go_ret
   exact⟨by rw[decide_eq_false HN.out];rfl,H.fr⟩
def zmv(hb:b<18446744073709551616):bits .andNot .u64 (b:Int) 9223372036854775808=((b%9223372036854775808:Nat):Int):=by
 have hx:b%9223372036854775808<2^64:=Nat.lt_of_lt_of_le (Nat.mod_lt _ yf) yf
 have h1:(BitVec.ofInt 64 (b:Int)).toNat=b:=by
  rw[BitVec.ofInt_natCast,BitVec.toNat_ofNat];exact Nat.mod_eq_of_lt yb
 have h2:(~~~ (BitVec.ofInt 64 9223372036854775808)).toNat=2^63-1:=by decide
 show IntKind.u64.wrap ((BitVec.ofInt 64 (b:Int)&&& ~~~ (BitVec.ofInt 64 9223372036854775808)).toNat:Int)=_
 rw[BitVec.toNat_and,h1,h2,Nat.and_two_pow_sub_one_eq_mod];exact zX yl
def zvs(ho:o.op= .binOp .andNot t x (.const (.int .u64 9223372036854775808)) t')(hx:a.eval x= .int .u64 (m:Int))(hz:Hid (m%9223372036854775808=z))(hm:m<18446744073709551616:=by omega):(execOp a.eval o).run P w= .ok (.value (.int .u64 (z:Int))) w:=
 za1 ho hx rfl (fun w=>by
  have e:=zmv hm;rw[hz.out]at e
  show(pure (Value.int .u64 (bits .andNot .u64 (m:Int) 9223372036854775808)):Sem Value).run P w=_
  rw[e];rfl)
def zvD(ho:o.op= .binOp .or t x (.const (.int .u64 4503599627370496)) t')(hx:a.eval x= .int .u64 (m:Int))(hz:Hid (m+4503599627370496=z))(hm:m<4503599627370496:=by omega):(execOp a.eval o).run P w= .ok (.value (.int .u64 (z:Int))) w:=by
 rw[←hz.out]
 exact zdr ho (.inr rfl) hx (n:=4503599627370496) rfl (by
  rw[zjb _ _ yb yf];have h1:=Nat.two_pow_add_eq_or_of_lt (i:=52) (b:=m) (by simpa using hm) 1;have e:(2:Nat)^52=4503599627370496:=by decide
  rw[e]at h1;have h2:m||| 4503599627370496=m+4503599627370496:=by rw[Nat.or_comm,Nat.add_comm];simpa using h1.symm
  rw[h2])
def zoF(hb:b<18446744073709551616):zA (b%9223372036854775808)=(if b/4503599627370496%2048=0 then b%4503599627370496 else b%4503599627370496+4503599627370496)∧zh (b%9223372036854775808)=(if b/4503599627370496%2048=0 then -1074 else((b/4503599627370496%2048:Nat):Int)-1075):=by
 have e:b%9223372036854775808/4503599627370496=b/4503599627370496%2048:=by omega
 unfold zA zh;rw[e]
 constructor
 ·split<;>omega
 ·rfl
def zhN(w:World){b:Nat}(hb:b<18446744073709551616)(hk:b/4503599627370496%2048≠2047)(hT:La w):
 Calls Tryz.prog 94 #[.int .u64 (b:Int)] w fun r w'=>∃v1,r= .returned v1∧Fr [] w w'∧Dn w' v1 (sg (decide (9223372036854775808≤b)) (zA (b%9223372036854775808))) (zh (b%9223372036854775808)):=by
 obtain⟨h1,h2⟩:=zoF hb;rw[h1,h2];clear h1 h2;have HT:=hid hT;have hx:b/4503599627370496%2048<2048:=Nat.mod_lt _ yf;have hy:b%4503599627370496<4503599627370496:=Nat.mod_lt _ yf;obtain⟨x,hX⟩:∃x,b/4503599627370496%2048=x:=⟨_,rfl⟩;obtain⟨y,hY⟩:∃x,b%4503599627370496=x:=⟨_,rfl⟩;rw[hX]at hx hk ⊢;rw[hY]at hy ⊢;have HX:=hid hX;have HY:=hid hY;obtain⟨n,hn⟩:∃n,decide (9223372036854775808≤b)=n:=⟨_,rfl⟩;rw[hn];have HN:=hid hn;clear hX hY hT hn;have H:=Hp.start [] w
 by_cases h0:x=0
 ·rw[if_pos h0,if_pos h0];subst h0;have hbl:bl y≤53:=zbC yb;have HM:Hid (y+4503599627370496=y+4503599627370496):=hid rfl
  go_enter Tryz.func94,Tryz.ntmps94
  simp only[Int.not_lt,Int.not_le]at*;revert H;refine W15 ?_;intro _ g w1 hg H hf _ _ _ _;(refine xK H (zaD _ hb HX HY) ?_;clear H;intro w1 hF H);simp only[Int.not_lt,Int.not_le]at*;revert H;refine W19 ?_;intro H _ _ _ _;(refine x_c H (zO _ ((y:Nat):Int) yl) ?_;clear H;rintro e w1 ⟨v4,rfl,hF,hB⟩ H;replace hF:=hF.kp;replace hB:=hB.c;rw[Int.natAbs_natCast]at hB;obtain⟨b4,p4,m4,c4,rfl⟩:=hB.form;have HB4:=hid hB;clear hB);simp only[Int.not_lt,Int.not_le]at*;revert H;refine W15 ?_;intro g _ hg hf w1 H hk _ _ _ _ _ _;(refine x_c H (zcH _ b hb) ?_;clear H;rintro e w1 ⟨rfl,hF⟩ H;replace hF:=hF.kp;rw[HN.out])
  cases n
  ·simp only[Int.not_lt,Int.not_le]at*;revert H;refine W15 ?_;intro H _ _ _ _;(refine x_c H (zcj (bv HB4).ar yb yW yb (HT.out.fr H.fr)) ?_;clear H;rintro e w1 ⟨v5,rfl,hF,hD⟩ H;replace hF:=hF.kp;obtain⟨m5,e5,b5,p5,n5,c5,rfl,hN,hB⟩:=hD;have HN5:=hid hN;have HB5:=hid hB;clear hN hB);simp only[Int.not_lt,Int.not_le]at*;revert H;refine W15 ?_;intro w1 H hk;refine zk H rfl rfl rfl ?_;exact⟨_,rfl,H.fr,_,_,_,_,_,_,rfl,HN5.out,bv HB5⟩
  ·simp only[Int.not_lt,Int.not_le]at*;revert H;refine W15 ?_;intro H _ _;(refine x_c H (za7 (bv HB4).ar yb) ?_;clear H;rintro e w1 ⟨v6,rfl,hF,hB⟩ H;replace hF:=hF.kp;obtain⟨b6,p6,m6,c6,rfl⟩:=hB.form;have HB6:=hid hB;clear hB);simp only[Int.not_lt,Int.not_le]at*;revert H;refine W15 ?_;intro w1 H hk _ _ _ _;(refine x_c H (zcj (bv HB6).ar yb yN yb (HT.out.fr H.fr)) ?_;clear H;rintro e w1 ⟨v5,rfl,hF,hD⟩ H;replace hF:=hF.kp;obtain⟨m5,e5,b5,p5,n5,c5,rfl,hN,hB⟩:=hD;have HN5:=hid hN;have HB5:=hid hB;clear hN hB);simp only[Int.not_lt,Int.not_le]at*;revert H;refine W15 ?_;intro w1 H hk;refine zk H rfl rfl rfl ?_;exact⟨_,rfl,H.fr,_,_,_,_,_,_,rfl,HN5.out,bv HB5⟩
 ·rw[if_neg h0,if_neg h0];obtain⟨M,hM⟩:∃M,y+4503599627370496=M:=⟨_,rfl⟩;have HM:=hid hM;have hMb:M<9007199254740992:=by omega
  rw[hM];have hbl:bl M≤53:=zbC yb;clear hM
  go_enter Tryz.func94,Tryz.ntmps94
  revert H;refine W15 ?_;intro _ g w1 hg H hf _ _ _ _;(refine xK H (zaD _ hb HX HY) ?_;clear H;intro w1 hF H);simp only[Int.not_lt,Int.not_le]at*;revert H;refine W19 ?_;intro H _ _ _ _;(refine x_c H (zO _ ((M:Nat):Int) yl) ?_;clear H;rintro e w1 ⟨v4,rfl,hF,hB⟩ H;replace hF:=hF.kp;replace hB:=hB.c;rw[Int.natAbs_natCast]at hB;obtain⟨b4,p4,m4,c4,rfl⟩:=hB.form;have HB4:=hid hB;clear hB);simp only[Int.not_lt,Int.not_le]at*;revert H;refine W15 ?_;intro g _ hg hf w1 H hk _ _ _ _ _ _;(refine x_c H (zcH _ b hb) ?_;clear H;rintro e w1 ⟨rfl,hF⟩ H;replace hF:=hF.kp;rw[HN.out])
  cases n
  ·simp only[Int.not_lt,Int.not_le]at*;revert H;refine W15 ?_;intro H _ _ _ _;(refine x_c H (zcj (bv HB4).ar yb yW yb (HT.out.fr H.fr)) ?_;clear H;rintro e w1 ⟨v5,rfl,hF,hD⟩ H;replace hF:=hF.kp;obtain⟨m5,e5,b5,p5,n5,c5,rfl,hN,hB⟩:=hD;have HN5:=hid hN;have HB5:=hid hB;clear hN hB);simp only[Int.not_lt,Int.not_le]at*;revert H;refine W15 ?_;intro w1 H hk;refine zk H rfl rfl rfl ?_;exact⟨_,rfl,H.fr,_,_,_,_,_,_,rfl,HN5.out,bv HB5⟩
  ·simp only[Int.not_lt,Int.not_le]at*;revert H;refine W15 ?_;intro H _ _;(refine x_c H (za7 (bv HB4).ar yb) ?_;clear H;rintro e w1 ⟨v6,rfl,hF,hB⟩ H;replace hF:=hF.kp;obtain⟨b6,p6,m6,c6,rfl⟩:=hB.form;have HB6:=hid hB;clear hB);simp only[Int.not_lt,Int.not_le]at*;revert H;refine W15 ?_;intro w1 H hk _ _ _ _;(refine x_c H (zcj (bv HB6).ar yb yN yb (HT.out.fr H.fr)) ?_;clear H;rintro e w1 ⟨v5,rfl,hF,hD⟩ H;replace hF:=hF.kp;obtain⟨m5,e5,b5,p5,n5,c5,rfl,hN,hB⟩:=hD;have HN5:=hid hN;have HB5:=hid hB;clear hN hB);simp only[Int.not_lt,Int.not_le]at*;revert H;refine W15 ?_;intro w1 H hk;refine zk H rfl rfl rfl ?_;exact⟨_,rfl,H.fr,_,_,_,_,_,_,rfl,HN5.out,bv HB5⟩
def zdH(w:World)(hb:b<18446744073709551616)(hk:zax b≠3)(hz:Hid (b%9223372036854775808=z)):
 Calls Tryz.prog 152 #[.int .u64 (b:Int)] w fun r w'=>r= .returned (.int .u64 (z:Int))∧Fr [] w w':=by
 have HK:Hid (decide (zax b=3)=false):=hid (decide_eq_false hk);clear hk;have H:=Hp.start [] w
 go_enter Tryz.func152,Tryz.ntmps152
 revert H;refine W15 ?_;intro _ _ _ _ _ g w1 hg H hf _ _;(refine x_c H (zjl hb (H.cell (p:=0) rfl)) ?_;clear H;rintro e w1 ⟨rfl,hF⟩ H;replace hF:=hF.kp;rw[HK.out]);simp only[Int.not_lt,Int.not_le]at*;revert H;refine W20 ?_;intro H
 go_ret
 exact⟨rfl,H.fr⟩
end
end Go.Proofs.YtaijhllckmndhaaGreatDoor
