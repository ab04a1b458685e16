import Derived.Test.YtaijhllckmndhaaGreatDoorYJ0
import Derived.Test.YtaijhllckmndhaaGreatDoorYJ35
namespace Go.Proofs.YtaijhllckmndhaaGreatDoor
set_option linter.all false
set_option maxHeartbeats 64000000
set_option maxRecDepth 100000
section
open Go.RowKit
attribute [local irreducible] wpList Code.wp Plan.wp
def Hp.reQ{w0 w w':World}{q:Nat}{cs cs1:List Value}{t:TypeId}(H:Hp [q] w0 w [.blk q cs t])(hF:Fr [q] w w')(hg:w'.heap[q]? =some (.cells cs1.toArray t (0,0))):Hp [q] w0 w' [.blk q cs1 t]:=
 (show Hp [q] w0 w' []from⟨H.fr.andThen hF (fun x hx=> .inl hx),(fun e he=>by cases he),yg⟩).push hg (.inl yg) yg
def zkF(k:Nat):∀ {w:World} {q cap N a m b:Nat} (P X Y S:List En) (pad:List Value) (_:b-a≤k) (_:w.heap[q]? =some (.cells ((P++(X++(Y++S))).flatMap eC++pad).toArray 75 (0,0))) (_:(P++(X++(Y++S))).length=N) (_:N≤100000) (_:P.length=a) (_:a+X.length=m) (_:m+Y.length=b) (_:1≤X.length) (_:1≤Y.length) (_:X.Pairwise leE) (_:Y.Pairwise leE),
 Calls Tryz.prog 315 #[.slice (some ⟨q,0,none⟩) N cap, .int .i64 (a:Int), .int .i64 (m:Int), .int .i64 (b:Int), .func (.func 255) #[] #[]] w fun e w'=>e= .returned (.tuple #[])∧Fr [q] w w'∧
  ∃Z:List En,(X++Y).Perm Z∧Z.Pairwise leE∧w'.heap[q]? =some (.cells ((P++(Z++S)).flatMap eC++pad).toArray 75 (0,0)):=by
 induction k with
 | zero=>intro w q cap N a m b P X Y S pad hk hq hN hN2 ha hm hb hx1 hy1 hX hY;omega
 | succ k ih=>
  intro w q cap N a m b P X Y S pad hk hq hN hN2 ha hm hb hx1 hy1 hX hY
  by_cases hxl:X.length=1
  ·obtain⟨x,rfl⟩:=List.length_eq_one_iff.1 hxl;exact zoU P Y S x pad hq hN hN2 ha hm hb hY
  by_cases hyl:Y.length=1
  ·obtain⟨y,rfl⟩:=List.length_eq_one_iff.1 hyl;exact zm3 P X S y pad hq hN hN2 ha hm yb hb hX
  have H:=(Hp.start [q] w).push hq (.inl yg) yg;clear hq;have hlen:=hN;simp only[List.length_append]at hlen;obtain⟨n1,hn1⟩:∃n,X.length=n:=⟨_,rfl⟩;obtain⟨n2,hn2⟩:∃n,Y.length=n:=⟨_,rfl⟩;rw[hn1]at hm hx1 hxl hlen;rw[hn2]at hb hy1 hyl hlen;have hbN:b≤N:=by omega
  have HXL:=hid hn1;have HYL:=hid hn2;have HPL:=hid ha;have HX:=hid hX;have HY:=hid hY;have HN:=hid hN
  have HPX:=hid (fun(t:Nat) (x:En) (h:X[t]? =some x)=>show eC x<+:((P++(X++(Y++S))).flatMap eC++pad).drop ((a+t)*3)from zdK (by
   have htl:=(List.getElem?_eq_some_iff.1 h).1;rw[List.getElem?_append_right yb,show a+t-P.length=t by omega,List.getElem?_append_left htl]
   exact h) pad)
  have HPY:=hid (fun(t:Nat) (y:En) (h:Y[t]? =some y)=>show eC y<+:((P++(X++(Y++S))).flatMap eC++pad).drop ((m+t)*3)from zdK (by
   have htl:=(List.getElem?_eq_some_iff.1 h).1;rw[List.getElem?_append_right yb,List.getElem?_append_right yb,show m+t-P.length-X.length=t by omega,List.getElem?_append_left htl]
   exact h) pad)
  obtain⟨cs,hcs⟩:∃cs,(P++(X++(Y++S))).flatMap eC++pad=cs:=⟨_,rfl⟩;rw[hcs]at H HPX HPY;have HC:=hid hcs;obtain⟨mid,hmid⟩:∃mid,(a+b)/2=mid:=⟨_,rfl⟩;have hm1:2*mid≤a+b:=by omega
  have hm2:a+b≤2*mid+1:=by omega
  have HM:=hid (show((a:Int)+(b:Int))/2=(mid:Int) by omega);have hma:¬(m:Int)-(a:Int)=1:=by omega
  have hbm:¬(b:Int)-(m:Int)=1:=by omega
  have hm3:a+n1≤m:=by omega
  have hm4:m≤a+n1:=by omega
  have hb3:m+n2≤b:=by omega
  have hb4:b≤m+n2:=by omega
  clear hcs hn1 hn2 hX hY hN hlen ha hmid hm hb
  go_enter Tryz.func315,Tryz.ntmps315
  go_upto_region 27 with(first|refine x_e (ztm rfl rfl HM) ?_|refine x_q H ?_|refine zm (fun h=>?_) (fun h=>?_)|(revert H;(first|(refine x_g ?_;intro g1 w1 hg hf H)|(refine x_s ?_;intro w1 hf H));(first|replace hf:=hf.kp|clear hf)))
  go_cut [140] (fun s140 wx=>s140= .bool (decide (mid<m))∧Hp [q] w wx [.blk q cs 75])
  case first=>
   go_wp2_with(first|refine x_q H ?_|refine zm ?_ ?_<;>intro h)
   all_goals
    go_meet
    case rel=>exact⟨yC,H⟩
  case rest=>as_aux_lemma=>
   clear H;obtain⟨rfl,H⟩:=hcut
   go_upto_if 140 with fail
   go_cut [20,21] (fun s20 s21 wx=>∃lo r0:Nat,s20= .int .i64 (lo:Int)∧s21= .int .i64 (r0:Int)∧a≤lo∧lo≤r0∧r0≤m∧r0≤mid∧mid+m≤lo+b∧Hid (lo=a∨lo+b=mid+m)∧Hid (r0=m∨r0=mid)∧Hp [q] w wx [.blk q cs 75])
   case first=>
    by_cases hgt:mid<m
    ·rw[decide_eq_true hgt];obtain⟨lo,hlo0⟩:∃lo,mid+m-b=lo:=⟨_,rfl⟩;have HLO:=hid (show(mid:Int)+(m:Int)-(b:Int)=(lo:Int) by omega);have hl1:a≤lo:=by omega
     have hl2:lo≤mid:=by omega
     have hl3:mid+m≤lo+b:=by omega
     have hl4:=hid (show lo+b=mid+m by omega);clear hlo0;revert H;refine W59 ?_;intro H
     go_meet
     case rel=>exact⟨lo,mid,congrArg (Value.int .i64) HLO.out,rfl,hl1,hl2,by omega,Nat.le_refl _,hl3,hid (.inr hl4.out),hid (.inr rfl),H⟩
    ·rw[decide_eq_false hgt];revert H;refine W59 ?_;intro H
     go_meet
     case rel=>exact⟨a,m,rfl,rfl,Nat.le_refl _,by omega,Nat.le_refl _,by omega,by omega,hid (.inl rfl),hid (.inl rfl),H⟩
   case rest=>as_aux_lemma=>
    clear H;obtain⟨lo,r0,rfl,rfl,hlo1,hlo2,hr1,hr2,hlo3,HLO,HR0,H⟩:=hcut
    go_upto_region 33 with(first|refine x_q H ?_|refine zm (fun h=>?_) (fun h=>?_)|(revert H;(first|(refine x_g ?_;intro g1 w1 hg hf H)|(refine x_s ?_;intro w1 hf H));(first|replace hf:=hf.kp|clear hf)))
    go_loopw [20,21] (fun s20 s21 wr=>∃s r:Nat,s20= .int .i64 (s:Int)∧s21= .int .i64 (r:Int)∧lo≤s∧s≤r∧r≤r0∧Hid (∀x y,lo<s→X[s-1-a]? =some x→Y[mid+m-s-m]? =some y→leE x y)∧Hid (∀x y,r<r0→X[r-a]? =some x→Y[mid+m-1-r-m]? =some y→ltE y x)∧Hp [q] w wr [.blk q cs 75]) (fun v u _=>(intOf u).toNat-(intOf v).toNat)
    case atStart=>exact⟨lo,r0,rfl,rfl,Nat.le_refl _,hlo2,Nat.le_refl _,hid (fun x y h=>by omega),hid (fun x y h=>by omega),H⟩
    case round=>
     clear H;obtain⟨st,r,rfl,rfl,hlo,hsr,hhi,HLo,HHi,H⟩:=hrel
     by_cases hlt:st<r
     ·obtain⟨c,hc0⟩:∃c,(st+r)/2=c:=⟨_,rfl⟩;have hc1:st≤c:=by omega
      have hc2:c<r:=by omega
      have HH:=hid (show((st:Int)+(r:Int))/2=(c:Int) by omega);obtain⟨x,hx⟩:∃x,X[c-a]? =some x:=⟨_,List.getElem?_eq_getElem yah⟩;obtain⟨y,hy⟩:∃y,Y[mid+m-1-c-m]? =some y:=⟨_,List.getElem?_eq_getElem yag⟩;have HXC:=hid hx;have HYC:=hid hy
      have hpx:eC x<+:cs.drop (c*3):=by
       have:=HPX.out _ x hx
       rwa [show a+(c-a)=c by omega]at this
      have hpy:eC y<+:cs.drop (((mid:Int)+(m:Int)-1-(c:Int)).toNat*3):=by
       have:=HPY.out _ y hy
       rwa [show m+(mid+m-1-c-m)=((mid:Int)+(m:Int)-1-(c:Int)).toNat by omega]at this
      obtain⟨d,hd⟩:∃d,zdY y x=d:=⟨_,rfl⟩;have HCC:=hid hd;have hex:(eC x).length=3:=rfl;have hey:(eC y).length=3:=rfl;have hin1:0≤(mid:Int)+(m:Int)-1-(c:Int):=by omega
      have hin2:(mid:Int)+(m:Int)-1-(c:Int)<(N:Int):=by omega
      clear hc0 hx hy hd
      by_cases hneg:d<0
      ·as_aux_lemma=>
        have HHi2:=hid (fun(u v:En) (_:c<r0) (hu:X[c-a]? =some u) (hv:Y[mid+m-1-c-m]? =some v)=>show ltE v u from by
         rw[HXC.out]at hu;rw[HYC.out]at hv
         cases hu;cases hv
         exact zfC HCC.out hneg)
        revert H;refine W60 ?_;intro H _ _ _
        (revert H;refine w_p 14 (.st 0 (.st 1 (.st 2 (.st 3 (.st 4 (.st 5 (.st 6 (.st 7 (.st 8 (.st 9 (.st 10 (.ld 11 (.st 12 (.st 13 .done)))))))))))))) ?_;intro w1 H)
        iterate 6 refine p_q ?_
        (refine p_e rfl (fun w H=>zah H rfl rfl (hv:=hpy) (hn:=rfl)) ?_)
        iterate 3 refine p_q ?_
        (refine p_e rfl (fun w H=>zah H rfl rfl (hv:=hpx) (hn:=rfl)) ?_);(refine zfu H rfl rfl rfl Tryz.func255 (zcr _ y x HCC) ?_;clear H;rintro e w1 ⟨rfl,hF⟩ H;refine p_r ?_;clear hF)
        iterate 2 refine p_q ?_
        (refine zf ?_)
        all_goals
         revert H;refine W59 ?_;intro H
         go_roundw
         case rel=>exact⟨st,c,rfl,rfl,hlo,hc1,by omega,HLo,HHi2,H⟩
         case measure=>(simp[intOf];try omega)
      ·as_aux_lemma=>
        have HLo2:=hid (fun(u v:En) (_:lo<c+1) (hu:X[c+1-1-a]? =some u) (hv:Y[mid+m-(c+1)-m]? =some v)=>show leE u v from by
         rw[show c+1-1-a=c-a by omega,HXC.out]at hu;rw[show mid+m-(c+1)-m=mid+m-1-c-m by omega,HYC.out]at hv
         cases hu;cases hv
         exact ze7 HCC.out hneg)
        simp only[Int.not_lt,Int.not_le]at*;revert H;refine W60 ?_;intro H _ _ _
        (revert H;refine w_p 14 (.st 0 (.st 1 (.st 2 (.st 3 (.st 4 (.st 5 (.st 6 (.st 7 (.st 8 (.st 9 (.st 10 (.ld 11 (.st 12 (.st 13 .done)))))))))))))) ?_;intro w1 H)
        iterate 6 refine p_q ?_
        (refine p_e rfl (fun w H=>zah H rfl rfl (hv:=hpy) (hn:=rfl)) ?_)
        iterate 3 refine p_q ?_
        (refine p_e rfl (fun w H=>zah H rfl rfl (hv:=hpx) (hn:=rfl)) ?_);(refine zfu H rfl rfl rfl Tryz.func255 (zcr _ y x HCC) ?_;clear H;rintro e w1 ⟨rfl,hF⟩ H;refine p_r ?_;clear hF)
        iterate 2 refine p_q ?_
        (refine zf ?_)
        all_goals
         revert H;refine W59 ?_;intro H
         go_roundw
         case rel=>exact⟨c+1,r,congrArg (Value.int .i64) yb,rfl,by omega,by omega,hhi,HLo2,HHi,H⟩
         case measure=>(simp[intOf];try omega)
     ·obtain rfl:st=r:=by omega
      have hsm:st≤m:=by omega
      have hsa:a≤st:=by omega
      have hsmid:st≤mid:=by omega
      obtain⟨en,hen⟩:∃en,mid+m-st=en:=⟨_,rfl⟩;have hen1:en+st≤mid+m:=by omega
      have hen2:mid+m≤en+st:=by omega
      have henb:en≤b:=by omega
      have HEN:=hid (show(mid:Int)+(m:Int)-(st:Int)=(en:Int) by omega)
      have HCR:=hid (zqj HX.out HY.out (i:=st-a) (j:=mid-st) yah yag (fun x y hx h0 hy=>by
       by_cases hl:lo<st
       ·exact HLo.out x y hl (by rwa [show st-1-a=st-a-1 by omega]) (by rwa [show mid+m-st-m=mid-st by omega])
       ·exfalso
        have:=(List.getElem?_eq_some_iff.1 hy).1
        rw[HYL.out]at this
        have:=HLO.out
        omega) (fun x y hx hy h0=>by
       by_cases hl:st<r0
       ·exact(HHi.out x y hl hx (by rwa [show mid+m-1-st-m=mid-st-1 by omega])).le
       ·exfalso
        have:=(List.getElem?_eq_some_iff.1 hx).1
        rw[HXL.out]at this
        have:=HR0.out
        omega))
      have hXX:(X.take (st-a)++X.drop (st-a)).Pairwise leE:=by rw[List.take_append_drop];exact HX.out
      have hYY:(Y.take (mid-st)++Y.drop (mid-st)).Pairwise leE:=by rw[List.take_append_drop];exact HY.out
      rw[List.pairwise_append]at hXX hYY;have hxe:X=X.take (st-a)++X.drop (st-a):=(List.take_append_drop _ _).symm;have hye:Y=Y.take (mid-st)++Y.drop (mid-st):=(List.take_append_drop _ _).symm;have l1:(X.take (st-a)).length=st-a:=by rw[List.length_take,HXL.out];omega
      have l2:(X.drop (st-a)).length=m-st:=by rw[List.length_drop,HXL.out];omega
      have l3:(Y.take (mid-st)).length=mid-st:=by rw[List.length_take,HYL.out];omega
      have l4:(Y.drop (mid-st)).length=b-en:=by rw[List.length_drop,HYL.out];omega
      obtain⟨X1,hX1⟩:∃z,X.take (st-a)=z:=⟨_,rfl⟩;obtain⟨X2,hX2⟩:∃z,X.drop (st-a)=z:=⟨_,rfl⟩;obtain⟨Y1,hY1⟩:∃z,Y.take (mid-st)=z:=⟨_,rfl⟩;obtain⟨Y2,hY2⟩:∃z,Y.drop (mid-st)=z:=⟨_,rfl⟩;have halves':∀(Z1 Z2:List En),(X1++Y1).Perm Z1→(X2++Y2).Perm Z2→Z1.Pairwise leE→Z2.Pairwise leE→(Z1++Z2).Pairwise leE∧(X++Y).Perm (Z1++Z2):=fun Z1 Z2 p1 p2 s1 s2=>zuh HCR.out (by rw[hX1,hY1];exact p1) (by rw[hX2,hY2];exact p2) s1 s2
      have HCR:=hid halves';rw[hX1,hX2]at hXX hxe;rw[hY1,hY2]at hYY hye;rw[hX1]at l1;rw[hX2]at l2;rw[hY1]at l3;rw[hY2]at l4;have HX1:=hid l1;have HX2:=hid l2;have HY1:=hid l3;have HY2:=hid l4;have HSX1:=hid hXX.1;have HSX2:=hid hXX.2.1;have HSY1:=hid hYY.1;have HSY2:=hid hYY.2.1
      have hcs1:cs=((P++X1)++(X2++(Y1++(Y2++S)))).flatMap eC++pad:=by
       rw[←HC.out,hxe,hye];simp only[List.append_assoc]
      have HLN:=hid (show(P++(X1++(Y1++(X2++(Y2++S))))).length=N by
       have:=HN.out
       rw[hxe,hye]at this;simp only[List.length_append]at this ⊢
       omega)
      have HCS1:=hid hcs1;clear halves' hX1 hX2 hY1 hY2 hXX hYY hxe hye l1 l2 l3 l4 hcs1 HLo HHi hlt hen hlo hhi HLO HR0 hlo1 hlo2 hr1 hr2 hlo3 hsr
      go_upto_region 39 with(first|refine x_q H ?_|refine zm (fun h=>?_) (fun h=>?_)|(revert H;(first|(refine x_g ?_;intro g1 w1 hg hf H)|(refine x_s ?_;intro w1 hf H));(first|replace hf:=hf.kp|clear hf)))
      rw[HEN.out]
      go_cut [185] (fun s185 wx=>s185= .bool (decide (st<m∧m<en))∧Hp [q] w wx [.blk q cs 75])
      case first=>
       go_wp2_with(first|refine x_q H ?_|refine zm ?_ ?_<;>intro h)
       all_goals
        go_meet
        case rel=>exact⟨yC,H⟩
      case rest=>as_aux_lemma=>
       clear H;obtain⟨rfl,H⟩:=hcut
       go_upto_if 185 with fail
       go_cut [24] (fun s24 wx=>s24= .int .i64 (en:Int)∧∃cs2,Hid (cs2=(P++(X1++(Y1++(X2++(Y2++S))))).flatMap eC++pad)∧Hp [q] w wx [.blk q cs2 75])
       case first=>
        by_cases hrot:st<m∧m<en
        ·rw[decide_eq_true hrot];revert H;refine W39 ?_;intro H _ _;refine Calls.mono (zmc (P++X1) X2 Y1 (Y2++S) pad (a:=st) (m:=m) (b:=en) (by have:=H.at q;rwa [HCS1.out]at this) (by have h2:=HLN.out;simp only[List.length_append]at h2 ⊢;omega) hN2 (by rw[List.length_append,HPL.out,HX1.out];omega) yai yaj yai yaj) ?_;rintro e w2 ⟨rfl,hF,hq2⟩;have HC2:=hid (show(P++X1++(Y1++(X2++(Y2++S)))).flatMap eC++pad=(P++(X1++(Y1++(X2++(Y2++S))))).flatMap eC++pad by rw[List.append_assoc P X1]);have H1:=H.reQ hF hq2;clear H hF hq2 HCS1;have H:=H1;clear H1;simp only[Int.not_lt,Int.not_le]at*;revert H;refine W59 ?_;intro H
         go_meet
         case rel=>exact⟨rfl,_,HC2,H⟩
        ·rw[decide_eq_false hrot]
         have he:X2++Y1=Y1++X2:=by
          by_cases h3:X2=[]
          ·rw[h3,List.nil_append,List.append_nil]
          ·have:0<X2.length:=List.length_pos_iff.2 h3
           rw[HX2.out]at this
           have:Y1.length=0:=by rw[HY1.out];omega
           rw[List.eq_nil_of_length_eq_zero this,List.nil_append,List.append_nil]
         have HC2:=hid (show cs=(P++(X1++(Y1++(X2++(Y2++S))))).flatMap eC++pad by
          rw[HCS1.out,List.append_assoc P X1,←List.append_assoc X2 Y1,he,List.append_assoc Y1 X2])
         clear he HCS1;revert H;refine W39 ?_;intro H
         go_meet
         case rel=>exact⟨rfl,_,HC2,H⟩
       case rest=>as_aux_lemma=>
        clear H HCS1 HC HPX HPY;obtain⟨rfl,cs2,HC2,H⟩:=hcut
        go_upto_region 41 with fail
        go_cut [199] (fun s199 wx=>s199= .bool (decide (a<st∧st<mid))∧Hp [q] w wx [.blk q cs2 75])
        case first=>
         go_wp2_with(first|refine x_q H ?_|refine zm ?_ ?_<;>intro h)
         all_goals
          go_meet
          case rel=>exact⟨yC,H⟩
        case rest=>as_aux_lemma=>
         clear H;obtain⟨rfl,H⟩:=hcut
         go_upto_if 199 with fail
         go_cut [24] (fun s24 wx=>s24= .int .i64 (en:Int)∧∃Z1 cs3,Hid ((X1++Y1).Perm Z1)∧Hid (Z1.Pairwise leE)∧Hid (cs3=(P++(Z1++(X2++(Y2++S)))).flatMap eC++pad)∧Hp [q] w wx [.blk q cs3 75])
         case first=>
          by_cases h1:a<st∧st<mid
          ·rw[decide_eq_true h1];revert H;refine W39 ?_;intro H _ _;refine Calls.mono (ih (a:=a) (m:=st) (b:=mid) P X1 Y1 (X2++(Y2++S)) pad yb (by have:=H.at q;rwa [HC2.out]at this) (by have h2:=HLN.out;simp only[List.length_append]at h2 ⊢;omega) hN2 HPL.out (by rw[HX1.out];omega) yaj (by rw[HX1.out];omega) yaj HSX1.out HSY1.out) ?_;rintro e w2 ⟨rfl,hF,Z1,hp1,hs1,hq2⟩;have HP1:=hid hp1;have HS1:=hid hs1;have H1:=H.reQ hF hq2;clear H hF hq2 hp1 hs1 HC2;have H:=H1;clear H1;simp only[Int.not_lt,Int.not_le]at*;revert H;refine W59 ?_;intro H
           go_meet
           case rel=>exact⟨rfl,Z1,_,HP1,HS1,hid rfl,H⟩
          ·rw[decide_eq_false h1]
           have he:X1++Y1=X1∨X1++Y1=Y1:=by
            by_cases h3:X1=[]
            ·right;rw[h3];rfl
            ·left
             have:0<X1.length:=List.length_pos_iff.2 h3
             rw[HX1.out]at this
             have:Y1.length=0:=by rw[HY1.out];omega
             rw[List.eq_nil_of_length_eq_zero this,List.append_nil]
           have HS1:=hid (show(X1++Y1).Pairwise leE by rcases he with e|e<;>rw[e]<;>first|exact HSX1.out|exact HSY1.out);have HP1:=hid (List.Perm.refl (X1++Y1));have HC3:=hid (show cs2=(P++((X1++Y1)++(X2++(Y2++S)))).flatMap eC++pad by rw[HC2.out];simp only[List.append_assoc]);clear he HC2;revert H;refine W39 ?_;intro H
           go_meet
           case rel=>exact⟨rfl,_,_,HP1,HS1,HC3,H⟩
         case rest=>as_aux_lemma=>
          clear H HC2;obtain⟨rfl,Z1,cs3,HP1,HS1,HC3,H⟩:=hcut
          go_upto_region 43 with fail
          go_cut [213] (fun s213 wx=>s213= .bool (decide (mid<en∧en<b))∧Hp [q] w wx [.blk q cs3 75])
          case first=>
           go_wp2_with(first|refine x_q H ?_|refine zm ?_ ?_<;>intro h)
           all_goals
            go_meet
            case rel=>exact⟨yC,H⟩
          case rest=>as_aux_lemma=>
           clear H;obtain⟨rfl,H⟩:=hcut
           go_upto_if 213 with fail
           by_cases h2:mid<en∧en<b
           ·rw[decide_eq_true h2];revert H;refine W39 ?_;intro H _ _;refine Calls.mono (ih (a:=mid) (m:=en) (b:=b) (P++Z1) X2 Y2 S pad yb (by have:=H.at q;rwa [HC3.out,←List.append_assoc P Z1]at this) (by have h1:=HP1.out.length_eq;have h2:=HLN.out;simp only[List.length_append]at h1 h2 ⊢;omega) hN2 (by rw[List.length_append,←HP1.out.length_eq,List.length_append,HPL.out,HX1.out,HY1.out];omega) yai (by rw[HY2.out];omega) yai (by rw[HY2.out];omega) HSX2.out HSY2.out) ?_;rintro e w2 ⟨rfl,hF,Z2,hp2,hs2,hq2⟩;have H1:=H.reQ hF hq2;clear H hF hq2;have H:=H1;clear H1;have HFIN:=hid (HCR.out _ _ HP1.out hp2 HS1.out hs2);clear hp2 hs2;simp only[Int.not_lt,Int.not_le]at*;revert H;refine W59 ?_;intro H
            go_end0
            have hat:=H.at q;exact⟨rfl,H.fr,Z1++Z2,HFIN.out.2,HFIN.out.1,by rw[List.append_assoc]at hat ⊢;exact hat⟩
           ·rw[decide_eq_false h2]
            have he:X2++Y2=X2∨X2++Y2=Y2:=by
             by_cases h3:X2=[]
             ·right;rw[h3];rfl
             ·left
              have:0<X2.length:=List.length_pos_iff.2 h3
              rw[HX2.out]at this
              have:Y2.length=0:=by rw[HY2.out];omega
              rw[List.eq_nil_of_length_eq_zero this,List.append_nil]
            have hs2:(X2++Y2).Pairwise leE:=by rcases he with e|e<;>rw[e]<;>first|exact HSX2.out|exact HSY2.out
            have HFIN:=hid (HCR.out _ _ HP1.out (List.Perm.refl _) HS1.out hs2);have hat:=H.at q;rw[HC3.out]at hat;have HAT:=hid hat;clear he hs2 hat;revert H;refine W39 ?_;intro H
            go_end0
            exact⟨rfl,H.fr,Z1++(X2++Y2),HFIN.out.2,HFIN.out.1,by have:=HAT.out;simp only[List.append_assoc]at this ⊢;exact this⟩
end
section
variable {s N a:Nat} {R E1 E2:List En}
open Go.RowKit
attribute [local irreducible] wpList Code.wp Plan.wp
inductive Ck (s:Nat):List En→Prop
 | last {E:List En}:E.length≤s→E.Pairwise leE→Ck s E
 | more {X E:List En}:X.length=s→X.Pairwise leE→Ck s E→Ck s (X++E)
def zgh(h:Ck s R)(hl:s≤R.length):∃X R',R=X++R'∧X.length=s∧X.Pairwise leE∧Ck s R':=by
 cases h with
 | last h1 h2=>exact⟨R,[],by simp,by omega,h2, .last yg .nil⟩
 | more h1 h2 h3=>exact⟨_,_,rfl,h1,h2,h3⟩
def zgo(h:Ck s R)(hl:R.length≤s):R.Pairwise leE:=by
 cases h with
 | last h1 h2=>exact h2
 | @more X E h1 h2 h3=>
  rw[List.length_append]at hl;have h0:E=[]:=List.eq_nil_of_length_eq_zero yb;subst h0
  simpa using h2
def CkF(s:Nat)(A:List En):Prop:=∀R,Ck s R→Ck s (A++R)
def zlh:CkF s []:=fun R h=>h
def CkF.snoc{A Z:List En}(h:CkF s A)(hl:Z.length=s)(hs:Z.Pairwise leE):CkF s (A++Z):=fun R hR=>by
 rw[List.append_assoc];exact h _ (.more hl hs hR)
def ztj{b:Nat}(h0:∃A R,E1=A++R∧A.length=a∧CkF 20 A)(hN:E2.length=N)(hb1:a+20≤b)(hb2:b≤a+20)(hb3:b≤N)(ht:E2.take a=E1.take a)(hs:((E2.take b).drop a).Pairwise leE):
 ∃A R,E2=A++R∧A.length=b∧CkF 20 A:=by
 obtain⟨A,R,rfl,hA,hC⟩:=h0
 have e1:(E2.take b).take a=A:=by
  rw[List.take_take,Nat.min_eq_left yb,ht,←hA,List.take_left]
 have e2:E2.take b=A++(E2.take b).drop a:=by
  have h:=(List.take_append_drop a (E2.take b)).symm
  rwa [e1]at h
 refine⟨A++(E2.take b).drop a,E2.drop b,by rw[←e2,List.take_append_drop],by rw[←e2,List.length_take];omega,hC.snoc ?_ hs⟩;rw[List.length_drop,List.length_take];omega
def zsV(h0:∃A R,E1=A++R∧A.length=a∧CkF 20 A)(hN:E2.length=N)(ha:a≤N)(hb:N<a+20)(ht:E2.take a=E1.take a)(hs:((E2.take N).drop a).Pairwise leE):Ck 20 E2:=by
 obtain⟨A,R,rfl,hA,hC⟩:=h0;rw[List.take_of_length_le yb]at hs;have e1:E2.take a=A:=by rw[ht,←hA,List.take_left]
 have e2:E2=A++E2.drop a:=by
  have h:=(List.take_append_drop a E2).symm
  rwa [e1]at h
 rw[e2];exact hC _ (.last (by rw[List.length_drop];omega) hs)
def zm2{w:World}{q cap N:Nat}(E:List En)(pad:List Value)(hq:w.heap[q]? =some (.cells (E.flatMap eC++pad).toArray 75 (0,0)))(hN:E.length=N)(hN2:N≤100000):
 Calls Tryz.prog 299 #[.slice (some ⟨q,0,none⟩) N cap, .int .i64 (N:Int), .func (.func 255) #[] #[]] w fun e w'=>e= .returned (.tuple #[])∧Fr [q] w w'∧
  ∃E':List En,E'.length=N∧w'.heap[q]? =some (.cells (E'.flatMap eC++pad).toArray 75 (0,0))∧E.Perm E'∧E'.Pairwise leE:=by
 have H:=(Hp.start [q] w).pushObj 5 (Q:=EntsB q E pad) (S:=[q]) hq EntsB.firm yg yg;clear hq;have HNN:=hid hN;clear hN
 go_enter Tryz.func299,Tryz.ntmps299
 revert H;refine W55 ?_;intro H _ _ _
 go_loopw [7,8] (fun s7 s8 wr=>∃(a b:Nat) (E1:List En),s7= .int .i64 (a:Int)∧s8= .int .i64 (b:Int)∧a+20≤b∧b≤a+20∧a≤N∧Hid (E1.length=N)∧Hid (E.Perm E1)∧Hid (∃A R,E1=A++R∧A.length=a∧CkF 20 A)∧Hp [q] w wr [.obj 5 [q] (EntsB q E1 pad)]) (fun v _ _=>N+1-(intOf v).toNat)
 case atStart=>exact⟨0,20,E,rfl,rfl,by omega,by omega,by omega,HNN,hid (List.Perm.refl _),hid ⟨[],E,rfl,rfl,zlh⟩,H⟩
 case round=>
  clear H;obtain⟨a,b,E1,rfl,rfl,hb1,hb2,haN,hE1,HP,HS,H⟩:=hrel
  by_cases hlt:b≤N
  ·revert H;refine W55 ?_;intro H _ _ _ _ _;(refine Calls.mono (zhq (a:=a) (b:=b) E1 pad (H.ob 5) hE1.out yb yb yb) ?_;rintro e w1 ⟨rfl,hF,E2,h1,h2,h3,h4,h5,h6⟩;have H1:=H.upd (w':=w1) 5 hF (S':=[q]) (show EntsB q E2 pad w1 from h2) yg ;clear H hF h2;have H:=H1;clear H1);have HS2:=hid (ztj HS.out h1 hb1 hb2 hlt h4 h6);have HP2:=hid (HP.out.trans h3);have HL:=hid h1;clear HP HS h1 h3 h4 h5 h6 hE1 E1;simp only[Int.not_lt,Int.not_le]at*;revert H;refine W55 ?_;intro H
   go_roundw
   case rel=>exact⟨b,b+20,E2,rfl,congrArg (Value.int .i64) yb,by omega,by omega,hlt,HL,HP2,HS2,H⟩
   case measure=>(simp[intOf];try omega)
  ·revert H;refine W55 ?_;intro H _ _ _ _ _ _ _;(refine Calls.mono (zhq (a:=a) (b:=N) E1 pad (H.ob 5) hE1.out yb yb yb) ?_;rintro e w1 ⟨rfl,hF,E2,h1,h2,h3,h4,h5,h6⟩;have H1:=H.upd (w':=w1) 5 hF (S':=[q]) (show EntsB q E2 pad w1 from h2) yg ;clear H hF h2;have H:=H1;clear H1);have HS2:=hid (zsV HS.out h1 haN yb h4 h6);have HP2:=hid (HP.out.trans h3);have HL:=hid h1;clear HP HS h1 h3 h4 h5 h6 hE1 E1 hlt hb1 hb2 haN;simp only[Int.not_lt,Int.not_le]at*;revert H;refine W55 ?_;intro H
   go_loopw [6] (fun s6 wr=>∃(s:Nat) (E1:List En),s6= .int .i64 (s:Int)∧20≤s∧s≤2*N+20∧Hid (E1.length=N)∧Hid (E.Perm E1)∧Hid (Ck s E1)∧Hp [q] w wr [.obj 5 [q] (EntsB q E1 pad)]) (fun v _=>N-(intOf v).toNat)
   case atStart=>exact⟨20,E2,rfl,by omega,by omega,HL,HP2,HS2,H⟩
   case round=>
    clear H HL HP2 HS2;obtain⟨s,E3,rfl,hs1,hs2,HL,HP,HC,H⟩:=hrel
    by_cases hlt:s<N
    ·obtain⟨d,hd⟩:∃d,2*s=d:=⟨_,rfl⟩;have hd1:2*s≤d:=by omega
     have hd2:d≤2*s:=by omega
     have HD:=hid (show 2*(s:Int)=(d:Int) by omega);clear hd;revert H;refine W55 ?_;intro H _ _ _;rw[HD.out]
     go_loopw [7,8] (fun s7 s8 wr=>∃(a b:Nat) (E1:List En),s7= .int .i64 (a:Int)∧s8= .int .i64 (b:Int)∧a+d≤b∧b≤a+d∧a≤N∧Hid (E1.length=N)∧Hid (E.Perm E1)∧Hid (∃A R,E1=A++R∧A.length=a∧CkF d A∧Ck s R)∧Hp [q] w wr [.obj 5 [q] (EntsB q E1 pad)]) (fun v _ _=>N+1-(intOf v).toNat)
     case atStart=>exact⟨0,d,E3,rfl,rfl,by omega,by omega,by omega,HL,HP,hid ⟨[],E3,rfl,rfl,zlh,HC.out⟩,H⟩
     case round=>
      clear H HL HP HC;obtain⟨a,b,E4,rfl,rfl,hb1,hb2,haN,HL,HP,HS,H⟩:=hrel;obtain⟨A,R,hE4,hA,hCF,hCk⟩:=HS.out;have hlen:=HL.out;rw[hE4,List.length_append]at hlen;obtain⟨mm,hmm⟩:∃mm,a+s=mm:=⟨_,rfl⟩;have hm1:a+s≤mm:=by omega
      have hm2:mm≤a+s:=by omega
      have HMM:=hid (show(a:Int)+(s:Int)=(mm:Int) by omega);clear hmm HS
      by_cases hbN:b≤N
      ·obtain⟨X,R1,hX,hXl,hXs,hC1⟩:=zgh hCk yb;have hl2:=congrArg List.length hX;rw[List.length_append]at hl2;obtain⟨Y,R2,hY,hYl,hYs,hC2⟩:=zgh hC1 yb;have hl3:=congrArg List.length hY;rw[List.length_append]at hl3;have hE5:E4=A++(X++(Y++R2)):=by rw[hE4,hX,hY]
       have hob:=H.ob 5;unfold EntsB at hob;rw[hE5]at hob;have HCALL:=hid (zkF (cap:=cap) (b-a) A X Y R2 pad (Nat.le_refl _) hob (by have h:=HL.out;rwa [hE5]at h) hN2 hA (m:=mm) (b:=b) yb yb yb yb hXs hYs);have HQ:=hid (And.intro hCF (And.intro hC2 (And.intro (show X.length+Y.length=d by omega) (And.intro (show A.length+d=b by omega) hE5))));clear hE4 hA hCF hCk hlen hX hXl hXs hC1 hl2 hY hYl hYs hC2 hl3 hE5 hob;revert H;refine W55 ?_;intro H _ _ _ _ _;rw[HMM.out];refine Calls.mono HCALL.out ?_;clear HCALL;rintro e w1 ⟨rfl,hF,Z,hp,hz,hq2⟩;have H1:=H.upd (w':=w1) 5 hF (S':=[q]) (show EntsB q (A++(Z++R2)) pad w1 from hq2) yg;clear H hF hq2;have H:=H1;clear H1;have hzl:Z.length=d:=by have h:=hp.length_eq;rw[List.length_append]at h;have:=HQ.out.2.2.1;omega
       have HS2:=hid (show ∃A' R',A++(Z++R2)=A'++R'∧A'.length=b∧CkF d A'∧Ck s R' from⟨A++Z,R2,(List.append_assoc _ _ _).symm,by rw[List.length_append,hzl];exact HQ.out.2.2.2.1,HQ.out.1.snoc hzl hz,HQ.out.2.1⟩)
       have hpp:(A++(X++(Y++R2))).Perm (A++(Z++R2)):=by
        refine List.Perm.append_left _ ?_;rw[←List.append_assoc];exact List.Perm.append_right _ hp
       have HP2:=hid (show E.Perm (A++(Z++R2))from HP.out.trans (by rw[HQ.out.2.2.2.2];exact hpp));have HL2:=hid (show(A++(Z++R2)).length=N by have h:=HL.out;rw[HQ.out.2.2.2.2,hpp.length_eq]at h;exact h);clear HP HL HQ hzl hz hp hpp;obtain⟨E5,hE5⟩:∃E5,A++(Z++R2)=E5:=⟨_,rfl⟩;rw[hE5]at H HS2 HP2 HL2;clear hE5;simp only[Int.not_lt,Int.not_le]at*;revert H;refine W55 ?_;intro H
       go_roundw
       case rel=>exact⟨b,b+d,E5,rfl,congrArg (Value.int .i64) yb,by omega,by omega,hbN,HL2,HP2,HS2,H⟩
       case measure=>(simp[intOf];try omega)
      ·by_cases h3:mm<N
       ·obtain⟨X,R1,hX,hXl,hXs,hC1⟩:=zgh hCk yb;have hl2:=congrArg List.length hX;rw[List.length_append]at hl2;have hYs:=zgo hC1 yb;have hE5:E4=A++(X++(R1++[])):=by rw[hE4,hX,List.append_nil]
        have hob:=H.ob 5;unfold EntsB at hob;rw[hE5]at hob;have HCALL:=hid (zkF (cap:=cap) (N-a) A X R1 [] pad (Nat.le_refl _) hob (by have h:=HL.out;rwa [hE5]at h) hN2 hA (m:=mm) (b:=N) yb yb yb yb hXs hYs);have HQ:=hid (And.intro hCF (And.intro (show X.length+R1.length≤d by omega) hE5));clear hE4 hA hCF hCk hlen hX hXl hXs hC1 hl2 hYs hE5 hob;revert H;refine W55 ?_;intro H _ _ _ _ _ _ _;rw[HMM.out];revert H;refine W55 ?_;intro H;refine Calls.mono HCALL.out ?_;clear HCALL;rintro e w1 ⟨rfl,hF,Z,hp,hz,hq2⟩;have H1:=H.upd (w':=w1) 5 hF (S':=[q]) (show EntsB q (A++(Z++[])) pad w1 from hq2) yg;clear H hF hq2;have H:=H1;clear H1;have hzl:Z.length≤d:=by have h:=hp.length_eq;rw[List.length_append]at h;have:=HQ.out.2.1;omega
        have HS2:=hid (show Ck d (A++(Z++[]))from HQ.out.1 _ (by rw[List.append_nil];exact .last hzl hz))
        have hpp:(A++(X++(R1++[]))).Perm (A++(Z++[])):=by
         refine List.Perm.append_left _ ?_;rw[←List.append_assoc];exact List.Perm.append_right _ hp
        have HP2:=hid (show E.Perm (A++(Z++[]))from HP.out.trans (by rw[HQ.out.2.2];exact hpp));have HL2:=hid (show(A++(Z++[])).length=N by have h:=HL.out;rw[HQ.out.2.2,hpp.length_eq]at h;exact h);clear HP HL HQ hzl hz hp hpp;obtain⟨E5,hE5⟩:∃E5,A++(Z++[])=E5:=⟨_,rfl⟩;rw[hE5]at H HS2 HP2 HL2;clear hE5;simp only[Int.not_lt,Int.not_le]at*;revert H;refine W55 ?_;intro H
        go_roundw
        case rel=>exact⟨d,E5,congrArg (Value.int .i64) yb,by omega,by omega,HL2,HP2,HS2,H⟩
        case measure=>(simp[intOf];try omega)
       ·have HS2:=hid (show Ck d E4 by
         rw[hE4]
         exact hCF _ (.last yb (zgo hCk yb)))
        clear hE4 hA hCF hCk hlen;revert H;refine W55 ?_;intro H _ _ _
        go_roundw
        case rel=>exact⟨d,E4,congrArg (Value.int .i64) yb,by omega,by omega,HL,HP,HS2,H⟩
        case measure=>(simp[intOf];try omega)
    ·have HF:=hid (zgo HC.out (by rw[HL.out];omega));clear HC;revert H;refine W55 ?_;intro H _ _ _
     go_end0
     exact⟨rfl,H.fr,E3,HL.out,H.ob 5,HP.out,HF.out⟩
def znz{w:World}{q cap:Nat}(E:List En)(pad:List Value)(hq:w.heap[q]? =some (.cells (E.flatMap eC++pad).toArray 75 (0,0)))(hN:E.length=N)(hN2:N≤100000):
 Calls Tryz.prog 254 #[.slice (some ⟨q,0,none⟩) N cap, .func (.func 255) #[] #[]] w fun e w'=>e= .returned (.tuple #[])∧Fr [q] w w'∧
  ∃E':List En,E'.length=N∧w'.heap[q]? =some (.cells (E'.flatMap eC++pad).toArray 75 (0,0))∧E.Perm E'∧E'.Pairwise leE:=by
 have H:=(Hp.start [q] w).pushObj 5 (Q:=EntsB q E pad) (S:=[q]) hq EntsB.firm yg yg;clear hq
 go_enter Tryz.func254,Tryz.ntmps254
 revert H;refine W55 ?_;intro H _ _ _;refine Calls.mono (zm2 E pad (H.ob 5) hN hN2) ?_;rintro e w1 ⟨rfl,hF,E2,h1,h2,h3,h4⟩;have H1:=H.upd (w':=w1) 5 hF (S':=[q]) (show EntsB q E2 pad w1 from h2) yg;clear H hF h2;have H:=H1;clear H1;have HR:=hid (And.intro h1 (And.intro h3 h4));clear h1 h3 h4;simp only[Int.not_lt,Int.not_le]at*;revert H;refine W55 ?_;intro H
 go_end0
 exact⟨rfl,H.fr,E2,HR.out.1,H.ob 5,HR.out.2.1,HR.out.2.2⟩
def zhj(w:World){p:Option Addr}{c:Nat}(E:List En)(hr:Rd w (.slice p E.length c) E.length (E.flatMap eC))(hE:E.length≤100000):
 Calls Tryz.prog 188 #[.slice p E.length c] w fun e w'=>∃v,e= .returned v∧Fr [] w w'∧∃E':List En,E'.length=E.length∧w'.ownsRow w.heap.size 75 3 v E.length (E'.flatMap eC)∧E.Perm E'∧E'.Pairwise leE:=by
 have H:=Hp.start [] w
 go_enter Tryz.func188,Tryz.ntmps188
 revert H;refine W55 ?_;intro H _ _ _ _ _;refine Calls.mono (zg9 _ E hr yb) ?_;rintro e w1 ⟨v,rfl,hF,hown⟩;obtain⟨S,H1⟩:=H.rowNew 0 hF hown;clear H hF hown hr;have H:=H1;clear H1;obtain⟨h0,⟨rfl,h2,rfl⟩|⟨g,cap,pad,rfl,rfl,h2,h3,h4,h5⟩⟩:=H.rowo 0
 ·have hE0:E=[]:=List.eq_nil_of_length_eq_zero h2;subst hE0;clear h0 h2 hE;simp only[Int.not_lt,Int.not_le]at*;revert H;refine W55 ?_;intro H _ _ _ _;refine x_c H zoC ?_;clear H;rintro e w1 ⟨rfl,hF⟩ H;clear hF;simp only[Int.not_lt,Int.not_le]at*;revert H;refine W55 ?_;intro H;(refine bodyPost_ret (results_tmp rfl _ _ _) rfl ?_);exact⟨_,rfl,H.fr,[],rfl,World.ownsRow_nil _ _ _ _,List.Perm.refl _, .nil⟩
 ·have H1:Hp [] w w1 [.obj 5 [g] (EntsB g E pad)]:=H.recast (.head _) rfl ⟨h5,EntsB.firm,H.home 0⟩;have HX:=hid (And.intro h2 (And.intro h3 h4));have HG:=hid (H.home 0 g yg);clear H h0 h2 h3 h4 h5;have H:=H1;clear H1;obtain⟨N,hN⟩:∃N,E.length=N:=⟨_,rfl⟩;have HN:=hid hN;rw[hN]at hE ⊢;rw[hN]at HX;clear hN;simp only[Int.not_lt,Int.not_le]at*;revert H;refine W55 ?_;intro H _ _ _ _;refine Calls.mono (znz E pad (H.ob 5) HN.out hE) ?_;rintro e w2 ⟨rfl,hF,E2,h1,h2,h3,h4⟩;have H1:=H.upd (w':=w2) 5 hF (S':=[g]) (show EntsB g E2 pad w2 from h2) yg;clear H hF h2;have H:=H1;clear H1;have HR:=hid (And.intro h1 (And.intro h3 h4));clear h1 h3 h4;simp only[Int.not_lt,Int.not_le]at*;revert H;refine W55 ?_;intro H;(refine bodyPost_ret (results_tmp rfl _ _ _) rfl ?_);have hat:=H.ob 5;have hl:=HR.out.1
  have hr:RowAt 75 3 (.slice (some ⟨g,0,none⟩) N cap) N (E2.flatMap eC) [g] _:=⟨by rw[zaI,hl], .inr ⟨g,cap,pad,rfl,rfl,HX.out.1,HX.out.2.1,(by have:=HX.out.2.2;rw[List.length_append,zaI]at this ⊢;rw[hl];rw[HN.out]at this;exact this),hat⟩⟩;have hNe:=HN.out;clear HN;subst hNe;exact⟨_,rfl,H.fr,E2,hl,hr.owns (fun x hx=>by simp only[List.mem_singleton]at hx;subst hx;exact HG.out.resolve_left yg),HR.out.2.1,HR.out.2.2⟩
end
end Go.Proofs.YtaijhllckmndhaaGreatDoor
