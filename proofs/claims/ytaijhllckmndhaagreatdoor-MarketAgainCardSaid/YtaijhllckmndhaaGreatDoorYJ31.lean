import Derived.Test.YtaijhllckmndhaaGreatDoorYJ0
import Derived.Test.YtaijhllckmndhaaGreatDoorYJ28
namespace Go.Proofs.YtaijhllckmndhaaGreatDoor
set_option linter.all false
set_option maxHeartbeats 64000000
set_option maxRecDepth 100000
section
open Go.RowKit
attribute [local irreducible] wpList Code.wp Plan.wp
section
variable {P:Program} {a:Act} {w w0:World} {o:Oper} {K:Act→World→Prop} {Q:Exit→Act→World→Prop} {T:List Nat} {l:List Ent} {L:List Value} {ds:List Deferred}
def zqh{f:FuncId}{x:Operand}{al:List Operand}{ats:Array TypeId}(ho:o.op= .call {callee:= .value x,args:=al.toArray,argTypes:=ats})(hx:a.eval x= .func (.func f) #[] #[]){fn:Func}(hf:P.funcs[f]? =some fn)(hn:(fn.name== "runtime.NumGoroutine")=false)(hb:fn.body.isNone=false)
 {R:Ending→World→Prop} (hc:Calls P f (al.map a.eval).toArray w R) (h:∀e w',R e w'→∃v,e= .returned v∧K (a.put o.dst v) w'):o.wp P a w K Q:=by
 have e1:al.toArray.map a.eval=(al.map a.eval).toArray:=by simp
 unfold Oper.wp execOp;simp only[ho,hx,resolve,Deferred.ofValue,invoke,callFunc,Sem.run_bind,Sem.run_pure,Result.andThen_ok,run_program,hf,hn,hb,Bool.false_eq_true,if_false,Oper.upon,Array.append_empty,Array.empty_append,e1];refine Calls.mono hc (fun e w' hR=>?_);obtain⟨v,rfl,hk⟩:=h e w' hR;exact hk
variable {lo:List Oper} {S:World→Prop} {f i:Nat} {k:Plan}
def zfu(H:Hp T w0 w l){fi:FuncId}{x:Operand}{al:List Operand}{ats:Array TypeId}(hi:lo[i]? =some o)(ho:o.op= .call {callee:= .value x,args:=al.toArray,argTypes:=ats})(hx:(Act.mk L.toArray ds).eval x= .func (.func fi) #[] #[]){fn:Func}(hf:P.funcs[fi]? =some fn)
 {R:Ending→World→Prop} (hc:Calls P fi (al.map (Act.mk L.toArray ds).eval).toArray w R) (h:∀e w',R e w'→Hp T w0 w' l→∃v,e= .returned v∧k.wp P lo.toArray Q S f ⟨(zad L o.dst v).toArray,ds⟩ w')
 (hR:∀e w',R e w'→Fr [] w w':=by intro e w' h;exact h.2)
 (hS:i≠f→∀w',Hp T w0 w' l→S w':=by intro hne w' H1;first|exact absurd rfl hne|exact trivial|exact H1.sub yd)
 (hn:(fn.name== "runtime.NumGoroutine")=false:=by kernel_rfl) (hb:fn.body.isNone=false:=by rfl)
 (hw:Region.wanted o (yielded lo.toArray L.toArray)=true:=by rfl):Plan.wp P lo.toArray Q S f (.ld i k) ⟨L.toArray,ds⟩ w:=
 zag hi hw fun K hK=>zqh ho hx hf hn hb hc fun e w' hr=>by
  have H1:=H.step (hR e w' hr) yg;obtain⟨v,hv,hk⟩:=h e w' hr H1;exact⟨v,hv,hK _ _ (fun hne=>hS hne w' H1) (by rw[zaj];exact hk)⟩
end
section
variable {P:Program} {a:Act} {w w0:World} {o:Oper} {Q:Exit→Act→World→Prop} {T:List Nat} {l:List Ent} {L:List Value} {ds:List Deferred} {lo:List Oper} {S:World→Prop} {f i:Nat} {k:Plan}
def zgp{b:Nat}{l':List Ent}{L':List Value}
 (h:∀w',Fr [b] w w'→Hp T w0 w' l'→k.wp P lo.toArray Q (fun _=>True) lo.toArray.size ⟨L'.toArray,ds⟩ w') (hi:lo[i]? =some o:=by rfl)
 (hw:Region.wanted o (yielded lo.toArray L.toArray)=true:=by rfl)
 (he:Hp T w0 w l→∀K:Act→World→Prop,(∀w',Fr [b] w w'→Hp T w0 w' l'→K (Act.put ⟨L.toArray,ds⟩ o.dst undef) w')→o.wp P ⟨L.toArray,ds⟩ w K Q:=by
  intro H K hK
  first|exact znc H rfl rfl rfl (h:=hK)|exact ziT H rfl rfl (h:=hK)|exact zdS H rfl rfl rfl (h:=hK))
 (hs:zad L o.dst undef=L':=by((try simp only[nrm,zP,zQ,↓reduceIte,Nat.reduceAdd]);(try exact rfl)))
 (H:Hp T w0 w l):Plan.wp P lo.toArray Q S f (.ldf i k) ⟨L.toArray,ds⟩ w:=
 zkt hi hw fun K hK=>he H K fun w' h2 h3=>hK _ _ (by rw[zaj,hs];exact h w' h2 h3)
end
def zaI(A:List En):(A.flatMap eC).length=A.length*3:=by
 induction A with
 | nil=>rfl
 | cons x A ih=>rw[List.flatMap_cons,List.length_append,ih,List.length_cons];show 3+_=_;omega
def zaP(A B:List En)(u:En)(pad:List Value):eC u<+:((A++u::B).flatMap eC++pad).drop (A.length*3):=by
 rw[List.flatMap_append,List.append_assoc,List.drop_append_of_le_length (by rw[zaI];exact Nat.le_refl _),List.drop_of_length_le (by rw[zaI];exact Nat.le_refl _),List.nil_append,List.flatMap_cons,List.append_assoc];exact List.prefix_append _ _
def zcC(x:En):∀v∈eC x,v.oneCell'=true:=by intro v hv;unfold eC at hv;simp at hv;rcases hv with rfl|rfl|rfl<;>rfl
def zaZ(cs:List Value)(p:Nat)(vs:List Value)(h:p+vs.length≤cs.length):(zL cs p vs).length=cs.length:=by
 unfold zL;rw[List.length_append,List.length_append,List.length_take,List.length_drop];omega
def zpQ(X U V Y:List Value)(h:V.length=U.length):zL (X++(U++Y)) X.length V=X++(V++Y):=by
 unfold zL
 have e1:(X++(U++Y)).drop (X.length+V.length)=Y:=by
  rw[h,←List.append_assoc,←List.length_append,List.drop_left]
 rw[List.take_left,e1,List.append_assoc]
def zbh(A B:List En)(u v:En)(pad:List Value){k:Nat}(hk:k=A.length*3):zL ((A++u::B).flatMap eC++pad) k (eC v)=(A++v::B).flatMap eC++pad:=by
 subst hk;have h:=zpQ (A.flatMap eC) (eC u) (eC v) (B.flatMap eC++pad) rfl;rw[zaI]at h;simp only[List.flatMap_append,List.flatMap_cons,List.append_assoc];exact h
def zjT{X Z:List En}{y:En}(h:(X++Z).Pairwise leE)(hZ:∀z∈Z,leE y z)(hX:∀x∈X.getLast?,leE x y):(X++y::Z).Pairwise leE:=by
 rw[List.pairwise_append]at h ⊢;refine⟨h.1,List.pairwise_cons.2 ⟨hZ,h.2.1⟩,fun x hx z hz=>?_⟩
 rcases List.mem_cons.1 hz with e|e
 ·subst e
  rcases List.eq_nil_or_concat X with e2|⟨X',l,e2⟩
  ·subst e2;cases hx
  ·rw[List.concat_eq_append]at e2;subst e2;have hl:=hX l yg
   rcases List.mem_append.1 hx with h5|h5
   ·exact((List.pairwise_append.1 h.1).2.2 x h5 l yg).trans hl
   ·rw[List.mem_singleton]at h5;rw[h5];exact hl
 ·exact h.2.2 x hx z e
def zhq{w:World}{q cap N a b:Nat}(E:List En)(pad:List Value)(hq:w.heap[q]? =some (.cells (E.flatMap eC++pad).toArray 75 (0,0)))(hN:E.length=N)(hN2:N≤100000)(hab:a≤b)(hb:b≤N):
 Calls Tryz.prog 314 #[.slice (some ⟨q,0,none⟩) N cap, .int .i64 (a:Int), .int .i64 (b:Int), .func (.func 255) #[] #[]] w fun e w'=>e= .returned (.tuple #[])∧Fr [q] w w'∧
  ∃E':List En,E'.length=N∧w'.heap[q]? =some (.cells (E'.flatMap eC++pad).toArray 75 (0,0))∧E.Perm E'∧E'.take a=E.take a∧E'.drop b=E.drop b∧((E'.take b).drop a).Pairwise leE:=by
 have H:=(Hp.start [q] w).push hq (.inl yg) yg;clear hq;have hNN:=hid hN;clear hN
 go_enter Tryz.func314,Tryz.ntmps314
 revert H;refine W53 ?_;intro H _
 go_loopw [8] (fun s8 wr=>∃(i:Nat) (E1:List En) (cs:List Value),s8= .int .i64 (i:Int)∧a+1≤i∧(i≤b∨i=a+1)∧Hid (E1.length=N)∧Hid (cs.length=N*3+pad.length)∧Hid (cs=E1.flatMap eC++pad)∧Hid (E.Perm E1)∧Hid (E1.take a=E.take a)∧Hid (E1.drop i=E.drop i)∧Hid (((E1.take i).drop a).Pairwise leE)∧Hid (i=a+1→E1=E)∧Hp [q] w wr [.blk q cs 75]) (fun v _=>b-(intOf v).toNat)
 case atStart=>
  refine⟨a+1,E,_,rfl,Nat.le_refl _, .inr rfl,hNN,hid (by rw[List.length_append,zaI,hNN.out]),hid rfl,hid (List.Perm.refl _),hid rfl,hid rfl,hid ?_,hid (fun _=>rfl),H⟩
  have:((E.take (a+1)).drop a).length≤1:=by rw[List.length_drop,List.length_take];omega
  generalize (E.take (a+1)).drop a=D at this ⊢
  match D,this with
  | [],_=>exact .nil
  | [x],_=>exact List.pairwise_singleton _ _
 case round=>
  clear H;obtain⟨i,E1,cs,rfl,hi1,hi2,hE1,hcl,HC,HP,HT,HD,HS,HIE,H⟩:=hrel
  by_cases hlt:i<b
  ·obtain⟨y0,hy0⟩:∃y,E1[i]? =some y:=⟨_,List.getElem?_eq_getElem (by have:=hE1.out;omega)⟩
   have hsplit:E1=E1.take a++((E1.take i).drop a)++y0::E1.drop (i+1):=by
    obtain⟨hl,he⟩:=List.getElem?_eq_some_iff.1 hy0;rw[←he,List.getElem_cons_drop];have e1:E1.take a=(E1.take i).take a:=by rw[List.take_take,Nat.min_eq_left yb]
    rw[e1,List.take_append_drop,List.take_append_drop]
   obtain⟨P,hP⟩:∃P,E1.take a=P:=⟨_,rfl⟩;obtain⟨S,hS⟩:∃S,E1.drop (i+1)=S:=⟨_,rfl⟩;obtain⟨X0,hX0⟩:∃X,(E1.take i).drop a=X:=⟨_,rfl⟩;have hPl:=hid (show P.length=a by rw[←hP,List.length_take];have:=hE1.out;omega);have hX0l:=hid (show X0.length=i-a by rw[←hX0,List.length_drop,List.length_take];have:=hE1.out;omega);rw[hP,hS,hX0]at hsplit;have HSp:=hid hsplit;have HX0:Hid (X0.Pairwise leE):=hid (by have h:=HS.out;rwa [hX0]at h);have HPT:Hid (P=E.take a):=hid (by rw[←hP];exact HT.out)
   have HSD:Hid (S=E.drop (i+1)):=hid (by
    have h:=congrArg (List.drop 1) HD.out;rw[List.drop_drop,List.drop_drop]at h
    rw[←hS];exact h)
   clear hsplit hP hS hX0 HS HT HD hy0;revert H;refine W53 ?_;intro H _ _ _
   go_loopw [9] (fun s9 wr2=>∃(j:Nat) (X Z:List En) (y:En) (cs2:List Value),s9= .int .i64 (j:Int)∧Hid (a+X.length=j)∧Hid (X.length+Z.length=i-a)∧Hid (cs2.length=N*3+pad.length)∧Hid ((X++Z).Pairwise leE)∧Hid (∀z∈Z,leE y z)∧Hid (cs2=((P++X)++y::(Z++S)).flatMap eC++pad)∧Hid (E1.Perm ((P++X)++y::(Z++S)))∧Hp [q] w wr2 [.blk q cs2 75]) (fun v _=>(intOf v).toNat)
   case atStart=>exact⟨i,X0,[],y0,cs,rfl,hid (by have:=hX0l.out;omega),hid (by rw[List.length_nil];have:=hX0l.out;omega),hcl,hid (by rw[List.append_nil];exact HX0.out),hid yg,hid (by rw[HC.out,List.nil_append,←HSp.out]),hid (by rw[List.nil_append,←HSp.out]),H⟩
   case round=>
    clear H;obtain⟨j,X,Z,y,cs2,rfl,hj,hXZ,hcl2,HXZ,HZ,HC2,HP2,H⟩:=hrel
    rcases List.eq_nil_or_concat X with rfl|⟨X',x,rfl⟩
    ·have hj0:¬(a:Int)<(j:Int):=by have hj:=hj.out;rw[List.length_nil]at hj;omega
     simp only[Int.not_lt,Int.not_le]at*;revert H;refine W53 ?_;intro H _ _ _ _ _
     (revert H;refine w_p 17 (.st 0 (.st 1 (.st 2 (.st 3 (.st 4 (.st 5 (.st 6 (.st 7 (.st 8 (.st 9 (.st 10 (.st 11 (.st 12 (.st 13 (.ld 14 (.st 15 (.st 16 .done))))))))))))))))) ?_;intro w1 H)
     iterate 4 refine p_q ?_
     iterate 10 (first|refine p_q ?_|refine p_n ?_)
     (refine zd7 rfl rfl (fun _=>H) ?_;(simp only[nrm,↓reduceIte,Nat.reduceAdd]))
     (first|refine p_q ?_|refine p_n ?_)
     refine p_q ?_;(refine zf ?_)
     all_goals
      revert H;refine W53 ?_;intro H
      go_roundw
      case rel=>exact⟨i+1,_,cs2,rfl,by omega, .inl yb,hid (HP2.out.length_eq.symm.trans hE1.out),hcl2,HC2,hid (HP.out.trans HP2.out),hid (by have h:=hPl.out;rw[List.append_nil,List.take_left' h];exact HPT.out),hid (by have h:=hPl.out;have h2:=hXZ.out;rw[List.length_nil]at h2;rw[←HSD.out,List.append_nil,←List.cons_append,←List.append_assoc];exact List.drop_left' (by rw[List.length_append,List.length_cons];omega)),hid (by have h:=hPl.out;have h2:=hXZ.out;rw[List.length_nil]at h2;rw[List.append_nil,←List.cons_append,←List.append_assoc,List.take_left' (by rw[List.length_append,List.length_cons];omega),List.drop_left' h];exact zjT HXZ.out HZ.out yg),hid (fun h=>by omega),H⟩
      case measure=>(simp[intOf];try omega)
    ·rw[List.concat_eq_append]at*;obtain⟨J,hJ0⟩:∃J,a+X'.length=J:=⟨_,rfl⟩;obtain rfl:j=J+1:=by have hj:=hj.out;rw[List.length_append,List.length_singleton]at hj;omega
     have haJ:a≤J:=by omega
     have hJi:J+1≤i:=by have h:=hXZ.out;have:=hj.out;rw[List.length_append,List.length_singleton]at h;omega
     have hJN:J+1<N:=by omega
     have hJ:=hid hJ0;clear hJ0
     have hpy:eC y<+:cs2.drop ((J+1)*3):=by
      rw[HC2.out];have h:=zaP (P++(X'++[x])) (Z++S) y pad
      rwa [show(P++(X'++[x])).length=J+1 by rw[List.length_append,List.length_append,List.length_singleton];have:=hPl.out;have:=hJ.out;omega]at h
     have hpx:eC x<+:cs2.drop (J*3):=by
      rw[HC2.out];have h:=zaP (P++X') (y::(Z++S)) x pad;rw[show(P++X').length=J by rw[List.length_append];have:=hPl.out;have:=hJ.out;omega]at h;have e:P++X'++x::y::(Z++S)=P++(X'++[x])++y::(Z++S):=by simp
      rwa [e]at h
     have hpx':eC x<+:cs2.drop ((((J+1:Nat):Int)-1).toNat*3):=by rw[show(((J+1:Nat):Int)-1).toNat=J by omega];exact hpx
     obtain⟨c,hc⟩:∃c,zdY y x=c:=⟨_,rfl⟩;have HCC:=hid hc;clear hc;have hex:(eC x).length=3:=rfl;have hey:(eC y).length=3:=rfl;have hox:∀v∈eC x,v.oneCell'=true:=zcC x;have hoy:∀v∈eC y,v.oneCell'=true:=zcC y;have hb1:(J+1)*3+3≤cs2.length:=by rw[hcl2.out];omega
     have hb2:(((J+1:Nat):Int)-1).toNat*3+3≤(zL cs2 ((J+1)*3) (eC x)).length:=by rw[zaZ _ _ _ yae];omega
     by_cases hneg:c<0
     ·revert H;refine W53 ?_;intro H _ _ _ _ _
      (revert H;refine w_p 17 (.st 0 (.st 1 (.st 2 (.st 3 (.st 4 (.st 5 (.st 6 (.st 7 (.st 8 (.st 9 (.st 10 (.st 11 (.st 12 (.st 13 (.ld 14 (.st 15 (.st 16 .done))))))))))))))))) ?_;intro w1 H)
      iterate 4 refine p_q ?_
      iterate 4 (first|refine p_q ?_|refine p_n ?_)
      (refine p_e rfl (fun w H=>zah H rfl rfl (hv:=hpy) (hn:=rfl)) ?_)
      iterate 4 (first|refine p_q ?_|refine p_n ?_)
      (refine p_e rfl (fun w H=>zah H rfl rfl (hv:=hpx') (hn:=rfl)) ?_);(refine zfu H rfl rfl rfl Tryz.func255 (zcr _ y x HCC) ?_;clear H;rintro e w1 ⟨rfl,hF⟩ H;refine p_r ?_;clear hF)
      (first|refine p_q ?_|refine p_n ?_)
      refine p_q ?_;(refine zf ?_)
      all_goals
       revert H;refine W53 ?_;intro H _ _
       (revert H;refine w_p 15 (.st 0 (.st 1 (.stf 2 (.stf 3 (.stf 4 (.st 5 (.st 6 (.st 7 (.st 8 (.st 9 (.st 10 (.st 11 (.st 12 (.st 13 (.st 14 (.ldf 15 (.st 16 (.ld 17 .done)))))))))))))))))) ?_;intro w1 H)
       iterate 2 refine p_q ?_
       refine zeE ?_;refine zeE ?_;(refine zjC rfl (fun w _=>zjx rfl rfl rfl yl) ?_)
       iterate 4 refine p_q ?_
       (refine p_e rfl (fun w H=>zah H rfl rfl (hv:=hpx') (hn:=rfl)) ?_)
       iterate 3 refine p_q ?_
       (refine p_e rfl (fun w H=>zah H rfl rfl (hv:=hpy) (hn:=rfl)) ?_);refine p_q ?_
       (revert H;refine zgp ?_;intro w1 hf H;(first|replace hf:=hf.kp|clear hf))
       refine p_q ?_
       (revert H;refine p_s ?_;intro w1 hf H;(first|replace hf:=hf.kp|clear hf))
       (refine zf ?_)
       all_goals
        revert H;refine W53 ?_;intro H
        go_roundw
        case rel=>
         refine⟨J,X',x::Z,y,_,congrArg (Value.int .i64) yb,hJ,?_,?_,?_,?_,?_,?_,H⟩
         ·exact hid (by have h:=hXZ.out;rw[List.length_append,List.length_singleton]at h;rw[List.length_cons];omega)
         ·exact hid (by rw[zaZ _ _ _ (by rw[hey];exact hb2),zaZ _ _ _ yae];exact hcl2.out)
         ·exact hid (by have h:=HXZ.out;rwa [List.append_assoc,List.singleton_append]at h)
         ·exact hid (fun z hz=>by
           rcases List.mem_cons.1 hz with e|e
           ·subst e;exact((zeX y z).1 (by rw[HCC.out];exact hneg)).le
           ·exact HZ.out z e)
         ·exact hid (by
           have hA:(P++(X'++[x])).length=J+1:=by rw[List.length_append,List.length_append,List.length_singleton];have:=hPl.out;have:=hJ.out;omega
           have hB:(P++X').length=J:=by rw[List.length_append];have:=hPl.out;have:=hJ.out;omega
           have f1:=zbh (P++(X'++[x])) (Z++S) y x pad (k:=(J+1)*3) (by rw[hA]);have f2:=zbh (P++X') (x::(Z++S)) x y pad (k:=J*3) (by rw[hB]);have e:P++(X'++[x])++x::(Z++S)=P++X'++x::x::(Z++S):=by simp
           rw[e]at f1
           rw[HC2.out,show(((J+1:Nat):Int)-1).toNat=J by omega,f1,f2,List.cons_append])
         ·exact hid (HP2.out.trans (by
           rw[←List.append_assoc,List.append_assoc (P++X') [x]]
           exact List.Perm.append_left _ (List.Perm.swap _ _ _)))
        case measure=>(simp[intOf];try omega)
     ·simp only[Int.not_lt,Int.not_le]at*;revert H;refine W53 ?_;intro H _ _ _ _ _
      (revert H;refine w_p 17 (.st 0 (.st 1 (.st 2 (.st 3 (.st 4 (.st 5 (.st 6 (.st 7 (.st 8 (.st 9 (.st 10 (.st 11 (.st 12 (.st 13 (.ld 14 (.st 15 (.st 16 .done))))))))))))))))) ?_;intro w1 H)
      iterate 4 refine p_q ?_
      iterate 4 (first|refine p_q ?_|refine p_n ?_)
      (refine p_e rfl (fun w H=>zah H rfl rfl (hv:=hpy) (hn:=rfl)) ?_)
      iterate 4 (first|refine p_q ?_|refine p_n ?_)
      (refine p_e rfl (fun w H=>zah H rfl rfl (hv:=hpx') (hn:=rfl)) ?_);(refine zfu H rfl rfl rfl Tryz.func255 (zcr _ y x HCC) ?_;clear H;rintro e w1 ⟨rfl,hF⟩ H;refine p_r ?_;clear hF)
      (first|refine p_q ?_|refine p_n ?_)
      refine p_q ?_;(refine zf ?_)
      all_goals
       revert H;refine W53 ?_;intro H
       go_roundw
       case rel=>
        have hle:leE x y:=by
         rcases leE.total x y with k|k
         ·exact k
         ·by_cases hk:apE y x
          ·exact absurd ((zeX y x).2 (k.lt hk)) (by rw[HCC.out];omega)
          ·unfold apE at hk;unfold leE;omega
        refine⟨i+1,_,cs2,rfl,by omega, .inl yb,hid (HP2.out.length_eq.symm.trans hE1.out),hcl2,HC2,hid (HP.out.trans HP2.out),hid (by have h:=hPl.out;rw[List.append_assoc,List.take_left' h];exact HPT.out),hid ?_,hid ?_,hid (fun h=>by omega),H⟩
        ·rw[←HSD.out,←List.cons_append,←List.append_assoc];exact List.drop_left' (by have h:=hPl.out;have h2:=hXZ.out;rw[List.length_append,List.length_append,List.length_cons];omega)
        ·rw[←List.cons_append,←List.append_assoc,List.take_left' (by have h:=hPl.out;have h2:=hXZ.out;rw[List.length_append,List.length_append,List.length_cons];omega),List.append_assoc,List.drop_left' hPl.out];exact zjT HXZ.out HZ.out (fun x' hx'=>by rw[List.getLast?_append]at hx';simp at hx';subst hx';exact hle)
       case measure=>(simp[intOf];try omega)
  ·have hfin:E1.length=N∧E.Perm E1∧E1.take a=E.take a∧E1.drop b=E.drop b∧((E1.take b).drop a).Pairwise leE:=by
    by_cases hib:i=b
    ·subst hib;exact⟨hE1.out,HP.out,HT.out,HD.out,HS.out⟩
    ·have e:=HIE.out yb;subst e;refine⟨hE1.out,HP.out,rfl,rfl,?_⟩;rw[List.drop_of_length_le yS];exact .nil
   have HFIN:=hid hfin;have HC':=hid HC.out;clear HP HT HD HS HIE hfin HC;revert H;refine W53 ?_;intro H _ _ _
   go_end0
   refine⟨rfl,H.fr,E1,HFIN.out.1,?_,HFIN.out.2⟩;rw[←HC'.out];exact H.at q
end
section
variable {x y:En} {X Y Z:List En} {k i j:Nat}
def zvt:¬leE x y↔ltE y x:=by unfold leE ltE;omega
def zmx(hX:X.Pairwise leE)(hl:∀i x,i<k→X[i]? =some x→leE x y)(hr:∀x,X[k]? =some x→¬leE x y):(X.take k++y::X.drop k).Pairwise leE:=by
 have h0:(X.take k++X.drop k).Pairwise leE:=by rw[List.take_append_drop];exact hX
 rw[List.pairwise_append]at h0
 have hlx:∀x∈X.take k,leE x y:=fun x hx=>by
  obtain⟨i,hi,rfl⟩:=List.getElem_of_mem hx;rw[List.length_take]at hi;refine hl i _ yb ?_;rw[List.getElem_take];exact List.getElem?_eq_getElem yb
 have hrx:∀x∈X.drop k,leE y x:=fun x hx=>by
  cases hd:X.drop k with
  | nil=>rw[hd]at hx;cases hx
  | cons z R=>
   have hz:X[k]? =some z:=by
    have:=List.getElem?_drop (xs:=X) (i:=k) (j:=0)
    rw[hd]at this
    simpa using this.symm
   have h1:=(zvt.1 (hr z hz)).le;rw[hd]at hx h0
   rcases List.mem_cons.1 hx with e|e
   ·subst e;exact h1
   ·exact h1.trans ((List.pairwise_cons.1 h0.2.1).1 x e)
 rw[List.pairwise_append];refine⟨h0.1,List.pairwise_cons.2 ⟨hrx,h0.2.1⟩,fun x hx z hz=>?_⟩
 rcases List.mem_cons.1 hz with e|e
 ·subst e;exact hlx x hx
 ·exact h0.2.2 x hx z e
def zkN(hY:Y.Pairwise leE)(hl:∀i y,i<k→Y[i]? =some y→ltE y x)(hr:∀y,Y[k]? =some y→leE x y):(Y.take k++x::Y.drop k).Pairwise leE:=by
 have h0:(Y.take k++Y.drop k).Pairwise leE:=by rw[List.take_append_drop];exact hY
 rw[List.pairwise_append]at h0
 have hlx:∀y∈Y.take k,leE y x:=fun y hy=>by
  obtain⟨i,hi,rfl⟩:=List.getElem_of_mem hy;rw[List.length_take]at hi;refine(hl i _ yb ?_).le;rw[List.getElem_take];exact List.getElem?_eq_getElem yb
 have hrx:∀y∈Y.drop k,leE x y:=fun y hy=>by
  cases hd:Y.drop k with
  | nil=>rw[hd]at hy;cases hy
  | cons z R=>
   have hz:Y[k]? =some z:=by
    have:=List.getElem?_drop (xs:=Y) (i:=k) (j:=0)
    rw[hd]at this
    simpa using this.symm
   have h1:=hr z hz;rw[hd]at hy h0
   rcases List.mem_cons.1 hy with e|e
   ·subst e;exact h1
   ·exact h1.trans ((List.pairwise_cons.1 h0.2.1).1 y e)
 rw[List.pairwise_append];refine⟨h0.1,List.pairwise_cons.2 ⟨hrx,h0.2.1⟩,fun y hy z hz=>?_⟩
 rcases List.mem_cons.1 hz with e|e
 ·subst e;exact hlx y hy
 ·exact h0.2.2 y hy z e
def zfc(hZ:Z.Pairwise leE){a b:Nat}(ha:a<Z.length)(hb:b<Z.length)(hab:a≤b):leE Z[a] Z[b]:=by
 rcases Nat.lt_or_ge a b with h|h
 ·exact List.pairwise_iff_getElem.1 hZ a b ha hb h
 ·obtain rfl:a=b:=by omega
  exact leE.refl _
def zfW(hZ:Z.Pairwise leE)(hk:k≤Z.length){u:En}(hu:u∈Z.take k):∃z,Z[k-1]? =some z∧0<k∧leE u z:=by
 obtain⟨q,hq,rfl⟩:=List.getElem_of_mem hu;rw[List.length_take]at hq;rw[List.getElem_take];exact⟨Z[k-1],List.getElem?_eq_getElem yb,by omega,zfc hZ _ _ yb⟩
def zfp(hZ:Z.Pairwise leE){v:En}(hv:v∈Z.drop k):∃z,Z[k]? =some z∧leE z v:=by
 obtain⟨q,hq,rfl⟩:=List.getElem_of_mem hv;rw[List.length_drop]at hq;rw[List.getElem_drop];exact⟨Z[k],List.getElem?_eq_getElem yb,zfc hZ _ _ yb⟩
def zqj(hX:X.Pairwise leE)(hY:Y.Pairwise leE)(hi:i≤X.length)(hj:j≤Y.length)(h1:∀x y,X[i-1]? =some x→0<i→Y[j]? =some y→leE x y)(h2:∀x y,X[i]? =some x→Y[j-1]? =some y→0<j→leE y x):
 ∀u∈X.take i++Y.take j,∀v∈X.drop i++Y.drop j,leE u v:=by
 have hXX:(X.take i++X.drop i).Pairwise leE:=by rw[List.take_append_drop];exact hX
 have hYY:(Y.take j++Y.drop j).Pairwise leE:=by rw[List.take_append_drop];exact hY
 rw[List.pairwise_append]at hXX hYY;intro u hu v hv
 rcases List.mem_append.1 hu with hu|hu<;>rcases List.mem_append.1 hv with hv|hv
 ·exact hXX.2.2 u hu v hv
 ·obtain⟨z,hz,hzv⟩:=zfp hY hv;obtain⟨q,hq,hq0,hqu⟩:=zfW hX hi hu;exact(hqu.trans (h1 q z hq hq0 hz)).trans hzv
 ·obtain⟨z,hz,hzv⟩:=zfp hX hv;obtain⟨q,hq,hq0,hqu⟩:=zfW hY hj hu;exact(hqu.trans (h2 z q hz hq hq0)).trans hzv
 ·exact hYY.2.2 u hu v hv
def zuh{Z1 Z2:List En}(hc:∀u∈X.take i++Y.take j,∀v∈X.drop i++Y.drop j,leE u v)(p1:(X.take i++Y.take j).Perm Z1)(p2:(X.drop i++Y.drop j).Perm Z2)(s1:Z1.Pairwise leE)(s2:Z2.Pairwise leE):
 (Z1++Z2).Pairwise leE∧(X++Y).Perm (Z1++Z2):=by
 refine⟨List.pairwise_append.2 ⟨s1,s2,fun u hu v hv=>hc u (p1.mem_iff.2 hu) v (p2.mem_iff.2 hv)⟩,?_⟩;refine List.Perm.trans ?_ (p1.append p2);have e:X++Y=(X.take i++X.drop i)++(Y.take j++Y.drop j):=by rw[List.take_append_drop,List.take_append_drop]
 rw[e];simp only[List.append_assoc];refine List.Perm.append_left _ ?_;rw[←List.append_assoc,←List.append_assoc];exact List.Perm.append_right _ List.perm_append_comm
end
end Go.Proofs.YtaijhllckmndhaaGreatDoor
