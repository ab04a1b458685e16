import Derived.Test.YtaijhllckmndhaaGreatDoorYJ0
import Derived.Test.YtaijhllckmndhaaGreatDoorYJ31
import Derived.Test.YtaijhllckmndhaaGreatDoorYJ32
import Derived.Test.YtaijhllckmndhaaGreatDoorYJ21
namespace Go.Proofs.YtaijhllckmndhaaGreatDoor
set_option linter.all false
set_option maxHeartbeats 64000000
set_option maxRecDepth 100000
section
open Go.RowKit
attribute [local irreducible] wpList Code.wp Plan.wp
def zfx{w:World}{q cap N a b n:Nat}(A U M V B:List En)(pad:List Value)(hq:w.heap[q]? =some (.cells ((A++(U++(M++(V++B)))).flatMap eC++pad).toArray 75 (0,0)))(hN:(A++(U++(M++(V++B)))).length=N)(hN2:N≤100000)(ha:A.length=a)(hU:U.length=n)(hV:V.length=n)(hb:a+n+M.length=b):
 Calls Tryz.prog 322 #[.slice (some ⟨q,0,none⟩) N cap, .int .i64 (a:Int), .int .i64 (b:Int), .int .i64 (n:Int), .func (.func 255) #[] #[]] w fun e w'=>e= .returned (.tuple #[])∧Fr [q] w w'∧
  w'.heap[q]? =some (.cells ((A++(V++(M++(U++B)))).flatMap eC++pad).toArray 75 (0,0)):=by
 have H:=(Hp.start [q] w).push hq (.inl yg) yg;clear hq;have hlen:=hN;simp only[List.length_append]at hlen;have hbn:b+n≤N:=by omega
 have han:a+n≤b:=by omega
 have HU:=hid hU;have HV:=hid hV;have HA:=hid ha;have HB:=hid hb;have HN:=hid hN;clear hN hlen ha hU hV hb
 go_enter Tryz.func322,Tryz.ntmps322
 revert H;refine W53 ?_;intro H _
 go_loopw [10] (fun s10 wr=>∃(i:Nat) (cs:List Value),s10= .int .i64 (i:Int)∧i≤n∧Hid (cs.length=N*3+pad.length)∧Hid (cs=(A++(V.take i++(U.drop i++(M++(U.take i++(V.drop i++B)))))).flatMap eC++pad)∧Hp [q] w wr [.blk q cs 75]) (fun v _=>n-(intOf v).toNat)
 case atStart=>exact⟨0,_,rfl,Nat.zero_le _,hid (by rw[List.length_append,zaI,HN.out]),hid yg,H⟩
 case round=>
  clear H;obtain⟨i,cs,rfl,hi,hcl,HC,H⟩:=hrel
  by_cases hlt:i<n
  ·obtain⟨u,hu⟩:∃u,U[i]? =some u:=⟨_,List.getElem?_eq_getElem (by rw[HU.out];exact hlt)⟩;obtain⟨v,hv⟩:∃v,V[i]? =some v:=⟨_,List.getElem?_eq_getElem (by rw[HV.out];exact hlt)⟩
   have hdu:U.drop i=u::U.drop (i+1):=by
    obtain⟨hl,he⟩:=List.getElem?_eq_some_iff.1 hu;rw[←he,List.getElem_cons_drop]
   have hdv:V.drop i=v::V.drop (i+1):=by
    obtain⟨hl,he⟩:=List.getElem?_eq_some_iff.1 hv;rw[←he,List.getElem_cons_drop]
   have htu:U.take (i+1)=U.take i++[u]:=by rw[List.take_add_one,hu];rfl
   have htv:V.take (i+1)=V.take i++[v]:=by rw[List.take_add_one,hv];rfl
   obtain⟨P,hP⟩:∃P,A++V.take i=P:=⟨_,rfl⟩;obtain⟨Q,hQ⟩:∃Q,U.drop (i+1)++(M++U.take i)=Q:=⟨_,rfl⟩;obtain⟨R,hR⟩:∃R,V.drop (i+1)++B=R:=⟨_,rfl⟩;have hPl:P.length=a+i:=by rw[←hP,List.length_append,List.length_take,HA.out,HV.out];omega
   have hQl:P.length+1+Q.length=b+i:=by
    rw[hPl,←hQ,List.length_append,List.length_append,List.length_drop,List.length_take,HU.out]
    have:=HB.out
    omega
   have hcs:cs=(P++u::(Q++v::R)).flatMap eC++pad:=by
    rw[HC.out,hdu,hdv,←hP,←hQ,←hR];simp only[List.append_assoc,List.cons_append]
   have hnew:(A++(V.take (i+1)++(U.drop (i+1)++(M++(U.take (i+1)++(V.drop (i+1)++B))))))=P++v::(Q++u::R):=by
    rw[htu,htv,←hP,←hQ,←hR];simp only[List.append_assoc,List.cons_append,List.nil_append]
   have e1:((a:Int)+(i:Int)).toNat=a+i:=by omega
   have e2:((b:Int)+(i:Int)).toNat=b+i:=by omega
   have hpu:eC u<+:cs.drop (((a:Int)+(i:Int)).toNat*3):=by
    rw[e1,hcs,←hPl];exact zaP P (Q++v::R) u pad
   have hpv:eC v<+:cs.drop (((b:Int)+(i:Int)).toNat*3):=by
    have h:=zaP (P++u::Q) R v pad;rw[show(P++u::Q).length=b+i by rw[List.length_append,List.length_cons];omega]at h;rw[e2,hcs]
    simpa only[List.append_assoc,List.cons_append]using h
   have hex:(eC u).length=3:=rfl;have hey:(eC v).length=3:=rfl;have hou:∀x∈eC u,x.oneCell'=true:=zcC u;have hov:∀x∈eC v,x.oneCell'=true:=zcC v;have hb1:((a:Int)+(i:Int)).toNat*3+3≤cs.length:=by rw[hcl.out,e1];omega
   have hb2:((b:Int)+(i:Int)).toNat*3+3≤(zL cs (((a:Int)+(i:Int)).toNat*3) (eC v)).length:=by rw[zaZ _ _ _ yaf,hcl.out,e2];omega
   have hfin:zL (zL cs (((a:Int)+(i:Int)).toNat*3) (eC v)) (((b:Int)+(i:Int)).toNat*3) (eC u)=(P++v::(Q++u::R)).flatMap eC++pad:=by
    rw[hcs,zbh P (Q++v::R) u v pad (by rw[e1,hPl])];have h:=zbh (P++v::Q) R v u pad (k:=((b:Int)+(i:Int)).toNat*3) (by rw[e2,List.length_append,List.length_cons];omega)
    simpa only[List.append_assoc,List.cons_append]using h
   have hlen2:(zL (zL cs (((a:Int)+(i:Int)).toNat*3) (eC v)) (((b:Int)+(i:Int)).toNat*3) (eC u)).length=N*3+pad.length:=by
    rw[zaZ _ _ _ (by rw[hex];exact hb2),zaZ _ _ _ yaf];exact hcl.out
   have HFIN:=hid (show zL (zL cs (((a:Int)+(i:Int)).toNat*3) (eC v)) (((b:Int)+(i:Int)).toNat*3) (eC u)=(A++(V.take (i+1)++(U.drop (i+1)++(M++(U.take (i+1)++(V.drop (i+1)++B)))))).flatMap eC++pad by rw[hfin,hnew]);have HLEN:=hid hlen2;clear hu hv hdu hdv htu htv hP hQ hR hPl hQl hcs hnew hfin hlen2 e1 e2 HC;revert H;refine W53 ?_;intro H _ _ _
   (revert H;refine w_p 21 (.st 0 (.st 1 (.st 2 (.st 3 (.stf 4 (.stf 5 (.stf 6 (.stf 7 (.st 8 (.st 9 (.st 10 (.st 11 (.st 12 (.st 13 (.st 14 (.st 15 (.st 16 (.st 17 (.st 18 (.st 19 (.st 20 (.ldf 21 (.st 22 (.ld 23 .done)))))))))))))))))))))))) ?_;intro w1 H)
   iterate 4 refine p_q ?_
   refine zeE ?_;refine zeE ?_;refine zeE ?_;(refine zjC rfl (fun w _=>zkw rfl rfl rfl yl) ?_)
   iterate 5 refine p_q ?_
   (refine p_e rfl (fun w H=>zah H rfl rfl (hv:=hpv) (hn:=rfl)) ?_)
   iterate 5 refine p_q ?_
   (refine p_e rfl (fun w H=>zah H rfl rfl (hv:=hpu) (hn:=rfl)) ?_);refine p_q ?_
   (revert H;refine zgp ?_;intro w1 hf H;(first|replace hf:=hf.kp|clear hf))
   refine p_q ?_
   (revert H;refine p_s ?_;intro w1 hf H;(first|replace hf:=hf.kp|clear hf))
   (refine zf ?_)
   all_goals
    revert H;refine W53 ?_;intro H
    go_roundw
    case rel=>exact⟨i+1,_,rfl,by omega,HLEN,HFIN,H⟩
    case measure=>(simp[intOf];try omega)
  ·obtain rfl:i=n:=by omega
   revert H;refine W53 ?_;intro H _ _ _
   go_end0
   have hat:=H.at q;rw[HC.out]at hat;refine⟨rfl,H.fr,?_⟩;have e1:V.take i=V:=List.take_of_length_le (by rw[HV.out];exact Nat.le_refl _);have e2:U.take i=U:=List.take_of_length_le (by rw[HU.out];exact Nat.le_refl _);have e3:U.drop i=[]:=List.drop_of_length_le (by rw[HU.out];exact Nat.le_refl _);have e4:V.drop i=[]:=List.drop_of_length_le (by rw[HV.out];exact Nat.le_refl _);rw[e1,e2,e3,e4,List.nil_append,List.nil_append]at hat;exact hat
end
section
variable {p:Option Addr} {w:World} {cap:Nat}
open Go.RowKit
attribute [local irreducible] wpList Code.wp Plan.wp
def zph(E:List En):∀u∈E.flatMap eC,u.oneCell'=true:=by
 intro u hu;obtain⟨x,_,h⟩:=List.mem_flatMap.1 hu;exact zcC x u h
def zg9(w:World){c:Nat}(E:List En)(hr:Rd w (.slice p E.length c) E.length (E.flatMap eC))(hE:E.length≤100000):
 Calls Tryz.prog 75 #[.slice p E.length c] w fun e w'=>∃v,e= .returned v∧Fr [] w w'∧w'.ownsRow w.heap.size 75 3 v E.length (E.flatMap eC):=by
 have HR:=hid hr;have H:=Hp.start [] w;clear hr
 go_enter Tryz.func75,Tryz.ntmps75
 cases p with
 | none=>
  have hE0:E=[]:=by
   rcases HR.out with⟨h1,_⟩|⟨ad,c',h1,_⟩
   ·exact List.eq_nil_of_length_eq_zero h1
   ·cases h1
  subst hE0
  go_wp2_with(first|refine x_q H ?_|refine x_l H ?_|refine zm ?_ ?_<;>intro h|(revert H;(first|(refine x_g ?_;intro g w1 hg hf H)|(refine x_s ?_;intro w1 hf H)|(refine zau ?_;intro w1 hf H hk;clear hf hk));(first|replace hf:=hf.kp|clear hf)))
  (refine bodyPost_ret (results_tmp rfl _ _ _) rfl ?_);exact⟨_,rfl,H.fr,World.ownsRow_nil _ _ _ _⟩
 | some p=>
  by_cases h0:E.length<1
  ·have h1:E=[]:=List.eq_nil_of_length_eq_zero yb;subst h1
   go_wp2_with(first|refine x_q H ?_|refine zm ?_ ?_<;>intro h|(refine zcf rfl ?_;refine zaB rfl (fun K hK=>zez H rfl ym rfl yq yf yf (fun g w1 hg hf H1=>hK _ _ ?_));(clear hK K);(clear H;have H:=H1;clear H1;(try dsimp only at H);(first|replace hf:=hf.kp|clear hf));(simp only[nrm,↓reduceIte,Nat.reduceAdd]))|(refine zbI (b:= .append) rfl ?_;refine zaB rfl (fun K hK=>zrQ H rfl rfl rfl yb (fun w1 hf H1=>hK _ _ ?_));(clear hK K);(clear H;have H:=H1;clear H1;(try dsimp only at H);(first|replace hf:=hf.kp|clear hf));(simp only[nrm,↓reduceIte,Nat.reduceAdd]))|(revert H;(first|(refine x_g ?_;intro g w1 hg hf H)|(refine x_s ?_;intro w1 hf H));(first|replace hf:=hf.kp|clear hf)))
   (refine bodyPost_ret (results_tmp rfl _ _ _) rfl ?_);exact⟨_,rfl,H.fr,⟨rfl, .inr ⟨g,0,#[],rfl,by omega,by simpa using H.at g,Nat.le_refl _,Nat.zero_le _,rfl,rfl⟩⟩⟩
  ·go_wp2_with(first|refine x_q H ?_|refine zm ?_ ?_<;>intro h|(refine zcf rfl ?_;refine zaB rfl (fun K hK=>zez H rfl ym rfl yq yf yf (fun g w1 hg hf H1=>hK _ _ ?_));(clear hK K);(clear H;have H:=H1;clear H1;(try dsimp only at H);(first|replace hf:=hf.kp|clear hf));(simp only[nrm,↓reduceIte,Nat.reduceAdd]))|(refine zbI (b:= .append) rfl ?_;go_loud (refine zaB rfl (fun K hK=>zrR H rfl rfl rfl List.prefix_rfl rfl rfl (Nat.zero_le _) (HR.out.fr H.fr yg) (zaI E) (zph E) yb yb (by first|omega|(unfold maxLen;omega)) (fun g w1 cap pad hg hc hcm hpl hf H1=>hK _ _ ?_)));(clear hK K);(clear H;have H:=H1;clear H1;(try dsimp only at H);(first|replace hf:=hf.kp|clear hf));(simp only[nrm,↓reduceIte,Nat.reduceAdd]))|(revert H;(first|(refine x_g ?_;intro g w1 hg hf H)|(refine x_s ?_;intro w1 hf H));(first|replace hf:=hf.kp|clear hf)))
   (refine bodyPost_ret (results_tmp rfl _ _ _) rfl ?_);have hat:=H.at g;have hr:RowAt 75 3 (.slice (some ⟨g,0,none⟩) E.length cap) E.length (E.flatMap eC) [g] w1:=⟨zaI E, .inr ⟨g,cap,pad,rfl,rfl,by omega,hcm,by simpa using hpl,by simpa using hat⟩⟩;exact⟨_,rfl,H.fr,hr.owns (fun x hx=>by simp only[List.mem_singleton]at hx;subst hx;omega)⟩
def zmB:
 Calls Tryz.prog 314 #[.slice p 0 cap, .int .i64 (0:Int), .int .i64 (0:Int), .func (.func 255) #[] #[]] w fun e w'=>e= .returned (.tuple #[])∧Fr [] w w':=by
 have H:=Hp.start [] w
 go_enter Tryz.func314,Tryz.ntmps314
 revert H;refine W55 ?_;intro H _
 go_loopw [8] (fun s8 wr=>s8= .int .i64 1∧Hp [] w wr []) (fun _ _=>0)
 case atStart=>exact⟨rfl,H⟩
 case round=>
  clear H;obtain⟨rfl,H⟩:=hrel;revert H;refine W55 ?_;intro H _ _ _
  go_end0
  exact⟨rfl,H.fr⟩
def EntsB(q:Nat)(E:List En)(pad:List Value)(w:World):Prop:=w.heap[q]? =some (.cells (E.flatMap eC++pad).toArray 75 (0,0))
def EntsB.firm{q:Nat}{E:List En}{pad:List Value}:Firm [q] (EntsB q E pad):=
 ⟨fun w w' R k hn h=>k.get h (hn q yg),fun w h x hx=>by simp only[List.mem_singleton]at hx;subst hx;exact zbg h,fun w h=>by simp⟩
instance {q:Nat} {E:List En} {pad:List Value}:Fm [q] (EntsB q E pad):=⟨EntsB.firm⟩
def zmj:
 Calls Tryz.prog 299 #[.slice p 0 cap, .int .i64 (0:Int), .func (.func 255) #[] #[]] w fun e w'=>e= .returned (.tuple #[])∧Fr [] w w':=by
 have H:=Hp.start [] w
 go_enter Tryz.func299,Tryz.ntmps299
 revert H;refine W55 ?_;intro H _ _ _
 go_loopw [7,8] (fun s7 s8 wr=>s7= .int .i64 0∧s8= .int .i64 20∧Hp [] w wr []) (fun _ _ _=>0)
 case atStart=>exact⟨rfl,rfl,H⟩
 case round=>
  clear H;obtain⟨rfl,rfl,H⟩:=hrel;revert H;refine W55 ?_;intro H _ _ _ _ _ _ _;refine x_c H zmB ?_;clear H;rintro e w1 ⟨rfl,hF⟩ H;clear hF;simp only[Int.not_lt,Int.not_le]at*;revert H;refine W55 ?_;intro H
  go_loopw [6] (fun s6 wr=>s6= .int .i64 20∧Hp [] w wr []) (fun _ _=>0)
  case atStart=>exact⟨rfl,H⟩
  case round=>
   clear H;obtain⟨rfl,H⟩:=hrel;revert H;refine W55 ?_;intro H _ _ _
   go_end0
   exact⟨rfl,H.fr⟩
def zoC:
 Calls Tryz.prog 254 #[.slice p 0 cap, .func (.func 255) #[] #[]] w fun e w'=>e= .returned (.tuple #[])∧Fr [] w w':=by
 have H:=Hp.start [] w
 go_enter Tryz.func254,Tryz.ntmps254
 revert H;refine W55 ?_;intro H _ _ _;refine x_c H zmj ?_;clear H;rintro e w1 ⟨rfl,hF⟩ H;clear hF;simp only[Int.not_lt,Int.not_le]at*;revert H;refine W55 ?_;intro H
 go_end0
 exact⟨rfl,H.fr⟩
end
section
open Go.RowKit
def zdP(j m:Nat):((List.range m).filter fun i=>decide (j≤i)).length=m-j:=by
 induction m with
 | zero=>simp
 | succ m ih=>
  rw[List.range_succ,List.filter_append,List.length_append,ih]
  by_cases h:j≤m
  ·simp[h];omega
  ·simp[h];omega
def zgA(sym j m:Nat)(hs:sym≤2):(zbG sym j m).length=if sym=0 then m else if sym=1 then m-j else m-(j+1):=by
 unfold zbG;rw[List.length_map]
 rcases(show sym=0∨sym=1∨sym=2 by omega)with rfl|rfl|rfl
 ·rw[if_pos rfl,List.filter_eq_self.2 (fun i _=>by unfold may;rfl),List.length_range]
 ·rw[if_neg yf,if_pos rfl,←zdP j m]
  congr 1
  apply List.filter_congr
  intro i _;unfold may;rw[Bool.eq_iff_iff]
  simp
  omega
 ·rw[if_neg yf,if_neg yf,←zdP (j+1) m]
  congr 1
  apply List.filter_congr
  intro i _;unfold may;rw[Bool.eq_iff_iff]
  simp
  omega
def zoI(m n:Nat):(zaJ 0 m n).length=n*m:=by
 induction n with
 | zero=>simp[zaJ]
 | succ n ih=>rw[zc8,List.length_append,ih,zgA _ _ _ yf,if_pos rfl,Nat.succ_mul]
def znC(m n:Nat)(h:n≤m):2*(zaJ 1 m n).length+n*n=n*(2*m+1):=by
 induction n with
 | zero=>simp[zaJ]
 | succ n ih=>
  have ih:=ih yb;rw[zc8,List.length_append,zgA _ _ _ yf,if_neg yf,if_pos rfl];obtain⟨k,rfl⟩:∃k,m=n+k:=⟨m-n,by omega⟩;rw[show n+k-n=k by omega];have e1:(n+1)*(n+1)=n*n+2*n+1:=by rw[Nat.add_mul,Nat.mul_add];omega
  have e2:(n+1)*(2*(n+k)+1)=n*(2*(n+k)+1)+(2*(n+k)+1):=Nat.succ_mul _ _;rw[e1,e2]
  omega
def znp(m n:Nat)(h:n≤m):2*(zaJ 2 m n).length+n*n+n=n*(2*m):=by
 induction n with
 | zero=>simp[zaJ]
 | succ n ih=>
  have ih:=ih yb;rw[zc8,List.length_append,zgA _ _ _ yf,if_neg yf,if_neg yf];obtain⟨k,rfl⟩:∃k,m=n+1+k:=⟨m-(n+1),by omega⟩;rw[show n+1+k-(n+1)=k by omega];have e1:(n+1)*(n+1)=n*n+2*n+1:=by rw[Nat.add_mul,Nat.mul_add];omega
  have e2:(n+1)*(2*(n+1+k))=n*(2*(n+1+k))+2*(n+1+k):=Nat.succ_mul _ _;rw[e1,e2]
  omega
def zdW(sym m n:Nat)(hs:sym≤2)(h:sym=0∨m=n):(zaJ sym m n).length=zV sym m n:=by
 rcases(show sym=0∨sym=1∨sym=2 by omega)with rfl|rfl|rfl
 ·rw[zoI];unfold zV;rw[if_neg yf,if_neg yf,Nat.mul_comm]
 ·obtain rfl:m=n:=h.resolve_left yf
  have:=znC m m (Nat.le_refl _)
  unfold zV;rw[if_pos rfl];have e:m*(2*m+1)=m*m+m*(m+1):=by rw[←Nat.mul_add];congr 1;omega
  omega
 ·obtain rfl:m=n:=h.resolve_left yf
  have:=znp m m (Nat.le_refl _)
  unfold zV;rw[if_neg yf,if_pos rfl];have e:m*(2*m)=m*m+m*m:=by rw[←Nat.mul_add];congr 1;omega
  rcases m with _|m
  ·simp[zaJ]
  ·have e2:(m+1)*(m+1-1)=(m+1)*m:=rfl;have e3:(m+1)*(m+1)=(m+1)*m+(m+1):=Nat.mul_succ _ _
   omega
section
variable {T:List Nat} {w0 w:World} {l:List Ent}
def Hp.rowOpen(H:Hp T w0 w l)(k:Nat){S:List Nat}{e:TypeId}{sz n:Nat}{v:Value}{xs:List Value}{f:Ent→List Ent}[i:Oi k S (RowAt e sz v n xs S) l f](hn:0<n):
 ∃g cap pad,v= .slice (some ⟨g,0,none⟩) n cap∧S=[g]∧n≤cap∧cap≤maxLen∧(xs++pad).length=cap*sz∧Hp T w0 w (f (.blk g (xs++pad) e)):=by
 obtain⟨h0,⟨h1,h2,h3⟩|⟨g,cap,pad,rfl,rfl,h2,h3,h4,h5⟩⟩:=H.ob k
 ·omega
 ·exact⟨g,cap,pad,rfl,rfl,h2,h3,h4,H.recast (i.h _) rfl ⟨h5,H.home k g yg⟩⟩
def Hp.rowShut{g:Nat}{e:TypeId}{cs:List Value}{f:Nat→List Value→List Ent}(H:Hp T w0 w l)(k:Nat){sz n cap:Nat}{xs pad:List Value}[i:In g cs e l f](hcs:cs=xs++pad)(h0:xs.length=n*sz)(h2:n≤cap)(h3:cap≤maxLen)(h4:(xs++pad).length=cap*sz){l':List Ent}(hl:Rep (.blk g cs e) (.obj k [g] (RowAt e sz (.slice (some ⟨g,0,none⟩) n cap) n xs [g])) l l'):Hp T w0 w l':=by
 have hm:=hl.mem;have hb:=H.at g;refine H.recast hl rfl ⟨⟨h0, .inr ⟨g,cap,pad,rfl,rfl,h2,h3,h4,by rw[←hcs];exact hb⟩⟩,RowAt.firm,fun x hx=>?_⟩;simp only[List.mem_singleton]at hx;subst hx;exact(H.ok _ hm).2
end
end
section
open Go.RowKit
attribute [local irreducible] wpList Code.wp Plan.wp
def iV(n:Nat):Value:= .int .i64 (n:Int)
def zlT(w:World)(x:Int):Calls Tryz.prog 137 #[.int .i64 x] w fun e w'=>e= .returned (.bool false)∧Fr [] w w':=by
 have H:=Hp.start [] w
 go_enter Tryz.func137,Tryz.ntmps137
 revert H;refine W55 ?_;intro H
 go_ret
 exact⟨rfl,H.fr⟩
def zkB(w:World)(x y:Int){b:Bool}(hb:Hid (decide (x<y)=b)):Calls Tryz.prog 136 #[.int .i64 x, .int .i64 y] w fun e w'=>e= .returned (.bool b)∧Fr [] w w':=by
 have H:=Hp.start [] w
 by_cases h1:x<y
 ·have HB:Hid (b=true):=hid (by rw[←hb.out];simp[h1])
  go_enter Tryz.func136,Tryz.ntmps136
  revert H;refine W55 ?_;intro H _ _ _ _ _;(refine xA H (zbw _ x) ?_;clear H;intro w1 H);simp only[Int.not_lt,Int.not_le]at*;revert H;refine W55 ?_;intro H
  go_ret
  exact⟨by rw[HB.out];rfl,H.fr⟩
 ·have HB:Hid (b=false):=hid (by rw[←hb.out];simp[h1])
  go_enter Tryz.func136,Tryz.ntmps136
  simp only[Int.not_lt,Int.not_le]at*;revert H;refine W55 ?_;intro H _ _ _ _ _;(refine xA H (zbw _ x) ?_;clear H;intro w1 H);simp only[Int.not_lt,Int.not_le]at*;revert H;refine W55 ?_;intro H
  go_ret
  exact⟨by rw[HB.out];rfl,H.fr⟩
section
variable {P:Program} {a:Act} {w:World} {o:Oper}
def ztm{t t':TypeId}{x:Operand}{kk:IntKind}(ho:o.op= .binOp .shr t x (.const (.int kk 1)) t'){m z:Int}(hx:a.eval x= .int .u64 m)(hz:Hid (m/2=z)):(execOp a.eval o).run P w= .ok (.value (.int .u64 z)) w:=by
 have e1:(eqGuard .shr t x (.const (.int kk 1)) (.int .u64 m) (.int kk 1)).run P w= .ok () w:=by unfold eqGuard;simp
 have hn:a.eval (.const (.int kk 1))= .int kk 1:=rfl;rw[←hz.out];unfold execOp;simp only[ho,hx,hn,Sem.run_bind,e1,Result.andThen_ok,binOp];rw[shift_shr_any _ _ _ _ yf]
 rfl
def zvI{t:TypeId}{x ix:Operand}(ho:o.op= .indexAddr t x ix){b p n c:Nat}{k:IntKind}{i:Nat}(hx:a.eval x= .slice (some ⟨b,p,none⟩) n c)(hi:a.eval ix= .int k (i:Int)){e:TypeId}{z:List Value}{s by':Nat}[h:Si P t e z s by'](h1:i<n:=by omega):(execOp a.eval o).run P w= .ok (.value (.pointer (some ⟨b,p+i*s,none⟩))) w:=
 zcI ho hx hi h.h yb yb
end
def zuW{xs:List Nat}{t i h j x:Nat}(hs:xs.Pairwise (· <·))(hx:xs[h]? =some x)(hlt:x<t)(k y:Nat)(hk:k<h+1)(hy:xs[k]? =some y):y<t:=by
 rcases Nat.lt_or_ge k h with g|g
 ·have e1:=List.getElem?_eq_some_iff.1 hx;have e2:=List.getElem?_eq_some_iff.1 hy
  have:=List.pairwise_iff_getElem.1 hs k h e2.1 e1.1 g
  rw[e1.2,e2.2]at this
  omega
 ·obtain rfl:k=h:=by omega
  rw[hx]at hy
  cases hy
  exact hlt
def zu2{xs:List Nat}{t i h j x:Nat}(hs:xs.Pairwise (· <·))(hx:xs[h]? =some x)(hlt:t≤x)(k y:Nat)(hk:h≤k)(hy:xs[k]? =some y):t≤y:=by
 rcases Nat.eq_or_lt_of_le hk with g|g
 ·subst g;rw[hx]at hy
  cases hy
  exact hlt
 ·have e1:=List.getElem?_eq_some_iff.1 hx;have e2:=List.getElem?_eq_some_iff.1 hy
  have:=List.pairwise_iff_getElem.1 hs h k e1.1 e2.1 g
  rw[e1.2,e2.2]at this
  omega
def zkI(w:World){p:Option Addr}{n c t:Nat}(xs:List Nat)(hn:xs.length=n)(hn2:n≤100000)(hs:xs.Pairwise (· <·))(hc:∀j u,xs[j]? =some u→∃g o,p=some ⟨g,o,none⟩∧w.cell? ⟨g,o+j,none⟩=some (iV u)):
 Calls Tryz.prog 91 #[.slice p n c, .int .i64 (t:Int)] w fun e w'=>∃i,e= .returned (.tuple #[.int .i64 ((i:Nat):Int), .bool (xs[i]? ==some t)])∧Fr [] w w'∧Lb xs t i:=by
 subst hn;have HC:=hid hc;have HS:=hid hs;clear hc hs;have H:=Hp.start [] w
 go_enter Tryz.func91,Tryz.ntmps91
 revert H;refine W55 ?_;intro H _ _ _
 go_loopw [7,8] (fun s7 s8 wr=>∃i j:Nat,s7= .int .i64 (i:Int)∧s8= .int .i64 (j:Int)∧i≤j∧j≤xs.length∧Hid (∀k y,k<i→xs[k]? =some y→y<t)∧Hid (∀k y,j≤k→xs[k]? =some y→t≤y)∧Hp [] w wr []) (fun v u _=>(intOf u).toNat-(intOf v).toNat)
 case atStart=>exact⟨0,xs.length,rfl,rfl,Nat.zero_le _,Nat.le_refl _,hid (fun k y h=>absurd h yb),hid (fun k y h hy=>absurd (List.getElem?_eq_some_iff.1 hy).1 yb),H⟩
 case round=>
  clear H;obtain⟨i,j,rfl,rfl,hij,hj,HLo,HHi,H⟩:=hrel
  by_cases hlt:i<j
  ·obtain⟨h,hh0⟩:∃h,(i+j)/2=h:=⟨_,rfl⟩;have hh1:i≤h:=by omega
   have hh2:h<j:=by omega
   have HH:=hid (show((i:Int)+(j:Int))/2=(h:Int) by omega);obtain⟨x,hx⟩:∃x,xs[h]? =some x:=⟨_,List.getElem?_eq_getElem yb⟩;have HX:=hid hx;obtain⟨g,o,rfl,hcell⟩:=HC.out h x hx;have HC2:=hid hcell;clear hh0 hx hcell;obtain⟨b,hb0⟩:∃b,decide ((x:Int)<(t:Int))=b:=⟨_,rfl⟩;have HB:=hid hb0;clear hb0;revert H;refine W57 ?_;intro H _ _ _ _ _;(refine xA H (zkB _ x t HB) ?_;clear H;intro w1 H)
   cases b
   ·have hge:t≤x:=by have:=HB.out;simp at this;omega
    have HHi2:=hid (fun k y=>zu2 (i:=i) (j:=j) HS.out HX.out hge k y);clear hge;simp only[Int.not_lt,Int.not_le]at*;revert H;refine W55 ?_;intro H
    go_roundw
    case rel=>exact⟨i,h,rfl,rfl,hh1,by omega,HLo,HHi2,H⟩
    case measure=>(simp[intOf];try omega)
   ·have hge:x<t:=by have:=HB.out;simp at this;omega
    have HLo2:=hid (fun k y=>zuW (i:=i) (j:=j) HS.out HX.out hge k y);clear hge;simp only[Int.not_lt,Int.not_le]at*;revert H;refine W55 ?_;intro H
    go_roundw
    case rel=>exact⟨h+1,j,rfl,rfl,by omega,hj,HLo2,HHi,H⟩
    case measure=>(simp[intOf];try omega)
  ·obtain rfl:i=j:=by omega
   have HL:Hid (Lb xs t i):=hid ⟨hj,HLo.out,HHi.out⟩;clear HLo HHi
   by_cases hil:i<xs.length
   ·obtain⟨x,hx⟩:∃x,xs[i]? =some x:=⟨_,List.getElem?_eq_getElem yb⟩;obtain⟨g,o,rfl,hcell⟩:=HC.out i x hx;have HC2:=hid hcell;have HX:=hid hx;clear hcell hx
    by_cases hxt:x=t
    ·have HR:Hid ((xs[i]? ==some t)=true):=hid (by rw[HX.out,hxt];simp);have HE:Hid ((x:Int)=(t:Int)):=hid (by rw[hxt]);subst hxt;simp only[Int.not_lt,Int.not_le]at*;revert H;refine W58 ?_;intro H _ _ _
     go_ret2
     exact⟨i,by rw[HR.out];rfl,H.fr,HL.out⟩
    ·have HR:Hid ((xs[i]? ==some t)=false):=hid (by rw[HX.out];simp[hxt]);have hxt':¬(x:Int)=(t:Int):=by omega
     clear hxt;revert H;refine W58 ?_;intro H _ _ _ _ _ _ _;(refine xA H (zlT _ x) ?_;clear H;intro w1 H);simp only[Int.not_lt,Int.not_le]at*;revert H;refine W55 ?_;intro H
     go_ret2
     exact⟨i,by rw[HR.out];rfl,H.fr,HL.out⟩
   ·have HR:Hid ((xs[i]? ==some t)=false):=hid (by rw[List.getElem?_eq_none yb];simp);revert H;refine W55 ?_;intro H _ _ _
    go_ret2
    exact⟨i,by rw[HR.out];rfl,H.fr,HL.out⟩
end
section
open Go.RowKit
attribute [local irreducible] wpList Code.wp Plan.wp
def zmc{w:World}{q cap N a m b:Nat}(A U V B:List En)(pad:List Value)(hq:w.heap[q]? =some (.cells ((A++(U++(V++B))).flatMap eC++pad).toArray 75 (0,0)))(hN:(A++(U++(V++B))).length=N)(hN2:N≤100000)(ha:A.length=a)(hU:a+U.length=m)(hV:m+V.length=b)(hU0:1≤U.length)(hV0:1≤V.length):
 Calls Tryz.prog 320 #[.slice (some ⟨q,0,none⟩) N cap, .int .i64 (a:Int), .int .i64 (m:Int), .int .i64 (b:Int), .func (.func 255) #[] #[]] w fun e w'=>e= .returned (.tuple #[])∧Fr [q] w w'∧
  w'.heap[q]? =some (.cells ((A++(V++(U++B))).flatMap eC++pad).toArray 75 (0,0)):=by
 have H:=(Hp.start [q] w).pushObj 5 (Q:=EntsB q (A++(U++(V++B))) pad) (S:=[q]) hq EntsB.firm yg yg;clear hq;have hlen:=hN;simp only[List.length_append]at hlen;have hbN:b≤N:=by omega
 have ham:a<m:=by omega
 have hmb:m<b:=by omega
 obtain⟨n1,hn1⟩:∃n,U.length=n:=⟨_,rfl⟩;obtain⟨n2,hn2⟩:∃n,V.length=n:=⟨_,rfl⟩;have HN:=hid hN;have HA:=hid ha;have HU:=hid hn1;have HV:=hid hn2;rw[hn1]at hU hU0 hlen;rw[hn2]at hV hV0 hlen;have HM:=hid (show(m:Int)-(a:Int)=(n1:Int) by omega);have HB:=hid (show(b:Int)-(m:Int)=(n2:Int) by omega);have hmn:n1≤m:=by omega
 have hmn2:m+n2≤N:=by omega
 have hAm:=hid (show A.length+n1=m by omega);clear hN ha hn1 hn2 hlen hU hV
 go_enter Tryz.func320,Tryz.ntmps320
 revert H;refine W59 ?_;intro H _ _ _;rw[HM.out,HB.out]
 go_loopw [10,11] (fun s10 s11 wr=>∃(i j:Nat) (A1 U1 V1 B1:List En),s10= .int .i64 (i:Int)∧s11= .int .i64 (j:Int)∧1≤i∧1≤j∧i≤m∧m+j≤N∧Hid (A1.length+i=m)∧Hid (U1.length=i)∧Hid (V1.length=j)∧Hid (A++(V++(U++B))=A1++(V1++(U1++B1)))∧Hid ((A1++(U1++(V1++B1))).length=N)∧Hp [q] w wr [.obj 5 [q] (EntsB q (A1++(U1++(V1++B1))) pad)]) (fun v u _=>(intOf v).toNat+(intOf u).toNat)
 case atStart=>exact⟨n1,n2,A,U,V,B,rfl,rfl,hU0,hV0,hmn,hmn2,hAm,HU,HV,hid rfl,HN,H⟩
 case round=>
  clear H;obtain⟨i,j,A1,U1,V1,B1,rfl,rfl,hi,hj,him,hjN,hA1,hU1,hV1,HE,HL,H⟩:=hrel
  rcases Nat.lt_trichotomy i j with hij|hij|hij
  ·-- V1 = Va ++ Vb, |Vb| = i
   obtain⟨Va,hVa⟩:∃x,V1.take (j-i)=x:=⟨_,rfl⟩;obtain⟨Vb,hVb⟩:∃x,V1.drop (j-i)=x:=⟨_,rfl⟩;have hVV:V1=Va++Vb:=by rw[←hVa,←hVb,List.take_append_drop]
   have hVal:Va.length=j-i:=by rw[←hVa,List.length_take,hV1.out];omega
   have hVbl:Vb.length=i:=by rw[←hVb,List.length_drop,hV1.out];omega
   have HVV:=hid hVV;have HVA:=hid hVal;have HVB:=hid hVbl;have e1:=hid (show(m:Int)-(i:Int)=((m-i:Nat):Int) by omega);have e2:=hid (show(m:Int)+(j:Int)-(i:Int)=((m+j-i:Nat):Int) by omega);clear hVa hVb hVV hVal hVbl;revert H;refine W59 ?_;intro H _ _ _ _ _;rw[e1.out,e2.out];have hob:=H.ob 5;unfold EntsB at hob;refine Calls.mono (zfx A1 U1 Va Vb B1 pad (by rw[hob,HVV.out,List.append_assoc]) (by rw[←HL.out,HVV.out,List.append_assoc]) hN2 (by have:=hA1.out;omega) hU1.out HVB.out (by rw[HVA.out];omega)) ?_;clear hob;rintro e w1 ⟨rfl,hF,hnew⟩;have HE2:=hid (show A++(V++(U++B))=A1++(Va++(Vb++(U1++B1))) by rw[HE.out,HVV.out,List.append_assoc]);have HL2:=hid (show(A1++(Vb++(Va++(U1++B1)))).length=N by rw[←HL.out,HVV.out];simp only[List.length_append];omega);have H1:=H.upd (w':=w1) 5 hF (S':=[q]) (show EntsB q (A1++(Vb++(Va++(U1++B1)))) pad w1 from hnew) yg;clear H hF hnew;have H:=H1;clear H1
   simp only[Int.not_lt,Int.not_le]at*;revert H;refine W59 ?_;intro H
   go_roundw
   case rel=>exact⟨i,j-i,A1,Vb,Va,U1++B1,rfl,congrArg (Value.int .i64) yb,hi,by omega,him,by omega,hA1,HVB,HVA,HE2,HL2,H⟩
   case measure=>(simp[intOf];try omega)
  ·subst hij;have e1:=hid (show(m:Int)-(i:Int)=((m-i:Nat):Int) by omega);revert H;refine W59 ?_;intro H _ _ _ _ _;rw[e1.out];have hob:=H.ob 5;unfold EntsB at hob;refine Calls.mono (zfx A1 U1 [] V1 B1 pad (by rw[hob,List.nil_append]) (by rw[←HL.out,List.nil_append]) hN2 (by have:=hA1.out;omega) hU1.out hV1.out (by rw[List.length_nil];omega)) ?_;clear hob;rintro e w1 ⟨rfl,hF,hnew⟩;have H1:=H.upd (w':=w1) 5 hF (S':=[q]) (show EntsB q (A1++(V1++(U1++B1))) pad w1 from hnew) yg;clear H hF hnew;have H:=H1;clear H1;simp only[Int.not_lt,Int.not_le]at*;revert H;refine W59 ?_;intro H
   go_end0
   refine⟨rfl,H.fr,?_⟩
   have:=H.ob 5
   unfold EntsB at this;rw[HE.out];exact this
  ·-- U1 = Ua ++ Ub, |Ua| = j
   obtain⟨Ua,hUa⟩:∃x,U1.take j=x:=⟨_,rfl⟩;obtain⟨Ub,hUb⟩:∃x,U1.drop j=x:=⟨_,rfl⟩;have hUU:U1=Ua++Ub:=by rw[←hUa,←hUb,List.take_append_drop]
   have hUal:Ua.length=j:=by rw[←hUa,List.length_take,hU1.out];omega
   have hUbl:Ub.length=i-j:=by rw[←hUb,List.length_drop,hU1.out]
   have HUU:=hid hUU;have HUA:=hid hUal;have HUB:=hid hUbl;have e1:=hid (show(m:Int)-(i:Int)=((m-i:Nat):Int) by omega);clear hUa hUb hUU hUal hUbl;revert H;refine W59 ?_;intro H _ _ _ _ _;rw[e1.out];have hob:=H.ob 5;unfold EntsB at hob;refine Calls.mono (zfx A1 Ua Ub V1 B1 pad (by rw[hob,HUU.out,List.append_assoc]) (by rw[←HL.out,HUU.out,List.append_assoc]) hN2 (by have:=hA1.out;omega) HUA.out hV1.out (by rw[HUB.out];omega)) ?_;clear hob;rintro e w1 ⟨rfl,hF,hnew⟩;have HE2:=hid (show A++(V++(U++B))=(A1++V1)++(Ua++(Ub++B1)) by rw[HE.out,HUU.out,List.append_assoc,List.append_assoc]);have HL2:=hid (show((A1++V1)++(Ub++(Ua++B1))).length=N by rw[←HL.out,HUU.out];simp only[List.length_append];omega);have HA2:=hid (show(A1++V1).length+(i-j)=m by rw[List.length_append,hV1.out];have:=hA1.out;omega);rw[←List.append_assoc]at hnew
   have H1:=H.upd (w':=w1) 5 hF (S':=[q]) (show EntsB q ((A1++V1)++(Ub++(Ua++B1))) pad w1 from hnew) yg;clear H hF hnew;have H:=H1;clear H1;simp only[Int.not_lt,Int.not_le]at*;revert H;refine W59 ?_;intro H
   go_roundw
   case rel=>exact⟨i-j,j,A1++V1,Ub,Ua,B1,congrArg (Value.int .i64) yb,rfl,by omega,hj,by omega,hjN,HA2,HUB,HUA,HE2,HL2,H⟩
   case measure=>(simp[intOf];try omega)
end
end Go.Proofs.YtaijhllckmndhaaGreatDoor
