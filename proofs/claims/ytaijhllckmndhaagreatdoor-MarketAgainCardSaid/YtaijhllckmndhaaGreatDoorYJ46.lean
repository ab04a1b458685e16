import Derived.Test.YtaijhllckmndhaaGreatDoorYJ0
import Derived.Test.YtaijhllckmndhaaGreatDoorYJ32
import Derived.Test.YtaijhllckmndhaaGreatDoorYJ44
import Derived.Test.YtaijhllckmndhaaGreatDoorYJ7
import Derived.Test.YtaijhllckmndhaaGreatDoorYJ20
import Derived.Test.YtaijhllckmndhaaGreatDoorYJ33
namespace Go.Proofs.YtaijhllckmndhaaGreatDoor
set_option linter.all false
set_option maxHeartbeats 64000000
set_option maxRecDepth 100000
section
open Go.RowKit
attribute [local irreducible] wpList Code.wp Plan.wp
section
variable {P:Program} {ops:Array Oper} {Q:Exit→Act→World→Prop} {w w0:World} {rest:List Oper} {o:Oper} {T:List Nat} {l:List Ent} {L:List Value} {ds:List Deferred}
def zvA{a:Act}{t t':TypeId}{x y:Operand}(ho:o.op= .binOp .eql t x y t'){k:IntKind}{m n:Int}(hx:a.eval x= .int k m)(hy:a.eval y= .int k n){b:Bool}(h:Hid (decide (m=n)=b)):(execOp a.eval o).run P w= .ok (.value (.bool b)) w:=by
 have h:=h.out
 by_cases k:m=n
 ·rw[decide_eq_true k]at h;subst h;exact zei ho hx hy rfl k
 ·rw[decide_eq_false k]at h;subst h;exact zbM ho hx hy rfl k
def zvZ(H:Hp T w0 w l)(k:Nat)(ho:o.op= .makeMap 111 none){L':Nat→List Value}(h:∀m w',Fr [] w w'→Hp T w0 w' (.obj k [m] (SeenAt m [] [m])::l)→wpList P ops Q rest ⟨(L' m).toArray,ds⟩ w')
 (hw:Region.wanted o (yielded ops L.toArray)=true:=by rfl)
 (hs:∀g,zad L o.dst (.map (some g))=L' g:=by intro g;((try simp only[nrm,zP,zQ,↓reduceIte,Nat.reduceAdd]);(try exact rfl))):wpList P ops Q (o::rest) ⟨L.toArray,ds⟩ w:=
 zaB hw fun K hK=>zvm (r:=none) H k ho fun m w' h1 h2=>hK _ _ (by rw[zaj,hs];exact h m w' h1 h2)
def zvV{m k:Nat}{S:List Nat}{ks:List (Nat×Nat)}(H:Hp T w0 w (.obj k S (SeenAt m ks S)::l)){x y:Operand}(ho:o.op= .mapUpdate 111 x y (.const (.bool true)))(hx:(Act.mk L.toArray ds).eval x= .map (some m)){p:Nat×Nat}(hy:(Act.mk L.toArray ds).eval y=zbc p)(hp:Hid (ks.contains p=false)){L':List Value}
 (h:∀w',Fr S w w'→Hp T w0 w' (.obj k S (SeenAt m (ks++[p]) S)::l)→wpList Tryz.prog ops Q rest ⟨L'.toArray,ds⟩ w')
 (hw:Region.wanted o (yielded ops L.toArray)=true:=by rfl)
 (hs:zad L o.dst undef=L':=by((try simp only[nrm,zP,zQ,↓reduceIte,Nat.reduceAdd]);(try exact rfl))):wpList Tryz.prog ops Q (o::rest) ⟨L.toArray,ds⟩ w:=
 zaB hw fun K hK=>zuQ H ho hx hy hp fun w' h1 h2=>hK _ _ (by rw[zaj,hs];exact h w' h1 h2)
end
def zpx(o:Except (Nat×Nat) (List En×List (Nat×List (List UInt8))))(w:World)(g b c:Nat)(Ls:List (List UInt8))(e:Ending)(w':World):Prop:=
 match o with
 | .error (k,x)=>e= .panicked (zdj k x)
 | .ok (L,rest)=>∃v k,e= .returned v∧w'.ownsRow w.heap.size 75 3 v L.length (L.flatMap eC)∧RdrAt g b c Ls k w'∧rest=sig k (Ls.drop k)∧k≤Ls.length+1∧∀x∈L,x.2.2<18446744073709551616
def zgR(h:Hd)(m n N k:Nat)(L:List En)(i:Nat)(r:List (Nat×List (List UInt8)))(o:Option En):Except (Nat×Nat) (List En×List (Nat×List (List UInt8))):=
 match o with
 | none=> .error (i,102)
 | some x=>if zcz L x then .error (i,102)else zac h m n N k (L++[x]) r
def zix(h:Hd)(m n N k:Nat)(L:List En)(i:Nat)(ws:List (List UInt8))(r:List (Nat×List (List UInt8))):zac h m n N (k+1) L ((i,ws)::r)=zgR h m n N k L i r (one h m n L.length ws):=rfl
def zuf{field sym m n k:Nat}{ws:List (List UInt8)}:one ⟨false,field,sym⟩ m n k ws=coE ⟨false,field,sym⟩ m n ws:=rfl
def zlE(L:List En)(x:En):(L.map fun y=>(y.1,y.2.1)).contains (x.1,x.2.1)=zcz L x:=by
 unfold zcz;rw[List.contains_eq_any_beq,List.any_map]
 congr 1
 funext y
 show((x.1,x.2.1)==(y.1,y.2.1))=_
 rw[Bool.eq_iff_iff];simp only[beq_iff_eq,Prod.mk.injEq,Bool.and_eq_true];exact⟨fun h=>⟨h.1.symm,h.2.symm⟩,fun h=>⟨h.1.symm,h.2.symm⟩⟩
def zow{g b c i:Nat}{Ls:List (List UInt8)}{w:World}(hR:RdrAt g b c Ls i w)(hi:i≤Ls.length+1)(field sym m n z:Nat)(hs2:sym≤2)(hf2:field≤2)(hm:m≤200)(hn:n≤200)(hz:z≤10000)(hT:∀w',Fr [g,b] w w'→La w'){o:Except (Nat×Nat) (List En×List (Nat×List (List UInt8)))}(ho:Hid (zac ⟨false,field,sym⟩ m n (Ls.length+1) z [] (sig i (Ls.drop i))=o)):
 Calls Tryz.prog 29 #[.pointer (some ⟨g,0,none⟩),zbO ⟨false,field,sym⟩, .int .i64 (m:Int), .int .i64 (n:Int), .int .i64 (z:Int)] w fun e w'=>Fr [g,b] w w'∧zpx o w g b c Ls e w':=by
 have HT:=hid hT;have H:=hR.start.newRow 0 (e:=75) (sz:=3);clear hR hT;unfold zbO
 go_enter Tryz.func29,Tryz.ntmps29
 go_wp2_with(first|refine x_q H ?_|refine x_l H ?_|refine zm ?_ ?_<;>intro h|(refine zvZ H 1 rfl ?_;clear H;intro mm w1 hf H;clear hf)|(revert H;(first|(refine x_g ?_;intro g1 w1 hg hf H)|(refine x_s ?_;intro w1 hf H)|(refine zau ?_;intro w1 hf H hk;clear hf hk));(first|replace hf:=hf.kp|clear hf)))
 go_loopw [13,27] (fun s13 s27 wr=>∃(j k:Nat) (L:List En) (v:Value) (S:List Nat),s27= .int .i64 (j:Int)∧j≤z∧s13=v∧L.length=j∧k≤Ls.length+1∧Hid (zac ⟨false,field,sym⟩ m n (Ls.length+1) (z-j) L (sig k (Ls.drop k))=o)∧Hid (∀x∈L,x.2.2<18446744073709551616)∧Hp [g,b] w wr [.obj 1 [mm] (SeenAt mm (L.map fun y=>(y.1,y.2.1)) [mm]), .blk g1 [.int .i64 0, .int .i64 0, .slice none 0 0, .slice none 0 0, .slice none 0 0, .bool false, .int .i64 (field:Int), .int .i64 (sym:Int)] 30, .obj 0 S (RowAt 75 3 v L.length (L.flatMap eC) S), .obj 7 [g,b] (RdrAt g b c Ls k)]) (fun _ v _=>z-(intOf v).toNat)
 case atStart=>exact⟨0,i,[],_,_,rfl,Nat.zero_le _,rfl,rfl,hi,ho,hid yg,H⟩
 case round=>
  clear H;obtain⟨j,k,L,v,S,rfl,hj,hv,hL,hk,HO,HB,H⟩:=hrel;obtain⟨p5,c5,he,_,hc5,_⟩:=(H.rowo 0).form;unfold maxLen at hc5;subst he;subst hv;subst hL;have hLz:L.length≤10000:=by omega
  by_cases hlt:L.length<z
  ·have HO1:=hid (show zac ⟨false,field,sym⟩ m n (Ls.length+1) (z-(L.length+1)+1) L (sig k (Ls.drop k))=o by rw[show z-(L.length+1)+1=z-L.length by omega];exact HO.out);clear HO ho
   go_wp2_with(first|refine x_q H ?_|refine x_l H ?_|refine zm ?_ ?_<;>intro h|(revert H;(first|(refine x_g ?_;intro g1 w1 hg hf H)|(refine x_s ?_;intro w1 hf H)|(refine zau ?_;intro w1 hf H hk;clear hf hk));(first|replace hf:=hf.kp|clear hf)))
   (have hR0:=H.ob 7;refine Calls.mono (zcN hR0 hk) ?_;rintro e w1 ⟨v,i',rfl,hF0,hR1,hcase⟩;have hF1:=hF0.mono (S:=[g,b]) yg ;have H1:=H.upd (w':=w1) 7 hF1 (S':=[g,b]) hR1 yg)
   clear hR0 hF0 hR1
   rcases hcase with⟨hs,rfl,rfl⟩|⟨ws,r,q,hs,rfl,hq,hc⟩
   ·have HO:Hid (o= .error (Ls.length+1,103)):=hid (by rw[←HO1.out,hs];rfl);clear H hs hF1;have H:=H1;clear H1
    go_wp2_with(first|refine x_q H ?_|refine x_l H ?_|refine zm ?_ ?_<;>intro h|(revert H;(first|(refine x_g ?_;intro g1 w1 hg hf H)|(refine x_s ?_;intro w1 hf H)|(refine zau ?_;intro w1 hf H hk;clear hf hk));(first|replace hf:=hf.kp|clear hf)))
    (refine x_c H (zo _ _ _ _ (H.ob 7).cell) ?_;clear H;rintro e w1 ⟨rfl,hF⟩ H;clear hF;refine⟨rfl,?_⟩);exact⟨H.fr,by rw[HO.out];rfl⟩
   ·have H2:=H1.push (b:=q) hc (.inr (Nat.le_trans H.fr.size hq)) (H.notOwn hq);have hnx:=zcM hs;have hi'k:i'≤Ls.length+1:=by omega
    have HRest:=hid hnx.2.2.1
    have hwz:∀x∈ws,x.length≤2000000:=by
     obtain⟨_,_,_,_,s,hsm,rfl⟩:=hnx;intro x hx;exact Nat.le_trans (zbN hx) ((H1.ob 7).hl s hsm)
    have hwn:ws.length≤2000001:=by
     obtain⟨_,_,_,_,s,hsm,rfl⟩:=hnx
     have:=zba s
     have:=(H1.ob 7).hl s hsm
     omega
    obtain⟨o1,ho1⟩:∃o1,coE ⟨false,field,sym⟩ m n ws=o1:=⟨_,rfl⟩;have HE:=hid ho1;have HO2:=hid (show zgR ⟨false,field,sym⟩ m n (Ls.length+1) (z-(L.length+1)) L i' r o1=o by rw[←HO1.out,hs,zix,zuf,ho1]);clear H H1 hs hF1 hc hnx HO1 ho1;have H:=H2;clear H2;have HWZ:=hid hwz;clear hwz hq;obtain⟨l1,hl1⟩:∃l1,decide ((ws.length:Int)=1)=l1:=⟨_,rfl⟩;have HL1:=hid hl1;clear hl1
    go_wp2_with(first|refine x_q H ?_|refine x_l H ?_|refine zm ?_ ?_<;>intro h|(revert H;(first|(refine x_g ?_;intro g1 w1 hg hf H)|(refine x_s ?_;intro w1 hf H)|(refine zau ?_;intro w1 hf H hk;clear hf hk));(first|replace hf:=hf.kp|clear hf)))
    (refine xA H (zp _ _ _) ?_;clear H;intro w1 H)
    go_wp2_with(first|refine x_e (zvA rfl rfl rfl HL1) ?_|refine x_q H ?_|refine x_l H ?_|refine zm ?_ ?_<;>intro h|(revert H;(first|(refine x_g ?_;intro g1 w1 hg hf H)|(refine x_s ?_;intro w1 hf H)|(refine zau ?_;intro w1 hf H hk;clear hf hk));(first|replace hf:=hf.kp|clear hf)))
    (refine x_c H (zpC _ ⟨false,field,sym⟩ hs2 hf2 m n hm hn (H.at q) hwn HWZ.out (HT.out _ H.fr) HE) ?_ (fun _ _ h=>h.1);clear H;rintro e w1 ⟨hF,⟨xr,xc,xv⟩,bb,rfl,hbb,hx,hxB⟩ H;clear hF;simp only[eC]);clear HL1 HE HWZ hwn
    cases o1 with
    | none=>
     have hb:bb=false:=hbb;subst hb;have HO:Hid (o= .error (i',102)):=hid HO2.out.symm;clear HO2 hbb hx
     go_wp2_with(first|refine x_q H ?_|refine x_l H ?_|refine zm ?_ ?_<;>intro h|(revert H;(first|(refine x_g ?_;intro g1 w1 hg hf H)|(refine x_s ?_;intro w1 hf H)|(refine zau ?_;intro w1 hf H hk;clear hf hk));(first|replace hf:=hf.kp|clear hf)))
     (refine x_c H (zo _ _ _ _ (H.ob 7).cell) ?_;clear H;rintro e w1 ⟨rfl,hF⟩ H;clear hF;refine⟨rfl,?_⟩);exact⟨H.fr,by rw[HO.out];rfl⟩
    | some y=>
     have hb:bb=true:=hbb;have hy:=hx y rfl;subst hb;subst hy;clear hbb hx;obtain⟨s,hs0⟩:∃s,zcz L (xr,xc,xv)=s:=⟨_,rfl⟩;have HSN:=hid ((zlE L (xr,xc,xv)).trans hs0)
     cases s
     ·have HO3:=hid (show zac ⟨false,field,sym⟩ m n (Ls.length+1) (z-(L.length+1)) (L++[(xr,xc,xv)]) r=o by rw[←HO2.out];unfold zgR;simp only[hs0];rfl);clear HO2 hs0
      go_wp2_with(first|refine x_q H ?_|refine x_l H ?_|refine x_e (zvJ H (.tail _ (.tail _ (.tail _ (.head _)))) rfl rfl (p:=(xr,xc)) rfl HSN) ?_|refine zm ?_ ?_<;>intro h|(revert H;(first|(refine x_g ?_;intro g1 w1 hg hf H)|(refine x_s ?_;intro w1 hf H)|(refine zau ?_;intro w1 hf H hk;clear hf hk));(first|replace hf:=hf.kp|clear hf)))
      (refine xA H (zp _ _ _) ?_;clear H;intro w1 H)
      go_wp2_with(first|refine x_q H ?_|refine x_l H ?_|refine zm ?_ ?_<;>intro h|(refine zvV (H.pull 1) rfl rfl (p:=(xr,xc)) rfl HSN ?_;clear H;intro w1 hf H;clear hf)|(refine zbI (b:= .append) rfl ?_;go_loud (refine zaB rfl (fun K hK=>zaN H rfl rfl rfl 0 (H.rd (b:=g1) (off:=0) (vs:=eC (xr,xc,xv)) List.prefix_rfl) rfl (zcC _) yb yk (fun p1 c1 w1 S' hf H1=>hK _ _ ?_)));(clear hK K);(clear H;have H:=H1;clear H1;(try dsimp only at H);(first|replace hf:=hf.kp|clear hf));(simp only[nrm,↓reduceIte,Nat.reduceAdd]))|(revert H;(first|(refine x_g ?_;intro g1 w1 hg hf H)|(refine x_s ?_;intro w1 hf H)|(refine zau ?_;intro w1 hf H hk;clear hf hk));(first|replace hf:=hf.kp|clear hf)))
      go_roundw
      case rel=>exact⟨L.length+1,i',L++[(xr,xc,xv)],_,S',rfl,by omega,rfl,by rw[List.length_append];rfl,by omega,by rw[←HRest.out];exact HO3,hid (fun y hy=>by rcases List.mem_append.1 hy with k|k;exact HB.out y k;rw[List.mem_singleton]at k;subst k;exact hxB),by rw[List.map_append,List.length_append,List.flatMap_append];exact H.sub yd⟩
      case measure=>(simp[intOf];try omega)
     ·have HO:Hid (o= .error (i',102)):=hid (by rw[←HO2.out];unfold zgR;simp only[hs0];rfl);clear HO2 hs0
      go_wp2_with(first|refine x_q H ?_|refine x_l H ?_|refine x_e (zvJ H (.tail _ (.tail _ (.tail _ (.head _)))) rfl rfl (p:=(xr,xc)) rfl HSN) ?_|refine zm ?_ ?_<;>intro h|(revert H;(first|(refine x_g ?_;intro g1 w1 hg hf H)|(refine x_s ?_;intro w1 hf H)|(refine zau ?_;intro w1 hf H hk;clear hf hk));(first|replace hf:=hf.kp|clear hf)))
      (refine x_c H (zo _ _ _ _ (H.ob 7).cell) ?_;clear H;rintro e w1 ⟨rfl,hF⟩ H;clear hF;refine⟨rfl,?_⟩);exact⟨H.fr,by rw[HO.out];rfl⟩
  ·have HO2:Hid (o= .ok (L,sig k (Ls.drop k))):=hid (by rw[←HO.out,show z-L.length=0 by omega];rfl);clear HO ho
   go_wp2_with(first|refine x_q H ?_|refine x_l H ?_|refine zm ?_ ?_<;>intro h|(revert H;(first|(refine x_g ?_;intro g1 w1 hg hf H)|(refine x_s ?_;intro w1 hf H)|(refine zau ?_;intro w1 hf H hk;clear hf hk));(first|replace hf:=hf.kp|clear hf)))
   (refine bodyPost_ret (results_tmp rfl _ _ _) rfl ?_);refine⟨H.fr,?_⟩;rw[HO2.out];exact⟨_,k,rfl,RowAt.owns (H.rowo 0) (fun x hx=>(H.home 0 x hx).resolve_left (fun h=>zh3 (k:=0) (k':=7) (S:=S) (S':=[g,b]) (Q:=RowAt 75 3 (.slice p5 L.length c5) L.length (L.flatMap eC) S) (Q':=RdrAt g b c Ls k) (H.sub yd) x hx h)),H.ob 7,rfl,hk,HB.out⟩
end
section
def okV(h:Hd)(x:En):Prop:=(h.field=2→x.2.2=4607182418800017408)∧(h.field≠2→∃t,zai h.field t=some x.2.2)
def ztn{h:Hd}{m n k:Nat}{w:List (List UInt8)}{x:En}(ha:¬(h.arr=true∧h.field=2))(he:one h m n k w=some x):okV h x∧(h.arr=true→(x.1,x.2.1)=(zbd h.sym m n).getD k (0,0)):=by
 unfold one at he
 by_cases hA:h.arr=true
 ·have hf:h.field≠2:=fun e=>ha ⟨hA,e⟩
  rw[if_pos hA]at he
  split at he
  ·cases hv:zai h.field (w.getD 0 [])with
   | none=>rw[hv]at he;cases he
   | some f=>
    rw[hv]at he;have e:=Option.some.inj he;subst e;exact⟨⟨fun e=>absurd e hf,fun _=>⟨_,hv⟩⟩,fun _=>rfl⟩
  ·cases he
 ·rw[if_neg hA]at he;refine⟨?_,fun e=>absurd e hA⟩
  split at he
  ·cases he
  ·split at he
   ·rename_i hf;have e:=Option.some.inj he;subst e;exact⟨fun _=>rfl,fun e=>absurd hf e⟩
   ·rename_i hf
    cases hv:zai h.field (w.getD 2 [])with
    | none=>rw[hv]at he;cases he
    | some f=>
     rw[hv]at he;have e:=Option.some.inj he;subst e;exact⟨fun e=>absurd e hf,fun _=>⟨_,hv⟩⟩
def zjV{h:Hd}{m n N:Nat}(ha:¬(h.arr=true∧h.field=2)):∀ {k:Nat} {L:List En} {ls:List (Nat×List (List UInt8))} {L':List En} {r:List (Nat×List (List UInt8))},(∀x∈L,okV h x)→(h.arr=true→∀i x,L[i]? =some x→(x.1,x.2.1)=(zbd h.sym m n).getD i (0,0))→zac h m n N k L ls= .ok (L',r)→
 (∀x∈L',okV h x)∧(h.arr=true→∀i x,L'[i]? =some x→(x.1,x.2.1)=(zbd h.sym m n).getD i (0,0))
 | 0,L,ls,L',r,hV,hA,he=>by
  unfold zac at he
  cases he
  exact⟨hV,hA⟩
 | k+1,L,[],L',r,_,_,he=>by unfold zac at he;cases he
 | k+1,L,(i,w)::ls,L',r,hV,hA,he=>by
  unfold zac at he
  split at he
  ·cases he
  ·rename_i x hx
   split at he
   ·cases he
   ·have h1:=ztn ha hx;refine zjV (k:=k) (L:=L++[x]) ha (fun y hy=>?_) (fun e j y hy=>?_) he
    ·rcases List.mem_append.1 hy with g|g
     ·exact hV y g
     ·rw[List.mem_singleton]at g;subst g;exact h1.1
    ·by_cases hj:j<L.length
     ·rw[List.getElem?_append_left hj]at hy;exact hA e j y hy
     ·rw[List.getElem?_append_right yb]at hy
      have hj2:j-L.length=0:=by
       have:=(List.getElem?_eq_some_iff.1 hy).1
       simp only[List.length_singleton]at this
       omega
      rw[hj2]at hy;have e2:=Option.some.inj hy;subst e2;rw[show j=L.length by omega];exact h1.2 e
structure FileOK (h:Hd) (m n:Nat) (L:List En):Prop where
 field:h.field≤2
 sym:h.sym≤2
 kind:¬(h.arr=true∧h.field=2)
 rows:m≤200
 cols:n≤200
 square:h.sym=0∨m=n
 most:L.length≤10000
 half:h.sym=0∨2*L.length≤10000
 apart:L.Pairwise apE
 each:∀x∈L,okE h.sym m n x∧okV h x
 all:h.arr=true→L.map (fun x=>(x.1,x.2.1))=zbd h.sym m n
def zpZ{line:List UInt8}{h:Hd}(e:hdr line=some h):¬(h.arr=true∧h.field=2):=by
 unfold hdr at e
 split at e
 ·split at e
  ·rename_i k;have e:=Option.some.inj e;subst e;intro g;exact k.2.2.2.2.2 ⟨by simpa using g.1,g.2⟩
  ·cases e
 ·cases e
def zlV{h:Hd}{w:List (List UInt8)}{m n z:Nat}(e:zas h w= .ok (m,n,z)):h.sym=0∨2*z≤10000:=by
 unfold zas at e
 by_cases k:w.length=(if h.arr=true then 2 else 3)∧w.all zT=true∧(h.sym=0∨zW (w.getD 0 [])=zW (w.getD 1 []))
 ·rw[if_pos k]at e;simp only[]at e;generalize hc:(if h.arr=true then zV h.sym (num (w.getD 0 [])) (num (w.getD 1 []))else num (w.getD 2 []))=c at e
  by_cases g:num (w.getD 0 [])≤200∧num (w.getD 1 [])≤200∧c≤10000∧(h.sym=0∨2*c≤10000)
  ·rw[if_pos g]at e;have e:=Except.ok.inj e;have e3:=congrArg (fun x=>x.2.2) e;simp only at e3;rw[←e3];exact g.2.2.2
  ·rw[if_neg g]at e;cases e
 ·rw[if_neg k]at e;cases e
def zev{sym m n:Nat}(hs:sym≤2)(h:sym=0∨m=n):(zbd sym m n).length=zV sym m n:=by
 rw[←zdW _ _ _ hs h,zfE,List.length_map]
def zfD{s:List UInt8}{h:Hd}{m n:Nat}{L:List En}(e:zF s= .ok (h,m,n,L)):FileOK h m n L:=by
 unfold zF at e
 split at e
 ·cases e
 ·split at e
  ·cases e
  ·rename_i h' hh
   split at e
   ·cases e
   ·rename_i i w ls hsig
    split at e
    ·cases e
    ·rename_i m' n' c hsz
     split at e
     ·cases e
     ·rename_i L' hen;have e:=Except.ok.inj e;simp only[Prod.mk.injEq]at e;obtain⟨rfl,rfl,rfl,rfl⟩:=e;have h1:=zpB hh;have h2:=zpZ hh;have h3:=zka hsz
      have h4:=zhG (fun ha=>by
       rw[List.length_nil,Nat.zero_add,h3.2.2.2.2 ha,zev h1.2 h3.2.2.2.1]
       exact Nat.le_refl _) ⟨.nil,by simp⟩ hen
      have h5:=zjV h2 yg yg hen;have h6:=zlV hsz;have hl:L'.length=c:=by rw[h4.2];simp
      refine⟨h1.1,h1.2,h2,h3.1,h3.2.1,h3.2.2.2.1,by omega,by omega,h4.1.1,fun x hx=>⟨h4.1.2 x hx,h5.1 x hx⟩,fun ha=>?_⟩;have hll:(zbd h'.sym m' n').length=L'.length:=by rw[zev h1.2 h3.2.2.2.1,hl,h3.2.2.2.2 ha]
      refine List.ext_getElem (by rw[List.length_map,hll]) (fun i h7 h8=>?_);rw[List.length_map]at h7
      have:=h5.2 ha i _ (List.getElem?_eq_getElem h7)
      rw[List.getElem_map,this,List.getD_eq_getElem?_getD,List.getElem?_eq_getElem h8]
      rfl
     ·cases e
def zaf(sym:Nat)(E:List En):List En:=E.filter fun x=>may sym x.1 x.2.1
def zdL(sym:Nat)(x:En):En:=(x.2.1,x.1,if sym=2 then zbV x.2.2 else x.2.2)
def zgG(sym:Nat)(E:List En):Prop:=sym=0∨∀x∈E,zdL sym x∈E
def zdE{sym:Nat}{L:List En}{x:En}:x∈zz sym L↔x∈L∨∃y∈L,¬sym=0∧y.1≠y.2.1∧x=zdL sym y:=by
 unfold zz;rw[List.mem_append,List.mem_map]
 constructor
 ·rintro(h|⟨y,hy,rfl⟩)
  ·exact .inl h
  ·obtain⟨h1,h2⟩:=List.mem_filter.1 hy;simp only[Bool.not_eq_true',Bool.or_eq_false_iff,beq_eq_false_iff_ne,ne_eq]at h2;exact .inr ⟨y,h1,h2.1,h2.2,rfl⟩
 ·rintro(h|⟨y,hy,h1,h2,rfl⟩)
  ·exact .inl h
  ·refine .inr ⟨y,List.mem_filter.2 ⟨hy,?_⟩,rfl⟩;simp only[Bool.not_eq_true',Bool.or_eq_false_iff,beq_eq_false_iff_ne,ne_eq];exact⟨h1,h2⟩
def zq0{f:Nat}(h:f<18446744073709551616):zbV (zbV f)=f:=by
 unfold zbV
 split<;>split<;>omega
def zs0{sym i j:Nat}(hs:sym≤2)(h0:sym≠0)(h:may sym i j=true)(hd:i≠j):may sym j i=false:=by
 unfold may at h ⊢;simp only[Bool.or_eq_true,beq_iff_eq,Bool.and_eq_true,decide_eq_true_eq]at h;simp only[Bool.or_eq_false_iff,beq_eq_false_iff_ne,Bool.and_eq_false_iff,decide_eq_false_iff_not,ne_eq];refine⟨⟨h0,by omega⟩,?_⟩
 omega
def zh6{L:List En}(h:L.Pairwise apE):L.Nodup:=h.imp (fun hxy e=>by subst e;exact hxy ⟨rfl,rfl⟩)
section
variable {h:Hd} {m n:Nat} {L:List En}
def FileOK.mirrOK(F:FileOK h m n L):okM m n (zz h.sym L):=zlu ⟨F.apart,fun x hx=>(F.each x hx).1⟩ F.square
def FileOK.mem(F:FileOK h m n L)(x:En):x∈entP (zz h.sym L) m n↔x∈zz h.sym L:=
 zdA F.mirrOK.1 (fun y hy=>⟨(F.mirrOK.2 y hy).1,(F.mirrOK.2 y hy).2.1⟩) x
def FileOK.memW(F:FileOK h m n L)(x:En):x∈zaf h.sym (entP (zz h.sym L) m n)↔x∈L:=by
 unfold zaf;rw[List.mem_filter,F.mem,zdE]
 constructor
 ·rintro⟨h1|⟨y,hy,h2,h3,rfl⟩,h4⟩
  ·exact h1
  ·have h5:=zs0 F.sym h2 ((F.each y hy).1.2.2.1) h3;unfold zdL at h4;simp only at h4;rw[h4]at h5
   cases h5
 ·exact fun hx=>⟨.inl hx,(F.each x hx).1.2.2.1⟩
def FileOK.sortedW(F:FileOK h m n L):(zaf h.sym (entP (zz h.sym L) m n)).Pairwise ltE:=(zaS _ _ _).filter _
def FileOK.perm(F:FileOK h m n L):(zaf h.sym (entP (zz h.sym L) m n)).Perm L:=
 (List.perm_ext_iff_of_nodup (zh6 (F.sortedW.imp (fun h=>h.ap))) (zh6 F.apart)).2 F.memW
def zkQ(m n sym:Nat):(zbd sym m n).Pairwise fun p q=>p.2<q.2∨(p.2=q.2∧p.1<q.1):=by
 unfold zbd;rw[List.pairwise_flatMap];refine⟨fun j _=>?_,?_⟩
 ·rw[List.pairwise_map];exact(List.pairwise_lt_range.filter _).imp (fun h=> .inr ⟨rfl,h⟩)
 ·refine List.pairwise_lt_range.imp (fun {a b} hab x hx y hy=>?_);obtain⟨i,_,rfl⟩:=List.mem_map.1 hx;obtain⟨k,_,rfl⟩:=List.mem_map.1 hy;exact .inl hab
def FileOK.arrW(F:FileOK h m n L)(ha:h.arr=true):zaf h.sym (entP (zz h.sym L) m n)=L:=by
 refine zcc F.sortedW ?_ F.memW;have h1:=zkQ m n h.sym;rw[←F.all ha,List.pairwise_map]at h1;exact h1.imp (fun h=>h)
def FileOK.symm(F:FileOK h m n L):zgG h.sym (entP (zz h.sym L) m n):=by
 by_cases h0:h.sym=0
 ·exact .inl h0
 refine .inr (fun x hx=>?_);rw[F.mem,zdE]at hx;rw[F.mem,zdE]
 rcases hx with hx|⟨y,hy,h1,h2,rfl⟩
 ·by_cases hd:x.1=x.2.1
  ·left
   have hm:=(F.each x hx).1.2.2.1
   have h2:h.sym≠2:=by
    intro e;rw[e,hd]at hm
    simp[may]at hm
   have e:zdL h.sym x=x:=by
    obtain⟨a,b,c⟩:=x;simp only at hd;subst hd;unfold zdL;rw[if_neg h2]
   rw[e];exact hx
  ·exact .inr ⟨x,hx,h0,hd,rfl⟩
 ·left
  have e:zdL h.sym (zdL h.sym y)=y:=by
   unfold zdL;simp only
   split
   ·rw[zq0 (F.each y hy).1.2.2.2.2]
   ·rfl
  rw[e];exact hy
def FileOK.wrt(F:FileOK h m n L):FileOK h m n (zaf h.sym (entP (zz h.sym L) m n)):=by
 have hl:=F.perm.length_eq;exact⟨F.field,F.sym,F.kind,F.rows,F.cols,F.square,by rw[hl];exact F.most,by rw[hl];exact F.half,F.sortedW.imp (fun h=>h.ap),fun x hx=>F.each x ((F.memW x).1 hx),fun ha=>by rw[F.arrW ha];exact F.all ha⟩
def FileOK.same(F:FileOK h m n L):entP (zz h.sym (zaf h.sym (entP (zz h.sym L) m n))) m n=entP (zz h.sym L) m n:=by
 refine zcc (zaS _ _ _) (zaS _ _ _) (fun x=>?_);rw[F.wrt.mem,F.mem,zdE,zdE];simp only[F.memW]
def FileOK.back(F:FileOK h m n L){R:List (En×List UInt8)}(hR:R.map (·.1)=L)(ht:∀p∈R,h.field≠2→zai h.field p.2=some p.1.2.2∧zaT p.2):zF (za2 h m n R)= .ok (h,m,n,L):=by
 have hl:R.length=L.length:=by rw[←hR,List.length_map]
 have hmem:∀p∈R,p.1∈L:=fun p hp=>by rw[←hR];exact List.mem_map.2 ⟨p,hp,rfl⟩
 have h1:=zkM (R:=R) F.field F.sym F.kind F.rows F.cols (by rw[hl];exact F.most) (by rw[hl];exact F.half) F.square (fun p hp=>?_) (by rw[hR];exact F.apart) (fun ha=>?_) (fun ha=>?_)
 ·rw[hR]at h1;exact h1
 ·have h2:=F.each p.1 (hmem p hp);exact⟨h2.1.1,h2.1.2.1,h2.1.2.2.1,h2.2.1,fun e=>ht p hp e⟩
 ·rw[←F.all ha,←hR,List.map_map];rfl
 ·rw[hl,←zev F.sym F.square,←F.all ha,List.length_map]
end
end
def hM:List UInt8:=[37,37,77,97,116,114,105,120,77,97,114,107,101,116,32,109,97,116,114,105,120,32,99,111,111,114,100,105,110,97,116,101,32,112,97,116,116,101,114,110,32,115,121,109,109,101,116,114,105,99,10]
def awM:List UInt8:=[37,37,77,97,116,114,105,120,77,97,114,107,101,116,32,109,97,116,114,105,120,32,99,111,111,114,100,105,110,97,116,101,32,114,101,97,108,32,115,121,109,109,101,116,114,105,99,10,50,32,50,32,50,10,49,32,49,32,50,101,48,10,50,32,49,32,45,49,101,48,10]
def zun(b:List UInt8)(k x:Nat):Bool:=match zF b with
 | .error (a,c)=>a==k&&c==x
 | .ok _=>false
def zpX(b:List UInt8):Bool:=match zF b with
 | .error _=>false
 | .ok (h,m,n,L)=>h.arr==false&&h.field==0&&h.sym==1&&m==2&&n==2&&L==[(0,0,4611686018427387904),(1,0,13830554455654793216)]
def zsx{b:List UInt8}{k x:Nat}(h:zun b k x=true):zF b= .error (k,x):=by
 unfold zun at h
 split at h
 ·rename_i a c e;simp only[Bool.and_eq_true,beq_iff_eq]at h;rw[e,h.1,h.2]
 ·cases h
def zsq{b:List UInt8}(h:zpX b=true):zF b= .ok (⟨false,0,1⟩,2,2,[(0,0,4611686018427387904),(1,0,13830554455654793216)]):=by
 unfold zpX at h
 split at h
 ·cases h
 ·rename_i hd m n L e;obtain⟨a,f,s⟩:=hd;simp only[Bool.and_eq_true,beq_iff_eq]at h;obtain⟨⟨⟨⟨⟨rfl,rfl⟩,rfl⟩,rfl⟩,rfl⟩,rfl⟩:=h;exact e
def zt1:zpX awM=true:=by decide+kernel
def zhf:zF []= .error (1,100):=zsx (by decide+kernel)
def awS:List En:=[(0,0,4611686018427387904),(1,0,13830554455654793216),(0,1,13830554455654793216)]
def zlg:zz 1 [(0,0,4611686018427387904),(1,0,13830554455654793216)]=awS:=by decide
def zlC:entP awS 2 2=awS:=by decide
def zmJ:awS.Pairwise ltE:=by rw[←zlC];exact zaS _ _ _
def zt3:∀x∈awS,x.1<2∧x.2.1<2:=by decide
def zr1:∀x∈awS.map (·.2.2),x<18446744073709551616∧zS x=true:=by decide
section
open Go.RowKit
attribute [local irreducible] wpList Code.wp Plan.wp
def ztM{field sym m n k pr pc pv:Nat}{s:List UInt8}(hp:(zaJ sym m n)[k]? =some (pr,pc,pv)):one ⟨true,field,sym⟩ m n k [s]=(zai field s).map fun f=>(pr,pc,f):=by
 rw[zfE,List.getElem?_map,Option.map_eq_some_iff]at hp;obtain⟨⟨a,b⟩,h1,h2⟩:=hp
 cases h2
 unfold one;rw[if_pos rfl,if_pos (show [s].length=1 from rfl)];have e:(zbd sym m n).getD k (0,0)=(a,b):=by rw[List.getD_eq_getElem?_getD,h1];rfl
 simp only[e]
 rfl
def zt6{field sym m n k:Nat}{ws:List (List UInt8)}(h:¬ws.length=1):one ⟨true,field,sym⟩ m n k ws=none:=by
 unfold one;rw[if_pos rfl,if_neg h]
def zqH(P:List En)(k:Nat){x:En}(h:P[k]? =some x)(pad:List Value):eC x<+:(P.flatMap eC++pad).drop (k*3):=by
 obtain⟨hl,he⟩:=List.getElem?_eq_some_iff.1 h;have e1:P=P.take k++x::P.drop (k+1):=by rw[←he,List.getElem_cons_drop,List.take_append_drop]
 have h1:=zaP (P.take k) (P.drop (k+1)) x pad;rw[←e1,List.length_take,Nat.min_eq_left yb]at h1;exact h1
def zpd{g b c i:Nat}{Ls:List (List UInt8)}{w:World}(hR:RdrAt g b c Ls i w)(hi:i≤Ls.length+1)(field sym m n z:Nat)(hs2:sym≤2)(hf2:field≤2)(hm:m≤200)(hn:n≤200)(hz:z≤10000)(hzP:z≤(zaJ sym m n).length)(hT:∀w',Fr [g,b] w w'→La w'){o:Except (Nat×Nat) (List En×List (Nat×List (List UInt8)))}(ho:Hid (zac ⟨true,field,sym⟩ m n (Ls.length+1) z [] (sig i (Ls.drop i))=o)):
 Calls Tryz.prog 29 #[.pointer (some ⟨g,0,none⟩),zbO ⟨true,field,sym⟩, .int .i64 (m:Int), .int .i64 (n:Int), .int .i64 (z:Int)] w fun e w'=>Fr [g,b] w w'∧zpx o w g b c Ls e w':=by
 have HT:=hid hT;have H:=hR.start.newRow 0 (e:=75) (sz:=3);clear hR hT;unfold zbO
 go_enter Tryz.func29,Tryz.ntmps29
 revert H;refine W53 ?_;intro _ g1 w1 hg H hf _ _ _ _;refine Calls.mono (ziJ _ ⟨true,field,sym⟩ hs2 m n hm hn) ?_;rintro e w1 ⟨v11,rfl,hF,hown⟩;obtain⟨S2,H1⟩:=H.rowNew 2 hF hown;clear H hF hown;have H:=H1;clear H1;simp only at H;obtain⟨P,hP⟩:∃P,zaJ sym m n=P:=⟨_,rfl⟩;have HP:=hid hP;rw[hP]at H hzP;clear hP;revert H;refine Wa8 ?_;intro mm w1 H _ _
 go_loopw [13,27] (fun s13 s27 wr=>∃(j k:Nat) (L:List En) (v:Value) (S:List Nat),s27= .int .i64 (j:Int)∧j≤z∧s13=v∧L.length=j∧k≤Ls.length+1∧Hid (zac ⟨true,field,sym⟩ m n (Ls.length+1) (z-j) L (sig k (Ls.drop k))=o)∧Hid (∀x∈L,x.2.2<18446744073709551616)∧Hp [g,b] w wr [.obj 1 [mm] (SeenAt mm (L.map fun y=>(y.1,y.2.1)) [mm]), .obj 2 S2 (RowAt 75 3 v11 P.length (P.flatMap eC) S2), .blk g1 [.int .i64 0, .int .i64 0, .slice none 0 0, .slice none 0 0, .slice none 0 0, .bool true, .int .i64 (field:Int), .int .i64 (sym:Int)] 30, .obj 0 S (RowAt 75 3 v L.length (L.flatMap eC) S), .obj 7 [g,b] (RdrAt g b c Ls k)]) (fun _ v _=>z-(intOf v).toNat)
 case atStart=>exact⟨0,i,[],_,_,rfl,Nat.zero_le _,rfl,rfl,hi,ho,hid yg,H⟩
 case round=>
  clear H;obtain⟨j,k,L,v,S,rfl,hj,hv,hL,hk,HO,HB,H⟩:=hrel;obtain⟨p5,c5,he,_,hc5,_⟩:=(H.rowo 0).form;unfold maxLen at hc5;subst he;subst hv;subst hL;have hLz:L.length≤10000:=by omega
  by_cases hlt:L.length<z
  ·have HO1:=hid (show zac ⟨true,field,sym⟩ m n (Ls.length+1) (z-(L.length+1)+1) L (sig k (Ls.drop k))=o by rw[show z-(L.length+1)+1=z-L.length by omega];exact HO.out);clear HO ho;revert H;refine W53 ?_;intro H _ _ _ _ _ _ _
   (have hR0:=H.ob 7;refine Calls.mono (zcN hR0 hk) ?_;rintro e w1 ⟨v,i',rfl,hF0,hR1,hcase⟩;have hF1:=hF0.mono (S:=[g,b]) yg ;have H1:=H.upd (w':=w1) 7 hF1 (S':=[g,b]) hR1 yg)
   clear hR0 hF0 hR1
   rcases hcase with⟨hs,rfl,rfl⟩|⟨ws,r,q,hs,rfl,hq,hc⟩
   ·have HO:Hid (o= .error (Ls.length+1,103)):=hid (by rw[←HO1.out,hs];rfl);clear H hs hF1;have H:=H1;clear H1;revert H;refine W53 ?_;intro H _ _ _ _;(refine x_c H (zo _ _ _ _ (H.ob 7).cell) ?_;clear H;rintro e w1 ⟨rfl,hF⟩ H;clear hF;refine⟨rfl,?_⟩);exact⟨H.fr,by rw[HO.out];rfl⟩
   ·have H2:=H1.push (b:=q) hc (.inr (Nat.le_trans H.fr.size hq)) (H.notOwn hq);have hnx:=zcM hs;have hi'k:i'≤Ls.length+1:=by omega
    have HRest:=hid hnx.2.2.1
    have hwz:∀x∈ws,x.length≤2000000:=by
     obtain⟨_,_,_,_,s,hsm,rfl⟩:=hnx;intro x hx;exact Nat.le_trans (zbN hx) ((H1.ob 7).hl s hsm)
    have hwn:ws.length≤2000001:=by
     obtain⟨_,_,_,_,s,hsm,rfl⟩:=hnx
     have:=zba s
     have:=(H1.ob 7).hl s hsm
     omega
    have HO2:=hid (show zgR ⟨true,field,sym⟩ m n (Ls.length+1) (z-(L.length+1)) L i' r (one ⟨true,field,sym⟩ m n L.length ws)=o by rw[←HO1.out,hs,zix]);clear H H1 hs hF1 hc hnx HO1;have H:=H2;clear H2;have HWZ:=hid hwz;clear hwz hq
    by_cases hl1:ws.length=1
    ·obtain⟨s,rfl⟩:=List.length_eq_one_iff.1 hl1;clear hl1 hwn;obtain⟨⟨xr,xc,pv⟩,hp⟩:∃p,P[L.length]? =some p:=⟨_,List.getElem?_eq_getElem yb⟩;have hone:=ztM (field:=field) (s:=s) (show(zaJ sym m n)[L.length]? =some (xr,xc,pv) by rw[HP.out];exact hp);rw[hone]at HO2;obtain⟨ov,hov0⟩:∃v,zai field s=v:=⟨_,rfl⟩;have HE:=hid hov0;rw[hov0]at HO2;clear hov0 hone;have hsl:=HWZ.out s yg;obtain⟨gp,cp,pad,hv11,hS2,hcp1,hcp2,hcpl,H1⟩:=H.rowOpen 2 yb;subst hv11;subst hS2;have hpre:[.int .i64 (xr:Int), .int .i64 (xc:Int), .int .u64 (pv:Int)]<+:(P.flatMap eC++pad).drop (L.length*3):=zqH P L.length hp pad;have hPl:=hid (show(P.flatMap eC).length=P.length*3 from zaI P);have HPC:=hid (And.intro hcp1 (And.intro hcp2 hcpl));have hPn:L.length<P.length:=by omega
     clear H hp hcp1 hcp2 hcpl;have H:=H1;clear H1;revert H;refine W53 ?_;intro H _ _ _ _;(refine xA H (zp _ _ _) ?_;clear H;intro w1 H);revert H;refine Wb2 ?_;intro g1 _ hg _ _ w1 H
     (revert H;refine w_p 12 (.st 0 (.st 1 (.st 2 (.st 3 (.st 4 (.ld 5 (.st 6 (.st 7 (.st 8 (.st 9 (.ld 10 (.st 11 .done)))))))))))) ?_ (hs:=(.cons _ (List.Sublist.refl _)));intro w1 H)
     iterate 5 refine p_q ?_
     (refine p_c H rfl rfl Tryz.func74 (ziu _ s field hf2 hsl (HT.out _ H.fr) HE) ?_;clear H;rintro e w1 ⟨f,bb,rfl,hF,hf64,hbb,hx⟩ H;refine p_r ?_;clear hF)
     iterate 4 refine p_q ?_
     (revert H;refine p_s ?_;intro w1 hf H;(first|replace hf:=hf.kp|clear hf))
     refine p_q ?_;(refine zf ?_)
     all_goals
      have H1:=H.rowShut (g:=gp) 2 (sz:=3) (n:=P.length) (cap:=cp) (xs:=P.flatMap eC) (pad:=pad) rfl hPl.out HPC.out.1 HPC.out.2.1 HPC.out.2.2 (.tail _ (.tail _ (.tail _ (.head _))));clear H hpre;have H:=H1;clear H1
      cases ov with
      | none=>
       have hb:bb=false:=hbb;subst hb;have HO:Hid (o= .error (i',102)):=hid (by rw[←HO2.out];rfl);clear HO2 hbb hx;revert H;refine W53 ?_;intro g1 _ hg w1 H _ _ _ _;(refine x_c H (zo _ _ _ _ (H.ob 7).cell) ?_;clear H;rintro e w1 ⟨rfl,hF⟩ H;clear hF;refine⟨rfl,?_⟩);exact⟨H.fr,by rw[HO.out];rfl⟩
      | some f'=>
       have hb:bb=true:=hbb;have hy:=hx f' rfl;subst hb;subst hy;clear hbb hx;obtain⟨s,hs0⟩:∃s,zcz L (xr,xc,f')=s:=⟨_,rfl⟩;have HSN:=hid ((zlE L (xr,xc,f')).trans hs0)
       cases s
       ·have HO3:=hid (show zac ⟨true,field,sym⟩ m n (Ls.length+1) (z-(L.length+1)) (L++[(xr,xc,f')]) r=o by rw[←HO2.out];show _=(if zcz L (xr,xc,f')=true then _ else _);rw[hs0];rfl);clear HO2 hs0;revert H;refine Wb0 ?_;intro g1 _ hg w1 H _ _ _ _;(refine xA H (zp _ _ _) ?_;clear H;intro w1 H);revert H;refine Wb3 ?_;intro _ g1 _ hg hf p1 c1 w1 S' H
        go_roundw
        case rel=>exact⟨L.length+1,i',L++[(xr,xc,f')],_,S',rfl,by omega,rfl,by rw[List.length_append];rfl,by omega,by rw[←HRest.out];exact HO3,hid (fun y hy=>by rcases List.mem_append.1 hy with k|k;exact HB.out y k;rw[List.mem_singleton]at k;subst k;exact hf64),by rw[List.map_append,List.length_append,List.flatMap_append];exact H.sub yd⟩
        case measure=>(simp[intOf];try omega)
       ·have HO:Hid (o= .error (i',102)):=hid (by rw[←HO2.out];show(if zcz L (xr,xc,f')=true then _ else _)=_;rw[hs0];rfl);clear HO2 hs0;revert H;refine Wb0 ?_;intro g1 _ hg w1 H _ _ _ _;(refine x_c H (zo _ _ _ _ (H.ob 7).cell) ?_;clear H;rintro e w1 ⟨rfl,hF⟩ H;clear hF;refine⟨rfl,?_⟩);exact⟨H.fr,by rw[HO.out];rfl⟩
    ·have HO:Hid (o= .error (i',102)):=hid (by rw[←HO2.out,zt6 hl1];rfl);have hl1':¬(ws.length:Int)=1:=by omega
     clear HO2 hl1;revert H;refine W53 ?_;intro H _ _ _ _;(refine xA H (zp _ _ _) ?_;clear H;intro w1 H);revert H;refine W53 ?_;intro _ _ _ hf g1 _ hg w1 H _ _ _ _;(refine x_c H (zo _ _ _ _ (H.ob 7).cell) ?_;clear H;rintro e w1 ⟨rfl,hF⟩ H;clear hF;refine⟨rfl,?_⟩);exact⟨H.fr,by rw[HO.out];rfl⟩
  ·have HO2:Hid (o= .ok (L,sig k (Ls.drop k))):=hid (by rw[←HO.out,show z-L.length=0 by omega];rfl);clear HO ho;revert H;refine W53 ?_;intro H _ _ _;(refine bodyPost_ret (results_tmp rfl _ _ _) rfl ?_);refine⟨H.fr,?_⟩;rw[HO2.out];exact⟨_,k,rfl,RowAt.owns (H.rowo 0) (fun x hx=>(H.home 0 x hx).resolve_left (fun h=>zh3 (k:=0) (k':=7) (S:=S) (S':=[g,b]) (Q:=RowAt 75 3 (.slice p5 L.length c5) L.length (L.flatMap eC) S) (Q':=RdrAt g b c Ls k) (H.sub yd) x hx h)),H.ob 7,rfl,hk,HB.out⟩
end
end Go.Proofs.YtaijhllckmndhaaGreatDoor
