import Derived.Test.YtaijhllckmndhaaGreatDoorYJ0
import Derived.Test.YtaijhllckmndhaaGreatDoorYJ47
import Derived.Test.YtaijhllckmndhaaGreatDoorYJ44
namespace Go.Proofs.YtaijhllckmndhaaGreatDoor
set_option linter.all false
set_option maxHeartbeats 64000000
set_option maxRecDepth 100000
section
variable {w w':World} {p p1 p2 p3:Option Addr} {cs z:List Value} {e t:TypeId} {n c j u by' i rows cols N c2 c3 c1 q v:Nat} {S:List En} {P:Program} {a:Act} {o:Oper} {x y y2:Operand} {k k2:IntKind} {vl:List Nat}
open Go.RowKit
attribute [local irreducible] wpList Code.wp Plan.wp zat zal pre zN
def CelR(w:World)(p:Option Addr)(cs:List Value):Prop:=(p=none∨∃g,p=some ⟨g,0,none⟩)∧∀j u,cs[j]? =some u→∃g,p=some ⟨g,0,none⟩∧w.cell? ⟨g,j,none⟩=some u
def CelR.of{sz:Nat}{S:List Nat}(h:RowAt e sz (.slice p n c) n cs S w):CelR w p cs:=by
 refine⟨?_,?_⟩
 ·obtain⟨_,⟨_,_,h1⟩|⟨g,_,_,_,h1,_⟩⟩:=h
  ·cases h1;exact .inl rfl
  ·cases h1;exact .inr ⟨g,rfl⟩
 intro j u hj
 have hn:0<n:=by
  rcases Nat.eq_zero_or_pos n with h0|h0
  ·exfalso
   have:=h.1
   rw[h0,Nat.zero_mul]at this;rw[List.eq_nil_of_length_eq_zero this]at hj
   simp at hj
  ·exact h0
 obtain⟨g,c',he,_⟩:=h.some hn
 cases he
 exact⟨g,rfl,h.cell hj⟩
def CelR.fr(h:CelR w p cs)(k:Fr [] w w'):CelR w' p cs:=by
 refine⟨h.1,?_⟩;intro j u hj;obtain⟨g,hg,hc⟩:=h.2 j u hj;exact⟨g,hg,k.cell hc yg⟩
def CelR.at{g:Nat}(h:CelR w (some ⟨g,0,none⟩) cs){u:Value}(hj:cs[j]? =some u):w.cell? ⟨g,j,none⟩=some u:=by
 obtain⟨g',hg,hc⟩:=h.2 j u hj
 cases hg
 exact hc
def CelR.some(h:CelR w p cs)(hn:0<cs.length):∃g,p=some ⟨g,0,none⟩:=by
 obtain⟨g,hg,_⟩:=h.2 0 _ (List.getElem?_eq_getElem hn);exact⟨g,hg⟩
def zkP(ho:o.op= .slice t x (some y) (some y2) none)(hx:a.eval x= .slice none n c)(hy:a.eval y= .int k 0)(hy2:a.eval y2= .int k2 0){s:Nat}[h:Si P t e z s by']:(execOp a.eval o).run P w= .ok (.value (.slice none 0 c)) w:=by
 obtain⟨hu,ti,zv,h2,h3,h4,rfl,rfl⟩:=zaW h.h;unfold execOp
 have key:(Instr.sliceBounds true n c (some (a.eval y)) (some (a.eval y2)) none).run P w= .ok (0,0,c) w:=by
  simp[Instr.sliceBounds,hy,hy2,zaV (k:=k) (i:=0) (y:=0) (Int.le_refl 0) (Int.le_refl 0),zaV (k:=k2) (i:=0) (y:=c) (Int.le_refl 0) yb]
 simp only[ho,hx,Instr.sliceAt,Instr.slice,Sem.run_bind,run_underlying hu,Result.andThen_ok,Option.map_none,key,sizeOf,typeInfo,run_program,h2,Sem.run_pure,Option.map_some,zaL]
 split<;>rfl
def ztu(p:Option Addr)(c i m:Nat):Value:=match p with
 | none=> .slice none 0 c
 | some ad=> .slice (some (if c=i then⟨ad.block,0,none⟩else⟨ad.block,i,none⟩)) m (c-i)
def zs6(ho:o.op= .slice t x (some y) (some y2) none)(hx:a.eval x= .slice p n c)(hy:a.eval y= .int k (i:Int))(hy2:a.eval y2= .int k2 (j:Int))[h:Si P t e z 1 by']{V:Value}(m:Nat)(hV:Hid (ztu p c i m=V))(hp:p=none∨∃g,p=some ⟨g,0,none⟩)(hij:i+m=j)(h2:j≤c)(h0:p=none→j=0):(execOp a.eval o).run P w= .ok (.value V) w:=by
 rw[←hV.out]
 rcases hp with rfl|⟨g,rfl⟩
 ·have hj:=h0 rfl;subst hj;obtain rfl:i=0:=by omega
  exact zkP ho hx hy hy2
 ·have:=zfz (P:=P) (w:=w) ho hx hy hy2 yb yb yb
  rw[this];have e1:((j:Int).toNat-(i:Int).toNat)=m:=by omega
  have e2:0+(i:Int).toNat*1=i:=by omega
  rw[e1,e2]
  rfl
def zpA{A C:Nat}(h:CelR w p cs)(hl:A+C≤cs.length)(hc:cs.length≤c):∃q cc,ztu p c A C= .slice q C cc∧(0<C→∃g,p=some ⟨g,0,none⟩∧q=some ⟨g,A,none⟩)∧(p=none→A+C=0):=by
 rcases h.1 with rfl|⟨g,rfl⟩
 ·have h0:cs.length=0:=by
   rcases Nat.eq_zero_or_pos cs.length with e|e
   ·exact e
   ·obtain⟨g,hg⟩:=h.some e
    cases hg
  obtain rfl:C=0:=by omega
  exact⟨none,c,rfl,fun h=>absurd h yb,fun _=>by omega⟩
 ·refine⟨_,_,rfl,fun h0=>⟨g,rfl,?_⟩,fun h=>by cases h⟩;rw[if_neg yb]
def zjw(w:World)(xs:List Nat)(hn:xs.length=n)(h1:1≤n)(hn2:n≤100000)(hs:xs.Pairwise (· ≤·))(hR:CelR w p (xs.map iV)):
 Calls Tryz.prog 132 #[.slice p n c] w fun e w'=>e= .returned (.bool true)∧Fr [] w w':=by
 obtain⟨g,rfl⟩:=hR.some (by rw[List.length_map];omega);have HR:=hid hR;have HS:=hid hs;have HN:=hid hn;clear hR hs hn;have H:=Hp.start [] w
 go_enter Tryz.func132,Tryz.ntmps132
 revert H;refine W74 ?_;intro H _ _ _
 go_loopw [3] (fun s3 wr=>∃z:Int,s3= .int .i64 z∧0≤z∧z<n∧Hp [] w wr []) (fun v _=>(intOf v).toNat)
 case atStart=>exact⟨(n:Int)-1,rfl,by omega,by omega,H⟩
 case round=>
  clear H;obtain⟨z,rfl,hz0,hzn,H⟩:=hrel
  by_cases hlt:0<z
  ·obtain⟨i,hi⟩:∃i:Nat,z=((i+1:Nat):Int):=⟨(z-1).toNat,by omega⟩;have HZ:=hid hi;have HZ1:=hid (show z-1=(i:Int) by omega);have hin:i+1<n:=by omega
   clear hi;obtain⟨x,hx⟩:∃x,xs[i]? =some x:=⟨_,List.getElem?_eq_getElem yV⟩;obtain⟨y,hy⟩:∃x,xs[i+1]? =some x:=⟨_,List.getElem?_eq_getElem yV⟩
   have hxy:x≤y:=by
    have e1:=List.getElem?_eq_some_iff.1 hx;have e2:=List.getElem?_eq_some_iff.1 hy
    have:=List.pairwise_iff_getElem.1 HS.out i (i+1) e1.1 e2.1 yb
    rw[e1.2,e2.2]at this;exact this
   have HX:=hid (HR.out.at (show(xs.map iV)[i]? =some (.int .i64 (x:Int)) by rw[List.getElem?_map,hx];rfl));have HY:=hid (HR.out.at (show(xs.map iV)[i+1]? =some (.int .i64 (y:Int)) by rw[List.getElem?_map,hy];rfl));have HB:=hid (show decide ((y:Int)<(x:Int))=false by simp;omega);clear hx hy;revert H;refine W74 ?_;intro H _ _ _ _ _
   (revert H;refine w_p 9 (.st 0 (.st 1 (.st 2 (.st 3 (.st 4 (.st 5 (.st 6 (.st 7 (.st 8 (.ld 9 .done)))))))))) ?_;intro w1 H)
   iterate 2 refine p_q ?_
   (refine p_e rfl (fun w H=>zY (i+1) (i+1) rfl rfl rfl HZ) ?_);(refine p_e rfl (fun w H=>zaz rfl rfl (H.fr.cell HY.out yg)) ?_)
   iterate 3 refine p_q ?_
   (refine p_e rfl (fun w H=>zY i i rfl rfl rfl HZ1) ?_);(refine p_e rfl (fun w H=>zaz rfl rfl (H.fr.cell HX.out yg)) ?_)
   ((refine p_c H rfl rfl Tryz.func136 (zkB _ y x HB) ?_;clear H;rintro e w1 ⟨rfl,hF⟩ H;refine p_r ?_;clear hF))
   (refine zf ?_);revert H;refine W74 ?_;intro H
   go_roundw
   case rel=>exact⟨z-1,rfl,by omega,by omega,H⟩
   case measure=>(simp[intOf];try omega)
  ·simp only[Int.not_lt,Int.not_le]at*;revert H;refine W74 ?_;intro H _ _ _
   go_ret
   exact⟨rfl,H.fr⟩
def zlc(w:World)(rows cols N:Nat)(hr2:rows≤200)(hc2:cols≤200){p1 p2 p3:Option Addr}{c1 c2 c3:Nat}(S:List En)(hN:S.length=N)(hN2:N≤10000)(hNc:N≤c2)(hs:S.Pairwise ltE)(hb:∀x∈S,x.1<rows∧x.2.1<cols)(hR1:CelR w p1 (((List.range (cols+1)).map (pre S)).map iV))(hR2:CelR w p2 ((S.map (·.1)).map iV)):
 Calls Tryz.prog 86 #[.agg #[iV rows,iV cols, .slice p1 (cols+1) c1, .slice p2 N c2, .slice p3 N c3]] w fun e w'=>e= .returned (.bool true)∧Fr [] w w':=by
 obtain⟨ga,rfl⟩:=hR1.some yg;have HR1:=hid hR1;have HR2:=hid hR2;have HS:=hid hs;have HN:=hid hN;have HB:=hid hb
 have HM:=hid (show((List.range (cols+1)).map (pre S)).Pairwise (· ≤·) by
  rw[List.pairwise_map]
  exact List.pairwise_lt_range.imp fun h=>zeW S (Nat.le_of_lt h))
 have H0:=hid (HR1.out.at (show _=some (.int .i64 0) by rw[zbJ (Nat.zero_le _),zgl];rfl));have HL:=hid (HR1.out.at (show _=some (.int .i64 (N:Int)) by rw[zbJ (Nat.le_refl _),zlx (fun x hx=>(hb x hx).2),hN]));have HC1:=hid (show(cols:Int)+1=((cols+1:Nat):Int) by omega);clear hR1 hR2 hs hN hb;have H:=Hp.start [] w;unfold iV
 go_enter Tryz.func86,Tryz.ntmps86
 revert H;refine W74 ?_;intro _ g0 w1 hg H hf _ _ _ _
 (revert H;refine w_p 41 (.st 0 (.st 1 (.st 2 (.st 3 (.st 4 (.st 5 (.st 6 (.st 7 (.st 8 (.st 9 (.st 10 (.st 11 (.st 12 (.st 13 (.st 14 (.st 15 (.st 16 (.ld 17 (.st 18 (.st 19 (.st 20 (.st 21 (.st 22 (.st 23 (.st 24 (.st 25 (.st 26 (.st 27 (.st 28 (.st 29 (.st 30 (.st 31 (.st 32 (.st 33 (.st 34 (.st 35 (.st 36 (.st 37 (.st 38 (.st 39 (.st 40 .done))))))))))))))))))))))))))))))))))))))))) ?_;intro w1 H)
 iterate 6 refine p_q ?_
 (refine p_e rfl (fun w H=>zbM rfl rfl rfl rfl yZ) ?_);refine p_q ?_
 iterate 3 (first|refine p_q ?_|refine p_n ?_)
 (first|refine p_e rfl (fun w H=>zaz rfl rfl (H.fr.cell H0.out yg)) ?_|refine p_n ?_)
 (first|refine p_q ?_|refine p_n ?_)
 iterate 2 refine p_q ?_
 iterate 2 (first|refine p_q ?_|refine p_n ?_)
 ((first|(refine p_c H rfl rfl Tryz.func132 (zjw _ ((List.range (cols+1)).map (pre S)) yg yb yb HM.out (HR1.out.fr H.fr)) ?_;clear H;rintro e w1 ⟨rfl,hF⟩ H;refine p_r ?_;clear hF)|refine p_n ?_))
 (first|refine p_q ?_|refine p_n ?_)
 iterate 2 refine p_q ?_
 iterate 4 (first|refine p_q ?_|refine p_n ?_)
 (first|refine p_e rfl (fun w H=>zY cols cols rfl rfl rfl (hid rfl)) ?_|refine p_n ?_)
 (first|refine p_e rfl (fun w H=>zaz rfl rfl (H.fr.cell HL.out yg)) ?_|refine p_n ?_)
 iterate 4 (first|refine p_q ?_|refine p_n ?_)
 iterate 2 refine p_q ?_
 iterate 7 (first|refine p_q ?_|refine p_n ?_)
 refine p_q ?_;(refine zf ?_);revert H;refine W74 ?_;intro H _ _
 go_loopw [50] (fun s50 wr=>∃j:Nat,s50= .int .i64 (j:Int)∧j≤cols∧Hp [] w wr [.blk g0 [.int .i64 (rows:Int), .int .i64 (cols:Int), .slice (some ⟨ga,0,none⟩) (cols+1) c1, .slice p2 N c2, .slice p3 N c3] 28]) (fun v _=>cols-(intOf v).toNat)
 case atStart=>exact⟨0,rfl,Nat.zero_le _,H.arr ye⟩
 case round=>
  clear H;obtain⟨j,rfl,hj,H⟩:=hrel
  by_cases hlt:j<cols
  ·have hpn:=zbS S j;have hple:=zd6 S (j+1);rw[HN.out]at hple;obtain⟨A,hA⟩:∃A,pre S j=A:=⟨_,rfl⟩;obtain⟨C,hC⟩:∃C,zN S j=C:=⟨_,rfl⟩;obtain⟨Bn,hBn⟩:∃Bn,pre S (j+1)=Bn:=⟨_,rfl⟩;have hs1:=hid (HR1.out.at (show _=some (.int .i64 (A:Int)) by rw[←hA];exact zbJ yb));have hs2:=hid (HR1.out.at (show _=some (.int .i64 (Bn:Int)) by rw[←hBn];exact zbJ yb));have hrows:=zcX HS.out j;rw[hA,hC]at hrows hpn;rw[hBn]at hpn hple;have HROW:=hid hrows;have HPN:=hid hpn;have hC10:C≤10000:=by omega
   obtain⟨q2,cc2,hV,hq2,hq0⟩:=zpA (A:=A) (C:=C) HR2.out yD (c:=c2) (by rw[List.length_map,List.length_map,HN.out];exact hNc);have HV:=hid hV;have HQ2:=hid hq2;have HQ0:=hid hq0;have HP2:=hid HR2.out.1;clear hV hq2 hq0;have HJ1:=hid (show(j:Int)+1=((j+1:Nat):Int) by omega);have hlen:(((S.drop A).take C).map (·.1)).length=C:=by rw[List.length_map,List.length_take,List.length_drop,HN.out];omega
   have HLEN:=hid hlen
   have HCE:=hid (fun(k x:Nat) (hk:(((S.drop A).take C).map (·.1))[k]? =some x)=>show ∃g,q2=some ⟨g,A,none⟩∧w.cell? ⟨g,A+k,none⟩=some (.int .i64 (x:Int))∧x<rows from by
    have hkl:=(List.getElem?_eq_some_iff.1 hk).1;rw[hlen]at hkl;rw[List.getElem?_map,List.getElem?_take_of_lt yb,List.getElem?_drop]at hk;obtain⟨y,hy,rfl⟩:=Option.map_eq_some_iff.1 hk;obtain⟨g,hg,hgq⟩:=HQ2.out yb;have hr:=HR2.out;rw[hg]at hr
    exact⟨g,hgq,hr.at (by rw[List.getElem?_map,List.getElem?_map,hy];rfl),(HB.out y (List.mem_of_getElem? hy)).1⟩)
   clear hrows hpn hA hC hBn hlen;revert H;refine W74 ?_;intro H _ _ _ _ _
   (revert H;refine w_p 16 (.st 0 (.st 1 (.st 2 (.st 3 (.st 4 (.st 5 (.st 6 (.st 7 (.st 8 (.st 9 (.st 10 (.st 11 (.st 12 (.st 13 (.st 14 (.st 15 .done)))))))))))))))) ?_;intro w1 H)
   iterate 5 refine p_q ?_
   (refine p_e rfl (fun w H=>zY j j rfl rfl rfl (hid rfl)) ?_);(refine p_e rfl (fun w H=>zaz rfl rfl (H.fr.cell hs1.out yg)) ?_)
   iterate 4 refine p_q ?_
   (refine p_e rfl (fun w H=>zY (j+1) (j+1) rfl rfl rfl HJ1) ?_);(refine p_e rfl (fun w H=>zaz rfl rfl (H.fr.cell hs2.out yg)) ?_);(refine p_e rfl (fun w H=>zs6 rfl rfl rfl rfl C HV HP2.out yL yb (fun e=>by have:=HQ0.out e;have:=HPN.out;omega)) ?_)
   iterate 2 refine p_q ?_
   (refine zf ?_);revert H;refine W74 ?_;intro H
   go_loopw [4,68] (fun s4 s68 wr=>∃(k:Nat) (z:Int),s4= .int .i64 z∧s68= .int .i64 (k:Int)∧k≤C∧Hid (∀x,(((S.drop A).take C).map (·.1))[k]? =some x→z<(x:Int))∧Hp [] w wr [.blk g0 [.int .i64 (rows:Int), .int .i64 (cols:Int), .slice (some ⟨ga,0,none⟩) (cols+1) c1, .slice p2 N c2, .slice p3 N c3] 28]) (fun _ v _=>C-(intOf v).toNat)
   case atStart=>exact⟨0, -1,rfl,rfl,Nat.zero_le _,hid (fun x _=>by omega),H.arr ye⟩
   case round=>
    clear H;obtain⟨k,z,rfl,rfl,hk,HZ,H⟩:=hrel
    by_cases hlt2:k<C
    ·obtain⟨x,hx⟩:∃x,(((S.drop A).take C).map (·.1))[k]? =some x:=⟨_,List.getElem?_eq_getElem (by rw[HLEN.out];exact hlt2)⟩;have hzx:=HZ.out x hx;obtain⟨g2',rfl,hcx,hxr⟩:=HCE.out k x hx;have HCX:=hid hcx
     have HZ2:=hid (fun(y:Nat) (hy:(((S.drop A).take C).map (·.1))[k+1]? =some y)=>show(x:Int)<(y:Int)from by
      have e1:=List.getElem?_eq_some_iff.1 hx;have e2:=List.getElem?_eq_some_iff.1 hy
      have:=List.pairwise_iff_getElem.1 HROW.out k (k+1) e1.1 e2.1 yb
      rw[e1.2,e2.2]at this
      omega)
     clear hx hcx HZ;revert H;refine W75 ?_;intro H
     go_roundw
     case rel=>exact⟨k+1,(x:Int),rfl,rfl,by omega,HZ2,H.arr ye⟩
     case measure=>(simp[intOf];try omega)
    ·revert H;refine W74 ?_;intro H _ _ _
     go_roundw
     case rel=>exact⟨j+1,rfl,by omega,H.arr ye⟩
     case measure=>(simp[intOf];try omega)
  ·revert H;refine W74 ?_;intro H _ _ _
   go_ret
   exact⟨rfl,H.fr⟩
def zjW(w:World){b:Nat}(hb:b<18446744073709551616)(hf:zS b=true):Calls Tryz.prog 88 #[.int .u64 (b:Int)] w fun e w'=>e= .returned (.bool false)∧Fr [] w w':=by
 have H:=Hp.start [] w;have HF:=hid hf;clear hf
 go_enter Tryz.func88,Tryz.ntmps88
 revert H;refine W74 ?_;intro H _ _ _ _ _;(refine xA H (zbX _ hb HF) ?_;clear H;intro w1 H);simp only[Int.not_lt,Int.not_le]at*;revert H;refine W74 ?_;intro H
 go_ret
 exact⟨rfl,H.fr⟩
def zmu(w:World)(vl:List Nat)(hn:vl.length=n)(hn2:n≤100000)(hv:∀x∈vl,x<18446744073709551616∧zS x=true)(hR:CelR w p (vl.map uV)):
 Calls Tryz.prog 133 #[.slice p n c, .func (.func 88) #[] #[]] w fun e w'=>e= .returned (.int .i64 (-1:Int))∧Fr [] w w':=by
 have HR:=hid hR;have HV:=hid hv;have HN:=hid hn;clear hR hv hn;have H:=Hp.start [] w
 go_enter Tryz.func133,Tryz.ntmps133
 revert H;refine W74 ?_;intro H _ _ _
 go_loopw [8] (fun s8 wr=>∃k:Nat,s8= .int .i64 (k:Int)∧k≤n∧Hp [] w wr []) (fun v _=>n-(intOf v).toNat)
 case atStart=>exact⟨0,rfl,Nat.zero_le _,H⟩
 case round=>
  clear H;obtain⟨k,rfl,hk,H⟩:=hrel
  by_cases hlt:k<n
  ·obtain⟨x,hx⟩:∃x,vl[k]? =some x:=⟨_,List.getElem?_eq_getElem yT⟩;have hxv:=HV.out x (List.mem_of_getElem? hx);have hx64:=hxv.1;have HXF:=hid hxv.2;obtain⟨g,hg⟩:=HR.out.some (by rw[List.length_map,HN.out];omega);subst hg;have HX:=hid (HR.out.at (show(vl.map uV)[k]? =some (.int .u64 (x:Int)) by rw[List.getElem?_map,hx];rfl));clear hx hxv;revert H;refine W76 ?_;intro H _ _ _ _ _ _ _;(refine xA H (zjW _ hx64 HXF.out) ?_;clear H;intro w1 H);simp only[Int.not_lt,Int.not_le]at*;revert H;refine W74 ?_;intro H
   go_roundw
   case rel=>exact⟨k+1,rfl,by omega,H⟩
   case measure=>(simp[intOf];try omega)
  ·revert H;refine W74 ?_;intro H _ _ _
   go_ret
   exact⟨rfl,H.fr⟩
def ziN(w:World)(vl:List Nat)(hn:vl.length=n)(hn2:n≤100000)(hv:∀x∈vl,x<18446744073709551616∧zS x=true)(hR:CelR w p (vl.map uV)):
 Calls Tryz.prog 87 #[.slice p n c, .func (.func 88) #[] #[]] w fun e w'=>e= .returned (.bool false)∧Fr [] w w':=by
 have HR:=hid hR;have HV:=hid hv;have HN:=hid hn;clear hR hv hn;have H:=Hp.start [] w
 go_enter Tryz.func87,Tryz.ntmps87
 revert H;refine W74 ?_;intro H _ _ _ _ _;(refine xA H (zmu _ vl HN.out hn2 HV.out (HR.out.fr H.fr)) ?_;clear H;intro w1 H);simp only[Int.not_lt,Int.not_le]at*;revert H;refine W74 ?_;intro H
 go_ret
 exact⟨rfl,H.fr⟩
structure MatIn (rows cols N:Nat) (S:List En) (vl:List Nat) (p1 p2 p3:Option Addr) (c2 c3:Nat) (w:World):Prop where
 hr2:rows≤200
 hc2:cols≤200
 hN:S.length=N
 hN2:N≤10000
 hNc:N≤c2
 hNc3:N≤c3
 hs:S.Pairwise ltE
 hb:∀x∈S,x.1<rows∧x.2.1<cols
 hR1:CelR w p1 (((List.range (cols+1)).map (pre S)).map iV)
 hR2:CelR w p2 ((S.map (·.1)).map iV)
 hR3:CelR w p3 (vl.map uV)
 hvl:vl.length=N
 hv:∀x∈vl,x<18446744073709551616∧zS x=true
def MatIn.fr(h:MatIn rows cols N S vl p1 p2 p3 c2 c3 w)(k:Fr [] w w'):MatIn rows cols N S vl p1 p2 p3 c2 c3 w':=
 ⟨h.hr2,h.hc2,h.hN,h.hN2,h.hNc,h.hNc3,h.hs,h.hb,h.hR1.fr k,h.hR2.fr k,h.hR3.fr k,h.hvl,h.hv⟩
def zdM(w:World)(h:MatIn rows cols N S vl p1 p2 p3 c2 c3 w):
 Calls Tryz.prog 41 #[.agg #[iV rows,iV cols, .slice p1 (cols+1) c1, .slice p2 N c2, .slice p3 N c3]] w fun e w'=>e= .returned (.int .i64 0)∧Fr [] w w':=by
 have HM:=hid h;have hr2:=h.hr2;have hc2:=h.hc2;have hN2:=h.hN2;have hb1:=hid (show decide ((0:Int)≤(rows:Int)∧(rows:Int)≤200)=true by simp;omega);have hb2:=hid (show decide ((0:Int)≤(cols:Int)∧(cols:Int)≤200)=true by simp;omega);clear h;have H:=Hp.start [] w;unfold iV
 go_enter Tryz.func41,Tryz.ntmps41
 revert H;refine W74 ?_;intro _ g0 w1 hg H hf _ _ _ _ _ _;(refine xA H (zbl _ rows 0 200 hb1) ?_;clear H;intro w1 H);simp only[Int.not_lt,Int.not_le]at*;revert H;refine W74 ?_;intro H _ _;(refine xA H (zbl _ cols 0 200 hb2) ?_;clear H;intro w1 H);simp only[Int.not_lt,Int.not_le]at*;revert H;refine W74 ?_;intro H _ _ _ _;have hm:=HM.out.fr H.fr;(refine xA H (zlc _ rows cols N hr2 hc2 S hm.hN hN2 hm.hNc hm.hs hm.hb hm.hR1 hm.hR2) ?_;clear H;intro w1 H);clear hm;simp only[Int.not_lt,Int.not_le]at*;revert H;refine W74 ?_;intro H _ _ _ _;have hm:=HM.out.fr H.fr;(refine xA H (ziN _ vl hm.hvl yb hm.hv hm.hR3) ?_;clear H;intro w1 H);clear hm;simp only[Int.not_lt,Int.not_le]at*;revert H;refine W74 ?_;intro H
 go_ret
 exact⟨rfl,H.fr⟩
def zuv(w:World)(h:MatIn rows cols N S vl p1 p2 p3 c2 c3 w)(hq:S[q]? =some (i,j,u))(hvq:vl[q]? =some v):
 Calls Tryz.prog 64 #[.agg #[iV rows,iV cols, .slice p1 (cols+1) c1, .slice p2 N c2, .slice p3 N c3], .int .i64 (i:Int), .int .i64 (j:Int)] w fun e w'=>e= .returned (.tuple #[.int .u64 (v:Int), .bool true])∧Fr [] w w':=by
 have hN2:=h.hN2;have hqN:q<N:=by rw[←h.hN];exact(List.getElem?_eq_some_iff.1 hq).1
 have hjc:j<cols:=(h.hb _ (List.mem_of_getElem? hq)).2;have hNc:=h.hNc;have hc2:=h.hc2;obtain⟨ga,rfl⟩:=h.hR1.some yg;obtain⟨g2',rfl⟩:=h.hR2.some (by rw[List.length_map,List.length_map,h.hN];omega);obtain⟨g3',rfl⟩:=h.hR3.some (by rw[List.length_map,h.hvl];omega);obtain⟨kx,hqk,hkc,hkx⟩:=zeO h.hs hq;simp only at hqk hkc hkx;have hpn:=zbS S j;have hple:=zd6 S (j+1);rw[h.hN]at hple;obtain⟨A,hA⟩:∃A,pre S j=A:=⟨_,rfl⟩;obtain⟨C,hC⟩:∃C,zN S j=C:=⟨_,rfl⟩;obtain⟨Bn,hBn⟩:∃Bn,pre S (j+1)=Bn:=⟨_,rfl⟩;have hs1:=hid (h.hR1.at (show _=some (.int .i64 (A:Int)) by rw[←hA];exact zbJ yb));have hs2:=hid (h.hR1.at (show _=some (.int .i64 (Bn:Int)) by rw[←hBn];exact zbJ yb));have hvc:=hid (h.hR3.at (show(vl.map uV)[q]? =some (.int .u64 (v:Int)) by rw[List.getElem?_map,hvq];rfl));have hrows:=zcX h.hs j;rw[hA,hC]at hrows hkx hpn;rw[hBn]at hpn hple;rw[hA]at hqk;rw[hC]at hkc;have HROW:=hid hrows
 have HKX:=hid (show(((S.drop A).take C).map (·.1))[kx]? =some i by rw[List.getElem?_map,hkx];rfl);have HPN:=hid hpn;have hC10:C≤10000:=by omega
 have hA10:A≤10000:=by omega
 have HJ1:=hid (show(j:Int)+1=((j+1:Nat):Int) by omega);have HQ1:=hid (show(A:Int)+(kx:Int)=(q:Int) by rw[hqk];omega);have hlen:(((S.drop A).take C).map (·.1)).length=C:=by rw[List.length_map,List.length_take,List.length_drop,h.hN];omega
 have HLEN:=hid hlen
 have HCE:=hid (fun(k x:Nat) (hk:(((S.drop A).take C).map (·.1))[k]? =some x)=>show w.cell? ⟨g2',A+k,none⟩=some (iV x)from by
  have hkl:=(List.getElem?_eq_some_iff.1 hk).1;rw[hlen]at hkl;rw[List.getElem?_map,List.getElem?_take_of_lt yb,List.getElem?_drop]at hk;obtain⟨y,hy,rfl⟩:=Option.map_eq_some_iff.1 hk
  exact h.hR2.at (by rw[List.getElem?_map,List.getElem?_map,hy];rfl))
 clear hrows hpn hA hC hBn hlen hq hvq h hkx hqk;have H:=Hp.start [] w;unfold iV
 go_enter Tryz.func64,Tryz.ntmps64
 revert H;refine W74 ?_;intro _ g0 w1 hg H hf _ _
 (revert H;refine w_p 21 (.st 0 (.st 1 (.st 2 (.st 3 (.st 4 (.st 5 (.st 6 (.st 7 (.st 8 (.st 9 (.st 10 (.st 11 (.st 12 (.st 13 (.st 14 (.ld 15 (.st 16 (.st 17 (.st 18 (.st 19 (.st 20 .done))))))))))))))))))))) ?_;intro w1 H)
 iterate 5 refine p_q ?_
 (refine p_e rfl (fun w H=>zY j j rfl rfl rfl (hid rfl)) ?_);(refine p_e rfl (fun w H=>zaz rfl rfl (H.fr.cell hs1.out yg)) ?_)
 iterate 4 refine p_q ?_
 (refine p_e rfl (fun w H=>zY (j+1) (j+1) rfl rfl rfl HJ1) ?_);(refine p_e rfl (fun w H=>zaz rfl rfl (H.fr.cell hs2.out yg)) ?_);(refine p_e rfl (fun w H=>zgT rfl rfl rfl rfl C yL yb yL) ?_);refine p_q ?_
 ((refine p_c H rfl rfl Tryz.func91 (zcY _ (((S.drop A).take C).map (·.1)) HLEN.out yb HROW.out (fun k x hk=>H.fr.cell (HCE.out k x hk) yg) HKX.out) ?_;clear H;rintro e w1 ⟨rfl,hF⟩ H;refine p_r ?_;clear hF))
 iterate 5 refine p_q ?_
 (refine zf ?_);revert H;refine W74 ?_;intro H _ _
 (revert H;refine w_p 13 (.st 0 (.st 1 (.st 2 (.st 3 (.st 4 (.st 5 (.st 6 (.st 7 (.st 8 (.st 9 (.st 10 (.st 11 (.st 12 .done))))))))))))) ?_;intro w1 H)
 iterate 5 refine p_q ?_
 (refine p_e rfl (fun w H=>zY j j rfl rfl rfl (hid rfl)) ?_);(refine p_e rfl (fun w H=>zaz rfl rfl (H.fr.cell hs1.out yg)) ?_)
 iterate 2 refine p_q ?_
 (refine p_e rfl (fun w H=>zY q q rfl rfl rfl HQ1) ?_);(refine p_e rfl (fun w H=>zaz rfl rfl (H.fr.cell hvc.out yg)) ?_)
 iterate 2 refine p_q ?_
 (refine zf ?_);revert H;refine W74 ?_;intro H
 go_ret2
 exact⟨rfl,H.fr⟩
def zsa(w:World)(h:MatIn rows cols N S vl p1 p2 p3 c2 c3 w)(hq:S[q]? =some (i,j,u))(hvq:vl[q]? =some v):
 Calls Tryz.prog 23 #[.agg #[iV rows,iV cols, .slice p1 (cols+1) c1, .slice p2 N c2, .slice p3 N c3], .int .i64 (i:Int), .int .i64 (j:Int)] w fun e w'=>e= .returned (.int .u64 (v:Int))∧Fr [] w w':=by
 have HM:=hid h;have HQ:=hid hq;have HV:=hid hvq;have hr2:=h.hr2;have hc2:=h.hc2;have hbx:=h.hb _ (List.mem_of_getElem? hq);simp only at hbx;have hB1:=hid (show decide ((0:Int)≤(i:Int)∧(i:Int)≤(rows:Int)-1)=true by simp;omega);have hB2:=hid (show decide ((0:Int)≤(j:Int)∧(j:Int)≤(cols:Int)-1)=true by simp;omega);clear h hq hvq hbx;have H:=Hp.start [] w;unfold iV
 go_enter Tryz.func23,Tryz.ntmps23
 revert H;refine W74 ?_;intro _ g0 w1 hg H hf _ _ _ _ _ _;(refine xA H (zdM _ (HM.out.fr H.fr)) ?_;clear H;intro w1 H);simp only[Int.not_lt,Int.not_le]at*;revert H;refine W74 ?_;intro H _ _;(refine xA H (zbl _ i 0 ((rows:Int)-1) hB1) ?_;clear H;intro w1 H);simp only[Int.not_lt,Int.not_le]at*;revert H;refine W74 ?_;intro H _ _;(refine xA H (zbl _ j 0 ((cols:Int)-1) hB2) ?_;clear H;intro w1 H);simp only[Int.not_lt,Int.not_le]at*;revert H;refine W74 ?_;intro H _ _ _ _;(refine xA H (zuv _ (HM.out.fr H.fr) HQ.out HV.out) ?_;clear H;intro w1 H);simp only[Int.not_lt,Int.not_le]at*;revert H;refine W74 ?_;intro H
 go_ret
 exact⟨rfl,H.fr⟩
end
section
open Go.RowKit
attribute [local irreducible] wpList Code.wp Plan.wp zat zal pre zN
def zvk(T:List Nat)(rows cols:Nat)(st ix vl:List Nat)(w:World)(e:Ending)(w':World):Prop:=
 ∃v1 v2 v3 B,e= .returned (.agg #[iV rows,iV cols,v1,v2,v3])∧Fr T w w'∧zfh st ix vl v1 v2 v3 B w'∧∀x∈B,w.heap.size≤x
def zdN(S:List En)(cols:Nat):List Nat×List Nat×List Nat:=((List.range (cols+1)).map (pre S),S.map (·.1),S.map (·.2.2))
def Hp.matB{T:List Nat}{w0 w w':World}{l:List Ent}(H:Hp T w0 w l)(k1 k2 k3:Nat){st ix vl:List Nat}{v1 v2 v3:Value}{B:List Nat}(hF:Fr [] w w')(h:zfh st ix vl v1 v2 v3 B w')(hB:∀x∈B,w.heap.size≤x):
 ∃S1 S2 S3,B=S1++(S2++S3)∧Hp T w0 w' (.obj k1 S1 (RowAt 3 1 v1 st.length (st.map iV) S1):: .obj k2 S2 (RowAt 3 1 v2 ix.length (ix.map iV) S2):: .obj k3 S3 (RowAt 51 1 v3 vl.length (vl.map uV) S3)::l):=by
 obtain⟨S1,S2,S3,rfl,hn,h1,h2,h3⟩:=h;simp only[List.nodup_append,List.mem_append]at hn;have k0:=H.step hF yg;have nw:∀x,w.heap.size≤x→x∉l.flatMap Ent.own:=fun x hx=>H.notOwn hx
 have nb:∀x,w.heap.size≤x→x∈T∨w0.heap.size≤x:=fun x hx=> .inr (Nat.le_trans H.fr.size hx)
 have q3:=k0.pushObj k3 h3 RowAt.firm (fun x hx=>nb x (hB x yI)) (fun x hx=>nw x (hB x yI))
 have q2:=q3.pushObj k2 h2 RowAt.firm (fun x hx=>nb x (hB x yI)) (fun x hx=>by
  rw[List.flatMap_cons,List.mem_append,not_or]
  exact⟨fun h=>hn.2.1.2.2 x hx x h rfl,nw x (hB x yI)⟩)
 have q1:=q2.pushObj k1 h1 RowAt.firm (fun x hx=>nb x (hB x yI)) (fun x hx=>by
  rw[List.flatMap_cons,List.flatMap_cons,List.mem_append,List.mem_append,not_or,not_or]
  exact⟨fun h=>hn.2.2 x hx x (.inl h) rfl,fun h=>hn.2.2 x hx x (.inr h) rfl,nw x (hB x yI)⟩)
 exact⟨S1,S2,S3,rfl,q1⟩
def zff(w:World)(rows cols sym:Nat)(hr2:rows≤200)(hc2:cols≤200)(hs2:sym≤2){v:Value}{S:List Nat}(L:List En)(hv:RowAt 75 3 v L.length (L.flatMap eC) S w)(hE:(zz sym L).length≤10000)(hok:okM rows cols (zz sym L))(hfin:∀x∈L,zS x.2.2=true∧x.2.2<18446744073709551616)(hT:∀w',Fr S w w'→La w'):
 Calls Tryz.prog 31 #[.int .i64 (rows:Int), .int .i64 (cols:Int),v, .int .i64 (sym:Int)] w (zvk S rows cols (zdN (entP (zz sym L) rows cols) cols).1 (zdN (entP (zz sym L) rows cols) cols).2.1 (zdN (entP (zz sym L) rows cols) cols).2.2 w):=by
 have HT:=hid hT;have HOK:=hid hok;have HFI:=hid hfin;have hLl:L.length≤(zz sym L).length:=by unfold zz;rw[List.length_append];omega
 have HE:=hid hE;have hL20:L.length≤10000:=by omega
 have hML:=hid (zo4 sym L);have H:=(Hp.start S w).pushObj 0 (Q:=RowAt 75 3 v L.length (L.flatMap eC) S) (S:=S) hv RowAt.firm (fun x hx=> .inl hx) yg;obtain⟨p0,c0,rfl,hc0,_⟩:=hv.form;clear hT hok hv hE hfin hLl
 go_enter Tryz.func31,Tryz.ntmps31
 revert H;refine W74 ?_;intro g0 w1 hg H hf _ _ _ _ _ _;refine Calls.mono (zg9 _ L (EntR.of (H.rowo 0)).rd yb) ?_;rintro e w1 ⟨vs,rfl,hF,hown⟩;obtain⟨Ss,H1⟩:=H.rowNew 1 hF hown;clear H hF hown;have H:=H1;clear H1;obtain⟨p1,c1,rfl,_⟩:=(H.rowo 1).form;simp only[Int.not_lt,Int.not_le]at*;revert H;refine W74 ?_;intro H
 go_loopw [2,15] (fun s2 s15 wr=>∃(k:Nat) (M:List En) (p:Option Addr) (c:Nat) (S0:List Nat),s2= .slice p M.length c∧s15= .int .i64 (k:Int)∧k≤L.length∧M.length≤L.length+k∧Hid (M=L++(L.take k).flatMap (zde sym))∧Hp S w wr [.obj 0 S0 (RowAt 75 3 (.slice p M.length c) M.length (M.flatMap eC) S0), .obj 1 Ss (RowAt 75 3 (.slice p1 L.length c1) L.length (L.flatMap eC) Ss), .blk g0 [.int .i64 0, .int .i64 0, .slice none 0 0, .slice none 0 0, .slice none 0 0] 28]) (fun _ v _=>L.length-(intOf v).toNat)
 case atStart=>exact⟨0,L,p0,c0,S,rfl,rfl,Nat.zero_le _,by omega,hid yg,H.arr ye⟩
 case round=>
  clear H;obtain⟨k,M,p,c,S0,rfl,rfl,hk,hM,HM,H⟩:=hrel
  by_cases hlt:k<L.length
  ·obtain⟨⟨xr,xc,xv⟩,hx⟩:∃x,L[k]? =some x:=⟨_,List.getElem?_eq_getElem hlt⟩;have hxf:=HFI.out _ (List.mem_of_getElem? hx);simp only at hxf;have hv64:=hxf.2;have HK3:=zjY hxf.1;have hpre:[.int .i64 (xr:Int), .int .i64 (xc:Int), .int .u64 (xv:Int)]<+:(L.flatMap eC).drop (k*3):=zdu hx;have HT1:=hid (zb7 hx);obtain⟨gs,cs,hvs,rfl⟩:=(H.rowo 1).some yb
   cases hvs
   clear hx hxf
   by_cases h0:sym=0∨xr=xc
   ·have HM2:=hid (show M=L++(L.take (k+1)).flatMap (zde sym) by
     rw[HM.out,HT1.out,List.flatMap_append]
     have:zde sym (xr,xc,xv)=[]:=by unfold zde;rw[if_pos h0]
     simp[this])
    by_cases hs0:sym=0
    ·subst hs0;clear h0;revert H;refine W80 ?_;intro _ _ g1 _ hg hf w1 H _ _
     go_roundw
     case rel=>exact⟨k+1,M,p,c,S0,rfl,rfl,by omega,by omega,HM2,H.arr ye⟩
     case measure=>(simp[intOf];try omega)
    ·obtain rfl:xr=xc:=h0.resolve_left hs0;have hs0':¬(sym:Int)=0:=by omega
     clear h0;revert H;refine W80 ?_;intro _ _ g1 _ hg hf w1 H _ _
     go_roundw
     case rel=>exact⟨k+1,M,p,c,S0,rfl,rfl,by omega,by omega,HM2,H.arr ye⟩
     case measure=>(simp[intOf];try omega)
   ·have hs0':¬(sym:Int)=0:=by omega
    have hne':¬(xr:Int)=(xc:Int):=by omega
    by_cases hs2':sym=2
    ·have hs2a:2≤sym:=by omega
     obtain⟨f,hf0⟩:∃f,zbV xv=f:=⟨_,rfl⟩;have HF:=hid hf0
     have HM2:=hid (show M++[(xc,xr,f)]=L++(L.take (k+1)).flatMap (zde sym) by
      rw[HM.out,HT1.out,List.flatMap_append]
      have:zde sym (xr,xc,xv)=[(xc,xr,f)]:=by unfold zde;rw[if_neg h0,if_pos hs2',hf0]
      simp[this])
     clear h0 hf0 hs2';revert H;refine W80 ?_;intro _ _ _ g1 _ hg hf w1 H _ _ _ _;(refine xA H (zjs _ hv64 (hid rfl) HK3 HF) ?_;clear H;intro w1 H);simp only[Int.not_lt,Int.not_le]at*;revert H;refine Wa0 ?_;intro g2 _ hg hf p1 c1 w1 S' H
     go_roundw
     case rel=>exact⟨k+1,M++[(xc,xr,f)],_,_,S',by rw[List.length_append];rfl,rfl,by omega,by rw[List.length_append];simp only[List.length_cons,List.length_nil];omega,HM2,by rw[List.length_append,List.flatMap_append];exact H.arr ye⟩
     case measure=>(simp[intOf];try omega)
    ·have hs2n:¬(sym:Int)=2:=by omega
     have HM2:=hid (show M++[(xc,xr,xv)]=L++(L.take (k+1)).flatMap (zde sym) by
      rw[HM.out,HT1.out,List.flatMap_append]
      have:zde sym (xr,xc,xv)=[(xc,xr,xv)]:=by unfold zde;rw[if_neg h0,if_neg hs2']
      simp[this])
     clear h0 hs2';revert H;refine Wa1 ?_;intro g1 _ _ _ _ g2 _ hg hf p1 c1 w1 S' H
     go_roundw
     case rel=>exact⟨k+1,M++[(xc,xr,xv)],_,_,S',by rw[List.length_append];rfl,rfl,by omega,by rw[List.length_append];simp only[List.length_cons,List.length_nil];omega,HM2,by rw[List.length_append,List.flatMap_append];exact H.arr ye⟩
     case measure=>(simp[intOf];try omega)
  ·have HMM:=hid (show M=zz sym L by rw[HM.out,hML.out,List.take_of_length_le yb]);revert H;refine W74 ?_;intro H _ _ _ _ _ _ _;refine Calls.mono (zi3 _ rows cols hr2 hc2 M (by rw[HMM.out];exact HE.out) (by rw[HMM.out];exact HOK.out) (EntR.of (H.rowo 0)) (HT.out _ H.fr)) ?_;rintro e w1 ⟨v1,v2,v3,B,rfl,hF,hM3,hB⟩;rw[HMM.out]at hM3;have hsz:=H.fr.size;obtain⟨S1,S2,S3,hBe,H1⟩:=H.matB 11 12 13 hF hM3 hB;clear H;have H:=H1;clear H1 hF hM3;have hBf:=hid (fun x (hx:x∈B)=>Nat.le_trans hsz (hB x hx));subst hBe;clear hB;simp only[List.length_map,List.length_range]at H;obtain⟨q1,d1,rfl,_⟩:=(H.rowo 11).form;obtain⟨q2,d2,rfl,_⟩:=(H.rowo 12).form;obtain⟨q3,d3,rfl,_⟩:=(H.rowo 13).form;simp only[Int.not_lt,Int.not_le]at*;revert H;refine W74 ?_;intro w1 H;refine zk H rfl rfl rfl ?_
   have H3:Hp S w w1 [.obj 11 S1 (RowAt 3 1 (.slice q1 (cols+1) d1) (cols+1) (((List.range (cols+1)).map (pre (entP (zz sym L) rows cols))).map iV) S1), .obj 12 S2 (RowAt 3 1 (.slice q2 (entP (zz sym L) rows cols).length d2) (entP (zz sym L) rows cols).length (((entP (zz sym L) rows cols).map (·.1)).map iV) S2), .obj 13 S3 (RowAt 51 1 (.slice q3 (entP (zz sym L) rows cols).length d3) (entP (zz sym L) rows cols).length (((entP (zz sym L) rows cols).map (·.2.2)).map uV) S3)]:=H.arr ye;exact⟨_,_,_,S1++(S2++S3),rfl,H.fr,zea yX (H3.rowo 11) (H3.rowo 12) (H3.rowo 13) rfl rfl rfl (by simp[zdN]) (by simp[zdN]) (by simp[zdN]),hBf.out⟩
end
end Go.Proofs.YtaijhllckmndhaaGreatDoor
