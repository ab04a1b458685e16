import Derived.Test.YtaijhllckmndhaaGreatDoorYJ0
import Derived.Test.YtaijhllckmndhaaGreatDoorYJ4
import Derived.Laws.StructEq
import Derived.Test.YtaijhllckmndhaaGreatDoorYJ6
namespace Go.Proofs.YtaijhllckmndhaaGreatDoor
set_option linter.all false
set_option maxHeartbeats 64000000
set_option maxRecDepth 100000
section
open Go.RowKit
def zbc(p:Nat×Nat):Value:= .agg #[.int .i64 (p.1:Int), .int .i64 (p.2:Int)]
def zd8(w:World)(m:Nat)(o:Obj):World:={w with heap:=w.heap.setIfInBounds m o}
def SeenAt(m:Nat)(ks:List (Nat×Nat))(S:List Nat)(w:World):Prop:=
 ∃es clk,S=[m]∧w.heap[m]? =some (.map es clk)∧es.toList.map (fun e=>(e.key,e.val))=ks.map fun p=>(zbc p,Value.bool true)
def SeenAt.firm{m:Nat}{ks:List (Nat×Nat)}{S:List Nat}:Firm S (SeenAt m ks S):=by
 refine⟨fun w w' R k hn h=>?_,fun w h x hx=>?_,fun w h=>?_⟩
 ·obtain⟨es,clk,rfl,h2,h3⟩:=h;exact⟨es,clk,rfl,k.get h2 (hn m yg),h3⟩
 ·obtain⟨es,clk,rfl,h2,h3⟩:=h;simp only[List.mem_singleton]at hx;subst hx;exact zbg h2
 ·obtain⟨es,clk,rfl,_⟩:=h;simp
instance {m:Nat} {ks:List (Nat×Nat)} {S:List Nat}:Fm S (SeenAt m ks S):=⟨SeenAt.firm⟩
def zoP(w:World)(p q:Nat×Nat):(Op.equal 113 (zbc p) (zbc q)).run Tryz.prog w= .ok (p==q) w:=by
 obtain⟨a,b⟩:=p;obtain⟨c,d⟩:=q;have e1:(Op.equalIn 9999 3 (.int .i64 (a:Int)) (.int .i64 (c:Int))).run Tryz.prog w= .ok ((a:Int)==c) w:=run_equalIn_int w 9998 3 .i64 .i64 _ _ Tryz.underlying3;have e2:(Op.equalIn 9999 3 (.int .i64 (b:Int)) (.int .i64 (d:Int))).run Tryz.prog w= .ok ((b:Int)==d) w:=run_equalIn_int w 9998 3 .i64 .i64 _ _ Tryz.underlying3;have ez:(sizeOf 3).run Tryz.prog w= .ok 1 w:=Tryz.sizeOf3 w;have ea:(isAgg 3).run Tryz.prog w= .ok false w:=Tryz.isAgg3 w;have er:List.range' 0 2=[0,1]:=rfl;unfold Op.equal zbc
 show(Op.equalIn (9999+1) _ _ _).run _ _=_
 unfold Op.equalIn;simp only[Sem.run_bind,run_underlying Tryz.underlying113,Result.andThen_ok,ez,part,ea]
 simp[Std.Legacy.Range.forIn_eq_forIn_range',Std.Legacy.Range.size,er,ez,ea,e1,e2,part]
 by_cases h1:a=c
 ·by_cases h2:b=d
  ·subst h1 h2;simp
  ·have h3:¬(b:Int)=d:=by omega
   have h4:((a,b)==(c,d))=false:=by simp[h2]
   rw[h4];simp[h1,h2,h3]
 ·have h3:¬(a:Int)=c:=by omega
  have h4:((a,b)==(c,d))=false:=by simp[h1]
  rw[h4];simp[h1,h3]
def ze8(w:World)(em:Bool)(p:Nat×Nat):(Instr.checkKey em 10000 113 (zbc p)).run Tryz.prog w= .ok () w:=by
 obtain⟨a,b⟩:=p
 have e1:∀z:Int,(Instr.checkKey em 9999 3 (.int .i64 z)).run Tryz.prog w= .ok () w:=by
  intro z
  show(Instr.checkKey em (9998+1) 3 (.int .i64 z)).run _ _=_
  unfold Instr.checkKey;simp only[Sem.run_bind,run_underlying Tryz.underlying3,Result.andThen_ok,Sem.run_pure]
 have ez:(sizeOf 3).run Tryz.prog w= .ok 1 w:=Tryz.sizeOf3 w;have ea:(isAgg 3).run Tryz.prog w= .ok false w:=Tryz.isAgg3 w;have er:List.range' 0 2=[0,1]:=rfl;unfold zbc
 show(Instr.checkKey em (9999+1) _ _).run _ _=_
 unfold Instr.checkKey;simp only[Sem.run_bind,run_underlying Tryz.underlying113,Result.andThen_ok]
 simp[Std.Legacy.Range.forIn_eq_forIn_range',Std.Legacy.Range.size,er,ez,ea,e1,part]
def zfV(w:World)(p:Nat×Nat):∀(ks:List (Nat×Nat)) (es:List MapEntry) (i:Nat),es.map (fun e=>(e.key,e.val))=(ks.map fun p=>(zbc p,Value.bool true))→
 (p∉ks∧(Instr.findAsking 113 (zbc p) es i).run Tryz.prog w= .ok none w)∨(p∈ks∧∃j,(Instr.findAsking 113 (zbc p) es i).run Tryz.prog w= .ok (some (j, .bool true)) w)
 | [],es,i,h=>by
  have h0:es=[]:=by simpa using h
  subst h0;exact .inl ⟨by simp,rfl⟩
 | q::ks,[],i,h=>by simp at h
 | q::ks,e::es,i,h=>by
  simp only[List.map_cons,List.cons.injEq,Prod.mk.injEq]at h;obtain⟨⟨h1,h2⟩,h3⟩:=h;have he:(Op.equal 113 (zbc p) e.key).run Tryz.prog w= .ok (p==q) w:=by rw[h1];exact zoP w p q
  unfold Instr.findAsking;simp only[Sem.run_bind,he,Result.andThen_ok]
  by_cases hp:p=q
  ·right
   refine⟨by simp[hp],i,?_⟩;rw[if_pos y8,h2]
   rfl
  ·rw[if_neg y8]
   rcases zfV w p ks es (i+1) h3 with⟨a,b⟩|⟨a,j,b⟩
   ·exact .inl ⟨by simp[hp,a],b⟩
   ·exact .inr ⟨by simp[a],j,b⟩
def zf2(w:World)(p:Nat×Nat)(ks:List (Nat×Nat))(es:List MapEntry)(h:es.map (fun e=>(e.key,e.val))=(ks.map fun p=>(zbc p,Value.bool true))):
 (p∉ks∧(Instr.findKey 113 (zbc p) es).run Tryz.prog w= .ok none w)∨(p∈ks∧∃j,(Instr.findKey 113 (zbc p) es).run Tryz.prog w= .ok (some (j, .bool true)) w):=by
 unfold Instr.findKey;simp only[Sem.run_bind,run_underlying Tryz.underlying113,Result.andThen_ok]
 cases es with
 | nil=>
  have h0:ks=[]:=by simpa using h.symm
  subst h0;exact .inl ⟨by simp,rfl⟩
 | cons e r=>
  cases ks with
  | nil=>simp at h
  | cons q ks=>
   have hn:Instr.findNow (.array 2 3) (zbc p) (e::r) 0=none:=by unfold Instr.findNow;rfl
   rw[hn];exact zfV w p (q::ks) (e::r) 0 h
section
variable {P:Program} {Q:Exit→Act→World→Prop} {a:Act} {w w0:World} {o:Oper} {K:Act→World→Prop} {T:List Nat} {l:List Ent}
def zvJ{m k:Nat}{S:List Nat}{ks:List (Nat×Nat)}(H:Hp T w0 w l)(hm:Ent.obj k S (SeenAt m ks S)∈l){x y:Operand}(ho:o.op= .lookup 111 x y false)(hx:a.eval x= .map (some m)){p:Nat×Nat}(hy:a.eval y=zbc p){b:Bool}(hb:Hid (ks.contains p=b)):
 (execOp a.eval o).run Tryz.prog w= .ok (.value (.bool b)) w:=by
 obtain⟨es,clk,rfl,h2,h3⟩:=(H.ok _ hm).1;have hz:(zeroValue 4).run Tryz.prog w= .ok (.bool false) w:=Tryz.zeroValue4 w;have hob:(getObj m).run Tryz.prog w= .ok (.map es clk) w:=by simp[getObj,Sem.run,h2]
 have e:(Instr.lookup 111 (.map (some m)) (zbc p) false).run Tryz.prog w= .ok (.bool b) w:=by
  unfold Instr.lookup;simp only[Sem.run_bind,run_underlying Tryz.underlying111,Result.andThen_ok,hob,Sem.run_pure,ze8]
  rcases zf2 w p ks es.toList h3 with⟨h4,h5⟩|⟨h4,j,h5⟩
  ·rw[h5]
   have:b=false:=by rw[←hb.out];simpa using h4
   subst this
   simp[hz]
  ·rw[h5]
   have:b=true:=by rw[←hb.out];simpa using h4
   subst this
   simp
 unfold execOp;simp only[ho,hx,hy,Sem.run_bind,e,Result.andThen_ok,Sem.run_pure]
def zuQ{m k:Nat}{S:List Nat}{ks:List (Nat×Nat)}(H:Hp T w0 w (.obj k S (SeenAt m ks S)::l)){x y:Operand}(ho:o.op= .mapUpdate 111 x y (.const (.bool true)))(hx:a.eval x= .map (some m)){p:Nat×Nat}(hy:a.eval y=zbc p)(hp:Hid (ks.contains p=false))
 (h:∀w',Fr S w w'→Hp T w0 w' (.obj k S (SeenAt m (ks++[p]) S)::l)→K (a.put o.dst undef) w'):o.wp Tryz.prog a w K Q:=by
 obtain⟨es,clk,rfl,h2,h3⟩:=(H.ok _ (.head _)).1;have hob:(getObj m).run Tryz.prog w= .ok (.map es clk) w:=by simp[getObj,Sem.run,h2]
 have e:(Instr.mapUpdate 111 (.map (some m)) (zbc p) (.bool true)).run Tryz.prog w= .ok () (zd8 w m (.map (es.push {key:=zbc p,val:= .bool true,born:=clk}) (clk+1))):=by
  unfold Instr.mapUpdate;simp only[Sem.run_bind,run_underlying Tryz.underlying111,Result.andThen_ok,hob,Sem.run_pure,ze8]
  rcases zf2 w p ks es.toList h3 with⟨h4,h5⟩|⟨h4,j,h5⟩
  ·rw[h5]
   simp[setObj,Sem.run,h2,zd8]
  ·have:=hp.out
   simp at this
   exact absurd h4 this
 have hlt:m<w.heap.size:=zbg h2
 have hF:Fr [m] w (zd8 w m (.map (es.push {key:=zbc p,val:= .bool true,born:=clk}) (clk+1))):=
  ⟨rfl,rfl,rfl,by simp[zd8],fun k _ hn=>by simp only[zd8];rw[Array.getElem?_setIfInBounds_ne (fun e=>hn (by simp[e]))]⟩
 have ec:a.eval (.const (.bool true))= .bool true:=rfl;refine zdl ?_ (h _ hF (H.upd k hF (S':=[m]) ⟨es.push {key:=zbc p,val:= .bool true,born:=clk},clk+1,rfl,by simp[zd8,hlt],by simp[h3]⟩ yg));unfold execOp;simp only[ho,hx,hy,ec,Sem.run_bind,e,Result.andThen_ok,Sem.run_pure]
def zvm(H:Hp T w0 w l)(k:Nat){r:Option Operand}(ho:o.op= .makeMap 111 none)
 (h:∀m w',Fr [] w w'→Hp T w0 w' (.obj k [m] (SeenAt m [] [m])::l)→K (a.put o.dst (.map (some m))) w'):o.wp P a w K Q:=by
 have hF:Fr [] w (w.alloc (.map #[] 0)):=Fr.alloc [] w _;refine zU (v:= .map (some w.heap.size)) ?_ (h w.heap.size _ hF (H.born k hF ⟨#[],0,rfl,heap_alloc_new w _,rfl⟩ SeenAt.firm yg));unfold execOp
 simp[ho,Instr.makeMap,newObj,Sem.run]
end
end
section
open Go.RowKit
attribute [local irreducible] wpList Code.wp Plan.wp mid
section
variable {P:Program} {a:Act} {w:World} {o:Oper}
def zel{t:TypeId}{x y y2:Operand}(ho:o.op= .slice t x (some y) (some y2) none){b p n c:Nat}(hx:a.eval x= .slice (some ⟨b,p,none⟩) n c){k k2:IntKind}{z z2:Int}(hy:a.eval y= .int k z)(hy2:a.eval y2= .int k2 z2){e:TypeId}{zl:List Value}{by':Nat}[h:Si P t e zl 1 by'](i j m:Nat)(hz:Hid (z=(i:Int)))(hz2:Hid (z2=(j:Int)))(hij:i+m=j)(h2:j≤c)(h3:i<c):(execOp a.eval o).run P w= .ok (.value (.slice (some ⟨b,p+i,none⟩) m (c-i))) w:=by
 rw[hz.out]at hy;rw[hz2.out]at hy2
 have:=zfz (P:=P) (w:=w) ho hx hy hy2 yb yb yb
 rw[if_neg yb]at this;rw[this];have e1:((j:Int).toNat-(i:Int).toNat)=m:=by omega
 have e2:p+(i:Int).toNat*1=p+i:=by omega
 rw[e1,e2]
 rfl
end
def zfr{w:World}{b off cc f j m:Nat}{s r:List UInt8}(hc:∀(k:Nat) u,(zx s)[k]? =some u→w.cell? ⟨b,off+k,none⟩=some u)(hr:mid s f j=r)(hf:f≤j)(hj:j≤s.length)(hm:f+m=j):Rd w (.slice (some ⟨b,off+f,none⟩) m cc) r.length (zx r):=by
 have hl:r.length=m:=by rw[←hr,zld hj];omega
 rw[hl];refine .inr ⟨_,_,rfl,fun k u hk=>?_⟩;rw[zaL,Nat.add_assoc];refine hc (f+k) u ?_;have hkl:=(List.getElem?_eq_some_iff.1 hk).1;unfold zx at hk hkl ⊢;rw[List.length_map,hl]at hkl;rw[List.getElem?_map]at hk ⊢;rw[←hr]at hk;unfold mid at hk;rw[List.getElem?_drop,List.getElem?_take_of_lt yb]at hk;exact hk
def zdX(s:List UInt8)(out:List (List UInt8))(f i:Nat):Prop:=(i≤s.length∧f≤i∧zb6 s out f i)∨(i=s.length+1∧zak s=out)
def zm6(w:World)(s:List UInt8)(hs:s.length≤1000000){p0:Option Addr}{c0:Nat}(hc0:s.length≤c0)(hv:Rd w (.slice p0 s.length c0) s.length (zx s)){ls:List (List UInt8)}(hls:Hid (zak s=ls)):
 Calls Tryz.prog 18 #[.slice p0 s.length c0] w fun e w'=>∃v,e= .returned v∧Fr [] w w'∧w'.ownsRow w.heap.size 9 1 v ls.length (ls.map ze):=by
 have HA:Hid (0<s.length→∃b off,p0=some ⟨b,off,none⟩∧∀(k:Nat) u,(zx s)[k]? =some u→w.cell? ⟨b,off+k,none⟩=some u):=hid (fun h=>by
  obtain⟨b,off,c',he,_,hcc⟩:=hv.addr (by
   intro e
   have:=congrArg List.length e
   unfold zx at this;rw[List.length_map,List.length_nil]at this
   omega)
  cases he
  exact⟨b,off,rfl,hcc⟩)
 clear hv;have H:=(Hp.start [] w).newRow 2 (e:=9) (sz:=1)
 go_enter Tryz.func18,Tryz.ntmps18
 revert H;refine W93 ?_;intro H _ _ _
 go_loopw [3,4,5] (fun s3 s4 s5 wr=>∃(out:List (List UInt8)) (f i n:Nat) (p:Option Addr) (c:Nat) (S0:List Nat) (cs:List Value),s3= .slice p n c∧s4= .int .i64 (f:Int)∧s5= .int .i64 (i:Int)∧i≤s.length+1∧n≤i∧Hid (zdX s out f i)∧Hid (out.length=n)∧Hid (cs=out.map ze)∧Hp [] w wr [.obj 2 S0 (RowAt 9 1 (.slice p n c) n cs S0)]) (fun _ _ v _=>s.length+2-(intOf v).toNat)
 case atStart=>exact⟨[],0,0,0,none,0,[],[],rfl,rfl,rfl,by omega,by omega,hid (.inl ⟨by omega,by omega,zk5 s⟩),hid rfl,hid rfl,H⟩
 case round=>
  clear H;obtain⟨out,f,i,n,p,c,S0,cs,rfl,rfl,rfl,hi,hn,HW,HL,HC,H⟩:=hrel
  by_cases hlt:i≤s.length
  ·have hWA:=HW.out.resolve_right (fun h=>by omega);have hfi:=hWA.2.1;have HWA:=hid hWA.2.2;clear hWA HW
   by_cases hend:i=s.length∧f=i
   ·have HWN:=hid (show zdX s out f (i+1)from .inr ⟨by omega,by
     have h:=HWA.out;rw[hend.1]at h
     exact zlX h yb⟩)
    have h1:s.length≤i:=by omega
    have h2:f≤i:=by omega
    have h3:i≤f:=by omega
    clear HWA hend
    go_wp2_with(first|refine x_e (z6 rfl rfl) ?_|refine x_q H ?_|refine x_l H ?_|refine zm ?_ ?_<;>intro h|(revert H;(first|(refine x_g ?_;(first|(have hh:=g0;clear hh;intro g1 w1 hg hf H)|intro g0 w1 hg hf H);(first|replace hf:=hf.kp|clear hf))|(refine x_s ?_;intro w1 hf H;(first|replace hf:=hf.kp|clear hf))|(refine zau ?_;intro w1 hf H hk;clear hf hk))))
    all_goals
     go_roundw
     case rel=>exact⟨out,f,i+1,n,p,c,S0,cs,rfl,rfl,congrArg (Value.int .i64) yb,by omega,by omega,HWN,HL,HC,H⟩
     case measure=>(simp[intOf];try omega)
   ·have hpos:0<s.length:=by omega
    obtain⟨bk,off,rfl,hcell⟩:=HA.out hpos;have HCE:=hid hcell;clear hcell
    by_cases hli:i<s.length
    ·obtain⟨b,hb⟩:∃b,s[i]? =some b:=⟨_,List.getElem?_eq_getElem hli⟩;obtain⟨m,hm⟩:∃m,b.toNat=m:=⟨_,rfl⟩;have HX:=hid (show w.cell? ⟨bk,off+i,none⟩=some (.int .u8 (m:Int))from HCE.out i _ (by unfold zx;rw[List.getElem?_map,hb,←hm];rfl))
     by_cases h10:m=10
     ·have hb10:b=10:=UInt8.toNat_inj.1 (by rw[hm,h10];rfl);have HWN:=hid (show zdX s (out++[zae (mid s f i)]) (i+1) (i+1)from .inl ⟨by omega,by omega,znZ HWA.out (by rw[hb,hb10])⟩);have ha:10≤m:=by omega
      have hb2:m≤10:=by omega
      clear HWA h10 hm hb10 hb hend
      by_cases hfl:f<i
      ·obtain⟨b1,hb1⟩:∃b,s[i-1]? =some b:=⟨_,List.getElem?_eq_getElem yb⟩;obtain⟨m1,hm1⟩:∃m,b1.toNat=m:=⟨_,rfl⟩;have HX1:=hid (show w.cell? ⟨bk,off+(i-1),none⟩=some (.int .u8 (m1:Int))from HCE.out (i-1) _ (by unfold zx;rw[List.getElem?_map,hb1,←hm1];rfl));have HI1:=hid (show(i:Int)-1=((i-1:Nat):Int) by omega);have hno:=zjU (b:=s) (f:=f) (i:=i-1) yb hb1;rw[show i-1+1=i by omega]at hno
       by_cases h13:m1=13
       ·have HNO:=hid (show zae (mid s f i)=mid s f (i-1) by rw[hno,if_pos (UInt8.toNat_inj.1 (by rw[hm1,h13];rfl))]);have hc1:13≤m1:=by omega
        have hc2:m1≤13:=by omega
        clear hno h13 hm1 hb1;obtain⟨r,hr⟩:∃r,mid s f (i-1)=r:=⟨_,rfl⟩;have HRD:=hid (fun(w':World) (k:Fr [] w w')=>zfr (w:=w') (cc:=c0-f) (m:=(i-1)-f) (fun q u hq=>k.cell (HCE.out q u hq) yg) hr yb yb yb);have HN2:=hid (show zdX s (out++[r]) (i+1) (i+1) by have:=HWN.out;rwa [HNO.out,hr]at this);have HC2:=hid (show cs++[ze r]=(out++[r]).map ze by rw[List.map_append,HC.out];rfl);have HL2:=hid (show(out++[r]).length=n+1 by rw[List.length_append,HL.out];rfl);clear HWN HC HL HNO hr
        go_wp2_with(first|refine x_e (zbH i (off+i) rfl rfl rfl (hid rfl)) ?_|refine x_e (zcd rfl rfl (H.fr.cell HX.out yg)) ?_|refine x_e (zbH (i-1) (off+(i-1)) rfl rfl rfl HI1) ?_|refine x_e (zcd rfl rfl (H.fr.cell HX1.out yg)) ?_|refine x_e (zel rfl rfl rfl rfl f (i-1) ((i-1)-f) (hid rfl) (hid yb) yb yb yb) ?_|refine x_e (zkG rfl rfl (HRD.out _ H.fr)) ?_|refine x_e (z6 rfl rfl) ?_|refine x_q H ?_|refine x_l H ?_|(refine zbI (b:= .append) rfl ?_;go_loud (refine zaB rfl (fun K hK=>zaN H rfl rfl rfl 2 (H.rd (b:=g0) (off:=0) (vs:=[ze r]) List.prefix_rfl) rfl ys yb yk (fun p1 c1 w1 S' hf H1=>hK _ _ ?_)));(clear hK K);(clear H;have H:=H1;clear H1;(try dsimp only at H);(first|replace hf:=hf.kp|clear hf));(simp only[nrm,↓reduceIte,Nat.reduceAdd]))|refine zm ?_ ?_<;>intro h|(revert H;(first|(refine x_g ?_;(first|(have hh:=g0;clear hh;intro g1 w1 hg hf H)|intro g0 w1 hg hf H);(first|replace hf:=hf.kp|clear hf))|(refine x_s ?_;intro w1 hf H;(first|replace hf:=hf.kp|clear hf))|(refine zau ?_;intro w1 hf H hk;clear hf hk))))
        all_goals
         go_roundw
         case rel=>exact⟨_,i+1,i+1,n+1,_,_,S',_,rfl,congrArg (Value.int .i64) yb,congrArg (Value.int .i64) yb,by omega,by omega,HN2,HL2,HC2,H.sub yd⟩
         case measure=>(simp[intOf];try omega)
       ·have HNO:=hid (show zae (mid s f i)=mid s f i by rw[hno,if_neg (by intro e;subst e;exact h13 hm1.symm)]);have hc1:m1≠13:=h13;clear hno h13 hm1 hb1;obtain⟨r,hr⟩:∃r,mid s f i=r:=⟨_,rfl⟩;have HRD:=hid (fun(w':World) (k:Fr [] w w')=>zfr (w:=w') (cc:=c0-f) (m:=i-f) (fun q u hq=>k.cell (HCE.out q u hq) yg) hr yb yb yb);have HN2:=hid (show zdX s (out++[r]) (i+1) (i+1) by have:=HWN.out;rwa [HNO.out,hr]at this);have HC2:=hid (show cs++[ze r]=(out++[r]).map ze by rw[List.map_append,HC.out];rfl);have HL2:=hid (show(out++[r]).length=n+1 by rw[List.length_append,HL.out];rfl);clear HWN HC HL HNO hr
        go_wp2_with(first|refine x_e (zbH i (off+i) rfl rfl rfl (hid rfl)) ?_|refine x_e (zcd rfl rfl (H.fr.cell HX.out yg)) ?_|refine x_e (zbH (i-1) (off+(i-1)) rfl rfl rfl HI1) ?_|refine x_e (zcd rfl rfl (H.fr.cell HX1.out yg)) ?_|refine x_e (zel rfl rfl rfl rfl f i (i-f) (hid rfl) (hid yb) yb yb yb) ?_|refine x_e (zkG rfl rfl (HRD.out _ H.fr)) ?_|refine x_e (z6 rfl rfl) ?_|refine x_q H ?_|refine x_l H ?_|(refine zbI (b:= .append) rfl ?_;go_loud (refine zaB rfl (fun K hK=>zaN H rfl rfl rfl 2 (H.rd (b:=g0) (off:=0) (vs:=[ze r]) List.prefix_rfl) rfl ys yb yk (fun p1 c1 w1 S' hf H1=>hK _ _ ?_)));(clear hK K);(clear H;have H:=H1;clear H1;(try dsimp only at H);(first|replace hf:=hf.kp|clear hf));(simp only[nrm,↓reduceIte,Nat.reduceAdd]))|refine zm ?_ ?_<;>intro h|(revert H;(first|(refine x_g ?_;(first|(have hh:=g0;clear hh;intro g1 w1 hg hf H)|intro g0 w1 hg hf H);(first|replace hf:=hf.kp|clear hf))|(refine x_s ?_;intro w1 hf H;(first|replace hf:=hf.kp|clear hf))|(refine zau ?_;intro w1 hf H hk;clear hf hk))))
        all_goals
         go_roundw
         case rel=>exact⟨_,i+1,i+1,n+1,_,_,S',_,rfl,congrArg (Value.int .i64) yb,congrArg (Value.int .i64) yb,by omega,by omega,HN2,HL2,HC2,H.sub yd⟩
         case measure=>(simp[intOf];try omega)
      ·have hif:i≤f:=by omega
       have HNO:Hid (zae (mid s f i)=mid s f f):=hid (by
        have e:f=i:=by omega
        rw[←e,zch];rfl)
       obtain⟨r,hr⟩:∃r,mid s f f=r:=⟨_,rfl⟩;have HRD:=hid (fun(w':World) (k:Fr [] w w')=>zfr (w:=w') (cc:=c0-f) (m:=f-f) (fun q u hq=>k.cell (HCE.out q u hq) yg) hr yb yb yb);have HN2:=hid (show zdX s (out++[r]) (i+1) (i+1) by have:=HWN.out;rwa [HNO.out,hr]at this);have HC2:=hid (show cs++[ze r]=(out++[r]).map ze by rw[List.map_append,HC.out];rfl);have HL2:=hid (show(out++[r]).length=n+1 by rw[List.length_append,HL.out];rfl);clear HWN HC HL HNO hr
       go_wp2_with(first|refine x_e (zbH i (off+i) rfl rfl rfl (hid rfl)) ?_|refine x_e (zcd rfl rfl (H.fr.cell HX.out yg)) ?_|refine x_e (zel rfl rfl rfl rfl f f (f-f) (hid rfl) (hid yb) yb yb yb) ?_|refine x_e (zkG rfl rfl (HRD.out _ H.fr)) ?_|refine x_e (z6 rfl rfl) ?_|refine x_q H ?_|refine x_l H ?_|(refine zbI (b:= .append) rfl ?_;go_loud (refine zaB rfl (fun K hK=>zaN H rfl rfl rfl 2 (H.rd (b:=g0) (off:=0) (vs:=[ze r]) List.prefix_rfl) rfl ys yb yk (fun p1 c1 w1 S' hf H1=>hK _ _ ?_)));(clear hK K);(clear H;have H:=H1;clear H1;(try dsimp only at H);(first|replace hf:=hf.kp|clear hf));(simp only[nrm,↓reduceIte,Nat.reduceAdd]))|refine zm ?_ ?_<;>intro h|(revert H;(first|(refine x_g ?_;(first|(have hh:=g0;clear hh;intro g1 w1 hg hf H)|intro g0 w1 hg hf H);(first|replace hf:=hf.kp|clear hf))|(refine x_s ?_;intro w1 hf H;(first|replace hf:=hf.kp|clear hf))|(refine zau ?_;intro w1 hf H hk;clear hf hk))))
       all_goals
        go_roundw
        case rel=>exact⟨_,i+1,i+1,n+1,_,_,S',_,rfl,congrArg (Value.int .i64) yb,congrArg (Value.int .i64) yb,by omega,by omega,HN2,HL2,HC2,H.sub yd⟩
        case measure=>(simp[intOf];try omega)
     ·have hn10:m≠10:=h10;have HWN:=hid (show zdX s out f (i+1)from .inl ⟨by omega,by omega,zmm HWA.out hb hfi (by intro e;subst e;exact hn10 hm.symm)⟩);clear HWA h10 hm hend
      go_wp2_with(first|refine x_e (zbH i (off+i) rfl rfl rfl (hid rfl)) ?_|refine x_e (zcd rfl rfl (H.fr.cell HX.out yg)) ?_|refine x_e (z6 rfl rfl) ?_|refine x_q H ?_|refine x_l H ?_|refine zm ?_ ?_<;>intro h|(revert H;(first|(refine x_g ?_;(first|(have hh:=g0;clear hh;intro g1 w1 hg hf H)|intro g0 w1 hg hf H);(first|replace hf:=hf.kp|clear hf))|(refine x_s ?_;intro w1 hf H;(first|replace hf:=hf.kp|clear hf))|(refine zau ?_;intro w1 hf H hk;clear hf hk))))
      all_goals
       go_roundw
       case rel=>exact⟨out,f,i+1,n,p,c,S0,cs,rfl,rfl,congrArg (Value.int .i64) yb,by omega,by omega,HWN,HL,HC,H⟩
       case measure=>(simp[intOf];try omega)
    ·have hfl:f<i:=by omega
     have HWN:=hid (show zdX s (out++[zae (mid s f i)]) (i+1) (i+1)from .inr ⟨by omega,by
      have h:=HWA.out;have e:i=s.length:=by omega
      rw[e]at h ⊢
      exact zmp h yb⟩)
     clear HWA hend;obtain⟨b1,hb1⟩:∃b,s[i-1]? =some b:=⟨_,List.getElem?_eq_getElem yb⟩;obtain⟨m1,hm1⟩:∃m,b1.toNat=m:=⟨_,rfl⟩;have HX1:=hid (show w.cell? ⟨bk,off+(i-1),none⟩=some (.int .u8 (m1:Int))from HCE.out (i-1) _ (by unfold zx;rw[List.getElem?_map,hb1,←hm1];rfl));have HI1:=hid (show(i:Int)-1=((i-1:Nat):Int) by omega);have hno:=zjU (b:=s) (f:=f) (i:=i-1) yb hb1;rw[show i-1+1=i by omega]at hno
     by_cases h13:m1=13
     ·have HNO:=hid (show zae (mid s f i)=mid s f (i-1) by rw[hno,if_pos (UInt8.toNat_inj.1 (by rw[hm1,h13];rfl))]);have hc1:13≤m1:=by omega
      have hc2:m1≤13:=by omega
      clear hno h13 hm1 hb1;obtain⟨r,hr⟩:∃r,mid s f (i-1)=r:=⟨_,rfl⟩;have HRD:=hid (fun(w':World) (k:Fr [] w w')=>zfr (w:=w') (cc:=c0-f) (m:=(i-1)-f) (fun q u hq=>k.cell (HCE.out q u hq) yg) hr yb yb yb);have HN2:=hid (show zdX s (out++[r]) (i+1) (i+1) by have:=HWN.out;rwa [HNO.out,hr]at this);have HC2:=hid (show cs++[ze r]=(out++[r]).map ze by rw[List.map_append,HC.out];rfl);have HL2:=hid (show(out++[r]).length=n+1 by rw[List.length_append,HL.out];rfl);clear HWN HC HL HNO hr
      go_wp2_with(first|refine x_e (zbH (i-1) (off+(i-1)) rfl rfl rfl HI1) ?_|refine x_e (zcd rfl rfl (H.fr.cell HX1.out yg)) ?_|refine x_e (zel rfl rfl rfl rfl f (i-1) ((i-1)-f) (hid rfl) (hid yb) yb yb yb) ?_|refine x_e (zkG rfl rfl (HRD.out _ H.fr)) ?_|refine x_e (z6 rfl rfl) ?_|refine x_q H ?_|refine x_l H ?_|(refine zbI (b:= .append) rfl ?_;go_loud (refine zaB rfl (fun K hK=>zaN H rfl rfl rfl 2 (H.rd (b:=g0) (off:=0) (vs:=[ze r]) List.prefix_rfl) rfl ys yb yk (fun p1 c1 w1 S' hf H1=>hK _ _ ?_)));(clear hK K);(clear H;have H:=H1;clear H1;(try dsimp only at H);(first|replace hf:=hf.kp|clear hf));(simp only[nrm,↓reduceIte,Nat.reduceAdd]))|refine zm ?_ ?_<;>intro h|(revert H;(first|(refine x_g ?_;(first|(have hh:=g0;clear hh;intro g1 w1 hg hf H)|intro g0 w1 hg hf H);(first|replace hf:=hf.kp|clear hf))|(refine x_s ?_;intro w1 hf H;(first|replace hf:=hf.kp|clear hf))|(refine zau ?_;intro w1 hf H hk;clear hf hk))))
      all_goals
       go_roundw
       case rel=>exact⟨_,i+1,i+1,n+1,_,_,S',_,rfl,congrArg (Value.int .i64) yb,congrArg (Value.int .i64) yb,by omega,by omega,HN2,HL2,HC2,H.sub yd⟩
       case measure=>(simp[intOf];try omega)
     ·have HNO:=hid (show zae (mid s f i)=mid s f i by rw[hno,if_neg (by intro e;subst e;exact h13 hm1.symm)]);have hc1:m1≠13:=h13;clear hno h13 hm1 hb1;obtain⟨r,hr⟩:∃r,mid s f i=r:=⟨_,rfl⟩;have HRD:=hid (fun(w':World) (k:Fr [] w w')=>zfr (w:=w') (cc:=c0-f) (m:=i-f) (fun q u hq=>k.cell (HCE.out q u hq) yg) hr yb yb yb);have HN2:=hid (show zdX s (out++[r]) (i+1) (i+1) by have:=HWN.out;rwa [HNO.out,hr]at this);have HC2:=hid (show cs++[ze r]=(out++[r]).map ze by rw[List.map_append,HC.out];rfl);have HL2:=hid (show(out++[r]).length=n+1 by rw[List.length_append,HL.out];rfl);clear HWN HC HL HNO hr
      go_wp2_with(first|refine x_e (zbH (i-1) (off+(i-1)) rfl rfl rfl HI1) ?_|refine x_e (zcd rfl rfl (H.fr.cell HX1.out yg)) ?_|refine x_e (zel rfl rfl rfl rfl f i (i-f) (hid rfl) (hid yb) yb yb yb) ?_|refine x_e (zkG rfl rfl (HRD.out _ H.fr)) ?_|refine x_e (z6 rfl rfl) ?_|refine x_q H ?_|refine x_l H ?_|(refine zbI (b:= .append) rfl ?_;go_loud (refine zaB rfl (fun K hK=>zaN H rfl rfl rfl 2 (H.rd (b:=g0) (off:=0) (vs:=[ze r]) List.prefix_rfl) rfl ys yb yk (fun p1 c1 w1 S' hf H1=>hK _ _ ?_)));(clear hK K);(clear H;have H:=H1;clear H1;(try dsimp only at H);(first|replace hf:=hf.kp|clear hf));(simp only[nrm,↓reduceIte,Nat.reduceAdd]))|refine zm ?_ ?_<;>intro h|(revert H;(first|(refine x_g ?_;(first|(have hh:=g0;clear hh;intro g1 w1 hg hf H)|intro g0 w1 hg hf H);(first|replace hf:=hf.kp|clear hf))|(refine x_s ?_;intro w1 hf H;(first|replace hf:=hf.kp|clear hf))|(refine zau ?_;intro w1 hf H hk;clear hf hk))))
      all_goals
       go_roundw
       case rel=>exact⟨_,i+1,i+1,n+1,_,_,S',_,rfl,congrArg (Value.int .i64) yb,congrArg (Value.int .i64) yb,by omega,by omega,HN2,HL2,HC2,H.sub yd⟩
       case measure=>(simp[intOf];try omega)
  ·have hE:=HW.out.resolve_left (fun h=>hlt h.1);have HE:=hid hE.2;clear HW hE;revert H;refine W93 ?_;intro H _ _ _
   go_ret
   have hr:=H.rowo 2;have e1:out=ls:=by rw[←HE.out,hls.out]
   rw[HC.out,e1]at hr;have e2:n=ls.length:=by rw[←HL.out,e1]
   subst e2;exact⟨_,rfl,H.fr,hr.owns (fun x hx=>(H.home 2 x hx).resolve_left yg)⟩
def zjp(w:World)(s:List UInt8)(hs:s.length≤2000000):
 Calls Tryz.prog 22 #[ze s] w fun e w'=>∃b:Bool,e= .returned (.bool b)∧Fr [] w w':=by
 have H:=Hp.start [] w
 go_enter Tryz.func22,Tryz.ntmps22
 revert H;refine W93 ?_;intro H _ _ _
 go_loopw [3] (fun s3 wr=>∃i:Nat,s3= .int .i64 (i:Int)∧i≤s.length∧Hp [] w wr []) (fun v _=>s.length+1-(intOf v).toNat)
 case atStart=>exact⟨0,rfl,Nat.zero_le _,H⟩
 case round=>
  clear H;obtain⟨i,rfl,hi,H⟩:=hrel
  by_cases hlt:i+5<s.length
  ·obtain⟨b,hb⟩:∃b,s[i]? =some b:=⟨_,List.getElem?_eq_getElem yb⟩;obtain⟨m,hm⟩:∃m,b.toNat=m:=⟨_,rfl⟩;have HM:=hid hm;clear hm
   go_wp2_with(first|refine x_e (zcL rfl rfl rfl hb HM) ?_|refine x_e (z6 rfl rfl) ?_|refine x_q H ?_|refine x_l H ?_|refine zm ?_ ?_<;>intro h|(revert H;(first|(refine x_g ?_;(first|(have hh:=g0;clear hh;intro g1 w1 hg hf H)|intro g0 w1 hg hf H);(first|replace hf:=hf.kp|clear hf))|(refine x_s ?_;intro w1 hf H;(first|replace hf:=hf.kp|clear hf))|(refine zau ?_;intro w1 hf H hk;clear hf hk))))
   all_goals first
    | (go_roundw
       case rel=>exact⟨i+1,congrArg (Value.int .i64) yb,by omega,H⟩
       case measure=>(simp[intOf];try omega))
    | (go_ret;exact⟨_,rfl,H.fr⟩)
  ·revert H;refine W93 ?_;intro H _ _ _
   go_ret
   exact⟨_,rfl,H.fr⟩
end
section
open Go.RowKit
attribute [local irreducible] wpList Code.wp Plan.wp
def Cl(w:World)(p:Option Addr)(vs:List Value):Prop:=∀j u,vs[j]? =some u→∃g o,p=some ⟨g,o,none⟩∧w.cell? ⟨g,o+j,none⟩=some u
def Cl.fr{w w':World}{p:Option Addr}{vs:List Value}(h:Cl w p vs)(k:Fr [] w w'):Cl w' p vs:=fun j u hj=>by
 obtain⟨g,o,hp,hc⟩:=h j u hj;exact⟨g,o,hp,k.cell hc yg⟩
def zkx(w:World){p1 p2:Option Addr}{n c1 c2:Nat}(xs:List Nat)(hn:xs.length=n)(hn2:n≤100000)(h1:Cl w p1 (xs.map fun x:Nat=>Value.int .i64 (x:Int)))(h2:Cl w p2 (xs.map fun x:Nat=>Value.int .i64 (x:Int))):
 Calls Tryz.prog 61 #[.slice p1 n c1, .slice p2 n c2] w fun e w'=>e= .returned (.bool true)∧Fr [] w w':=by
 have HN:=hid hn;have H1:=hid h1;have H2:=hid h2;clear hn h1 h2;have H:=Hp.start [] w
 go_enter Tryz.func61,Tryz.ntmps61
 revert H;refine W74 ?_;intro H _ _ _
 go_loopw [5] (fun s5 wr=>∃k:Nat,s5= .int .i64 (k:Int)∧k≤n∧Hp [] w wr []) (fun v _=>n-(intOf v).toNat)
 case atStart=>exact⟨0,rfl,Nat.zero_le _,H⟩
 case round=>
  clear H;obtain⟨k,rfl,hk,H⟩:=hrel
  by_cases hlt:k<n
  ·obtain⟨x,hx⟩:∃x,xs[k]? =some x:=⟨_,List.getElem?_eq_getElem yT⟩;obtain⟨g1,o1,rfl,hc1⟩:=H1.out k (.int .i64 (x:Int)) yY;obtain⟨g2,o2,rfl,hc2⟩:=H2.out k (.int .i64 (x:Int)) yY;have HC1:=hid hc1;have HC2:=hid hc2;clear hx hc1 hc2;revert H;refine W74 ?_;intro H _ _ _ _ _
   (revert H;refine w_p 9 (.st 0 (.st 1 (.st 2 (.st 3 (.st 4 (.st 5 (.st 6 (.st 7 (.st 8 .done))))))))) ?_;intro w1 H)
   iterate 2 refine p_q ?_
   (refine p_e rfl (fun w H=>zbH k (o1+k) rfl rfl rfl (hid rfl)) ?_);(refine p_e rfl (fun w H=>zcd rfl rfl (H.fr.cell HC1.out yg)) ?_)
   iterate 2 refine p_q ?_
   (refine p_e rfl (fun w H=>zbH k (o2+k) rfl rfl rfl (hid rfl)) ?_);(refine p_e rfl (fun w H=>zcd rfl rfl (H.fr.cell HC2.out yg)) ?_);(refine p_e rfl (fun w H=>zbM rfl rfl rfl rfl yZ) ?_);(refine zf ?_)
   all_goals
    revert H;refine W74 ?_;intro H
    go_roundw
    case rel=>exact⟨k+1,congrArg (Value.int .i64) yb,hlt,H⟩
    case measure=>(simp[intOf];try omega)
  ·revert H;refine W74 ?_;intro H _ _ _
   go_ret
   exact⟨rfl,H.fr⟩
def zl5(w:World){p1 p2:Option Addr}{n c1 c2:Nat}(xs:List Nat)(hn:xs.length=n)(hn2:n≤100000)(h1:Cl w p1 (xs.map fun x:Nat=>Value.int .u64 (x:Int)))(h2:Cl w p2 (xs.map fun x:Nat=>Value.int .u64 (x:Int))):
 Calls Tryz.prog 62 #[.slice p1 n c1, .slice p2 n c2] w fun e w'=>e= .returned (.bool true)∧Fr [] w w':=by
 have HN:=hid hn;have H1:=hid h1;have H2:=hid h2;clear hn h1 h2;have H:=Hp.start [] w
 go_enter Tryz.func62,Tryz.ntmps62
 revert H;refine W74 ?_;intro H _ _ _
 go_loopw [5] (fun s5 wr=>∃k:Nat,s5= .int .i64 (k:Int)∧k≤n∧Hp [] w wr []) (fun v _=>n-(intOf v).toNat)
 case atStart=>exact⟨0,rfl,Nat.zero_le _,H⟩
 case round=>
  clear H;obtain⟨k,rfl,hk,H⟩:=hrel
  by_cases hlt:k<n
  ·obtain⟨x,hx⟩:∃x,xs[k]? =some x:=⟨_,List.getElem?_eq_getElem yT⟩;obtain⟨g1,o1,rfl,hc1⟩:=H1.out k (.int .u64 (x:Int)) yY;obtain⟨g2,o2,rfl,hc2⟩:=H2.out k (.int .u64 (x:Int)) yY;have HC1:=hid hc1;have HC2:=hid hc2;clear hx hc1 hc2;revert H;refine W74 ?_;intro H _ _ _ _ _
   (revert H;refine w_p 9 (.st 0 (.st 1 (.st 2 (.st 3 (.st 4 (.st 5 (.st 6 (.st 7 (.st 8 .done))))))))) ?_;intro w1 H)
   iterate 2 refine p_q ?_
   (refine p_e rfl (fun w H=>zbH k (o1+k) rfl rfl rfl (hid rfl)) ?_);(refine p_e rfl (fun w H=>zcd rfl rfl (H.fr.cell HC1.out yg)) ?_)
   iterate 2 refine p_q ?_
   (refine p_e rfl (fun w H=>zbH k (o2+k) rfl rfl rfl (hid rfl)) ?_);(refine p_e rfl (fun w H=>zcd rfl rfl (H.fr.cell HC2.out yg)) ?_);(refine p_e rfl (fun w H=>zbM rfl rfl rfl rfl yZ) ?_);(refine zf ?_)
   all_goals
    revert H;refine W74 ?_;intro H
    go_roundw
    case rel=>exact⟨k+1,congrArg (Value.int .i64) yb,hlt,H⟩
    case measure=>(simp[intOf];try omega)
  ·revert H;refine W74 ?_;intro H _ _ _
   go_ret
   exact⟨rfl,H.fr⟩
def zdZ(w:World){r c n1 n2 n3:Nat}{a1 a2 a3 b1 b2 b3:Option Addr}{d1 d2 d3 e1 e2 e3:Nat}(st ix vl:List Nat)(h1:st.length=n1)(h2:ix.length=n2)(h3:vl.length=n3)(hb1:n1≤100000)(hb2:n2≤100000)(hb3:n3≤100000)
 (A1:Cl w a1 (st.map fun x:Nat=>Value.int .i64 (x:Int))) (A2:Cl w a2 (ix.map fun x:Nat=>Value.int .i64 (x:Int))) (A3:Cl w a3 (vl.map fun x:Nat=>Value.int .u64 (x:Int))) (B1:Cl w b1 (st.map fun x:Nat=>Value.int .i64 (x:Int))) (B2:Cl w b2 (ix.map fun x:Nat=>Value.int .i64 (x:Int))) (B3:Cl w b3 (vl.map fun x:Nat=>Value.int .u64 (x:Int))):
 Calls Tryz.prog 17 #[.agg ([.int .i64 (r:Int), .int .i64 (c:Int), .slice a1 n1 d1, .slice a2 n2 d2, .slice a3 n3 d3]).toArray, .agg ([.int .i64 (r:Int), .int .i64 (c:Int), .slice b1 n1 e1, .slice b2 n2 e2, .slice b3 n3 e3]).toArray] w fun e w'=>e= .returned (.bool true)∧Fr [] w w':=by
 have A1:=hid A1;have A2:=hid A2;have A3:=hid A3;have B1:=hid B1;have B2:=hid B2;have B3:=hid B3;have H1:=hid h1;have H2:=hid h2;have H3:=hid h3;clear h1 h2 h3;have H:=Hp.start [] w
 go_enter Tryz.func17,Tryz.ntmps17
 revert H;refine W74 ?_;intro _ g0 _ _ g1 w1 hg H _ _ _ _;(refine xA H (zkx _ st H1.out hb1 (A1.out.fr H.fr) (B1.out.fr H.fr)) ?_;clear H;intro w1 H);revert H;refine W74 ?_;intro H _ _;(refine xA H (zkx _ ix H2.out hb2 (A2.out.fr H.fr) (B2.out.fr H.fr)) ?_;clear H;intro w1 H);revert H;refine W74 ?_;intro H _ _;(refine xA H (zl5 _ vl H3.out hb3 (A3.out.fr H.fr) (B3.out.fr H.fr)) ?_;clear H;intro w1 H);revert H;refine W74 ?_;intro H
 go_ret
 exact⟨rfl,H.fr⟩
end
end Go.Proofs.YtaijhllckmndhaaGreatDoor
