import Derived.Test.YtaijhllckmndhaaGreatDoorYJ0
import Derived.Test.YtaijhllckmndhaaGreatDoorYJ27
import Derived.Test.YtaijhllckmndhaaGreatDoorYJ20
import Derived.Test.YtaijhllckmndhaaGreatDoorYJ22
import Derived.Test.YtaijhllckmndhaaGreatDoorYJ17
namespace Go.Proofs.YtaijhllckmndhaaGreatDoor
set_option linter.all false
set_option maxHeartbeats 64000000
set_option maxRecDepth 100000
section
open Go.RowKit
def zd0(x y:Int):Int:=if x<y then -1 else if y<x then 1 else 0
def eC(x:En):List Value:=[.int .i64 (x.1:Int), .int .i64 (x.2.1:Int), .int .u64 (x.2.2:Int)]
def zbw(w:World)(x:Int):Calls Tryz.prog 204 #[.int .i64 x] w fun e w'=>e= .returned (.bool false)∧Fr [] w w':=by
 have H:=Hp.start [] w
 go_enter Tryz.func204,Tryz.ntmps204
 revert H;refine W53 ?_;intro H
 go_ret
 exact⟨rfl,H.fr⟩
def zfo(w:World)(x y:Int){z:Int}(hz:Hid (zd0 x y=z)):Calls Tryz.prog 257 #[.int .i64 x, .int .i64 y] w fun e w'=>e= .returned (.int .i64 z)∧Fr [] w w':=by
 have H:=Hp.start [] w
 rcases(show x<y∨y<x∨x=y by omega)with h1|h1|h1
 ·have HZ:Hid (z= -1):=hid (by rw[←hz.out];unfold zd0;rw[if_pos h1])
  go_enter Tryz.func257,Tryz.ntmps257
  revert H;refine W53 ?_;intro H _ _ _ _ _;(refine xA H (zbw _ x) ?_;clear H;intro w1 H);simp only[Int.not_lt,Int.not_le]at*;revert H;refine W53 ?_;intro H _ _ _ _;(refine xA H (zbw _ y) ?_;clear H;intro w1 H);simp only[Int.not_lt,Int.not_le]at*;revert H;refine W53 ?_;intro H _ _
  go_ret
  exact⟨by rw[HZ.out];rfl,H.fr⟩
 ·have HZ:Hid (z=1):=hid (by rw[←hz.out];unfold zd0;rw[if_neg yb,if_pos h1]);have h2:¬x<y:=by omega
  go_enter Tryz.func257,Tryz.ntmps257
  simp only[Int.not_lt,Int.not_le]at*;revert H;refine W53 ?_;intro H _ _ _ _ _;(refine xA H (zbw _ x) ?_;clear H;intro w1 H);simp only[Int.not_lt,Int.not_le]at*;revert H;refine W53 ?_;intro H _ _ _ _;(refine xA H (zbw _ y) ?_;clear H;intro w1 H);simp only[Int.not_lt,Int.not_le]at*;revert H;refine W53 ?_;intro H _ _
  go_ret
  exact⟨by rw[HZ.out];rfl,H.fr⟩
 ·have HZ:Hid (z=0):=hid (by rw[←hz.out,h1];unfold zd0;rw[if_neg yb,if_neg yb]);subst h1
  go_enter Tryz.func257,Tryz.ntmps257
  revert H;refine W53 ?_;intro H _ _ _ _ _;(refine xA H (zbw _ x) ?_;clear H;intro w1 H);simp only[Int.not_lt,Int.not_le]at*;revert H;refine W53 ?_;intro H _ _ _ _;(refine xA H (zbw _ x) ?_;clear H;intro w1 H);simp only[Int.not_lt,Int.not_le]at*;revert H;refine W53 ?_;intro H
  go_ret
  exact⟨by rw[HZ.out];rfl,H.fr⟩
def ztL(w:World)(a b:Int){g:Nat}(ha:w.cell? ⟨g,0,none⟩=some (.int .i64 a))(hb:w.cell? ⟨g,1,none⟩=some (.int .i64 b)){z:Int}(hz:Hid ((if a=0 then b else a)=z)):
 Calls Tryz.prog 256 #[.slice (some ⟨g,0,none⟩) 2 2] w fun e w'=>e= .returned (.int .i64 z)∧Fr [] w w':=by
 have HA:=hid ha;have HB:=hid hb;clear ha hb;have H:=Hp.start [] w
 go_enter Tryz.func256,Tryz.ntmps256
 revert H;refine W53 ?_;intro H _ _ _
 go_loopw [8] (fun s8 wr=>∃k:Nat,s8= .int .i64 (k:Int)∧(k=0∨(k=1∧a=0)∨(k=2∧a=0∧b=0))∧Hp [] w wr []) (fun v _=>3-(intOf v).toNat)
 case atStart=>exact⟨0,rfl, .inl rfl,H⟩
 case round=>
  clear H;obtain⟨k,rfl,hk,H⟩:=hrel
  rcases hk with rfl|⟨rfl,h0⟩|⟨rfl,h0,h1⟩
  ·have hc:=H.fr.cell HA.out yg
   by_cases h0:a=0
   ·have HE:Hid (a=0):=hid h0;clear hz;revert H;refine W54 ?_;intro H
    go_roundw
    case rel=>exact⟨1,rfl, .inr (.inl ⟨rfl,HE.out⟩),H⟩
    case measure=>(simp[intOf];try omega)
   ·have HZ:Hid (z=a):=hid (by rw[←hz.out,if_neg h0]);clear hz;revert H;refine W54 ?_;intro H _ _ _
    go_ret
    exact⟨by rw[HZ.out];rfl,H.fr⟩
  ·have hc:=H.fr.cell HB.out yg;have HZ:Hid (z=b):=hid (by rw[←hz.out,if_pos h0]);have HE:Hid (a=0):=hid h0;clear h0 hz
   by_cases h1:b=0
   ·have HE2:Hid (b=0):=hid h1;revert H;refine W54 ?_;intro H
    go_roundw
    case rel=>exact⟨2,rfl, .inr (.inr ⟨rfl,HE.out,HE2.out⟩),H⟩
    case measure=>(simp[intOf];try omega)
   ·revert H;refine W54 ?_;intro H _ _ _
    go_ret
    exact⟨by rw[HZ.out];rfl,H.fr⟩
  ·have HZ:Hid (z=0):=hid (by rw[←hz.out,if_pos h0,h1]);clear h0 h1 hz;revert H;refine W53 ?_;intro H _ _ _
   go_ret
   exact⟨by rw[HZ.out];rfl,H.fr⟩
def zdY(x y:En):Int:=if zd0 x.2.1 y.2.1=0 then zd0 x.1 y.1 else zd0 x.2.1 y.2.1
def zeX(x y:En):zdY x y<0↔ltE x y:=by
 unfold zdY zd0 ltE
 repeat' split
 all_goals omega
def zlO(w:World)(a b:Int):(Instr.buildSlice 25 2 #[(0, .int .i64 a),(1, .int .i64 b)]).run Tryz.prog w= .ok (.slice (some ⟨w.heap.size,0,none⟩) 2 2) (w.alloc (.cells #[.int .i64 a, .int .i64 b] 3)):=by
 simp only[Instr.buildSlice,Sem.run_bind,run_underlying Tryz.underlying25,Result.andThen_ok,Tryz.sizeOf3,Tryz.zeroValue3,Sem.run_pure];rw[if_neg yf,if_neg yf];have hf:Instr.fill (fun i=>some (i*1,1)) (Array.map (fun x=>(Value.int .i64 0).cells[x%(Value.int .i64 0).cells.size]!) (Array.range (2*1))) [(0, .int .i64 a),(1, .int .i64 b)]=some #[.int .i64 a, .int .i64 b]:=by simp[Instr.fill,Value.cells,show Array.range 2=#[0,1]from rfl]
 simp only[Sem.run_bind,Sem.run_pure,Result.andThen_ok,Tryz.zeroValue3,hf,newRow,run_newObj]
 rfl
def zu4{Q:Exit→Act→World→Prop}{a:Act}{w w0:World}{o:Oper}{K:Act→World→Prop}{T:List Nat}{l:List Ent}(H:Hp T w0 w l){x y:Operand}(ho:o.op= .buildSlice 25 2 #[(0,x),(1,y)]){m n:Int}(hx:a.eval x= .int .i64 m)(hy:a.eval y= .int .i64 n)
 (h:∀g w',w0.heap.size≤g∧w.heap.size≤g→Fr [] w w'→Hp T w0 w' (.blk g [.int .i64 m, .int .i64 n] 3::l)→K (a.put o.dst (.slice (some ⟨g,0,none⟩) 2 2)) w'):o.wp Tryz.prog a w K Q:=by
 refine zU ?_ (h _ _ ⟨H.fr.size,Nat.le_refl _⟩ (Fr.alloc [] w _) (H.alloc [.int .i64 m, .int .i64 n] 3));unfold execOp;simp only[ho,List.map_toArray,List.map_cons,List.map_nil,hx,hy,Sem.run_bind,zlO,Result.andThen_ok,Sem.run_pure]
def zcr(w:World)(x y:En){z:Int}(hz:Hid (zdY x y=z)):Calls Tryz.prog 255 #[.agg (eC x).toArray, .agg (eC y).toArray] w fun e w'=>e= .returned (.int .i64 z)∧Fr [] w w':=by
 have H:=Hp.start [] w;obtain⟨i,j,f⟩:=x;obtain⟨k,l,d⟩:=y;unfold eC;obtain⟨c1,h1⟩:∃c,zd0 (j:Int) (l:Int)=c:=⟨_,rfl⟩;obtain⟨c2,h2⟩:∃c,zd0 (i:Int) (k:Int)=c:=⟨_,rfl⟩;have HZ:Hid ((if c1=0 then c2 else c1)=z):=hid (by rw[←hz.out];unfold zdY;rw[←h1,←h2]);have H1:=hid h1;have H2:=hid h2;clear h1 h2 hz
 go_enter Tryz.func255,Tryz.ntmps255
 revert H;refine W53 ?_;intro _ _ _ _ _ g1 w1 hg H hf _ _
 (revert H;refine w_p 13 (.st 0 (.st 1 (.st 2 (.st 3 (.st 5 (.st 6 (.st 7 (.st 8 (.ld 4 (.ld 9 (.ld 10 (.ld 11 (.st 12 .done))))))))))))) ?_;intro w1 H)
 iterate 8 refine p_q ?_
 ((refine p_c H rfl rfl Tryz.func257 (zfo _ _ _ H1) ?_;clear H;rintro e w1 ⟨rfl,hF⟩ H;refine p_r ?_;clear hF))
 ((refine p_c H rfl rfl Tryz.func257 (zfo _ _ _ H2) ?_;clear H;rintro e w1 ⟨rfl,hF⟩ H;refine p_r ?_;clear hF))
 (revert H;refine p_g (he:=fun H K hK=>zu4 H rfl rfl rfl hK) ?_;intro g w1 hg hf H;(first|replace hf:=hf.kp|clear hf))
 ((refine p_c H rfl rfl Tryz.func256 (ztL _ c1 c2 (H.blkCell (.head _) rfl) (H.blkCell (.head _) rfl) HZ) ?_;clear H;rintro e w1 ⟨rfl,hF⟩ H;refine p_r ?_;clear hF))
 refine p_q ?_;(refine zf ?_)
 all_goals
  revert H;refine W53 ?_;intro H
  go_ret
  exact⟨rfl,H.fr⟩
end
section
open Go.RowKit
section
variable {P:Program} {a:Act} {w w0:World} {o:Oper} {K:Act→World→Prop} {Q:Exit→Act→World→Prop} {T:List Nat} {l:List Ent} {L:List Value} {ds:List Deferred}
def zqO{f:FuncId}{al:List Operand}{ats:Array TypeId}(ho:o.op= .call {callee:= .value (.func f),args:=al.toArray,argTypes:=ats}){fn:Func}(hf:P.funcs[f]? =some fn)(hn:(fn.name== "runtime.NumGoroutine")=false)(hb:fn.body.isNone=false)
 {R:Ending→World→Prop} (hc:Calls P f (al.map a.eval).toArray w R) (h:∀e w',R e w'→∃ch,e= .panicked ch∧Q (.panic ch) a w'):o.wp P a w K Q:=by
 have e1:al.toArray.map a.eval=(al.map a.eval).toArray:=by simp
 unfold Oper.wp execOp;simp only[ho,resolve,Deferred.ofValue,invoke,callFunc,Sem.run_bind,Sem.run_pure,Result.andThen_ok,run_program,hf,hn,hb,Bool.false_eq_true,if_false,Oper.upon,Array.append_empty,Array.empty_append,e1,show a.eval (.func f)= .func (.func f) #[] #[]from rfl];refine Calls.mono hc (fun e w' hR=>?_);obtain⟨v,rfl,hk⟩:=h e w' hR;exact hk
variable {lo:List Oper} {S:World→Prop} {f i:Nat} {k:Plan}
def ztF{fi:FuncId}{al:List Operand}{ats:Array TypeId}(hi:lo[i]? =some o)(ho:o.op= .call {callee:= .value (.func fi),args:=al.toArray,argTypes:=ats}){fn:Func}(hf:P.funcs[fi]? =some fn)
 {R:Ending→World→Prop} (hc:Calls P fi (al.map (Act.mk L.toArray ds).eval).toArray w R) (h:∀e w',R e w'→∃ch,e= .panicked ch∧Q (.panic ch) ⟨L.toArray,ds⟩ w')
 (hn:(fn.name== "runtime.NumGoroutine")=false:=by kernel_rfl) (hb:fn.body.isNone=false:=by rfl)
 (hw:Region.wanted o (yielded lo.toArray L.toArray)=true:=by rfl):Plan.wp P lo.toArray Q S f (.ld i k) ⟨L.toArray,ds⟩ w:=
 zag hi hw fun K hK=>zqO ho hf hn hb hc h
end
section
variable {P:Program} {ops:Array Oper} {Q:Exit→Act→World→Prop} {w w0:World} {rest:List Oper} {o:Oper} {T:List Nat} {l:List Ent} {L:List Value} {ds:List Deferred}
end
def RdrAt.firm{g b c:Nat}{Ls:List (List UInt8)}{i:Nat}:Firm [g,b] (RdrAt g b c Ls i):=by
 refine⟨fun w w' R k hn h=>?_,fun w h x hx=>?_,fun w h=>?_⟩
 ·exact⟨k.get h.hg (hn g yg),h.hne,Nat.lt_of_lt_of_le h.hb k.size,fun j s hj=>k.cell (h.hc j s hj) (hn b yg),h.hN,h.hl⟩
 ·simp only[List.mem_cons,List.not_mem_nil,or_false]at hx
  rcases hx with rfl|rfl
  ·exact zbg h.hg
  ·exact h.hb
 ·exact List.nodup_cons.2 ⟨fun e=>h.hne (List.mem_singleton.1 e).symm,by simp⟩
instance {g b c:Nat} {Ls:List (List UInt8)} {i:Nat}:Fm [g,b] (RdrAt g b c Ls i):=⟨RdrAt.firm⟩
def RdrAt.start{g b c:Nat}{Ls:List (List UInt8)}{i:Nat}{w:World}(h:RdrAt g b c Ls i w):Hp [g,b] w w [.obj 7 [g,b] (RdrAt g b c Ls i)]:=
 (Hp.start [g,b] w).pushObj 7 h RdrAt.firm (fun x hx=> .inl hx) yg
def RdrAt.cell{g b c:Nat}{Ls:List (List UInt8)}{i:Nat}{w:World}(h:RdrAt g b c Ls i w):w.cell? ⟨g,1,none⟩=some (.int .i64 (i:Int)):=by
 simp only[World.cell?,h.hg];rfl
def szP(Ls:List (List UInt8))(i:Nat)(h:Hd):Except (Nat×Nat) (Nat×Nat×Nat×Nat):=
 match sig i (Ls.drop i)with
 | []=> .error (Ls.length+1,103)
 | (k,ws)::_=>match zas h ws with
  | .error e=> .error (k,e)
  | .ok r=> .ok (k,r)
def zn6(o:Except (Nat×Nat) (Nat×Nat×Nat×Nat))(g b c:Nat)(Ls:List (List UInt8))(e:Ending)(w':World):Prop:=
 match o with
 | .error (k,x)=>e= .panicked (zdj k x)
 | .ok (k,m,n,z)=>e= .returned (.tuple #[.int .i64 (m:Int), .int .i64 (n:Int), .int .i64 (z:Int)])∧RdrAt g b c Ls k w'
def zes(x:List UInt8):(zbb x).2=zT x:=by
 unfold zbb zT
 by_cases h:x.all dig=true
 ·rw[if_pos h,h];rfl
 ·rw[if_neg h];rw[Bool.eq_false_iff.2 h];rfl
def dnv(x:List UInt8):Value:= .int .i64 ((zbb x).1:Int)
def szk(k:Nat)(ws:List (List UInt8)):List Value:=(ws.take k).map dnv++List.replicate (3-k) (.int .i64 0)
def zj1{ws:List (List UInt8)}{k:Nat}{x:List UInt8}(h:ws[k]? =some x)(h3:k<3):(szk k ws).set k (dnv x)=szk (k+1) ws:=by
 have hlt:=(List.getElem?_eq_some_iff.1 h).1;unfold szk;rw[List.set_append_right _ _ yn];simp only[List.length_map,List.length_take,Nat.min_eq_left (Nat.le_of_lt hlt),Nat.sub_self];obtain⟨r,hr⟩:∃r,3-k=r+1:=⟨3-k-1,by omega⟩;rw[hr,List.replicate_succ,List.set_cons_zero,List.take_add_one,h,show 3-(k+1)=r by omega];simp only[Option.toList_some,List.map_append,List.map_cons,List.map_nil,List.append_assoc,List.singleton_append]
def zcJ{x:List UInt8}(h:zT x=true):(zbb x).1=min (num x) 1073741824:=by
 unfold zT at h;simp only[Bool.and_eq_true]at h;unfold zbb;rw[if_pos h.1]
def zaM{a:Act}{w:World}{o:Oper}{x:Operand}{i:Int}(ho:o.op= .indexAddr 109 x (.const (.int .i64 i))){b:Nat}(hx:a.eval x= .pointer (some ⟨b,0,none⟩))(h0:0≤i)(h1:i<3){k:Nat}(hk:k=i.toNat):
 (execOp a.eval o).run Tryz.prog w= .ok (.value (.pointer (some ⟨b,k,none⟩))) w:=by
 subst hk;have hu:Tryz.prog.underlying 109=some (.array 3 3):=Tryz.underlying109;have hz:(sizeOf 3).run Tryz.prog w= .ok 1 w:=Tryz.sizeOf3 w;have ec:a.eval (.const (.int .i64 i))= .int .i64 i:=rfl;unfold execOp;simp only[ho,hx,ec,Instr.indexAt,Sem.run_bind,asIntOf,Sem.run_pure,Result.andThen_ok,run_underlying hu]
 simp[h0,h1,hz,zaL,Instr.sureAddr]
def zkz{ws:List (List UInt8)}(h:ws.length=3):∃a b c,ws=[a,b,c]:=by
 match ws,h with
 | [a,b,c],_=>exact⟨a,b,c,rfl⟩
def znA{ws:List (List UInt8)}(h:ws.length=2):∃a b,ws=[a,b]:=by
 match ws,h with
 | [a,b],_=>exact⟨a,b,rfl⟩
def zoB{field sym:Nat}{x y z:List UInt8}(hA:[x,y,z].all zT=true)(hL:sym=0∨zW x=zW y):zas ⟨false,field,sym⟩ [x,y,z]=
 if num x≤200∧num y≤200∧num z≤10000∧(sym=0∨2*num z≤10000)then .ok (num x,num y,num z)else .error 6:=by
 unfold zas;rw[if_pos ⟨rfl,hA,hL⟩];rfl
def znV{field sym:Nat}{x y:List UInt8}(hA:[x,y].all zT=true)(hL:sym=0∨zW x=zW y):zas ⟨true,field,sym⟩ [x,y]=
 if num x≤200∧num y≤200∧zV sym (num x) (num y)≤10000∧(sym=0∨2*zV sym (num x) (num y)≤10000)then .ok (num x,num y,zV sym (num x) (num y))else .error 6:=by
 unfold zas;rw[if_pos ⟨rfl,hA,hL⟩];rfl
def znG{arr:Bool}{field sym:Nat}{x y:List UInt8}{r:List (List UInt8)}(hs:sym≠0)(hL:zW x≠zW y):zas ⟨arr,field,sym⟩ (x::y::r)= .error 101:=by
 unfold zas;rw[if_neg (fun k=>k.2.2.elim hs hL)]
end
section
variable {ws:List (List UInt8)} {k:Nat} {s line d:List UInt8}
open Go.RowKit
def Lh(w:World):Prop:=(∀j s,sFlds[j]? =some s→w.cell? ⟨0,j,none⟩=some (ze s))∧(∀j s,sSyms[j]? =some s→w.cell? ⟨1,j,none⟩=some (ze s))
def Lh.fr{w w':World}{T:List Nat}(h:Lh w)(k:Fr T w w')(h0:0∉T)(h1:1∉T):Lh w':=⟨fun j s hj=>k.cell (h.1 j s hj) h0,fun j s hj=>k.cell (h.2 j s hj) h1⟩
def zo7(h:ws[k]? =some s):(((ws.take k).map low++ws.drop k).map ze).set k (ze (low s))=((ws.take (k+1)).map low++ws.drop (k+1)).map ze:=by
 obtain⟨hlt,rfl⟩:=List.getElem?_eq_some_iff.1 h;rw[←List.map_set,List.set_append_right _ _ yn];simp only[List.length_map,List.length_take,Nat.min_eq_left (Nat.le_of_lt hlt),Nat.sub_self];rw[List.drop_eq_getElem_cons hlt,List.set_cons_zero,List.take_add_one,h];simp only[Option.toList_some,List.map_append,List.map_cons,List.map_nil,List.append_assoc,List.singleton_append]
def zqk(h:ws[k]? =some s):(((ws.take k).map low++ws.drop k).map ze)[k]? =some (ze s):=by
 obtain⟨hlt,he⟩:=List.getElem?_eq_some_iff.1 h;rw[List.getElem?_map,List.getElem?_append_right yn];simp only[List.length_map,List.length_take,Nat.min_eq_left (Nat.le_of_lt hlt),Nat.sub_self,List.getElem?_drop,Nat.add_zero];rw[h];rfl
def zhd(h:Hd):List Value:=[.int .i64 0, .int .i64 0, .slice none 0 0, .slice none 0 0, .slice none 0 0, .bool h.arr, .int .i64 (h.field:Int), .int .i64 (h.sym:Int)]
def zp8(a b c d e:List UInt8):Option Hd:=if a=sMM∧b=zfi∧(c=sCoo∨c=sArr)∧d∈sFlds∧e∈sSyms∧¬(c=sArr∧sFlds.idxOf d=2)then some ⟨decide (c=sArr),sFlds.idxOf d,sSyms.idxOf e⟩else none
def zrA{a b c e:List UInt8}(h:zE line=ws)(h5:ws.map low=[a,b,c,d,e]):hdr line=zp8 a b c d e:=by
 unfold hdr;rw[h,h5];rfl
def zsU(h:zE line=ws)(h5:ws.length≠5):hdr line=none:=by
 unfold hdr;rw[h];have h6:(ws.map low).length≠5:=by simpa using h5
 generalize ws.map low=vs at h6
 split
 ·simp at h6
 ·rfl
def zr2{vs:List (List UInt8)}(h:vs.length=5):∃a b c d e,vs=[a,b,c,d,e]:=by
 match vs,h with
 | [a,b,c,d,e],_=>exact⟨a,b,c,d,e,rfl⟩
def zhA(h:d∈sFlds):sFlds.idxOf d≤2:=by have:=List.idxOf_lt_length_of_mem h;have e:sFlds.length=3:=rfl;omega
def zhM(h:d∈sSyms):sSyms.idxOf d≤2:=by have:=List.idxOf_lt_length_of_mem h;have e:sSyms.length=3:=rfl;omega
def zr7(o:Option Hd)(gf:Nat)(e:Ending)(w':World):Prop:=
 match o with
 | some h=>e= .returned (.bool true)∧w'.heap[gf]? =some (.cells (zhd h).toArray 30 (0,0))
 | none=>e= .returned (.bool false)∧∃cs:List Value,cs.length=8∧w'.heap[gf]? =some (.cells cs.toArray 30 (0,0))
def znl{gf:Nat}{w:World}(line:List UInt8)(hlen:line.length≤2000000)(hf0:w.heap[gf]? =some (.cells (zhd ⟨false,0,0⟩).toArray 30 (0,0)))(hL:Lh w)(h2:2≤gf){o:Option Hd}(ho:Hid (hdr line=o)):
 Calls Tryz.prog 27 #[ze line, .pointer (some ⟨gf,0,none⟩)] w fun e w'=>Fr [gf] w w'∧zr7 o gf e w':=by
 have H:=(Hp.start [gf] w).push hf0 (.inl yg) yg;have HL:=hid hL;clear hL hf0;obtain⟨ws,hws0⟩:∃ws,zE line=ws:=⟨_,rfl⟩;have hws:=hid hws0;have hwc:=zba line;rw[hws0]at hwc;have HWZ:=hid (show ∀x∈ws,x.length≤2000000 from fun x hx=>Nat.le_trans (zbN (hws0 ▸ hx)) hlen);clear hws0;unfold zhd at H
 go_enter Tryz.func27,Tryz.ntmps27
 simp only[Int.not_lt,Int.not_le]at*;revert H;refine W51 ?_;intro H _ _ _ _ _
 (have H0:=H;refine Calls.mono (zeT _ hws yb) ?_;clear H;rintro e w1 ⟨q,rfl,hF,hq,hc⟩;have HQ:=hid (Nat.le_trans H0.fr.size hq);have H:=H0.bornB hF hq hc;clear H0;clear hF hq hc)
 simp only[Int.not_lt,Int.not_le]at*;revert H;refine W51 ?_;intro H _ _
 go_loopw [12] (fun s12 wr=>∃(k:Nat) (cs:List Value),s12= .int .i64 (k:Int)∧k≤ws.length∧cs.length=ws.length∧Hid (cs=((ws.take k).map low++ws.drop k).map ze)∧Hp [gf] w wr [.blk q cs 9, .blk gf [.int .i64 0, .int .i64 0, .slice none 0 0, .slice none 0 0, .slice none 0 0, .bool false, .int .i64 ((0:Nat):Int), .int .i64 ((0:Nat):Int)] 30]) (fun v _=>ws.length-(intOf v).toNat)
 case atStart=>exact⟨0,ws.map ze,rfl,Nat.zero_le _,by simp,hid yg,H⟩
 case round=>
  clear H;obtain⟨k,cs,rfl,hk,hcl,HC,H⟩:=hrel
  by_cases hlt:k<ws.length
  ·obtain⟨s,hs⟩:∃s,ws[k]? =some s:=⟨_,List.getElem?_eq_getElem hlt⟩;have hget:cs[k]? =some (ze s):=by rw[HC.out];exact zqk hs
   have HC2:=hid (show cs.set k (ze (low s))=((ws.take (k+1)).map low++ws.drop (k+1)).map ze by rw[HC.out];exact zo7 hs);have hsl:=HWZ.out s (List.mem_of_getElem? hs);clear HC;revert H;refine W51 ?_;intro H _ _ _ _ _;(refine xA H (zpE _ s yb) ?_;clear H;intro w1 H);simp only[Int.not_lt,Int.not_le]at*;revert H;refine W51 ?_;intro w1 H
   go_roundw
   case rel=>exact⟨k+1,_,rfl,by omega,by rw[List.length_set];exact hcl,HC2,H⟩
   case measure=>(simp[intOf];try omega)
  ·have hke:k=ws.length:=by omega
   have HC2:Hid (cs=(ws.map low).map ze):=hid (by rw[HC.out,hke];simp);clear hke HC
   by_cases h5:ws.length=5
   ·obtain⟨a,b,c,d,x,hv⟩:=zr2 (vs:=ws.map low) (by simpa using h5);have HH:=hid (ho.out.symm.trans (zrA hws.out hv));have hcs:cs=[ze a,ze b,ze c,ze d,ze x]:=by rw[HC2.out,hv];rfl
    subst hcs;clear HC2 hv;obtain⟨za,hza⟩:∃z,(a==sMM)=z:=⟨_,rfl⟩;obtain⟨zb,hzb⟩:∃z,(b==zfi)=z:=⟨_,rfl⟩;obtain⟨zc,hzc⟩:∃z,(c==sCoo)=z:=⟨_,rfl⟩;obtain⟨zr,hzr⟩:∃z,(c==sArr)=z:=⟨_,rfl⟩;obtain⟨z3,hz3⟩:∃z,zcu sFlds d=z:=⟨_,rfl⟩;obtain⟨z4,hz4⟩:∃z,zcu sSyms x=z:=⟨_,rfl⟩;have HZ3:=hid hz3;have HZ4:=hid hz4;have HZA:=hid hza;have HZB:=hid hzb;have HZC:=hid hzc;have HZR:=hid hzr;have flip:∀ {p q:List UInt8} {z:Bool},(p==q)=z→z=true→p=q:=fun h e=>by rw[e]at h;exact eq_of_beq h
    have fno:∀ {p q:List UInt8} {z:Bool},(p==q)=z→z=false→p≠q:=fun h e=>by rw[e]at h;exact ne_of_beq_false h
    cases za
    ·have HN:Hid (o=none):=hid (HH.out.trans (if_neg fun k=>fno hza rfl k.1));clear hza hzb hzc hzr hz3 hz4 HH flip fno;revert H;refine W51 ?_;intro H _ _ _ _ _
     (go_ret;refine⟨H.fr,?_⟩;rw[HN.out];exact⟨rfl,_,rfl,H.get (.tail _ (.head _))⟩)
    ·cases zb
     ·have HN:Hid (o=none):=hid (HH.out.trans (if_neg fun k=>fno hzb rfl k.2.1));clear hza hzb hzc hzr hz3 hz4 HH flip fno;revert H;refine W51 ?_;intro H _ _ _ _ _
      (go_ret;refine⟨H.fr,?_⟩;rw[HN.out];exact⟨rfl,_,rfl,H.get (.tail _ (.head _))⟩)
     ·cases zc
      ·cases zr
       ·have HN:Hid (o=none):=hid (HH.out.trans (if_neg fun k=>k.2.2.1.elim (fno hzc rfl) (fno hzr rfl)));clear hza hzb hzc hzr hz3 hz4 HH flip fno;revert H;refine W51 ?_;intro H _ _ _ _ _
        (go_ret;refine⟨H.fr,?_⟩;rw[HN.out];exact⟨rfl,_,rfl,H.get (.tail _ (.head _))⟩)
       ·have HO:Hid (o=if d∈sFlds∧x∈sSyms∧sFlds.idxOf d≠2 then some ⟨true,sFlds.idxOf d,sSyms.idxOf x⟩else none):=hid (by
         rw[HH.out];unfold zp8;have e1:=flip hza rfl;have e2:=flip hzb rfl;have e3:=flip hzr rfl;subst e1 e2 e3
         simp)
        clear hza hzb hzc hzr HH flip fno
        by_cases hd:d∈sFlds
        ·have hfl:=zhA hd;obtain⟨f,hf⟩:∃f,sFlds.idxOf d=f:=⟨_,rfl⟩;have e3:z3=(f:Int):=by rw[←hz3];unfold zcu;rw[if_pos hd,hf]
         rw[hf]at hfl;subst e3;clear hz3
         by_cases hx:x∈sSyms
         ·have hsl:=zhM hx;obtain⟨y,hy⟩:∃y,sSyms.idxOf x=y:=⟨_,rfl⟩;have e4:z4=(y:Int):=by rw[←hz4];unfold zcu;rw[if_pos hx,hy]
          rw[hy]at hsl;subst e4;clear hz4
          by_cases hf2:f=2
          ·have HN:Hid (o=none):=hid (by rw[HO.out,if_neg (fun k=>k.2.2 (hf.trans hf2))]);subst hf2;clear HO hd hx hf hy;revert H;refine W51 ?_;intro _ _ _ w1 H _ _
           (revert H;refine w_p 8 (.st 0 (.st 1 (.st 2 (.st 3 (.st 4 (.ld 5 (.st 6 (.st 7 (.ld 8 .done))))))))) ?_;intro w1 H)
           iterate 5 refine p_q ?_
           ((refine p_c H rfl rfl Tryz.func69 (zam _ sFlds d rfl yf (HL.out.fr H.fr yn yn).1 HZ3) ?_;clear H;rintro e w1 ⟨rfl,hF⟩ H;refine p_r ?_;clear hF))
           iterate 2 refine p_q ?_
           (revert H;refine p_s ?_;intro w1 hf H;(first|replace hf:=hf.kp|clear hf))
           (refine zf ?_)
           all_goals
            revert H;refine W51 ?_;intro H _ _
            (revert H;refine w_p 8 (.st 0 (.st 1 (.st 2 (.st 3 (.st 4 (.ld 5 (.st 6 (.st 7 (.ld 8 .done))))))))) ?_;intro w1 H)
            iterate 5 refine p_q ?_
            ((refine p_c H rfl rfl Tryz.func69 (zam _ sSyms x rfl yf (HL.out.fr H.fr yn yn).2 HZ4) ?_;clear H;rintro e w1 ⟨rfl,hF⟩ H;refine p_r ?_;clear hF))
            iterate 2 refine p_q ?_
            (revert H;refine p_s ?_;intro w1 hf H;(first|replace hf:=hf.kp|clear hf))
            (refine zf ?_)
            all_goals
             revert H;refine W51 ?_;intro H
             (go_ret;refine⟨H.fr,?_⟩;rw[HN.out];exact⟨rfl,_,rfl,H.get (.tail _ (.head _))⟩)
          ·have HN:Hid (o=some ⟨true,f,y⟩):=hid (by rw[HO.out,if_pos ⟨hd,hx,fun e=>hf2 (hf.symm.trans e)⟩,hf,hy]);have hf2':¬(f:Int)=2:=by omega
           clear HO hd hx hf hy hf2;revert H;refine W51 ?_;intro _ _ _ w1 H _ _
           (revert H;refine w_p 8 (.st 0 (.st 1 (.st 2 (.st 3 (.st 4 (.ld 5 (.st 6 (.st 7 (.ld 8 .done))))))))) ?_;intro w1 H)
           iterate 5 refine p_q ?_
           ((refine p_c H rfl rfl Tryz.func69 (zam _ sFlds d rfl yf (HL.out.fr H.fr yn yn).1 HZ3) ?_;clear H;rintro e w1 ⟨rfl,hF⟩ H;refine p_r ?_;clear hF))
           iterate 2 refine p_q ?_
           (revert H;refine p_s ?_;intro w1 hf H;(first|replace hf:=hf.kp|clear hf))
           (refine zf ?_)
           all_goals
            revert H;refine W51 ?_;intro H _ _
            (revert H;refine w_p 8 (.st 0 (.st 1 (.st 2 (.st 3 (.st 4 (.ld 5 (.st 6 (.st 7 (.ld 8 .done))))))))) ?_;intro w1 H)
            iterate 5 refine p_q ?_
            ((refine p_c H rfl rfl Tryz.func69 (zam _ sSyms x rfl yf (HL.out.fr H.fr yn yn).2 HZ4) ?_;clear H;rintro e w1 ⟨rfl,hF⟩ H;refine p_r ?_;clear hF))
            iterate 2 refine p_q ?_
            (revert H;refine p_s ?_;intro w1 hf H;(first|replace hf:=hf.kp|clear hf))
            (refine zf ?_)
            all_goals
             revert H;refine W51 ?_;intro H
             (go_ret;refine⟨H.fr,?_⟩;rw[HN.out];exact⟨rfl,H.get (.tail _ (.head _))⟩)
         ·have e4:z4= -1:=by rw[←hz4];unfold zcu;rw[if_neg hx]
          have HN:Hid (o=none):=hid (by rw[HO.out,if_neg (by intro k;exact hx (by first|exact k.2|exact k.2.1))]);subst e4;clear hz4 HO hd hx hf;revert H;refine W51 ?_;intro _ _ _ w1 H _ _
          (revert H;refine w_p 8 (.st 0 (.st 1 (.st 2 (.st 3 (.st 4 (.ld 5 (.st 6 (.st 7 (.ld 8 .done))))))))) ?_;intro w1 H)
          iterate 5 refine p_q ?_
          ((refine p_c H rfl rfl Tryz.func69 (zam _ sFlds d rfl yf (HL.out.fr H.fr yn yn).1 HZ3) ?_;clear H;rintro e w1 ⟨rfl,hF⟩ H;refine p_r ?_;clear hF))
          iterate 2 refine p_q ?_
          (revert H;refine p_s ?_;intro w1 hf H;(first|replace hf:=hf.kp|clear hf))
          (refine zf ?_)
          all_goals
           revert H;refine W51 ?_;intro H _ _
           (revert H;refine w_p 8 (.st 0 (.st 1 (.st 2 (.st 3 (.st 4 (.ld 5 (.st 6 (.st 7 (.ld 8 .done))))))))) ?_;intro w1 H)
           iterate 5 refine p_q ?_
           ((refine p_c H rfl rfl Tryz.func69 (zam _ sSyms x rfl yf (HL.out.fr H.fr yn yn).2 HZ4) ?_;clear H;rintro e w1 ⟨rfl,hF⟩ H;refine p_r ?_;clear hF))
           iterate 2 refine p_q ?_
           (revert H;refine p_s ?_;intro w1 hf H;(first|replace hf:=hf.kp|clear hf))
           (refine zf ?_)
           all_goals
            revert H;refine W51 ?_;intro H
            (go_ret;refine⟨H.fr,?_⟩;rw[HN.out];exact⟨rfl,_,rfl,H.get (.tail _ (.head _))⟩)
        ·have e3:z3= -1:=by rw[←hz3];unfold zcu;rw[if_neg hd]
         have HN:Hid (o=none):=hid (by rw[HO.out,if_neg (fun k=>hd k.1)]);subst e3;clear hz3 hz4 HO hd;revert H;refine W51 ?_;intro _ _ _ w1 H _ _
         (revert H;refine w_p 8 (.st 0 (.st 1 (.st 2 (.st 3 (.st 4 (.ld 5 (.st 6 (.st 7 (.ld 8 .done))))))))) ?_;intro w1 H)
         iterate 5 refine p_q ?_
         ((refine p_c H rfl rfl Tryz.func69 (zam _ sFlds d rfl yf (HL.out.fr H.fr yn yn).1 HZ3) ?_;clear H;rintro e w1 ⟨rfl,hF⟩ H;refine p_r ?_;clear hF))
         iterate 2 refine p_q ?_
         (revert H;refine p_s ?_;intro w1 hf H;(first|replace hf:=hf.kp|clear hf))
         (refine zf ?_)
         all_goals
          revert H;refine W51 ?_;intro H _ _
          (revert H;refine w_p 8 (.st 0 (.st 1 (.st 2 (.st 3 (.st 4 (.ld 5 (.st 6 (.st 7 (.ld 8 .done))))))))) ?_;intro w1 H)
          iterate 5 refine p_q ?_
          ((refine p_c H rfl rfl Tryz.func69 (zam _ sSyms x rfl yf (HL.out.fr H.fr yn yn).2 HZ4) ?_;clear H;rintro e w1 ⟨rfl,hF⟩ H;refine p_r ?_;clear hF))
          iterate 2 refine p_q ?_
          (revert H;refine p_s ?_;intro w1 hf H;(first|replace hf:=hf.kp|clear hf))
          (refine zf ?_)
          all_goals
           revert H;refine W51 ?_;intro H
           (go_ret;refine⟨H.fr,?_⟩;rw[HN.out];exact⟨rfl,_,rfl,H.get (.tail _ (.head _))⟩)
      ·have hne:zr=false:=by
        rw[←hzr,flip hzc rfl];rfl
       have HO:Hid (o=if d∈sFlds∧x∈sSyms then some ⟨false,sFlds.idxOf d,sSyms.idxOf x⟩else none):=hid (by
        rw[HH.out];unfold zp8;have e1:=flip hza rfl;have e2:=flip hzb rfl;have e3:=flip hzc rfl;subst e1 e2 e3;have e4:¬sCoo=sArr:=by decide
        simp[e4])
       subst hne;clear hza hzb hzc hzr HH flip fno
       by_cases hd:d∈sFlds
       ·have hfl:=zhA hd;obtain⟨f,hf⟩:∃f,sFlds.idxOf d=f:=⟨_,rfl⟩;have e3:z3=(f:Int):=by rw[←hz3];unfold zcu;rw[if_pos hd,hf]
        rw[hf]at hfl;subst e3;clear hz3
        by_cases hx:x∈sSyms
        ·have hsl:=zhM hx;obtain⟨y,hy⟩:∃y,sSyms.idxOf x=y:=⟨_,rfl⟩;have e4:z4=(y:Int):=by rw[←hz4];unfold zcu;rw[if_pos hx,hy]
         rw[hy]at hsl;subst e4;clear hz4;have HN:Hid (o=some ⟨false,f,y⟩):=hid (by rw[HO.out,if_pos ⟨hd,hx⟩,hf,hy]);clear HO hd hx hf hy;revert H;refine W51 ?_;intro _ _ _ w1 H _ _
         (revert H;refine w_p 8 (.st 0 (.st 1 (.st 2 (.st 3 (.st 4 (.ld 5 (.st 6 (.st 7 (.ld 8 .done))))))))) ?_;intro w1 H)
         iterate 5 refine p_q ?_
         ((refine p_c H rfl rfl Tryz.func69 (zam _ sFlds d rfl yf (HL.out.fr H.fr yn yn).1 HZ3) ?_;clear H;rintro e w1 ⟨rfl,hF⟩ H;refine p_r ?_;clear hF))
         iterate 2 refine p_q ?_
         (revert H;refine p_s ?_;intro w1 hf H;(first|replace hf:=hf.kp|clear hf))
         (refine zf ?_)
         all_goals
          revert H;refine W51 ?_;intro H _ _
          (revert H;refine w_p 8 (.st 0 (.st 1 (.st 2 (.st 3 (.st 4 (.ld 5 (.st 6 (.st 7 (.ld 8 .done))))))))) ?_;intro w1 H)
          iterate 5 refine p_q ?_
          ((refine p_c H rfl rfl Tryz.func69 (zam _ sSyms x rfl yf (HL.out.fr H.fr yn yn).2 HZ4) ?_;clear H;rintro e w1 ⟨rfl,hF⟩ H;refine p_r ?_;clear hF))
          iterate 2 refine p_q ?_
          (revert H;refine p_s ?_;intro w1 hf H;(first|replace hf:=hf.kp|clear hf))
          (refine zf ?_)
          all_goals
           revert H;refine W51 ?_;intro H
           (go_ret;refine⟨H.fr,?_⟩;rw[HN.out];exact⟨rfl,H.get (.tail _ (.head _))⟩)
        ·have e4:z4= -1:=by rw[←hz4];unfold zcu;rw[if_neg hx]
         have HN:Hid (o=none):=hid (by rw[HO.out,if_neg (by intro k;exact hx (by first|exact k.2|exact k.2.1))]);subst e4;clear hz4 HO hd hx hf;revert H;refine W51 ?_;intro _ _ _ w1 H _ _
         (revert H;refine w_p 8 (.st 0 (.st 1 (.st 2 (.st 3 (.st 4 (.ld 5 (.st 6 (.st 7 (.ld 8 .done))))))))) ?_;intro w1 H)
         iterate 5 refine p_q ?_
         ((refine p_c H rfl rfl Tryz.func69 (zam _ sFlds d rfl yf (HL.out.fr H.fr yn yn).1 HZ3) ?_;clear H;rintro e w1 ⟨rfl,hF⟩ H;refine p_r ?_;clear hF))
         iterate 2 refine p_q ?_
         (revert H;refine p_s ?_;intro w1 hf H;(first|replace hf:=hf.kp|clear hf))
         (refine zf ?_)
         all_goals
          revert H;refine W51 ?_;intro H _ _
          (revert H;refine w_p 8 (.st 0 (.st 1 (.st 2 (.st 3 (.st 4 (.ld 5 (.st 6 (.st 7 (.ld 8 .done))))))))) ?_;intro w1 H)
          iterate 5 refine p_q ?_
          ((refine p_c H rfl rfl Tryz.func69 (zam _ sSyms x rfl yf (HL.out.fr H.fr yn yn).2 HZ4) ?_;clear H;rintro e w1 ⟨rfl,hF⟩ H;refine p_r ?_;clear hF))
          iterate 2 refine p_q ?_
          (revert H;refine p_s ?_;intro w1 hf H;(first|replace hf:=hf.kp|clear hf))
          (refine zf ?_)
          all_goals
           revert H;refine W51 ?_;intro H
           (go_ret;refine⟨H.fr,?_⟩;rw[HN.out];exact⟨rfl,_,rfl,H.get (.tail _ (.head _))⟩)
       ·have e3:z3= -1:=by rw[←hz3];unfold zcu;rw[if_neg hd]
        have HN:Hid (o=none):=hid (by rw[HO.out,if_neg (fun k=>hd k.1)]);subst e3;clear hz3 hz4 HO hd;revert H;refine W51 ?_;intro _ _ _ w1 H _ _
        (revert H;refine w_p 8 (.st 0 (.st 1 (.st 2 (.st 3 (.st 4 (.ld 5 (.st 6 (.st 7 (.ld 8 .done))))))))) ?_;intro w1 H)
        iterate 5 refine p_q ?_
        ((refine p_c H rfl rfl Tryz.func69 (zam _ sFlds d rfl yf (HL.out.fr H.fr yn yn).1 HZ3) ?_;clear H;rintro e w1 ⟨rfl,hF⟩ H;refine p_r ?_;clear hF))
        iterate 2 refine p_q ?_
        (revert H;refine p_s ?_;intro w1 hf H;(first|replace hf:=hf.kp|clear hf))
        (refine zf ?_)
        all_goals
         revert H;refine W51 ?_;intro H _ _
         (revert H;refine w_p 8 (.st 0 (.st 1 (.st 2 (.st 3 (.st 4 (.ld 5 (.st 6 (.st 7 (.ld 8 .done))))))))) ?_;intro w1 H)
         iterate 5 refine p_q ?_
         ((refine p_c H rfl rfl Tryz.func69 (zam _ sSyms x rfl yf (HL.out.fr H.fr yn yn).2 HZ4) ?_;clear H;rintro e w1 ⟨rfl,hF⟩ H;refine p_r ?_;clear hF))
         iterate 2 refine p_q ?_
         (revert H;refine p_s ?_;intro w1 hf H;(first|replace hf:=hf.kp|clear hf))
         (refine zf ?_)
         all_goals
          revert H;refine W51 ?_;intro H
          (go_ret;refine⟨H.fr,?_⟩;rw[HN.out];exact⟨rfl,_,rfl,H.get (.tail _ (.head _))⟩)
   ·have HN:=hid (ho.out.symm.trans (zsU hws.out h5));have h5':¬(ws.length:Int)=5:=by omega
    clear HC2 h5;revert H;refine W51 ?_;intro H _ _ _ _ _
    go_ret
    refine⟨H.fr,?_⟩;rw[HN.out];exact⟨rfl,_,rfl,H.get (.tail _ (.head _))⟩
end
end Go.Proofs.YtaijhllckmndhaaGreatDoor
