import Derived.Test.YtaijhllckmndhaaGreatDoorYJ0
import Derived.Test.YtaijhllckmndhaaGreatDoorYJ3
namespace Go.Proofs.YtaijhllckmndhaaGreatDoor
set_option linter.all false
set_option maxHeartbeats 64000000
set_option maxRecDepth 100000
section
open Go.RowKit
def zf4{α β:Type}(g:α→List β)(n:Nat):∀(l:List α),(∀x∈l,(g x).length=n)→(l.flatMap g).length=l.length*n
 | [],_=>by simp
 | x::l,h=>by
  rw[List.flatMap_cons,List.length_append,h x List.mem_cons_self,zf4 g n l (fun y hy=>h y (List.mem_cons_of_mem _ hy)),List.length_cons,Nat.add_mul];omega
def zhn{w:World}{a:Addr}{v:Value}(h:w.cell? a=some v):a.block<w.heap.size:=by
 unfold World.cell? at h
 by_cases hb:a.block<w.heap.size
 ·exact hb
 ·rw[Array.getElem?_eq_none yb]at h
  simp at h
section
variable {P:Program} {ops:Array Oper} {Q:Exit→Act→World→Prop} {a:Act} {w w0:World} {rest:List Oper} {o:Oper} {K:Act→World→Prop} {T:List Nat} {l:List Ent} {L:List Value} {ds:List Deferred}
def Parts.sized{s:Nat}{i:Nat}{ps:List (Nat×Operand)}{css:List (List Value)}(h:Parts L i ps css)(hs:∀c∈css,c.length=s):∃vs:List Value,(ps.map fun(i,x)=>(i,(Act.mk L.toArray ds).eval x))=zaG i vs∧(vs.flatMap fun v=>v.cells.toList)=css.flatten∧vs.length=css.length∧∀v∈vs,v.cells.size=s:=by
 induction h with
 | nil i=>exact⟨[],rfl,rfl,rfl,by simp⟩
 | @tmp i n v c ps cs h hc k ih=>
  obtain⟨vs,h1,h2,h3,h4⟩:=ih (fun c hc=>hs c (List.mem_cons_of_mem _ hc));have e:(Act.mk L.toArray ds).eval (.tmp n)=v:=by simp[Act.eval,h]
  refine⟨v::vs,by simp[zaG,h1,e],by simp[h2,hc],by simp[h3],fun u hu=>?_⟩
  rcases List.mem_cons.1 hu with rfl|hu
  ·rw[hc];simpa using hs c List.mem_cons_self
  ·exact h4 u hu
 | @con i v c ps cs hc k ih=>
  obtain⟨vs,h1,h2,h3,h4⟩:=ih (fun c hc=>hs c (List.mem_cons_of_mem _ hc));have e:(Act.mk L.toArray ds).eval (.const v)=v:=rfl;refine⟨v::vs,by simp[zaG,h1,e],by simp[h2,hc],by simp[h3],fun u hu=>?_⟩
  rcases List.mem_cons.1 hu with rfl|hu
  ·rw[hc];simpa using hs c List.mem_cons_self
  ·exact h4 u hu
def zkb(s:Nat):∀(vs:List Value) (i:Nat),(∀v∈vs,v.cells.size=s)→zeM (fun i=>some (i*s,s)) i (i*s) vs=true
 | [],_,_=>rfl
 | v::vs,i,h=>by
  have hv:=h v List.mem_cons_self;simp only[zeM,hv,beq_self_eq_true,Bool.true_and];rw[show i*s+s=(i+1)*s by rw[Nat.add_mul];omega];exact zkb s vs (i+1) (fun u hu=>h u (List.mem_cons_of_mem _ hu))
def zez(H:Hp T w0 w l){t:TypeId}{n:Nat}{ps:List (Nat×Operand)}(ho:o.op= .buildSlice t n ps.toArray){css:List (List Value)}(hp:Parts L 0 ps css){e:TypeId}{z:List Value}{s by':Nat}[hsi:Si P t e z s by'](hn:css.length=n)(hs:∀c∈css,c.length=s)(h24:n*s≤16777216)(h0:s≠0)
 (h:∀g w',w0.heap.size≤g∧w.heap.size≤g→Fr [] w w'→Hp T w0 w' (.blk g css.flatten e::l)→K (Act.put (Act.mk L.toArray ds) o.dst (.slice (some ⟨g,0,none⟩) n n)) w'):o.wp P (Act.mk L.toArray ds) w K Q:=by
 obtain⟨hu,i,zv,h2,h3,h4,h5,h6⟩:=zaW hsi.h;subst h5 h6;obtain⟨vs,hv1,hv2,hv3,hv4⟩:=hp.sized (ds:=ds) hs
 have e1:(Instr.buildSlice t n ((ps.toArray.map fun(i,x)=>(i,(Act.mk L.toArray ds).eval x)))).run P w= .ok (.slice (some ⟨w.heap.size,0,none⟩) n n) (w.alloc (.cells css.flatten.toArray e)):=by
  have hl:(vs.flatMap fun v=>v.cells.toList).length=n*i.size:=by
   rw[zf4 (fun v:Value=>v.cells.toList) i.size vs (fun v hv=>by rw[Array.length_toList];exact hv4 v hv),hv3,hn]
  have hf:=zgB (fun k=>some (k*i.size,i.size)) vs 0 [] ((Array.range (n*i.size)).map (zv.cells[· %zv.cells.size]!)).toList (by simpa using zkb i.size vs 0 hv4) (by rw[hl];simp);rw[hl,List.drop_eq_nil_of_le yg,List.append_nil,List.nil_append,List.nil_append,hv2]at hf;have e2:(ps.toArray.map fun(i,x)=>(i,(Act.mk L.toArray ds).eval x)).toList=zaG 0 vs:=by simpa using hv1
  simp only[Instr.buildSlice,Sem.run_bind,run_underlying hu,Result.andThen_ok,sizeOf,typeInfo,run_program,h2,Sem.run_pure,zeroValue];rw[if_neg yb]
  by_cases hz0:n*i.size=0
  ·have hn0:n=0:=by rcases Nat.mul_eq_zero.1 hz0 with h|h;exact h;exact absurd h h0
   subst hn0;have hc0:css=[]:=List.eq_nil_of_length_eq_zero hn;subst hc0;have hp0:ps=[]:=by cases hp;rfl
   subst hp0
   simp[Instr.fill,newRow,run_newObj]
   congr 1;congr 1;apply Array.ext';simp[Array.range]
  ·rw[if_neg hz0];simp only[Sem.run_bind,Sem.run_pure,Result.andThen_ok,run_program,h2,h3,e2];rw[Array.toArray_toList]at hf;simp only[hf,newRow,Sem.run_bind,run_newObj,Result.andThen_ok,Sem.run_pure]
   rfl
 refine zU ?_ (h _ _ ⟨H.fr.size,Nat.le_refl _⟩ (Fr.alloc [] w _) (H.alloc css.flatten e));unfold execOp;simp only[ho,Sem.run_bind,e1,Result.andThen_ok,Sem.run_pure]
end
def Rd.addr{w:World}{v:Value}{n:Nat}{cs:List Value}(h:Rd w v n cs)(hc:cs≠[]):∃b off c,v= .slice (some ⟨b,off,none⟩) n c∧b<w.heap.size∧∀(j:Nat) u,cs[j]? =some u→w.cell? ⟨b,off+j,none⟩=some u:=by
 rcases h with⟨_,h4,_⟩|⟨ad,c',rfl,h5⟩
 ·exact absurd h4 hc
 ·obtain⟨x,xs,rfl⟩:∃x xs,cs=x::xs:=by cases cs with|nil=>exact absurd rfl hc|cons x xs=>exact⟨x,xs,rfl⟩
  obtain⟨b,off,spot⟩:=ad;have h9:=h5 0 x rfl;have hs:spot=none:=by simpa[Addr.add]using World.cell?_spot h9
  subst hs;refine⟨b,off,c',rfl,by simpa[Addr.add]using zhn h9,fun j u hj=>?_⟩
  have:=h5 j u hj
  rwa [zaL]at this
def Rd.form{w:World}{v:Value}{n:Nat}{cs:List Value}(h:Rd w v n cs):∃p c,v= .slice p n c:=by
 rcases h with⟨rfl,_,p,c,rfl⟩|⟨ad,c,rfl,_⟩
 ·exact⟨p,c,rfl⟩
 ·exact⟨_,c,rfl⟩
section
variable {P:Program} {Q:Exit→Act→World→Prop} {a:Act} {w:World} {o:Oper} {lo:List Oper}
def zux{t:TypeId}{x:Operand}(ho:o.op= .unOp .not t x){b:Bool}(hx:a.eval x= .bool b):(execOp a.eval o).run P w= .ok (.value (.bool (!b))) w:=by
 unfold execOp;simp[ho,hx,Op.unary]
def zrN{t t':TypeId}{x:Operand}(ho:o.op= .binOp .eql t x (.const (.slice none 0 0)) t'){p:Option Addr}{n c:Nat}(hx:a.eval x= .slice p n c){e:TypeId}{z:List Value}{s by':Nat}[h:Si P t e z s by']:(execOp a.eval o).run P w= .ok (.value (.bool p.isNone)) w:=by
 obtain⟨hu,_⟩:=zaW h.h;have e1:(eqGuard .eql t x (.const (.slice none 0 0)) (.slice p n c) (.slice none 0 0)).run P w= .ok () w:=by unfold eqGuard;simp
 have hn:a.eval (.const (.slice none 0 0))= .slice none 0 0:=rfl;unfold execOp;simp only[ho,hx,hn,Sem.run_bind,e1,Result.andThen_ok]
 have e2:(Op.equal t (.slice p n c) (.slice none 0 0)).run P w= .ok p.isNone w:=by
  unfold Op.equal Op.maxDepth;rw[Op.equalIn];simp only[Sem.run_bind,run_underlying hu,Result.andThen_ok]
  cases p<;>rfl
 have e3:(binOp .eql t (.slice p n c) (.slice none 0 0)).run P w= .ok (.bool p.isNone) w:=by
  show((do pure (Value.bool (←Op.equal t (.slice p n c) (.slice none 0 0))):Sem Value)).run P w=_
  simp only[Sem.run_bind,e2,Result.andThen_ok,Sem.run_pure]
 simp only[e3,Result.andThen_ok,Sem.run_pure]
def zd7{S:World→Prop}{f i:Nat}{k:Plan}(hi:lo[i]? =some o)(hw:Region.wanted o (yielded lo.toArray a.tmps)=false)(hS:i≠f→S w)(h:k.wp P lo.toArray Q S f (a.put o.dst undef) w):Plan.wp P lo.toArray Q S f (.ld i k) a w:=by
 unfold Plan.wp wpOp;have hi':lo.toArray[i]? =some o:=by simpa using hi
 simp only[hi',hw];exact⟨hS,h⟩
end
def zgF{P:Program}{a:Act}{w:World}{o:Oper}{x:Operand}{i:Nat}(ho:o.op= .extract x i){vs:Array Value}(hx:a.eval x= .tuple vs){v:Value}(hv:vs.toList[i]? =some v):(execOp a.eval o).run P w= .ok (.value v) w:=by
 have hv':vs[i]? =some v:=by rw[←Array.getElem?_toList];exact hv
 unfold execOp;simp[ho,hx,Instr.extract,hv']
def zaN{P:Program}{Q:Exit→Act→World→Prop}{a:Act}{w w0:World}{o:Oper}{K:Act→World→Prop}{T:List Nat}{l:List Ent}(H:Hp T w0 w l){t:TypeId}{s x:Operand}(ho:o.op= .call {callee:= .builtin .append,args:=#[s,x],argTypes:=#[t,t]})
 {v:Value} (hs:a.eval s=v) {q:Option Addr} {m c:Nat} (hx:a.eval x= .slice q m c) {e:TypeId} {z:List Value} {sz by':Nat} [hsi:Si P t e z sz by']
 (k:Nat) {S:List Nat} {n:Nat} {xs:List Value} {f:Ent→List Ent} [i:Oi k S (RowAt e sz v n xs S) l f]
 {news:List Value} (hr:Rd w (.slice q m c) m news) (hl:news.length=m*sz) (h1:∀u∈news,u.oneCell'=true)
 (h48:(n+m)*by'≤140737488355328) (h63:n+m≤maxLen)
 (h:∀p' c' w' S',Fr S w w'→Hp T w0 w' (f (.obj k S' (RowAt e sz (.slice p' (n+m) c') (n+m) (xs++news) S')))→K (a.put o.dst (.slice p' (n+m) c')) w'):o.wp P a w K Q:=
 zu6 H ho hs hx k hr hl h1 h48 h63 (fun v' w' S' hf H1=>by
  have hm:=(i.r (.obj k S' (RowAt e sz v' (n+m) (xs++news) S')) (.obj k S' (RowAt e sz v' (n+m) (xs++news) S'))).mem;obtain⟨p',c',rfl,_⟩:=RowAt.form (H1.ok _ hm).1
  exact h p' c' w' S' hf H1)
section
variable {T:List Nat} {w0 w w':World} {l:List Ent}
def Hp.perm{l':List Ent}(H:Hp T w0 w l)(h:List.Perm l l'):Hp T w0 w l':=
 ⟨H.fr,fun e he=>H.ok e (h.mem_iff.2 he),(h.flatMap_right _).nodup H.nodup⟩
class Dl (k:Nat) (S:outParam (List Nat)) (Q:outParam (World→Prop)) (l:List Ent) (l':outParam (List Ent)):Prop where
 h:List.Perm l (.obj k S Q::l')
instance Dl.here {k:Nat} {S:List Nat} {Q:World→Prop} {l:List Ent}:Dl k S Q (.obj k S Q::l) l:=⟨List.Perm.refl _⟩
instance (priority:=low) Dl.there {k:Nat} {S:List Nat} {Q:World→Prop} {l l':List Ent} {e:Ent} [h:Dl k S Q l l']:Dl k S Q (e::l) (e::l'):=⟨(h.h.cons e).trans (List.Perm.swap _ _ _)⟩
def Hp.pull(H:Hp T w0 w l)(k:Nat){S:List Nat}{Q:World→Prop}{l':List Ent}[d:Dl k S Q l l']:Hp T w0 w (.obj k S Q::l'):=H.perm d.h
end
section
variable {T:List Nat} {w0 w:World} {l:List Ent}
def Hp.rowo(H:Hp T w0 w l)(k:Nat){S S2:List Nat}{e:TypeId}{sz n:Nat}{v:Value}{xs:List Value}{f:Ent→List Ent}[i:Oi k S (RowAt e sz v n xs S2) l f]:RowAt e sz v n xs S2 w:=H.ob k
end
def SArg.fr{w w':World}{v:Value}{n:Nat}{cs:List Value}(h:SArg w v n cs)(k:Fr [] w w'):SArg w' v n cs:=by
 obtain⟨p,c,rfl,h1,h2,h3,h4⟩:=h;exact⟨p,c,rfl,h1,h2,h3,fun w2 k2=>h4 w2 (k.trans k2)⟩
end
section
open Go.RowKit
section
variable {P:Program} {w:World} {a:Act} {o:Oper} {K:Act→World→Prop} {Q:Exit→Act→World→Prop}
class Bo (P:Program) (t:TypeId):Prop where
 h:P.underlying t=some .bool
instance:Bo Tryz.prog 4:=⟨Tryz.underlying4⟩
def zrF{t t':TypeId}{x y:Operand}(ho:o.op= .binOp .eql t x y t'){p q r:Bool}(hx:a.eval x= .bool p)(hy:a.eval y= .bool q)[u:Bo P t](hr:(p==q)=r:=by rfl):(execOp a.eval o).run P w= .ok (.value (.bool r)) w:=by
 subst hr;have e1:(eqGuard .eql t x y (.bool p) (.bool q)).run P w= .ok () w:=by unfold eqGuard;simp
 unfold execOp;simp only[ho,hx,hy,Sem.run_bind,e1,Result.andThen_ok]
 have e2:(Op.equal t (.bool p) (.bool q)).run P w= .ok (p==q) w:=by
  unfold Op.equal Op.maxDepth;rw[Op.equalIn];simp only[Sem.run_bind,run_underlying u.h,Result.andThen_ok]
  cases p<;>cases q<;>rfl
 have e3:(binOp .eql t (.bool p) (.bool q)).run P w= .ok (.bool (p==q)) w:=by
  show((do pure (Value.bool (←Op.equal t (.bool p) (.bool q))):Sem Value)).run P w=_
  simp only[Sem.run_bind,e2,Result.andThen_ok,Sem.run_pure]
 simp only[e3,Result.andThen_ok,Sem.run_pure]
def zrV{t t':TypeId}{x y:Operand}(ho:o.op= .binOp .neq t x y t'){p q r:Bool}(hx:a.eval x= .bool p)(hy:a.eval y= .bool q)[u:Bo P t](hr:(!(p==q))=r:=by rfl):(execOp a.eval o).run P w= .ok (.value (.bool r)) w:=by
 subst hr;have e1:(eqGuard .neq t x y (.bool p) (.bool q)).run P w= .ok () w:=by unfold eqGuard;simp
 unfold execOp;simp only[ho,hx,hy,Sem.run_bind,e1,Result.andThen_ok]
 have e2:(Op.equal t (.bool p) (.bool q)).run P w= .ok (p==q) w:=by
  unfold Op.equal Op.maxDepth;rw[Op.equalIn];simp only[Sem.run_bind,run_underlying u.h,Result.andThen_ok]
  cases p<;>cases q<;>rfl
 have e3:(binOp .neq t (.bool p) (.bool q)).run P w= .ok (.bool (!(p==q))) w:=by
  show((do pure (Value.bool (!(←Op.equal t (.bool p) (.bool q)))):Sem Value)).run P w=_
  simp only[Sem.run_bind,e2,Result.andThen_ok,Sem.run_pure]
 simp only[e3,Result.andThen_ok,Sem.run_pure]
def zoL{t:TypeId}{x y:Operand}(ho:o.op= .slice t x none (some y) none){q:Option Addr}{n c:Nat}(hx:a.eval x= .slice q n c){e:TypeId}{z:List Value}{s by':Nat}[h:Si P t e z s by']{k:IntKind}{i:Int}(hy:a.eval y= .int k i)(h0:0≤i:=by omega)(h1:i≤c:=by omega):(execOp a.eval o).run P w= .ok (.value (.slice q i.toNat c)) w:=by
 obtain⟨hu,ti,zv,h2,h3,h4,rfl,rfl⟩:=zaW h.h;unfold execOp;have key:(Instr.sliceBounds true n c none (some (a.eval y)) none).run P w= .ok (0,i.toNat,c) w:=by simp[Instr.sliceBounds,hy,zaV h0 h1]
 simp only[ho,hx,Instr.sliceAt,Instr.slice,Sem.run_bind,run_underlying hu,Result.andThen_ok,Option.map_none,Option.map_some,key,sizeOf,typeInfo,run_program,h2,Sem.run_pure]
 have e1:(if c=0 then q else q.map (·.add (0*z.length)))=q:=by
  split
  ·rfl
  ·cases q<;>simp[Addr.add]
 simp
 cases q<;>simp[Addr.add]
end
section
variable {P:Program} {ops:Array Oper} {Q:Exit→Act→World→Prop} {w w0:World} {rest:List Oper} {o:Oper} {T:List Nat} {l:List Ent} {L:List Value} {ds:List Deferred} {a:Act}
def zjm{t:TypeId}{x:Operand}{r:Result Next}(_ho:o.op= .load t x)(h:(execOp a.eval o).run P w=r):(execOp a.eval o).run P w=r:=h
def zud{op:BinOp}{t t':TypeId}{x y:Operand}{r:Result Next}(_ho:o.op= .binOp op t x y t')(_hc:zew op=true)(h:(execOp a.eval o).run P w=r):(execOp a.eval o).run P w=r:=h
def zt4{t:TypeId}{x:Operand}{l' h' m':Option Operand}{r:Result Next}(_ho:o.op= .slice t x l' h' m')(h:(execOp a.eval o).run P w=r):(execOp a.eval o).run P w=r:=h
def ztR{s d:TypeId}{x:Operand}{r:Result Next}(_ho:o.op= .convert s d x)(h:(execOp a.eval o).run P w=r):(execOp a.eval o).run P w=r:=h
def zad(L:List Value):Option Nat→Value→List Value
 | some n,v=>L.set n v
 | none,_=>L
def zP(L:List Value)(n:Nat)(v:Value):zad L (some n) v=L.set n v:=rfl
def zQ(L:List Value)(v:Value):zad L none v=L:=rfl
def zaj(d:Option Nat)(v:Value):Act.put ⟨L.toArray,ds⟩ d v=⟨(zad L d v).toArray,ds⟩:=by cases d<;>simp[Act.put,zad]
def x_e{v:Value}{L':List Value}(he:(execOp (Act.mk L.toArray ds).eval o).run P w= .ok (.value v) w)(h:wpList P ops Q rest ⟨L'.toArray,ds⟩ w)
 (hw:Region.wanted o (yielded ops L.toArray)=true:=by rfl) (hs:zad L o.dst v=L':=by((try simp only[nrm,zP,zQ,↓reduceIte,Nat.reduceAdd]);(try exact rfl))):wpList P ops Q (o::rest) ⟨L.toArray,ds⟩ w:=by
 subst hs;exact zlH hw he yaa
def x_q(H:Hp T w0 w l){v:Value}{L':List Value}(h:wpList P ops Q rest ⟨L'.toArray,ds⟩ w)
 (hw:Region.wanted o (yielded ops L.toArray)=true:=by rfl)
 (he:Hp T w0 w l→(execOp (Act.mk L.toArray ds).eval o).run P w= .ok (.value v) w:=by
  intro H
  first
  | (refine zjm rfl ?_;first|exact zqu H rfl rfl|exact zmo H rfl rfl|exact zrU H rfl rfl|exact zrE H rfl rfl|exact zra H rfl rfl|exact zah H rfl rfl|exact zrP H rfl rfl|exact zrX H rfl rfl)
  | (refine zud rfl rfl ?_;first|exact zei rfl rfl rfl rfl|exact zbM rfl rfl rfl rfl|exact zrF rfl rfl rfl|exact zrV rfl rfl rfl|exact zrI rfl rfl|exact zrK rfl rfl|exact zrN rfl rfl|exact zeV rfl rfl rfl|exact zeK rfl rfl rfl)
  | exact ztV rfl rfl rfl
  | (refine zt4 rfl ?_;first|exact zuw rfl rfl|exact zrG rfl rfl rfl|exact zoL rfl rfl rfl|exact zrO rfl rfl rfl|exact zfz rfl rfl rfl rfl|exact zt0 rfl rfl|exact zrS rfl rfl rfl)
  | (refine ztR rfl ?_;first|exact ztO rfl rfl|exact zou rfl rfl|exact zoD rfl rfl|exact zrM rfl rfl)
  | exact zlI rfl
  | exact zrL rfl
  | exact zj8 rfl rfl rfl
  | exact zpi rfl rfl rfl)
 (hs:zad L o.dst v=L':=by((try simp only[nrm,zP,zQ,↓reduceIte,Nat.reduceAdd]);(try exact rfl))):wpList P ops Q (o::rest) ⟨L.toArray,ds⟩ w:=x_e (he H) h hw hs
def zm{op:BinOp}{t t':TypeId}{x y:Operand}{k:IntKind}{m n:Int}{p q:Prop}{L1 L2:List Value}
 (h1:p→wpList P ops Q rest ⟨L1.toArray,ds⟩ w) (h0:q→wpList P ops Q rest ⟨L2.toArray,ds⟩ w)
 (ho:o.op= .binOp op t x y t':=by rfl) (hc:zew op=true:=by rfl) (hw:Region.wanted o (yielded ops L.toArray)=true:=by rfl) (hx:(Act.mk L.toArray ds).eval x= .int k m:=by rfl) (hy:(Act.mk L.toArray ds).eval y= .int k n:=by rfl)
 (hp:zbt op m n→p:=by intro h;simp only[zbt]at h;exact h) (hq:¬zbt op m n→q:=by intro h;simp only[zbt]at h;exact h)
 (hs1:zad L o.dst (.bool true)=L1:=by((try simp only[nrm,zP,zQ,↓reduceIte,Nat.reduceAdd]);(try exact rfl))) (hs2:zad L o.dst (.bool false)=L2:=by((try simp only[nrm,zP,zQ,↓reduceIte,Nat.reduceAdd]);(try exact rfl))):wpList P ops Q (o::rest) ⟨L.toArray,ds⟩ w:=by
 subst hs1 hs2;exact zuL hw ho hx hy hc (fun h=>by rw[zaj];exact h1 (hp h)) (fun h=>by rw[zaj];exact h0 (hq h))
def x_g{zs:List Value}{t:TypeId}{v:Nat→Value}{L':Nat→List Value}
 (h:∀g w',w0.heap.size≤g∧w.heap.size≤g→Fr [] w w'→Hp T w0 w' (.blk g zs t::l)→wpList P ops Q rest ⟨(L' g).toArray,ds⟩ w')
 (hw:Region.wanted o (yielded ops L.toArray)=true:=by rfl)
 (he:Hp T w0 w l→∀K:Act→World→Prop,(∀g w',w0.heap.size≤g∧w.heap.size≤g→Fr [] w w'→Hp T w0 w' (.blk g zs t::l)→K (Act.put ⟨L.toArray,ds⟩ o.dst (v g)) w')→o.wp P ⟨L.toArray,ds⟩ w K Q:=by
  intro H K hK
  first|exact zqQ H rfl hK|exact zms H rfl rfl rfl (h:=hK)|exact zhP H rfl rfl hK|exact zhH H rfl rfl rfl hK|exact zme H rfl rfl rfl (h:=hK)|exact zmf H rfl rfl (h:=hK))
 (hs:∀g,zad L o.dst (v g)=L' g:=by intro g;((try simp only[nrm,zP,zQ,↓reduceIte,Nat.reduceAdd]);(try exact rfl))) (H:Hp T w0 w l):wpList P ops Q (o::rest) ⟨L.toArray,ds⟩ w:=
 zaB hw fun K hK=>he H K fun g w' h1 h2 h3=>hK _ _ (by rw[zaj,hs];exact h g w' h1 h2 h3)
def x_s{b:Nat}{l':List Ent}{L':List Value}
 (h:∀w',Fr [b] w w'→Hp T w0 w' l'→wpList P ops Q rest ⟨L'.toArray,ds⟩ w')
 (hw:Region.wanted o (yielded ops L.toArray)=true:=by rfl)
 (he:Hp T w0 w l→∀K:Act→World→Prop,(∀w',Fr [b] w w'→Hp T w0 w' l'→K (Act.put ⟨L.toArray,ds⟩ o.dst undef) w')→o.wp P ⟨L.toArray,ds⟩ w K Q:=by
  intro H K hK
  first|exact znc H rfl rfl rfl (h:=hK)|exact ziT H rfl rfl (h:=hK)|exact zdS H rfl rfl rfl (h:=hK))
 (hs:zad L o.dst undef=L':=by((try simp only[nrm,zP,zQ,↓reduceIte,Nat.reduceAdd]);(try exact rfl))) (H:Hp T w0 w l):wpList P ops Q (o::rest) ⟨L.toArray,ds⟩ w:=
 zaB hw fun K hK=>he H K fun w' h2 h3=>hK _ _ (by rw[zaj,hs];exact h w' h2 h3)
def xS{b:Nat}{l':List Ent}{L':List Value}
 (h:∀w',Hp T w0 w' l'→wpList P ops Q rest ⟨L'.toArray,ds⟩ w')
 (hw:Region.wanted o (yielded ops L.toArray)=true:=by rfl)
 (he:Hp T w0 w l→∀K:Act→World→Prop,(∀w',Fr [b] w w'→Hp T w0 w' l'→K (Act.put ⟨L.toArray,ds⟩ o.dst undef) w')→o.wp P ⟨L.toArray,ds⟩ w K Q:=by
  intro H K hK
  first|exact znc H rfl rfl rfl (h:=hK)|exact ziT H rfl rfl (h:=hK)|exact zdS H rfl rfl rfl (h:=hK))
 (hs:zad L o.dst undef=L':=by((try simp only[nrm,zP,zQ,↓reduceIte,Nat.reduceAdd]);(try exact rfl))) (H:Hp T w0 w l):wpList P ops Q (o::rest) ⟨L.toArray,ds⟩ w:=
 x_s (fun w' _ h2=>h w' h2) hw he hs H
def x_c(H:Hp T w0 w l){f:FuncId}{args:Array Value}{R R':Ending→World→Prop}(hc:Calls P f args w R)(h:∀e w',R e w'→Hp T w0 w' l→R' e w')
 (hR:∀e w',R e w'→Fr [] w w':=by
  intro e w' h
  first|exact h.2|exact h.2.1|(obtain⟨_,h⟩:=h;first|exact h.2|exact h.2.1|(obtain⟨_,h⟩:=h;first|exact h.2|exact h.2.1|(obtain⟨_,h⟩:=h;first|exact h.2|exact h.2.1|(obtain⟨_,h⟩:=h;first|exact h.2|exact h.2.1|(obtain⟨_,h⟩:=h;first|exact h.2|exact h.2.1)))))):Calls P f args w R':=
 Calls.mono hc fun e w' hr=>h e w' hr (H.step (hR e w' hr) yg)
def xA(H:Hp T w0 w l){f:FuncId}{args:Array Value}{v:Value}{R':Ending→World→Prop}(hc:Calls P f args w fun e w'=>e= .returned v∧Fr [] w w')(h:∀w',Hp T w0 w' l→R' (.returned v) w'):Calls P f args w R':=
 Calls.mono hc fun e w' hr=>by obtain⟨rfl,hF⟩:=hr;exact h w' (H.step hF yg)
section
variable {lo:List Oper} {S:World→Prop} {f i:Nat} {k:Plan}
def p_e{v:Value}{L':List Value}(hi:lo[i]? =some o)(he:∀w,S w→(execOp (Act.mk L.toArray ds).eval o).run P w= .ok (.value v) w)(h:k.wp P lo.toArray Q S f ⟨L'.toArray,ds⟩ w)
 (hw:Region.wanted o (yielded lo.toArray L.toArray)=true:=by rfl) (hs:zad L o.dst v=L':=by((try simp only[nrm,zP,zQ,↓reduceIte,Nat.reduceAdd]);(try exact rfl))):Plan.wp P lo.toArray Q S f (.st i k) ⟨L.toArray,ds⟩ w:=by
 subst hs;exact zuY hi hw he yaa
def zjC{v:Value}{L':List Value}(hi:lo[i]? =some o)(he:∀w,True→(execOp (Act.mk L.toArray ds).eval o).run P w= .ok (.value v) w)(h:k.wp P lo.toArray Q S f ⟨L'.toArray,ds⟩ w)
 (hw:Region.wanted o (yielded lo.toArray L.toArray)=true:=by rfl) (hs:zad L o.dst v=L':=by((try simp only[nrm,zP,zQ,↓reduceIte,Nat.reduceAdd]);(try exact rfl))):Plan.wp P lo.toArray Q S f (.stf i k) ⟨L.toArray,ds⟩ w:=by
 subst hs;exact zuE hi hw he yaa
def p_n{L':List Value}(h:k.wp P lo.toArray Q S f ⟨L'.toArray,ds⟩ w)(hi:lo[i]? =some o:=by rfl)
 (hw:Region.wanted o (yielded lo.toArray L.toArray)=false:=by rfl) (hs:zad L o.dst undef=L':=by((try simp only[nrm,zP,zQ,↓reduceIte,Nat.reduceAdd]);(try exact rfl))):Plan.wp P lo.toArray Q S f (.st i k) ⟨L.toArray,ds⟩ w:=by
 subst hs;exact zu7 hi hw yaa
def p_q{v:Value}{L':List Value}(h:k.wp P lo.toArray Q S f ⟨L'.toArray,ds⟩ w)(hi:lo[i]? =some o:=by rfl)
 (hw:Region.wanted o (yielded lo.toArray L.toArray)=true:=by rfl)
 (he:∀w,S w→(execOp (Act.mk L.toArray ds).eval o).run P w= .ok (.value v) w:=by
  intro w H
  first
  | exact zrH rfl rfl
  | exact ztP rfl rfl
  | (refine zjm rfl ?_;first|exact zqu H rfl rfl|exact zmo H rfl rfl|exact zrU H rfl rfl|exact zrE H rfl rfl|exact zra H rfl rfl|exact zah H rfl rfl|exact zrP H rfl rfl|exact zrX H rfl rfl)
  | exact zja rfl rfl|exact zjA rfl|exact zjc rfl|exact zjP rfl
  | exact zhi rfl rfl|exact zgU rfl
  | exact zfZ rfl rfl
  | (refine zud rfl rfl ?_;first|exact zei rfl rfl rfl rfl|exact zbM rfl rfl rfl rfl|exact zrF rfl rfl rfl|exact zrV rfl rfl rfl|exact zrI rfl rfl|exact zrK rfl rfl|exact zrN rfl rfl|exact zeV rfl rfl rfl|exact zeK rfl rfl rfl)
  | exact ztV rfl rfl rfl
  | (refine zt4 rfl ?_;first|exact zuw rfl rfl|exact zrG rfl rfl rfl|exact zoL rfl rfl rfl|exact zrO rfl rfl rfl|exact zfz rfl rfl rfl rfl|exact zt0 rfl rfl|exact zrS rfl rfl rfl)
  | (refine ztR rfl ?_;first|exact ztO rfl rfl|exact zou rfl rfl|exact zoD rfl rfl|exact zrM rfl rfl)
  | exact zrJ rfl rfl
  | exact zlI rfl
  | exact zrL rfl
  | exact znr rfl rfl|exact zoq rfl rfl rfl|exact zoM rfl rfl|exact znQ rfl rfl rfl
  | exact zkw rfl rfl rfl (by first|(simp only[inr];omega)|assumption)
  | exact zjx rfl rfl rfl (by first|(simp only[inr];omega)|assumption)
  | exact zt7 rfl rfl rfl (by first|(simp only[inr];omega)|assumption)
  | exact zgF rfl rfl rfl
  | exact zux rfl rfl
  | exact zj8 rfl rfl rfl
  | exact zpi rfl rfl rfl)
 (hs:zad L o.dst v=L':=by((try simp only[nrm,zP,zQ,↓reduceIte,Nat.reduceAdd]);(try exact rfl))):Plan.wp P lo.toArray Q S f (.st i k) ⟨L.toArray,ds⟩ w:=p_e hi he h hw hs
def zeE{v:Value}{L':List Value}(h:k.wp P lo.toArray Q S f ⟨L'.toArray,ds⟩ w)(hi:lo[i]? =some o:=by rfl)
 (hw:Region.wanted o (yielded lo.toArray L.toArray)=true:=by rfl)
 (he:∀w,True→(execOp (Act.mk L.toArray ds).eval o).run P w= .ok (.value v) w:=by
  intro w H
  first|exact zrH rfl rfl|exact ztP rfl rfl|exact zja rfl rfl|exact zjA rfl|exact zjc rfl|exact zjP rfl|exact zhi rfl rfl|exact zgU rfl|exact zfZ rfl rfl|exact zrJ rfl rfl|exact zlI rfl|exact zgF rfl rfl rfl)
 (hs:zad L o.dst v=L':=by((try simp only[nrm,zP,zQ,↓reduceIte,Nat.reduceAdd]);(try exact rfl))):Plan.wp P lo.toArray Q S f (.stf i k) ⟨L.toArray,ds⟩ w:=zjC hi he h hw hs
def p_g{zs:List Value}{t:TypeId}{v:Nat→Value}{L':Nat→List Value}
 (h:∀g w',w0.heap.size≤g∧w.heap.size≤g→Fr [] w w'→Hp T w0 w' (.blk g zs t::l)→k.wp P lo.toArray Q S f ⟨(L' g).toArray,ds⟩ w') (hi:lo[i]? =some o:=by rfl)
 (hw:Region.wanted o (yielded lo.toArray L.toArray)=true:=by rfl)
 (he:Hp T w0 w l→∀K:Act→World→Prop,(∀g w',w0.heap.size≤g∧w.heap.size≤g→Fr [] w w'→Hp T w0 w' (.blk g zs t::l)→K (Act.put ⟨L.toArray,ds⟩ o.dst (v g)) w')→o.wp P ⟨L.toArray,ds⟩ w K Q:=by
  intro H K hK
  first|exact zqQ H rfl hK|exact zms H rfl rfl rfl (h:=hK)|exact zhP H rfl rfl hK|exact zhH H rfl rfl rfl hK|exact zme H rfl rfl rfl (h:=hK)|exact zmf H rfl rfl (h:=hK))
 (hs:∀g,zad L o.dst (v g)=L' g:=by intro g;((try simp only[nrm,zP,zQ,↓reduceIte,Nat.reduceAdd]);(try exact rfl)))
 (hS:i≠f→∀g w',Hp T w0 w' (.blk g zs t::l)→S w':=by intro hne g w' H1;first|exact absurd rfl hne|exact trivial|exact H1.sub yd)
 (H:Hp T w0 w l):Plan.wp P lo.toArray Q S f (.ld i k) ⟨L.toArray,ds⟩ w:=
 zag hi hw fun K hK=>he H K fun g w' h1 h2 h3=>hK _ _ (fun hne=>hS hne g w' h3) (by rw[zaj,hs];exact h g w' h1 h2 h3)
def p_s{b:Nat}{l':List Ent}{L':List Value}
 (h:∀w',Fr [b] w w'→Hp T w0 w' l'→k.wp P lo.toArray Q S f ⟨L'.toArray,ds⟩ w') (hi:lo[i]? =some o:=by rfl)
 (hw:Region.wanted o (yielded lo.toArray L.toArray)=true:=by rfl)
 (he:Hp T w0 w l→∀K:Act→World→Prop,(∀w',Fr [b] w w'→Hp T w0 w' l'→K (Act.put ⟨L.toArray,ds⟩ o.dst undef) w')→o.wp P ⟨L.toArray,ds⟩ w K Q:=by
  intro H K hK
  first|exact znc H rfl rfl rfl (h:=hK)|exact ziT H rfl rfl (h:=hK)|exact zdS H rfl rfl rfl (h:=hK))
 (hs:zad L o.dst undef=L':=by((try simp only[nrm,zP,zQ,↓reduceIte,Nat.reduceAdd]);(try exact rfl)))
 (hS:i≠f→∀w',Hp T w0 w' l'→S w':=by intro hne w' H1;first|exact absurd rfl hne|exact trivial|exact H1.sub yd)
 (H:Hp T w0 w l):Plan.wp P lo.toArray Q S f (.ld i k) ⟨L.toArray,ds⟩ w:=
 zag hi hw fun K hK=>he H K fun w' h2 h3=>hK _ _ (fun hne=>hS hne w' h3) (by rw[zaj,hs];exact h w' h2 h3)
def p_c(H:Hp T w0 w l){fi:FuncId}{al:List Operand}{ats:Array TypeId}(hi:lo[i]? =some o)(ho:o.op= .call {callee:= .value (.func fi),args:=al.toArray,argTypes:=ats}){fn:Func}(hf:P.funcs[fi]? =some fn)
 {R:Ending→World→Prop} (hc:Calls P fi (al.map (Act.mk L.toArray ds).eval).toArray w R) (h:∀e w',R e w'→Hp T w0 w' l→∃v,e= .returned v∧k.wp P lo.toArray Q S f ⟨(zad L o.dst v).toArray,ds⟩ w')
 (hR:∀e w',R e w'→Fr [] w w':=by
  intro e w' h
  first|exact h.2|exact h.2.1|(obtain⟨_,h⟩:=h;first|exact h.2|exact h.2.1|(obtain⟨_,h⟩:=h;first|exact h.2|exact h.2.1|(obtain⟨_,h⟩:=h;first|exact h.2|exact h.2.1|(obtain⟨_,h⟩:=h;first|exact h.2|exact h.2.1|(obtain⟨_,h⟩:=h;first|exact h.2|exact h.2.1))))))
 (hS:i≠f→∀w',Hp T w0 w' l→S w':=by intro hne w' H1;first|exact absurd rfl hne|exact trivial|exact H1.sub yd)
 (hn:(fn.name== "runtime.NumGoroutine")=false:=by kernel_rfl) (hb:fn.body.isNone=false:=by rfl)
 (hw:Region.wanted o (yielded lo.toArray L.toArray)=true:=by rfl):Plan.wp P lo.toArray Q S f (.ld i k) ⟨L.toArray,ds⟩ w:=
 zag hi hw fun K hK=>zdq ho hf hn hb hc fun e w' hr=>by
  have H1:=H.step (hR e w' hr) yg;obtain⟨v,hv,hk⟩:=h e w' hr H1;exact⟨v,hv,hK _ _ (fun hne=>hS hne w' H1) (by rw[zaj];exact hk)⟩
def p_r{v:Value}{d:Option Nat}{L':List Value}(h:k.wp P lo.toArray Q S f ⟨L'.toArray,ds⟩ w)(hs:zad L d v=L':=by((try simp only[nrm,zP,zQ,↓reduceIte,Nat.reduceAdd]);(try exact rfl))):∃u,Ending.returned v= .returned u∧k.wp P lo.toArray Q S f ⟨(zad L d u).toArray,ds⟩ w:=by
 subst hs;exact⟨v,rfl,h⟩
end
def w_p{id:Nat}{lS:List Ent}(f:Nat)(p:Plan)(h:∀w',Hp T w0 w' l→p.wp P ops Q (fun w=>Hp T w0 w lS) f a w')(hs:List.Sublist lS l:=by exact List.Sublist.refl _)(hm:P.follows .mixedOrders=true:=by rfl)(hns:Region.noSelect ops=true:=by kernel_rfl)(hc:p.chk ops f ops.size (Array.replicate ops.size false)=true:=by kernel_rfl)
 (hQ:∀c a d v w,Q (.panic c) (Act.put a d v) w→Q (.panic c) a w:=by intro c a d v w h;cases d<;>exact h) (H:Hp T w0 w l):(Code.region id ops true).wp P Q a w:=zsb H hs f p hm hns hc hQ h
end
end
end Go.Proofs.YtaijhllckmndhaaGreatDoor
