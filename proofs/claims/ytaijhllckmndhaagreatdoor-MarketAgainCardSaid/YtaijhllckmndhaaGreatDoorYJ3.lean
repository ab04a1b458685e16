import Derived.Test.YtaijhllckmndhaaGreatDoorYJ0
import Derived.Test.YtaijhllckmndhaaGreatDoorYJ2
import Derived.Deep.Strs
import Derived.ChangeSlices
import Derived.ChangeOld
namespace Go.Proofs.YtaijhllckmndhaaGreatDoor
set_option linter.all false
set_option maxHeartbeats 64000000
set_option maxRecDepth 100000
section
open Go.RowKit
def RowAt(e:TypeId)(sz:Nat)(v:Value)(n:Nat)(xs:List Value)(S:List Nat)(w:World):Prop:=
 xs.length=n*sz∧((S=[]∧n=0∧v= .slice none 0 0)∨∃g cap pad,S=[g]∧v= .slice (some ⟨g,0,none⟩) n cap∧n≤cap∧cap≤maxLen∧(xs++pad).length=cap*sz∧w.heap[g]? =some (.cells (xs++pad).toArray e (0,0)))
def RowAt.nil{e:TypeId}{sz:Nat}(w:World):RowAt e sz (.slice none 0 0) 0 [] [] w:=⟨by simp, .inl ⟨rfl,rfl,rfl⟩⟩
def RowAt.firm{e:TypeId}{sz:Nat}{v:Value}{n:Nat}{xs:List Value}{S:List Nat}:Firm S (RowAt e sz v n xs S):=by
 refine⟨fun w w' R k hn h=>?_,fun w h x hx=>?_,fun w h=>?_⟩
 ·obtain⟨h0,h|⟨g,cap,pad,rfl,h1,h2,h3,h4,h5⟩⟩:=h
  ·exact⟨h0, .inl h⟩
  ·exact⟨h0, .inr ⟨g,cap,pad,rfl,h1,h2,h3,h4,k.get h5 (hn g yg)⟩⟩
 ·obtain⟨h0,⟨rfl,_⟩|⟨g,cap,pad,rfl,h1,h2,h3,h4,h5⟩⟩:=h
  ·simp at hx
  ·simp only[List.mem_singleton]at hx;subst hx;exact zbg h5
 ·obtain⟨h0,⟨rfl,_⟩|⟨g,cap,pad,rfl,h1,h2,h3,h4,h5⟩⟩:=h<;>simp
instance {e:TypeId} {sz:Nat} {v:Value} {n:Nat} {xs:List Value} {S:List Nat}:Fm S (RowAt e sz v n xs S):=⟨RowAt.firm⟩
def RowAt.form{e:TypeId}{sz:Nat}{v:Value}{n:Nat}{xs:List Value}{S:List Nat}{w:World}(h:RowAt e sz v n xs S w):∃p c,v= .slice p n c∧n≤c∧c≤maxLen∧(p=none→c=0):=by
 obtain⟨h0,⟨rfl,rfl,rfl⟩|⟨g,cap,pad,rfl,rfl,h2,h3,h4,h5⟩⟩:=h
 ·exact⟨none,0,rfl,Nat.le_refl _,Nat.zero_le _,fun _=>rfl⟩
 ·exact⟨_,cap,rfl,h2,h3,by simp⟩
def RowAt.rd{e:TypeId}{sz:Nat}{v:Value}{n:Nat}{xs:List Value}{S:List Nat}{w:World}(h:RowAt e sz v n xs S w):Rd w v n xs:=by
 obtain⟨h0,⟨rfl,rfl,rfl⟩|⟨g,cap,pad,rfl,rfl,h2,h3,h4,h5⟩⟩:=h
 ·exact .inl ⟨rfl,List.eq_nil_of_length_eq_zero (by simpa using h0),none,0,rfl⟩
 ·refine .inr ⟨_,cap,rfl,fun j u hj=>?_⟩;rw[zaL,cell_of_row w g _ _ _ _ h5,Nat.zero_add]
  simpa using(by rw[List.getElem?_append_left (List.getElem?_eq_some_iff.1 hj).1];exact hj:(xs++pad)[j]? =some u)
def RowAt.of_owns{w':World}{base:Nat}{e:TypeId}{sz n:Nat}{v:Value}{xs:List Value}(h:w'.ownsRow base e sz v n xs):∃S,RowAt e sz v n xs S w'∧∀x∈S,base≤x:=by
 obtain⟨hx,⟨h1,h2⟩|⟨g,cap,cur,rfl,hb,hg,h1,h2,h3,h4⟩⟩:=h
 ·subst h2;exact⟨[],⟨hx, .inl ⟨rfl,rfl,h1⟩⟩,by simp⟩
 ·have e1:cur=(xs++cur.toList.drop xs.length).toArray:=by
   apply Array.ext'
   show cur.toList=xs++cur.toList.drop xs.length
   rw[hx];exact(congrArg (· ++cur.toList.drop (n*sz)) h4).symm ▸ (List.take_append_drop _ _).symm
  refine⟨[g],⟨hx, .inr ⟨g,cap,cur.toList.drop xs.length,rfl,rfl,h1,h2,?_,by rw[←e1];exact hg⟩⟩,by simpa using hb⟩
  have:=congrArg Array.size e1
  simp only[List.size_toArray]at this
  omega
def RowAt.owns{w:World}{base:Nat}{e:TypeId}{sz n:Nat}{v:Value}{xs:List Value}{S:List Nat}(h:RowAt e sz v n xs S w)(hb:∀x∈S,base≤x):w.ownsRow base e sz v n xs:=by
 obtain⟨h0,⟨rfl,rfl,rfl⟩|⟨g,cap,pad,rfl,rfl,h2,h3,h4,h5⟩⟩:=h
 ·have:xs=[]:=List.eq_nil_of_length_eq_zero (by simpa using h0)
  subst this;exact World.ownsRow_nil _ _ _ _
 ·exact⟨h0, .inr ⟨g,cap,_,rfl,hb g yg,h5,h2,h3,by simpa using h4,by rw[←h0];simp⟩⟩
section
variable {P:Program} {ops:Array Oper} {Q:Exit→Act→World→Prop} {a:Act} {w w0:World} {rest:List Oper} {o:Oper} {K:Act→World→Prop} {T:List Nat} {l:List Ent}
def Hp.recast(H:Hp T w0 w l){e e1:Ent}{l1:List Ent}(h:Rep e e1 l l1)(ho:e1.own=e.own)(hk:e1.ok T w0 w):Hp T w0 w l1:=
 ⟨H.fr,fun x hx=>by
  rcases h.of H.nodup x hx with rfl|⟨h1,_⟩
  ·exact hk
  ·exact H.ok x h1,h.nodup H.nodup (by
   rw[ho];have hn:=H.nodup
   have:List.Sublist e.own (l.flatMap Ent.own):=by
    have hm:=h.mem;clear h hk hn ho
    induction l with
    | nil=>cases hm
    | cons y l ih=>
     rw[List.flatMap_cons]
     cases hm with
     | head=>exact List.sublist_append_left _ _
     | tail _ hm=>exact(ih ⟨H.fr,fun x hx=>H.ok x (List.mem_cons_of_mem _ hx),(List.nodup_append.1 (by simpa using H.nodup)).2.1⟩ hm).trans (List.sublist_append_right _ _)
   exact this.nodup hn) (fun x hx=> .inl (ho ▸ hx))⟩
def zu6(H:Hp T w0 w l){t:TypeId}{s x:Operand}(ho:o.op= .call {callee:= .builtin .append,args:=#[s,x],argTypes:=#[t,t]})
 {v:Value} (hs:a.eval s=v) {q:Option Addr} {m c:Nat} (hx:a.eval x= .slice q m c) {e:TypeId} {z:List Value} {sz by':Nat} [hsi:Si P t e z sz by']
 (k:Nat) {S:List Nat} {n:Nat} {xs:List Value} {f:Ent→List Ent} [i:Oi k S (RowAt e sz v n xs S) l f]
 {news:List Value} (hr:Rd w (.slice q m c) m news) (hl:news.length=m*sz) (h1:∀u∈news,u.oneCell'=true)
 (h48:(n+m)*by'≤140737488355328) (h63:n+m≤maxLen)
 (h:∀v' w' S',Fr S w w'→Hp T w0 w' (f (.obj k S' (RowAt e sz v' (n+m) (xs++news) S')))→K (a.put o.dst v') w'):o.wp P a w K Q:=by
 have hob:=H.ob k;obtain⟨h0,⟨rfl,rfl,rfl⟩|⟨g,cap,pad,rfl,rfl,h2,h3,h4,h5⟩⟩:=hob
 ·have hxs:xs=[]:=List.eq_nil_of_length_eq_zero (by simpa using h0);subst hxs
  by_cases hm:m=0
  ·subst hm;have hn:news=[]:=List.eq_nil_of_length_eq_zero (by simpa using hl);subst hn
   exact ziQ H ho hs hx hsi.h (fun w' k1 H1=>h _ w' [] k1 (by
    have e1:f (.obj k [] (RowAt e sz (.slice none 0 0) 0 [] []))=l:=Rep.same (i.h _)
    simpa[e1]using H1))
  ·obtain⟨ad,rfl⟩:∃ad,q=some ad:=by
    rcases hr with⟨h6,_⟩|⟨ad,c',h6,_⟩
    ·exact absurd h6 hm
    ·injection h6 with h7 _ _;exact⟨ad,h7⟩
   refine zke H ho hs hx hsi.h hsi.z hr hl yb (by simpa using h48) (by unfold maxLen at h63;omega) (fun g w' cap pad hg hc hcm hpl hf H1=>h _ w' [g] hf ?_);refine H.upd' (S':=[g]) (i.h _) hf (Q':=RowAt e sz _ (0+m) ([]++news) [g]) ?_ RowAt.firm (fun x hx=> .inr (by simp only[List.mem_singleton]at hx;subst hx;exact hg.2));refine⟨by simpa using hl, .inr ⟨g,cap,pad,rfl,by rw[Nat.zero_add],by omega,hcm,by simpa using hpl,?_⟩⟩
   simpa using H1.get (.head _)
 ·by_cases hm:m=0
  ·subst hm;have hn:news=[]:=List.eq_nil_of_length_eq_zero (by simpa using hl);subst hn
   exact ze0 H ho hs h2 hx hsi.h (fun w' k1 H1=>h _ w' [g] (k1.mono yg) (by
    rw[List.append_nil,Nat.add_zero,←i.e];exact H1))
  ·obtain⟨ad,rfl⟩:∃ad,q=some ad:=by
    rcases hr with⟨h6,_⟩|⟨ad,c',h6,_⟩
    ·exact absurd h6 hm
    ·injection h6 with h7 _ _;exact⟨ad,h7⟩
   have H':Hp T w0 w (f (.blk g (xs++pad) e)):=H.recast (i.h _) rfl ⟨h5,H.home k g yg⟩;refine zfk H' ho hs hx hsi.h hsi.z (fun g cs1=>i.r _ _) (List.prefix_append _ _) h0 h4 h3 hr hl h1 yb h48 h63 (fun g' w' cap' pad' hg hc hcm hpl hf H1=>h _ w' [g'] hf ?_);have hm1:=(i.r (.blk g' (xs++news++pad') e) (.obj k [] (fun _=>True))).mem;refine H1.recast (i.r _ _) rfl ⟨⟨by rw[List.length_append,h0,hl,Nat.add_mul], .inr ⟨g',cap',pad',rfl,rfl,hc,hcm,hpl,H1.get hm1⟩⟩,RowAt.firm,fun x hx=>?_⟩;simp only[List.mem_singleton]at hx;subst hx;exact(H1.ok _ hm1).2
def Hp.newRow(H:Hp T w0 w l)(k:Nat){e:TypeId}{sz:Nat}:Hp T w0 w (.obj k [] (RowAt e sz (.slice none 0 0) 0 [] [])::l):=H.pushObj k (RowAt.nil w) RowAt.firm yg yg
def Hp.rowNew(H:Hp T w0 w l)(k:Nat){w':World}(hF:Fr [] w w'){e:TypeId}{sz n:Nat}{v:Value}{xs:List Value}(h:w'.ownsRow w.heap.size e sz v n xs):∃S,Hp T w0 w' (.obj k S (RowAt e sz v n xs S)::l):=by
 obtain⟨S,h1,h2⟩:=RowAt.of_owns h;exact⟨S,H.born k hF h1 RowAt.firm h2⟩
def zh3{k k':Nat}{S S':List Nat}{Q Q':World→Prop}(H:Hp T w0 w [.obj k S Q, .obj k' S' Q']):∀x∈S,x∉S':=by
 have:=H.nodup
 simp only[List.flatMap_cons,List.flatMap_nil,Ent.own,List.append_nil]at this;exact fun x hx h'=>(List.nodup_append.1 this).2.2 x hx x h' rfl
end
end
section
open Go.RowKit Go.ChangeShapes Go.WideShapes Go.Deep
def SArg(w:World)(v:Value)(n:Nat)(cs:List Value):Prop:=
 ∃p c,v= .slice p n c∧(p=none→c=0)∧n≤c∧c≤maxLen∧∀w',Fr [] w w'→Rd w' v n cs
section
variable {H:Type} {enc:TypeId×Value→H} {P:Program} {w:World} {base:Nat} {held:Bool}
def zlz{α:Type}(f:α→List Value)(C:Nat):∀(xs:List α) (_:∀x∈xs,(f x).length=C) (j:Nat) (u:Value),(xs.flatMap f)[j]? =some u→∃i x k,xs[i]? =some x∧k<C∧j=i*C+k∧(f x)[k]? =some u
 | [],_,j,u,h=>by simp at h
 | x::xs,hl,j,u,h=>by
  rw[List.flatMap_cons]at h
  by_cases hj:j<C
  ·rw[List.getElem?_append_left (by rw[hl x yg];exact hj)]at h;exact⟨0,x,j,rfl,hj,by omega,h⟩
  ·rw[List.getElem?_append_right (by rw[hl x yg];omega),hl x yg]at h;obtain⟨i,y,k,h1,h2,h3,h4⟩:=zlz f C xs (fun z hz=>hl z (List.mem_cons_of_mem _ hz)) (j-C) u h;exact⟨i+1,y,k,by simpa using h1,h2,by rw[Nat.add_mul];omega,h4⟩
def zpN{α:Type}[Inhabited α](f:α→List Value)(Q:α→Prop)(C:Nat){t e:TypeId}{fuel:Nat}{cs:List Value}{x:DataW H×List MemPlace}(ht:P.underlying t=some (.slice e))(hc:P.cellsOf e=C)
 (hel:∀n es y,es.length=C→DataW.trod enc P w base (fun _=>true) held n e es=some y→∃a,es=f a∧Q a)
 (h:DataW.trod enc P w base (fun _=>true) held fuel t cs=some x):∃(v:Value) (xs:List α),cs=[v]∧SArg w v xs.length (xs.flatMap f)∧∀a∈xs,Q a:=by
 rcases open_slice ht h with⟨rfl,rfl⟩|⟨a,len,cap,m,n,D,Pl,rfl,hb,hl,hm,hmm,rfl,hx⟩
 ·exact⟨_,[],rfl,⟨none,0,rfl,fun _=>rfl,Nat.le_refl _,Nat.zero_le _,fun w' _=> .inl ⟨rfl,rfl,_,_,rfl⟩⟩,by simp⟩
 ·simp only[if_true]at hmm;subst hmm;rw[hc]at hx
  obtain⟨V,hV⟩:=choose_lt (α:=α) (p:=fun i y=>(w.cells? base (a.add (i*C)) C=some (f y))∧(f y).length=C∧Q y) (fun i hi=>by
   obtain⟨es,h1,h2⟩:=hx i hi;obtain⟨_,h3,_⟩:=World.cells?_some h1;obtain⟨y,rfl,hq⟩:=hel _ _ _ h3 h2
   exact⟨y,h1,h3,hq⟩)
  refine⟨_,(List.range len).map V,rfl,⟨some a,m,by simp,by simp,by simpa using hl,hm,fun w' k=>?_⟩,?_⟩
  ·refine .inr ⟨a,m,by simp,fun j u hj=>?_⟩
   obtain⟨i,y,k',h1,h2,h3,h4⟩:=zlz f C _ (by
    intro z hz;obtain⟨i,hi,rfl⟩:=List.mem_map.1 hz
    exact(hV i (by have:=List.mem_range.1 hi;omega)).2.1) j u hj
   have hi:i<len:=by
    have:=(List.getElem?_eq_some_iff.1 h1).1
    simpa using this
   rw[List.getElem?_map,List.getElem?_range hi]at h1;simp only[Option.map_some,Option.some.injEq]at h1;subst h1;obtain⟨_,_,h5⟩:=World.cells?_some (hV i yb).1;have h6:=h5 k' h2;rw[h4,add_add]at h6;rw[h3];exact k.cell h6 yg
  ·intro y hy;obtain⟨i,hi,rfl⟩:=List.mem_map.1 hy;exact(hV i (by have:=List.mem_range.1 hi;omega)).2.2
def zmU{t e:TypeId}{fuel:Nat}{cs:List Value}{x:DataW H×List MemPlace}(ht:P.underlying t=some (.slice e))(he:P.underlying e=some (.int .u8))(hc:P.cellsOf e=1)
 (h:DataW.trod enc P w base (fun _=>true) held fuel t cs=some x):∃(v:Value) (s:List UInt8),cs=[v]∧SArg w v s.length (zx s):=by
 obtain⟨v,xs,h1,h2,_⟩:=zpN (fun b:UInt8=>[Value.int .u8 b.toNat]) (fun _=>True) 1 ht hc (fun n es y hl hy=>by
  obtain⟨z,rfl,_,hw⟩:=DataW.trod_int he hy;have hz:0≤z∧z<256:=by simp[Lit.wf,IntKind.min,IntKind.max,IntKind.bits,IntKind.signed]at hw;omega
  refine⟨UInt8.ofNat z.toNat,?_,trivial⟩
  have:((UInt8.ofNat z.toNat).toNat:Int)=z:=by rw[UInt8.toNat_ofNat'];omega
  rw[this]) h
 refine⟨v,xs,h1,?_⟩
 have:zx xs=xs.flatMap fun b=>[Value.int .u8 b.toNat]:=by unfold zx;rw[List.map_eq_flatMap]
 rw[this];exact h2
structure Deed4 where
 kind:Int
 i:Int
 dv:Value
 kv:Value
instance:Inhabited Deed4:=⟨⟨0,0, .nilFunc, .nilFunc⟩⟩
def Deed4.cells(d:Deed4):List Value:=[.int .i64 d.kind, .int .i64 d.i,d.dv,d.kv]
structure Deed4.Ok (w:World) (d:Deed4):Prop where
 kind:(Lit.int .i64 d.kind).wf=true
 i:(Lit.int .i64 d.i).wf=true
 data:∃s:List UInt8,SArg w d.dv s.length (zx s)
 keep:∃s:List Bool,SArg w d.kv s.length (s.map Value.bool)
end
end
def ztJ:List Value:=List.replicate 256 (.bool false)
def zuo:List Value:=List.replicate 24 (.int .u8 0)
def ztE:List Value:=List.replicate 20 (.int .u64 0)
def ztW:List Value:=List.replicate 65 (.int .u8 0)
def zuu:List Value:=List.replicate 256 (.int .u8 0)
def zuH:List Value:=(List.replicate 16 [.int .u8 0, .int .u8 0]).flatten
def ztB:List Value:=List.replicate 32 (.int .u8 0)
def zue:List Value:=List.replicate 64 (.int .u8 0)
instance:Ti Tryz.prog 2 [.int .i64 0] 1:=⟨Yk⟩
instance:Sc Tryz.prog 2:=⟨Yk,Yk⟩
instance:Iy Tryz.prog 2 .i64:=⟨Yk⟩
instance:Ti Tryz.prog 3 [.int .i64 0] 1:=⟨Yk⟩
instance:Sc Tryz.prog 3:=⟨Yk,Yk⟩
instance:Iy Tryz.prog 3 .i64:=⟨Yk⟩
instance:Ti Tryz.prog 4 [.bool false] 1:=⟨Yk⟩
instance:Sc Tryz.prog 4:=⟨Yk,Yk⟩
instance:Ti Tryz.prog 5 [.int .u8 0] 1:=⟨Yk⟩
instance:Sc Tryz.prog 5:=⟨Yk,Yk⟩
instance:Iy Tryz.prog 5 .u8:=⟨Yk⟩
instance:Ti Tryz.prog 9 [ze []] 1:=⟨Yk⟩
instance:Sc Tryz.prog 9:=⟨Yk,Yk⟩
instance:Sy Tryz.prog 9:=⟨Yk⟩
instance:Ti Tryz.prog 10 [ze []] 1:=⟨Yk⟩
instance:Sc Tryz.prog 10:=⟨Yk,Yk⟩
instance:Sy Tryz.prog 10:=⟨Yk⟩
instance:Ti Tryz.prog 13 [ze [], .int .u64 0] 2:=⟨Yk⟩
instance:Ro Tryz.prog 13 2:=⟨Yk⟩
instance:St Tryz.prog 13 [(0,1),(1,1)] [ze [], .int .u64 0]:=⟨Yk⟩
instance:Fo Tryz.prog 13 0 0:=⟨Yk⟩
instance:Fo Tryz.prog 13 1 1:=⟨Yk⟩
instance:Ti Tryz.prog 21 [.int .i32 0] 1:=⟨Yk⟩
instance:Sc Tryz.prog 21:=⟨Yk,Yk⟩
instance:Iy Tryz.prog 21 .i32:=⟨Yk⟩
instance:Ti Tryz.prog 22 [.slice none 0 0] 1:=⟨Yk⟩
instance:Sc Tryz.prog 22:=⟨Yk,Yk⟩
instance:Si Tryz.prog 22 5 [.int .u8 0] 1 1:=⟨Yk,rfl⟩
instance:By Tryz.prog 22:=⟨⟨5,Yk,Yk⟩⟩
instance:Ti Tryz.prog 25 [.slice none 0 0] 1:=⟨Yk⟩
instance:Sc Tryz.prog 25:=⟨Yk,Yk⟩
instance:Si Tryz.prog 25 3 [.int .i64 0] 1 8:=⟨Yk,rfl⟩
instance:Ti Tryz.prog 26 [.slice none 0 0] 1:=⟨Yk⟩
instance:Sc Tryz.prog 26:=⟨Yk,Yk⟩
instance:Si Tryz.prog 26 51 [.int .u64 0] 1 8:=⟨Yk,rfl⟩
instance:Ti Tryz.prog 28 [.int .i64 0, .int .i64 0, .slice none 0 0, .slice none 0 0, .slice none 0 0] 5:=⟨Yk⟩
instance:Ro Tryz.prog 28 5:=⟨Yk⟩
instance:St Tryz.prog 28 [(0,1),(1,1),(2,1),(3,1),(4,1)] [.int .i64 0, .int .i64 0, .slice none 0 0, .slice none 0 0, .slice none 0 0]:=⟨Yk⟩
instance:Fo Tryz.prog 28 0 0:=⟨Yk⟩
instance:Fo Tryz.prog 28 1 1:=⟨Yk⟩
instance:Fo Tryz.prog 28 2 2:=⟨Yk⟩
instance:Fo Tryz.prog 28 3 3:=⟨Yk⟩
instance:Fo Tryz.prog 28 4 4:=⟨Yk⟩
instance:Ti Tryz.prog 30 [.int .i64 0, .int .i64 0, .slice none 0 0, .slice none 0 0, .slice none 0 0, .bool false, .int .i64 0, .int .i64 0] 8:=⟨Yk⟩
instance:Ro Tryz.prog 30 8:=⟨Yk⟩
instance:St Tryz.prog 30 [(0,5),(5,1),(6,1),(7,1)] [.int .i64 0, .int .i64 0, .slice none 0 0, .slice none 0 0, .slice none 0 0, .bool false, .int .i64 0, .int .i64 0]:=⟨Yk⟩
instance:Fo Tryz.prog 30 0 0:=⟨Yk⟩
instance:Fo Tryz.prog 30 1 5:=⟨Yk⟩
instance:Fo Tryz.prog 30 2 6:=⟨Yk⟩
instance:Fo Tryz.prog 30 3 7:=⟨Yk⟩
instance:Ti Tryz.prog 31 [.int .i64 0] 1:=⟨Yk⟩
instance:Sc Tryz.prog 31:=⟨Yk,Yk⟩
instance:Iy Tryz.prog 31 .i64:=⟨Yk⟩
instance:Ti Tryz.prog 42 [.slice none 0 0] 1:=⟨Yk⟩
instance:Sc Tryz.prog 42:=⟨Yk,Yk⟩
instance:Si Tryz.prog 42 9 [ze []] 1 16:=⟨Yk,rfl⟩
instance:Ti Tryz.prog 50 [.int .u64 0] 1:=⟨Yk⟩
instance:Sc Tryz.prog 50:=⟨Yk,Yk⟩
instance:Iy Tryz.prog 50 .u64:=⟨Yk⟩
instance:Ti Tryz.prog 51 [.int .u64 0] 1:=⟨Yk⟩
instance:Sc Tryz.prog 51:=⟨Yk,Yk⟩
instance:Iy Tryz.prog 51 .u64:=⟨Yk⟩
instance:Ti Tryz.prog 53 [.int .i64 0, .int .i64 0] 2:=⟨Yk⟩
instance:Ro Tryz.prog 53 2:=⟨Yk⟩
instance:St Tryz.prog 53 [(0,1),(1,1)] [.int .i64 0, .int .i64 0]:=⟨Yk⟩
instance:Fo Tryz.prog 53 0 0:=⟨Yk⟩
instance:Fo Tryz.prog 53 1 1:=⟨Yk⟩
instance:Ti Tryz.prog 54 [.int .i64 0, .int .i64 0] 2:=⟨Yk⟩
instance:Ro Tryz.prog 54 2:=⟨Yk⟩
instance:St Tryz.prog 54 [(0,1),(1,1)] [.int .i64 0, .int .i64 0]:=⟨Yk⟩
instance:Fo Tryz.prog 54 0 0:=⟨Yk⟩
instance:Fo Tryz.prog 54 1 1:=⟨Yk⟩
instance:Ti Tryz.prog 55 [.pointer none] 1:=⟨Yk⟩
instance:Sc Tryz.prog 55:=⟨Yk,Yk⟩
instance:Pp Tryz.prog 55:=⟨Yk⟩
instance:Ti Tryz.prog 56 [.slice none 0 0, .int .i64 0] 2:=⟨Yk⟩
instance:Ro Tryz.prog 56 2:=⟨Yk⟩
instance:St Tryz.prog 56 [(0,1),(1,1)] [.slice none 0 0, .int .i64 0]:=⟨Yk⟩
instance:Fo Tryz.prog 56 0 0:=⟨Yk⟩
instance:Fo Tryz.prog 56 1 1:=⟨Yk⟩
instance:Ti Tryz.prog 57 [.slice none 0 0, .int .i64 0] 2:=⟨Yk⟩
instance:Ro Tryz.prog 57 2:=⟨Yk⟩
instance:St Tryz.prog 57 [(0,1),(1,1)] [.slice none 0 0, .int .i64 0]:=⟨Yk⟩
instance:Fo Tryz.prog 57 0 0:=⟨Yk⟩
instance:Fo Tryz.prog 57 1 1:=⟨Yk⟩
instance:Ti Tryz.prog 60 [.pointer none] 1:=⟨Yk⟩
instance:Sc Tryz.prog 60:=⟨Yk,Yk⟩
instance:Pp Tryz.prog 60:=⟨Yk⟩
instance:Ti Tryz.prog 63 [.slice none 0 0] 1:=⟨Yk⟩
instance:Sc Tryz.prog 63:=⟨Yk,Yk⟩
instance:Si Tryz.prog 63 75 [.int .i64 0, .int .i64 0, .int .u64 0] 3 24:=⟨Yk,rfl⟩
instance:Ti Tryz.prog 71 [.slice none 0 0] 1:=⟨Yk⟩
instance:Sc Tryz.prog 71:=⟨Yk,Yk⟩
instance:Si Tryz.prog 71 4 [.bool false] 1 1:=⟨Yk,rfl⟩
instance:Ti Tryz.prog 74 [.int .i64 0, .int .i64 0, .int .u64 0] 3:=⟨Yk⟩
instance:Ro Tryz.prog 74 3:=⟨Yk⟩
instance:St Tryz.prog 74 [(0,1),(1,1),(2,1)] [.int .i64 0, .int .i64 0, .int .u64 0]:=⟨Yk⟩
instance:Fo Tryz.prog 74 0 0:=⟨Yk⟩
instance:Fo Tryz.prog 74 1 1:=⟨Yk⟩
instance:Fo Tryz.prog 74 2 2:=⟨Yk⟩
instance:Ti Tryz.prog 75 [.int .i64 0, .int .i64 0, .int .u64 0] 3:=⟨Yk⟩
instance:Ro Tryz.prog 75 3:=⟨Yk⟩
instance:St Tryz.prog 75 [(0,1),(1,1),(2,1)] [.int .i64 0, .int .i64 0, .int .u64 0]:=⟨Yk⟩
instance:Fo Tryz.prog 75 0 0:=⟨Yk⟩
instance:Fo Tryz.prog 75 1 1:=⟨Yk⟩
instance:Fo Tryz.prog 75 2 2:=⟨Yk⟩
instance:Ti Tryz.prog 91 [ze [],ze [],ze []] 3:=⟨Yk⟩
instance:Ar Tryz.prog 91 3 9 [ze []] 1:=⟨Yk,Yk⟩
instance:Ro Tryz.prog 91 3:=⟨Yk⟩
instance:Ti Tryz.prog 103 [.int .u64 0] 1:=⟨Yk⟩
instance:Sc Tryz.prog 103:=⟨Yk,Yk⟩
instance:Iy Tryz.prog 103 .u64:=⟨Yk⟩
instance:Ti Tryz.prog 109 [.int .i64 0, .int .i64 0, .int .i64 0] 3:=⟨Yk⟩
instance:Ar Tryz.prog 109 3 3 [.int .i64 0] 1:=⟨Yk,Yk⟩
instance:Ro Tryz.prog 109 3:=⟨Yk⟩
instance:Ti Tryz.prog 111 [.map none] 1:=⟨Yk⟩
instance:Sc Tryz.prog 111:=⟨Yk,Yk⟩
instance:Ti Tryz.prog 113 [.int .i64 0, .int .i64 0] 2:=⟨Yk⟩
instance:Ar Tryz.prog 113 2 3 [.int .i64 0] 1:=⟨Yk,Yk⟩
instance:Ro Tryz.prog 113 2:=⟨Yk⟩
instance:Ti Tryz.prog 116 [.slice none 0 0] 1:=⟨Yk⟩
instance:Sc Tryz.prog 116:=⟨Yk,Yk⟩
instance:Si Tryz.prog 116 160 [.int .u32 0] 1 4:=⟨Yk,rfl⟩
instance:Ti Tryz.prog 117 [.bool false, .slice none 0 0] 2:=⟨Yk⟩
instance:Ro Tryz.prog 117 2:=⟨Yk⟩
instance:St Tryz.prog 117 [(0,1),(1,1)] [.bool false, .slice none 0 0]:=⟨Yk⟩
instance:Fo Tryz.prog 117 0 0:=⟨Yk⟩
instance:Fo Tryz.prog 117 1 1:=⟨Yk⟩
instance:Ti Tryz.prog 118 [.bool false, .slice none 0 0] 2:=⟨Yk⟩
instance:Ro Tryz.prog 118 2:=⟨Yk⟩
instance:St Tryz.prog 118 [(0,1),(1,1)] [.bool false, .slice none 0 0]:=⟨Yk⟩
instance:Fo Tryz.prog 118 0 0:=⟨Yk⟩
instance:Fo Tryz.prog 118 1 1:=⟨Yk⟩
instance:Ti Tryz.prog 122 [.bool false, .bool false, .slice none 0 0, .int .i64 0] 4:=⟨Yk⟩
instance:Ro Tryz.prog 122 4:=⟨Yk⟩
instance:St Tryz.prog 122 [(0,1),(1,2),(3,1)] [.bool false, .bool false, .slice none 0 0, .int .i64 0]:=⟨Yk⟩
instance:Fo Tryz.prog 122 0 0:=⟨Yk⟩
instance:Fo Tryz.prog 122 1 1:=⟨Yk⟩
instance:Fo Tryz.prog 122 2 3:=⟨Yk⟩
instance:Ti Tryz.prog 123 [.bool false, .bool false, .slice none 0 0, .int .i64 0] 4:=⟨Yk⟩
instance:Ro Tryz.prog 123 4:=⟨Yk⟩
instance:St Tryz.prog 123 [(0,1),(1,2),(3,1)] [.bool false, .bool false, .slice none 0 0, .int .i64 0]:=⟨Yk⟩
instance:Fo Tryz.prog 123 0 0:=⟨Yk⟩
instance:Fo Tryz.prog 123 1 1:=⟨Yk⟩
instance:Fo Tryz.prog 123 2 3:=⟨Yk⟩
instance:Ti Tryz.prog 136 [.pointer none] 1:=⟨Yk⟩
instance:Sc Tryz.prog 136:=⟨Yk,Yk⟩
instance:Pp Tryz.prog 136:=⟨Yk⟩
instance:Ti Tryz.prog 138 [.pointer none, .slice none 0 0] 2:=⟨Yk⟩
instance:Ro Tryz.prog 138 2:=⟨Yk⟩
instance:St Tryz.prog 138 [(0,1),(1,1)] [.pointer none, .slice none 0 0]:=⟨Yk⟩
instance:Fo Tryz.prog 138 0 0:=⟨Yk⟩
instance:Fo Tryz.prog 138 1 1:=⟨Yk⟩
instance:Ti Tryz.prog 152 ztJ 256:=⟨Yk⟩
instance:Ar Tryz.prog 152 256 4 [.bool false] 1:=⟨Yk,Yk⟩
instance:Ro Tryz.prog 152 256:=⟨Yk⟩
instance:Ti Tryz.prog 156 [.pointer none] 1:=⟨Yk⟩
instance:Sc Tryz.prog 156:=⟨Yk,Yk⟩
instance:Pp Tryz.prog 156:=⟨Yk⟩
instance:Ti Tryz.prog 160 [.int .u32 0] 1:=⟨Yk⟩
instance:Sc Tryz.prog 160:=⟨Yk,Yk⟩
instance:Iy Tryz.prog 160 .u32:=⟨Yk⟩
instance:Ti Tryz.prog 189 [.pointer none] 1:=⟨Yk⟩
instance:Sc Tryz.prog 189:=⟨Yk,Yk⟩
instance:Pp Tryz.prog 189:=⟨Yk⟩
instance:Ti Tryz.prog 197 [.slice none 0 0] 1:=⟨Yk⟩
instance:Sc Tryz.prog 197:=⟨Yk,Yk⟩
instance:Si Tryz.prog 197 199 [.int .i64 0, .int .i64 0] 2 16:=⟨Yk,rfl⟩
instance:Ti Tryz.prog 199 [.int .i64 0, .int .i64 0] 2:=⟨Yk⟩
instance:Ro Tryz.prog 199 2:=⟨Yk⟩
instance:St Tryz.prog 199 [(0,1),(1,1)] [.int .i64 0, .int .i64 0]:=⟨Yk⟩
instance:Fo Tryz.prog 199 0 0:=⟨Yk⟩
instance:Fo Tryz.prog 199 1 1:=⟨Yk⟩
instance:Ti Tryz.prog 209 [.bool false, .bool false, .slice none 0 0, .int .i64 0, .bool false] 5:=⟨Yk⟩
instance:Ro Tryz.prog 209 5:=⟨Yk⟩
instance:St Tryz.prog 209 [(0,1),(1,2),(3,1),(4,1)] [.bool false, .bool false, .slice none 0 0, .int .i64 0, .bool false]:=⟨Yk⟩
instance:Fo Tryz.prog 209 0 0:=⟨Yk⟩
instance:Fo Tryz.prog 209 1 1:=⟨Yk⟩
instance:Fo Tryz.prog 209 2 3:=⟨Yk⟩
instance:Fo Tryz.prog 209 3 4:=⟨Yk⟩
instance:Ti Tryz.prog 212 [.bool false,ze [], .int .i64 0] 3:=⟨Yk⟩
instance:Ro Tryz.prog 212 3:=⟨Yk⟩
instance:St Tryz.prog 212 [(0,1),(1,1),(2,1)] [.bool false,ze [], .int .i64 0]:=⟨Yk⟩
instance:Fo Tryz.prog 212 0 0:=⟨Yk⟩
instance:Fo Tryz.prog 212 1 1:=⟨Yk⟩
instance:Fo Tryz.prog 212 2 2:=⟨Yk⟩
instance:Ti Tryz.prog 217 [.slice none 0 0] 1:=⟨Yk⟩
instance:Sc Tryz.prog 217:=⟨Yk,Yk⟩
instance:Si Tryz.prog 217 123 [.bool false, .bool false, .slice none 0 0, .int .i64 0] 4 48:=⟨Yk,rfl⟩
instance:Ti Tryz.prog 223 zuo 24:=⟨Yk⟩
instance:Ar Tryz.prog 223 24 5 [.int .u8 0] 1:=⟨Yk,Yk⟩
instance:Ro Tryz.prog 223 24:=⟨Yk⟩
instance:Ti Tryz.prog 264 ztE 20:=⟨Yk⟩
instance:Ar Tryz.prog 264 20 50 [.int .u64 0] 1:=⟨Yk,Yk⟩
instance:Ro Tryz.prog 264 20:=⟨Yk⟩
instance:Ti Tryz.prog 265 ztW 65:=⟨Yk⟩
instance:Ar Tryz.prog 265 65 5 [.int .u8 0] 1:=⟨Yk,Yk⟩
instance:Ro Tryz.prog 265 65:=⟨Yk⟩
instance:Ti Tryz.prog 280 zuu 256:=⟨Yk⟩
instance:Ar Tryz.prog 280 256 5 [.int .u8 0] 1:=⟨Yk,Yk⟩
instance:Ro Tryz.prog 280 256:=⟨Yk⟩
instance:Ti Tryz.prog 282 [.int .u8 0, .int .u8 0] 2:=⟨Yk⟩
instance:Ro Tryz.prog 282 2:=⟨Yk⟩
instance:St Tryz.prog 282 [(0,1),(1,1)] [.int .u8 0, .int .u8 0]:=⟨Yk⟩
instance:Fo Tryz.prog 282 0 0:=⟨Yk⟩
instance:Fo Tryz.prog 282 1 1:=⟨Yk⟩
instance:Ti Tryz.prog 283 zuH 32:=⟨Yk⟩
instance:Ar Tryz.prog 283 16 282 [.int .u8 0, .int .u8 0] 2:=⟨Yk,Yk⟩
instance:Ro Tryz.prog 283 32:=⟨Yk⟩
instance:Ti Tryz.prog 288 [.pointer none] 1:=⟨Yk⟩
instance:Sc Tryz.prog 288:=⟨Yk,Yk⟩
instance:Pp Tryz.prog 288:=⟨Yk⟩
instance:Ti Tryz.prog 293 ztB 32:=⟨Yk⟩
instance:Ar Tryz.prog 293 32 5 [.int .u8 0] 1:=⟨Yk,Yk⟩
instance:Ro Tryz.prog 293 32:=⟨Yk⟩
instance:Ti Tryz.prog 300 [ze [],ze [], .nilIface] 3:=⟨Yk⟩
instance:Ro Tryz.prog 300 3:=⟨Yk⟩
instance:St Tryz.prog 300 [(0,1),(1,1),(2,1)] [ze [],ze [], .nilIface]:=⟨Yk⟩
instance:Fo Tryz.prog 300 0 0:=⟨Yk⟩
instance:Fo Tryz.prog 300 1 1:=⟨Yk⟩
instance:Fo Tryz.prog 300 2 2:=⟨Yk⟩
instance:Ti Tryz.prog 305 zue 64:=⟨Yk⟩
instance:Ar Tryz.prog 305 64 5 [.int .u8 0] 1:=⟨Yk,Yk⟩
instance:Ro Tryz.prog 305 64:=⟨Yk⟩
instance:Ti Tryz.prog 310 [ze []] 1:=⟨Yk⟩
instance:Ro Tryz.prog 310 1:=⟨Yk⟩
instance:St Tryz.prog 310 [(0,1)] [ze []]:=⟨Yk⟩
instance:Fo Tryz.prog 310 0 0:=⟨Yk⟩
end Go.Proofs.YtaijhllckmndhaaGreatDoor
