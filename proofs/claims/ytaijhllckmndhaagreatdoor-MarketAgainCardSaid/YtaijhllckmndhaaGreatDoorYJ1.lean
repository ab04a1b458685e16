import Derived.Test.YtaijhllckmndhaaGreatDoorYJ0
import Derived.Test.YtaijhllckmndhaaGreatDoorRows
import Derived.WalkKit
import Derived.WalkSpells
import Derived.WalkLawsBesides
import Derived.OrdersHeld
import Derived.Deep.MidRow
namespace Go.Proofs.YtaijhllckmndhaaGreatDoor
set_option linter.all false
set_option maxHeartbeats 64000000
set_option maxRecDepth 100000
section
open Go.RowKit
def hid{p:Prop}(h:p):Hid p:=h
structure Fr (T:List Nat) (w w':World):Prop where
 os:w'.os=w.os
 tape:w'.tape=w.tape
 output:w'.output=w.output
 size:w.heap.size≤w'.heap.size
 block:∀k,k<w.heap.size→k∉T→w'.heap[k]? =w.heap[k]?
def Fr.refl(T:List Nat)(w:World):Fr T w w:=⟨rfl,rfl,rfl,Nat.le_refl _,fun _ _ _=>rfl⟩
def Fr.trans{T:List Nat}{a b c:World}(h:Fr T a b)(k:Fr T b c):Fr T a c:=
 ⟨k.os.trans h.os,k.tape.trans h.tape,k.output.trans h.output,Nat.le_trans h.size k.size,fun i hi hn=>(k.block i (Nat.lt_of_lt_of_le hi h.size) hn).trans (h.block i hi hn)⟩
def Fr.andThen{T S:List Nat}{a b c:World}(h:Fr T a b)(k:Fr S b c)(hs:∀x∈S,x∈T∨a.heap.size≤x):Fr T a c:=
 ⟨k.os.trans h.os,k.tape.trans h.tape,k.output.trans h.output,Nat.le_trans h.size k.size,fun i hi hn=>
  (k.block i (Nat.lt_of_lt_of_le hi h.size) (fun hm=>by rcases hs i hm with h1|h1;exact hn h1;omega)).trans (h.block i hi hn)⟩
def Fr.mono{T S:List Nat}{a b:World}(h:Fr T a b)(hs:∀x∈T,x∈S∨a.heap.size≤x):Fr S a b:=
 ⟨h.os,h.tape,h.output,h.size,fun i hi hn=>h.block i hi (fun hm=>by rcases hs i hm with h1|h1;exact hn h1;omega)⟩
def Fr.get{T:List Nat}{a b:World}(h:Fr T a b){k:Nat}{o:Obj}(hk:a.heap[k]? =some o)(hn:k∉T):b.heap[k]? =some o:=by
 rw[h.block k (Array.getElem?_eq_some_iff.1 hk).1 hn];exact hk
def Fr.cell{T:List Nat}{a b:World}(h:Fr T a b){p:Addr}{v:Value}(hc:a.cell? p=some v)(hn:p.block∉T):b.cell? p=some v:=by
 have hlt:=block_lt_of_cell hc;rw[World.cell?_of_block (h.block p.block hlt hn)];exact hc
def Fr.below{w w':World}(h:Fr [] w w'):Below w.heap.size w w':=⟨h.os,h.tape,h.output,h.size,fun k hk=>h.block k hk yg⟩
def Fr.of_below{T:List Nat}{w w':World}(h:Below w.heap.size w w'):Fr T w w':=⟨h.os,h.tape,h.output,h.size,fun k hk _=>h.block k hk⟩
def Fr.drew(T:List Nat)(w:World):Fr T w w.drew:=⟨rfl,rfl,rfl,Nat.le_refl _,fun _ _ _=>rfl⟩
def Fr.alloc(T:List Nat)(w:World)(o:Obj):Fr T w (w.alloc o):=
 ⟨rfl,rfl,rfl,by simp,fun k hk _=>Below.heap_alloc w o k hk⟩
def Fr.setRow(w:World)(g:Nat)(cs:Array Value):Fr [g] w (w.setRow g cs):=
 ⟨rfl,rfl,rfl,by simp,fun k _ hn=>setRow_other w g k cs (by simpa using hn)⟩
def zbg{w:World}{k:Nat}{o:Obj}(h:w.heap[k]? =some o):k<w.heap.size:=(Array.getElem?_eq_some_iff.1 h).1
structure Firm (S:List Nat) (Q:World→Prop):Prop where
 fr:∀w w' R,Fr R w w'→(∀x∈S,x∉R)→Q w→Q w'
 lt:∀w,Q w→∀x∈S,x<w.heap.size
 nd:∀w,Q w→S.Nodup
inductive Ent where
 | blk (b:Nat) (cs:List Value) (t:TypeId)
 | rng (b off:Nat) (cs:List Value)
 | obj (k:Nat) (S:List Nat) (Q:World→Prop)
def Ent.ok(T:List Nat)(w0 w:World):Ent→Prop
 | .blk b cs t=>w.heap[b]? =some (.cells cs.toArray t (0,0))∧(b∈T∨w0.heap.size≤b)
 | .rng b off cs=>b<w0.heap.size∧b∉T∧∀j u,cs[j]? =some u→w0.cell? ⟨b,off+j,none⟩=some u
 | .obj _ S Q=>Q w∧Firm S Q∧∀x∈S,x∈T∨w0.heap.size≤x
def Ent.own:Ent→List Nat
 | .blk b _ _=>[b]
 | .rng .. =>[]
 | .obj _ S _=>S
structure Hp (T:List Nat) (w0 w:World) (l:List Ent):Prop where
 fr:Fr T w0 w
 ok:∀e∈l,e.ok T w0 w
 nodup:(l.flatMap Ent.own).Nodup
section
variable {T:List Nat} {w0 w w':World} {l:List Ent}
def Hp.start(T:List Nat)(w:World):Hp T w w []:=⟨Fr.refl _ _,by simp,by simp⟩
def Ent.lt{e:Ent}(h:e.ok T w0 w):∀x∈e.own,x<w.heap.size:=by
 intro x hx
 cases e with
 | blk b cs t=>simp only[Ent.own,List.mem_singleton]at hx;subst hx;exact zbg h.1
 | rng b off cs=>simp[Ent.own]at hx
 | obj k S Q=>exact h.2.1.lt w h.1 x hx
def Ent.home{e:Ent}(h:e.ok T w0 w):∀x∈e.own,x∈T∨w0.heap.size≤x:=by
 intro x hx
 cases e with
 | blk b cs t=>simp only[Ent.own,List.mem_singleton]at hx;subst hx;exact h.2
 | rng b off cs=>simp[Ent.own]at hx
 | obj k S Q=>exact h.2.2 x hx
def Ent.stay{e:Ent}(h:e.ok T w0 w){R:List Nat}(k:Fr R w w')(hn:∀x∈e.own,x∉R):e.ok T w0 w':=by
 cases e with
 | blk b cs t=>exact⟨k.get h.1 (hn b yac),h.2⟩
 | rng b off cs=>exact h
 | obj i S Q=>exact⟨h.2.1.fr w w' R k hn h.1,h.2⟩
def Hp.lt(H:Hp T w0 w l){b:Nat}{cs:List Value}{t:TypeId}(h: .blk b cs t∈l):b<w.heap.size:=zbg (H.ok _ h).1
def Hp.get(H:Hp T w0 w l){b:Nat}{cs:List Value}{t:TypeId}(h: .blk b cs t∈l):w.heap[b]? =some (.cells cs.toArray t (0,0)):=(H.ok _ h).1
def Hp.blkCell(H:Hp T w0 w l){b:Nat}{cs:List Value}{t:TypeId}(h: .blk b cs t∈l){o:Nat}{v:Value}(hv:cs[o]? =some v):w.cell? ⟨b,o,none⟩=some v:=by
 rw[cell_of_row w b o _ t _ (H.get h)];simpa using hv
def Hp.rngCell(H:Hp T w0 w l){b off:Nat}{cs:List Value}(h: .rng b off cs∈l){j:Nat}{v:Value}(hv:cs[j]? =some v):w.cell? ⟨b,off+j,none⟩=some v:=by
 obtain⟨h1,h2,h3⟩:=H.ok _ h;exact H.fr.cell (h3 j v hv) h2
def Hp.ownLt(H:Hp T w0 w l):∀x∈l.flatMap Ent.own,x<w.heap.size:=by
 intro x hx;obtain⟨e,he,hx⟩:=List.mem_flatMap.1 hx;exact Ent.lt (H.ok e he) x hx
def Hp.step(H:Hp T w0 w l){S:List Nat}(k:Fr S w w')(hs:∀x∈S,w.heap.size≤x):Hp T w0 w' l:=
 ⟨H.fr.andThen k (fun x hx=> .inr (Nat.le_trans H.fr.size (hs x hx))),fun e he=>
  Ent.stay (H.ok e he) k (fun x hx hm=>by have:=Ent.lt (H.ok e he) x hx;have:=hs x hm;omega),H.nodup⟩
def Hp.skip(H:Hp T w0 w l){S:List Nat}(k:Fr S w w')(hs:∀x∈S,w0.heap.size≤x)(hd:∀x∈S,x∉l.flatMap Ent.own):Hp T w0 w' l:=
 ⟨H.fr.andThen k (fun x hx=> .inr (hs x hx)),fun e he=>
  Ent.stay (H.ok e he) k (fun x hx hm=>hd x hm (List.mem_flatMap.2 ⟨_,he,hx⟩)),H.nodup⟩
def Hp.drew(H:Hp T w0 w l):Hp T w0 w.drew l:=H.step (Fr.drew [] w) yg
def Hp.push(H:Hp T w0 w l){b:Nat}{cs:List Value}{t:TypeId}(hg:w.heap[b]? =some (.cells cs.toArray t (0,0)))(hb:b∈T∨w0.heap.size≤b)(hn:b∉l.flatMap Ent.own):Hp T w0 w (.blk b cs t::l):=
 ⟨H.fr,fun e he=>by cases he with|head=>exact⟨hg,hb⟩|tail _ he=>exact H.ok e he,by
  simp only[List.flatMap_cons,Ent.own,List.singleton_append];exact List.nodup_cons.2 ⟨hn,H.nodup⟩⟩
def Hp.pushRng(H:Hp T w0 w l){b off:Nat}{cs:List Value}(hb:b<w0.heap.size)(hn:b∉T)(hc:∀j u,cs[j]? =some u→w0.cell? ⟨b,off+j,none⟩=some u):Hp T w0 w (.rng b off cs::l):=
 ⟨H.fr,fun e he=>by cases he with|head=>exact⟨hb,hn,hc⟩|tail _ he=>exact H.ok e he,by
  simpa[List.flatMap_cons,Ent.own]using H.nodup⟩
def Hp.pushObj(H:Hp T w0 w l)(k:Nat){S:List Nat}{Q:World→Prop}(hq:Q w)(hf:Firm S Q)(hs:∀x∈S,x∈T∨w0.heap.size≤x)(hn:∀x∈S,x∉l.flatMap Ent.own):Hp T w0 w (.obj k S Q::l):=
 ⟨H.fr,fun e he=>by cases he with|head=>exact⟨hq,hf,hs⟩|tail _ he=>exact H.ok e he,by
  rw[List.flatMap_cons]
  exact List.nodup_append.2 ⟨hf.nd w hq,H.nodup,fun x hx y hy e=>hn x hx (e ▸ hy)⟩⟩
def Hp.notOwn(H:Hp T w0 w l){b:Nat}(hb:w.heap.size≤b):b∉l.flatMap Ent.own:=by
 intro hm
 have:=H.ownLt b hm
 omega
def Hp.born(H:Hp T w0 w l)(k:Nat)(hF:Fr [] w w'){S:List Nat}{Q:World→Prop}(hq:Q w')(hf:Firm S Q)(hs:∀x∈S,w.heap.size≤x):Hp T w0 w' (.obj k S Q::l):=
 (H.step hF yg).pushObj k hq hf (fun x hx=> .inr (Nat.le_trans H.fr.size (hs x hx))) (fun x hx=>H.notOwn (hs x hx))
def Hp.alloc(H:Hp T w0 w l)(cs:List Value)(t:TypeId):Hp T w0 (w.alloc (.cells cs.toArray t)) (.blk w.heap.size cs t::l):=
 (H.step (Fr.alloc [] w _) yg).push (heap_alloc_new w _) (.inr H.fr.size) (H.notOwn (Nat.le_refl _))
inductive Rep (e e1:Ent):List Ent→List Ent→Prop where
 | head (l:List Ent):Rep e e1 (e::l) (e1::l)
 | tail (x:Ent) {l l1:List Ent}:Rep e e1 l l1→Rep e e1 (x::l) (x::l1)
abbrev Put(b:Nat)(cs cs1:List Value)(t:TypeId):List Ent→List Ent→Prop:=Rep (.blk b cs t) (.blk b cs1 t)
def Rep.mem{e e1:Ent}{l l1:List Ent}(h:Rep e e1 l l1):e∈l:=by
 induction h with
 | head=>exact List.mem_cons_self
 | tail _ _ ih=>exact List.mem_cons_of_mem _ ih
def Rep.same{e:Ent}{l l1:List Ent}(h:Rep e e l l1):l1=l:=by
 induction h with
 | head=>rfl
 | tail x _ ih=>rw[ih]
def Rep.of{e0 e1:Ent}{l l1:List Ent}(h:Rep e0 e1 l l1)(hn:(l.flatMap Ent.own).Nodup):∀e∈l1,e=e1∨(e∈l∧∀x∈e.own,x∉e0.own):=by
 induction h with
 | head l=>
  rw[List.flatMap_cons]at hn;intro e he
  cases he with
  | head=>exact .inl rfl
  | tail _ he=>exact .inr ⟨List.mem_cons_of_mem _ he,fun x hx h0=>(List.nodup_append.1 hn).2.2 x h0 x (List.mem_flatMap.2 ⟨e,he,hx⟩) rfl⟩
 | @tail y l2 l3 h ih=>
  rw[List.flatMap_cons]at hn;intro e he
  cases he with
  | head=>exact .inr ⟨List.mem_cons_self,fun x hx h0=>(List.nodup_append.1 hn).2.2 x hx x (List.mem_flatMap.2 ⟨_,h.mem,h0⟩) rfl⟩
  | tail _ he=>
   rcases ih (List.nodup_append.1 hn).2.1 e he with h1|⟨h1,h2⟩
   ·exact .inl h1
   ·exact .inr ⟨List.mem_cons_of_mem _ h1,h2⟩
def Rep.nodup{e0 e1:Ent}{l l1:List Ent}(h:Rep e0 e1 l l1)(hn:(l.flatMap Ent.own).Nodup)(hd:e1.own.Nodup)(hg:∀x∈e1.own,x∈e0.own∨x∉l.flatMap Ent.own):(l1.flatMap Ent.own).Nodup:=by
 have key:∀ {l l1:List Ent},Rep e0 e1 l l1→∀y,y∈l1.flatMap Ent.own→y∈e1.own∨y∈l.flatMap Ent.own:=by
  intro l l1 h
  induction h with
  | head l=>intro y hy;simp only[List.flatMap_cons,List.mem_append]at hy ⊢;exact hy.imp id .inr
  | @tail x l2 l3 h ih=>
   intro y hy;simp only[List.flatMap_cons,List.mem_append]at hy ⊢
   rcases hy with h1|h1
   ·exact .inr (.inl h1)
   ·exact(ih y h1).imp id .inr
 induction h with
 | head l=>
  simp only[List.flatMap_cons,List.mem_append,not_or]at hn hg ⊢;have hn':=List.nodup_append.1 hn;refine List.nodup_append.2 ⟨hd,hn'.2.1,fun x hx y hy e=>?_⟩;subst e
  rcases hg x hx with h1|h1
  ·exact hn'.2.2 x h1 x hy rfl
  ·exact h1.2 hy
 | @tail z l2 l3 h ih=>
  simp only[List.flatMap_cons,List.mem_append,not_or]at hn hg ⊢;have hn':=List.nodup_append.1 hn;refine List.nodup_append.2 ⟨hn'.1,ih hn'.2.1 (fun x hx=>(hg x hx).imp id (·.2)),fun x hx y hy e=>?_⟩;subst e
  rcases key h x hy with h1|h1
  ·rcases hg x h1 with h2|h2
   ·exact hn'.2.2 x hx x (List.mem_flatMap.2 ⟨_,h.mem,h2⟩) rfl
   ·exact h2.1 hx
  ·exact hn'.2.2 x hx x h1 rfl
def Hp.repl(H:Hp T w0 w l){b g:Nat}{cs cs1:List Value}{t t1:TypeId}{l1:List Ent}(h:Rep (.blk b cs t) (.blk g cs1 t1) l l1)(k:Fr [b] w w')(hg:w'.heap[g]? =some (.cells cs1.toArray t1 (0,0)))(hb:g=b∨w.heap.size≤g):Hp T w0 w' l1:=
 ⟨H.fr.andThen k (fun x hx=>by simp only[List.mem_singleton]at hx;subst hx;exact(H.ok _ h.mem).2),fun e he=>by
  rcases h.of H.nodup e he with rfl|⟨he,hne⟩
  ·refine⟨hg,?_⟩
   rcases hb with rfl|hb
   ·exact(H.ok _ h.mem).2
   ·exact .inr (Nat.le_trans H.fr.size hb)
  ·exact Ent.stay (H.ok e he) k (by simpa[Ent.own]using hne),h.nodup H.nodup yac (fun x hx=>by
  simp only[Ent.own,List.mem_singleton]at hx ⊢;subst hx
  exact hb.imp id H.notOwn)⟩
def Hp.write(H:Hp T w0 w l){b:Nat}{cs cs1:List Value}{t:TypeId}{l1:List Ent}(h:Put b cs cs1 t l l1)(k:Fr [b] w w')(hg:w'.heap[b]? =some (.cells cs1.toArray t (0,0))):Hp T w0 w' l1:=
 H.repl h k hg (.inl rfl)
def Hp.setRow(H:Hp T w0 w l){b:Nat}{cs cs1:List Value}{t:TypeId}{l1:List Ent}(h:Put b cs cs1 t l l1):Hp T w0 (w.setRow b cs1.toArray) l1:=
 H.write h (Fr.setRow w b _) (setRow_heap w b _ _ t _ (H.get h.mem))
def Hp.upd'(H:Hp T w0 w l){k:Nat}{S S':List Nat}{Q Q':World→Prop}{l1:List Ent}(h:Rep (.obj k S Q) (.obj k S' Q') l l1)(hF:Fr S w w')(hq:Q' w')(hf:Firm S' Q')(hs:∀x∈S',x∈S∨w.heap.size≤x):Hp T w0 w' l1:=
 have hS:=(H.ok _ h.mem).2.2
 ⟨H.fr.andThen hF hS,fun e he=>by
  rcases h.of H.nodup e he with rfl|⟨he,hne⟩
  ·exact⟨hq,hf,fun x hx=>(hs x hx).elim (hS x) (fun h1=> .inr (Nat.le_trans H.fr.size h1))⟩
  ·exact Ent.stay (H.ok e he) hF hne,h.nodup H.nodup (hf.nd _ hq) (fun x hx=>(hs x hx).imp id H.notOwn)⟩
def ztb{l l':List Ent}(h:List.Sublist l' l):List.Sublist (l'.flatMap Ent.own) (l.flatMap Ent.own):=by
 induction h with
 | slnil=>exact List.Sublist.refl _
 | cons a _ ih=>rw[List.flatMap_cons];exact ih.trans (List.sublist_append_right _ _)
 | cons_cons a _ ih=>rw[List.flatMap_cons,List.flatMap_cons];exact List.Sublist.append (List.Sublist.refl _) ih
def Hp.sub(H:Hp T w0 w l){l':List Ent}(h:List.Sublist l' l):Hp T w0 w l':=
 ⟨H.fr,fun e he=>H.ok e (h.subset he),H.nodup.sublist (ztb h)⟩
end
def Rd(w:World)(v:Value)(n:Nat)(cs:List Value):Prop:=
 (n=0∧cs=[]∧∃p c,v= .slice p 0 c)∨(∃ad c,v= .slice (some ad) n c∧∀j u,cs[j]? =some u→w.cell? (ad.add j)=some u)
def zaL(b o j:Nat):(⟨b,o,none⟩:Addr).add j=⟨b,o+j,none⟩:=by unfold Addr.add;split<;>simp_all
def Hp.rdBlk{T:List Nat}{w0 w:World}{l:List Ent}(H:Hp T w0 w l){b:Nat}{cs:List Value}{t:TypeId}(h: .blk b cs t∈l){off n c:Nat}{vs:List Value}(hv:vs<+:cs.drop off):
 Rd w (.slice (some ⟨b,off,none⟩) n c) n vs:=by
 refine .inr ⟨_,c,rfl,fun j u hj=>?_⟩;rw[zaL];refine H.blkCell h ?_;obtain⟨r,hr⟩:=hv;have hlt:=(List.getElem?_eq_some_iff.1 hj).1
 have:(cs.drop off)[j]? =some u:=by rw[←hr,List.getElem?_append_left hlt];exact hj
 simpa using this
def Rd.drew{w:World}{v:Value}{n:Nat}{cs:List Value}(h:Rd w v n cs):Rd w.drew v n cs:=h
def Rd.fr{T:List Nat}{w w':World}{v:Value}{n:Nat}{cs:List Value}(h:Rd w v n cs)(k:Fr T w w')(hn:∀b,v.ownBlock=some b→b∉T):Rd w' v n cs:=by
 rcases h with h|⟨ad,c,rfl,h⟩
 ·exact .inl h
 ·refine .inr ⟨ad,c,rfl,fun j u hj=>k.cell (h j u hj) ?_⟩
  have:(ad.add j).block=ad.block:=by unfold Addr.add;split<;>rfl
  rw[this];exact hn _ rfl
def zfT(z:List Value)(n:Nat):madeCells z.toArray (n*z.length)=((List.replicate n z).flatten).toArray:=by
 apply Array.ext'
 simp only[madeCells]
 apply List.ext_getElem?
 intro j
 induction n generalizing j with
 | zero=>simp
 | succ n ih=>
  simp only[List.replicate_succ,List.flatten_cons,List.getElem?_append]
  by_cases hj:j<z.length
  ·have h1:j<(n+1)*z.length:=Nat.lt_of_lt_of_le hj (Nat.le_mul_of_pos_left _ yb)
   simp[hj,h1,Nat.mod_eq_of_lt hj]
  ·rw[if_neg hj,←ih]
   by_cases h2:j<(n+1)*z.length
   ·have h3:j-z.length<n*z.length:=by rw[Nat.add_mul,Nat.one_mul]at h2;omega
    have h4:(j-z.length)%z.length=j%z.length:=by rw[Nat.mod_eq_sub_mod (show z.length≤j by omega)]
    simp[h2,h3,h4]
   ·have h3:¬j-z.length<n*z.length:=by rw[Nat.add_mul,Nat.one_mul]at h2;omega
    simp[h2,h3]
section
variable {P:Program} {ops:Array Oper} {Q:Exit→Act→World→Prop} {a:Act} {w w0:World} {rest:List Oper} {o:Oper} {K:Act→World→Prop} {T:List Nat} {l:List Ent}
def zU{v:Value}{w':World}(h:(execOp a.eval o).run P w= .ok (.value v) w')(k:K (a.put o.dst v) w'):o.wp P a w K Q:=by
 unfold Oper.wp;rw[h];exact k
def zdl{w':World}(h:(execOp a.eval o).run P w= .ok .skip w')(k:K (a.put o.dst undef) w'):o.wp P a w K Q:=by
 unfold Oper.wp;rw[h];exact k
def zq9(H:Hp T w0 w l){t:TypeId}(ho:o.op= .alloc t){i:TypeInfo}{z:List Value}{v:Value}(hi:P.info? t=some i)(hz:i.zero=some v)(hzc:v.cells=z.toArray)
 (h:∀g w',w0.heap.size≤g∧w.heap.size≤g→Fr [] w w'→Hp T w0 w' (.blk g z t::l)→K (a.put o.dst (.pointer (some ⟨g,0,none⟩))) w'):o.wp P a w K Q:=by
 have e:(Instr.alloc t true (.tuple #[])).run P w= .ok (.pointer (some ⟨w.heap.size,0,none⟩)) (w.alloc (.cells z.toArray t)):=by
  simp[Instr.alloc,zeroValue,typeInfo,hi,hz,newVar,newRow,hzc]
 refine zU (w':=w.alloc (.cells z.toArray t)) (v:= .pointer (some ⟨w.heap.size,0,none⟩)) ?_ (h _ _ ⟨H.fr.size,Nat.le_refl _⟩ (Fr.alloc [] w _) (H.alloc z t));unfold execOp;simp only[ho,Sem.run_bind,e,Result.andThen_ok,Sem.run_pure]
def znW(H:Hp T w0 w l){t:TypeId}{x:Operand}(ho:o.op= .box t x){v:Value}{cs:List Value}(hx:a.eval x=v)(hc:v.cells=cs.toArray)
 (h:∀g w',w0.heap.size≤g∧w.heap.size≤g→Fr [] w w'→Hp T w0 w' (.blk g cs t::l)→K (a.put o.dst (.pointer (some ⟨g,0,none⟩))) w'):o.wp P a w K Q:=by
 have e:(Instr.box t v).run P w= .ok (.pointer (some ⟨w.heap.size,0,none⟩)) (w.alloc (.cells cs.toArray t)):=by
  simp[Instr.box,newVar,newRow,hc]
 refine zU (w':=w.alloc (.cells cs.toArray t)) (v:= .pointer (some ⟨w.heap.size,0,none⟩)) ?_ (h _ _ ⟨H.fr.size,Nat.le_refl _⟩ (Fr.alloc [] w _) (H.alloc cs t));unfold execOp;simp only[ho,hx,Sem.run_bind,e,Result.andThen_ok,Sem.run_pure]
def zsK(H:Hp T w0 w l){t:TypeId}{lx cx:Operand}(ho:o.op= .makeSlice t lx cx){e:TypeId}{i:TypeInfo}{z:List Value}{v:Value}(ht:P.underlying t=some (.slice e))(hi:P.info? e=some i)(hz:i.zero=some v)(hzc:v.cells=z.toArray)(hzs:i.size=z.length)
 {kl kc:IntKind} {n c:Int} (hl:a.eval lx= .int kl n) (hc:a.eval cx= .int kc c) (h0:0≤n) (h1:n≤c) (hb:(i.bytes:Int)*c≤281474976710656) (h63:c≤9223372036854775807)
 (h:∀g w',w0.heap.size≤g∧w.heap.size≤g→Fr [] w w'→Hp T w0 w' (.blk g (List.replicate c.toNat z).flatten e::l)→K (a.put o.dst (.slice (some ⟨g,0,none⟩) n.toNat c.toNat)) w'):o.wp P a w K Q:=by
 have e1:=run_make (P:=P) w t e i v ht hi hz kl kc n c h0 h1 hb h63;rw[hzc,hzs,zfT]at e1;refine zU ?_ (h _ _ ⟨H.fr.size,Nat.le_refl _⟩ (Fr.alloc [] w _) (H.alloc _ e));unfold execOp;simp only[ho,hl,hc,Sem.run_bind,e1,Result.andThen_ok,Sem.run_pure]
def zp3(size:Nat)(z:Array Value)(v:Value)(hv:v.cells.size=size)(hz:z.size=size):Instr.fill (fun i=>some (i*size,size)) z [(0,v)]=some v.cells:=by
 have hc:¬(v.cells.size≠size||0*size+v.cells.size>z.size)=true:=by simp[hv,hz]
 simp only[Instr.fill];rw[if_neg hc]
 congr 1
 subst hv
 have key:∀(l:List Value) (k:Nat) (acc:Array Value),(l.zipIdx k).foldl (fun cs (p:Value×Nat)=>cs.setIfInBounds (0*v.cells.size+p.2) p.1) acc=(acc.toList.take k++(l++acc.toList.drop (k+l.length))).toArray∨acc.size<k+l.length:=by
  intro l
  induction l with
  | nil=>intro k acc;left;simp
  | cons x l ih=>
   intro k acc;simp only[List.zipIdx_cons,List.foldl_cons,Nat.zero_mul,Nat.zero_add]
   rcases ih (k+1) (acc.setIfInBounds k x)with h|h
   ·by_cases hk:acc.size<k+(x::l).length
    ·exact .inr hk
    ·left
     simp only[Nat.zero_mul,Nat.zero_add]at h;rw[h]
     congr 1
     simp only[List.length_cons]at hk;have hkl:k<acc.toList.length:=by simp;omega
     simp only[Array.toList_setIfInBounds];rw[List.take_succ_eq_append_getElem (by simpa using hkl)];rw[List.take_set_of_le (Nat.le_refl _),List.drop_set_of_lt yb];simp only[List.getElem_set_self,List.append_assoc,List.cons_append,List.nil_append,List.length_cons];rw[show k+(l.length+1)=k+1+l.length by omega]
   ·right;simp only[Array.size_setIfInBounds,List.length_cons]at h ⊢;omega
 have:=key v.cells.toList 0 z
 rw[←Array.foldl_toList]
 rcases this with h|h
 ·simp only[Array.toList_zipIdx]at*;rw[h]
  apply Array.ext'
  simp[hz]
 ·simp[hz]at h
def zn5(H:Hp T w0 w l){t:TypeId}{x:Operand}(ho:o.op= .buildSlice t 1 #[(0,x)]){e:TypeId}{i:TypeInfo}{zv v:Value}{cs:List Value}(ht:P.underlying t=some (.slice e))(hi:P.info? e=some i)(hz:i.zero=some zv)(hzc:zv.cells.size=i.size)(h24:i.size≤16777216)(h0:i.size≠0)
 (hx:a.eval x=v) (hc:v.cells=cs.toArray) (hs:cs.length=i.size)
 (h:∀g w',w0.heap.size≤g∧w.heap.size≤g→Fr [] w w'→Hp T w0 w' (.blk g cs e::l)→K (a.put o.dst (.slice (some ⟨g,0,none⟩) 1 1)) w'):o.wp P a w K Q:=by
 have e1:(Instr.buildSlice t 1 #[(0,v)]).run P w= .ok (.slice (some ⟨w.heap.size,0,none⟩) 1 1) (w.alloc (.cells cs.toArray e)):=by
  have hf:=zp3 i.size ((Array.range (1*i.size)).map (zv.cells[· %zv.cells.size]!)) v (by rw[hc];simpa using hs) yg;simp only[Instr.buildSlice,Sem.run_bind,run_underlying ht,Result.andThen_ok,sizeOf,typeInfo,run_program,hi,Sem.run_pure,zeroValue];rw[if_neg yb,if_neg yb];simp only[Sem.run_bind,Sem.run_pure,Result.andThen_ok,run_program,hi,hz,hf,newRow,run_newObj,hc]
  rfl
 refine zU ?_ (h _ _ ⟨H.fr.size,Nat.le_refl _⟩ (Fr.alloc [] w _) (H.alloc cs e));unfold execOp;simp only[ho,List.map_toArray,List.map_cons,List.map_nil,hx,Sem.run_bind,e1,Result.andThen_ok,Sem.run_pure]
def zdv(P:Program)(t:TypeId):Bool:=match P.underlying t with
 | some (.struct _)|some (.array _ _)=>false
 | some _=>true
 | none=>false
def zbp(P:Program)(t:TypeId):Option Nat:=match P.underlying t with
 | some (.struct _)|some (.array _ _)=>(P.info? t).map (·.size)
 | _=>none
def zcP{t:TypeId}{x:Operand}(ho:o.op= .load t x){ad:Addr}{v:Value}(hx:a.eval x= .pointer (some ad))(hs:zdv P t=true)(hc:w.cell? ad=some v):(execOp a.eval o).run P w= .ok (.value v) w:=by
 have hagg:(isAgg t).run P w= .ok false w:=by
  unfold zdv at hs
  cases hu:P.underlying t with
  | none=>simp[hu]at hs
  | some d=>unfold isAgg;rw[Sem.run_bind,run_underlying hu w];cases d<;>simp_all
 unfold execOp;simp only[ho,hx,Instr.loadAt,Instr.sureAddr,loadVar,Sem.run_bind,Sem.run_pure,Result.andThen_ok,hagg]
 simp[hc]
def zdw{t:TypeId}{x:Operand}(ho:o.op= .load t x){b off:Nat}{cs:List Value}(hx:a.eval x= .pointer (some ⟨b,off,none⟩))(hs:zbp P t=some cs.length)(hc:∀j v,cs[j]? =some v→w.cell? ⟨b,off+j,none⟩=some v):
 (execOp a.eval o).run P w= .ok (.value (.agg cs.toArray)) w:=by
 unfold zbp at hs
 cases hu:P.underlying t with
 | none=>simp[hu]at hs
 | some d=>
  have hd:d.isRow=true:=by cases d<;>simp_all
  have hi:(P.info? t).map (·.size)=some cs.length:=by cases d<;>simp_all
  unfold execOp;simp only[ho,hx,Instr.loadAt,Instr.sureAddr,Sem.run_bind,Sem.run_pure,Result.andThen_ok,run_loadVar_mid w b off t cs d hc hu hd hi]
def zmq(H:Hp T w0 w l){t:TypeId}{x:Operand}(ho:o.op= .load t x){b p:Nat}(hx:a.eval x= .pointer (some ⟨b,p,none⟩))(hs:zdv P t=true){cs:List Value}{t':TypeId}(hm: .blk b cs t'∈l){v:Value}(hv:cs[p]? =some v):
 (execOp a.eval o).run P w= .ok (.value v) w:=zcP ho hx hs (H.blkCell hm hv)
def zmk(H:Hp T w0 w l){t:TypeId}{x:Operand}(ho:o.op= .load t x){b off j:Nat}(hx:a.eval x= .pointer (some ⟨b,off+j,none⟩))(hs:zdv P t=true){cs:List Value}(hm: .rng b off cs∈l){v:Value}(hv:cs[j]? =some v):
 (execOp a.eval o).run P w= .ok (.value v) w:=zcP ho hx hs (H.rngCell hm hv)
def zk9(H:Hp T w0 w l){t:TypeId}{x:Operand}(ho:o.op= .load t x){b off:Nat}(hx:a.eval x= .pointer (some ⟨b,off,none⟩))(hs:zdv P t=true){cs:List Value}(hm: .rng b off cs∈l){v:Value}(hv:cs[0]? =some v):
 (execOp a.eval o).run P w= .ok (.value v) w:=zcP ho hx hs (by have:=H.rngCell hm hv;simpa using this)
def zf7(H:Hp T w0 w l){t:TypeId}{x:Operand}(ho:o.op= .load t x){b p:Nat}(hx:a.eval x= .pointer (some ⟨b,p,none⟩)){vs:List Value}(hs:zbp P t=some vs.length){cs:List Value}{t':TypeId}(hm: .blk b cs t'∈l)(hv:vs<+:cs.drop p):
 (execOp a.eval o).run P w= .ok (.value (.agg vs.toArray)) w:=zdw ho hx hs (fun j v hj=>by
  refine H.blkCell hm ?_;obtain⟨r,hr⟩:=hv;have hlt:=(List.getElem?_eq_some_iff.1 hj).1
  have:(cs.drop p)[j]? =some v:=by rw[←hr,List.getElem?_append_left hlt];exact hj
  simpa using this)
def zk1(H:Hp T w0 w l){t:TypeId}{x:Operand}(ho:o.op= .load t x){b off p:Nat}(hx:a.eval x= .pointer (some ⟨b,off+p,none⟩)){vs:List Value}(hs:zbp P t=some vs.length){cs:List Value}(hm: .rng b off cs∈l)(hv:vs<+:cs.drop p):
 (execOp a.eval o).run P w= .ok (.value (.agg vs.toArray)) w:=zdw ho hx hs (fun j v hj=>by
  rw[Nat.add_assoc];refine H.rngCell hm ?_;obtain⟨r,hr⟩:=hv;have hlt:=(List.getElem?_eq_some_iff.1 hj).1
  have:(cs.drop p)[j]? =some v:=by rw[←hr,List.getElem?_append_left hlt];exact hj
  simpa using this)
def zki(H:Hp T w0 w l){t:TypeId}{x y:Operand}(ho:o.op= .store t x y){b p:Nat}{v:Value}(hx:a.eval x= .pointer (some ⟨b,p,none⟩))(hy:a.eval y=v)(h1:v.oneCell'=true)(hs:(P.info? t).map (·.size)=some 1)
 {cs:List Value} {t':TypeId} {l1:List Ent} (hm:Put b cs (cs.set p v) t' l l1) (hp:p<cs.length)
 (h:∀w',Fr [b] w w'→Hp T w0 w' l1→K (a.put o.dst undef) w'):o.wp P a w K Q:=by
 have hg:=H.get hm.mem;have hcell:w.cell? ⟨b,p,none⟩=some cs[p]:=H.blkCell hm.mem (List.getElem?_eq_getElem hp);have hfr:w.frozen? ⟨b,p,none⟩=false:=frozen_of_row w b p _ t' hg;have hc1:v.cells=#[v]:=by cases v<;>simp_all [Value.cells,Value.oneCell']
 have e:(Instr.storeAt t (.pointer (some ⟨b,p,none⟩)) v).run P w= .ok () (w.setCell ⟨b,p,none⟩ v):=by
  cases hq:P.info? t with
  | none=>simp[hq]at hs
  | some i=>
   have hz:i.size=1:=by simpa[hq]using hs
   have hst:(store ((⟨b,p,none⟩:Addr).add 0) v).run P w= .ok () (w.setCell ⟨b,p,none⟩ v):=by
    rw[zaL,Nat.add_zero,run_store P w _ v .plain h1,hcell];simp[hfr]
   simp[Instr.storeAt,Instr.sureAddr,storeVar,sizeOf,typeInfo,hq,hz,hc1,storeCells,hst]
 rw[setCell_eq_setRow w b p _ t' (0,0) v hg]at e;have e2:cs.toArray.setIfInBounds p v=(cs.set p v).toArray:=by simp
 rw[e2]at e;refine zdl (w':=w.setRow b (cs.set p v).toArray) ?_ (h _ (Fr.setRow w b _) (H.setRow hm));unfold execOp;simp only[ho,hx,hy,Sem.run_bind,e,Result.andThen_ok,Sem.run_pure]
def zL(cs:List Value)(p:Nat)(vs:List Value):List Value:=cs.take p++vs++cs.drop (p+vs.length)
def zoE(H:Hp T w0 w l){t:TypeId}{x y:Operand}(ho:o.op= .store t x y){b p:Nat}{vs:List Value}(hx:a.eval x= .pointer (some ⟨b,p,none⟩))(hy:a.eval y= .agg vs.toArray)(h1:∀v∈vs,v.oneCell'=true)(hs:zbp P t=some vs.length)
 {cs:List Value} {t':TypeId} {l1:List Ent} (hm:Put b cs (zL cs p vs) t' l l1) (hp:p+vs.length≤cs.length)
 (h:∀w',Fr [b] w w'→Hp T w0 w' l1→K (a.put o.dst undef) w'):o.wp P a w K Q:=by
 have hg:=H.get hm.mem
 have e:(Instr.storeAt t (.pointer (some ⟨b,p,none⟩)) (.agg vs.toArray)).run P w= .ok () (w.setRow b (zL cs p vs).toArray):=by
  have hst:=run_storeCells_at P b p t' vs 0 cs.toArray w hg y8 h1;simp only[Nat.add_zero]at hst
  have hi:(P.info? t).map (·.size)=some vs.length:=by
   unfold zbp at hs
   cases hu:P.underlying t with
   | none=>simp[hu]at hs
   | some d=>cases d<;>simp_all
  cases hq:P.info? t with
  | none=>simp[hq]at hi
  | some i=>
   have hz:i.size=vs.length:=by simpa[hq]using hi
   simp only[Instr.storeAt,Instr.sureAddr,storeVar,sizeOf,typeInfo,Sem.run_bind,Sem.run_pure,Result.andThen_ok,run_program,hq,Value.cells,hz,List.size_toArray]
   simp[hst,zL]
 refine zdl (w':=w.setRow b (zL cs p vs).toArray) ?_ (h _ (Fr.setRow w b _) (H.setRow hm));unfold execOp;simp only[ho,hx,hy,Sem.run_bind,e,Result.andThen_ok,Sem.run_pure]
def ziY(H:Hp T w0 w l){t:TypeId}{s x:Operand}(ho:o.op= .call {callee:= .builtin .append,args:=#[s,x],argTypes:=#[t,t]})
 {e:TypeId} {i:TypeInfo} {z:Value} (ht:P.underlying t=some (.slice e)) (hi:P.info? e=some i) (hz:i.zero=some z)
 (hs:a.eval s= .slice none 0 0) {ad:Addr} {n c:Nat} (hx:a.eval x= .slice (some ad) n c) {news:List Value} (hr:Rd w (.slice (some ad) n c) n news) (hl:news.length=n*i.size)
 (h0:0<n) (h48:n*i.bytes≤140737488355328) (h63:n≤maxLen)
 (h:∀g w' cap pad,w0.heap.size≤g∧w.heap.size≤g→n≤cap→cap≤maxLen→pad=(Builtin.zeroCells z.cells (cap-n)).toList→Fr [] w w'→Hp T w0 w' (.blk g (news++pad) e::l)→K (a.put o.dst (.slice (some ⟨g,0,none⟩) n cap)) w'):o.wp P a w K Q:=by
 have hnews:∀j v,news[j]? =some v→w.cell? (ad.add j)=some v:=by
  rcases hr with⟨h1,_⟩|⟨ad',c',h1,h2⟩
  ·omega
  ·cases h1;exact h2
 have e1:=run_append_nil (P:=P) (w:=w) t o.type e i z ht hi hz ad n c news hl hnews h0 (by simp only[maxLen]at h63;omega) yb
 have e2:news.toArray++Builtin.zeroCells z.cells (grownCap w n 0 e-n)=(news++(Builtin.zeroCells z.cells (grownCap w n 0 e-n)).toList).toArray:=by
  apply Array.ext';simp
 rw[e2]at e1;refine zU (w':=_) ?_ (h _ _ _ _ ⟨H.fr.size,Nat.le_refl _⟩ (grownCap_ge w n 0 e) (grownCap_le_maxLen w n 0 e h63) rfl ((Fr.drew [] w).trans (Fr.alloc [] _ _)) (H.drew.alloc _ e));unfold execOp;simp only[ho,resolve,invoke,builtin,Sem.run_bind,Sem.run_pure,Result.andThen_ok,List.map_toArray,List.map_cons,List.map_nil,hs,hx,e1]
def ziI(H:Hp T w0 w l){t:TypeId}{s x:Operand}(ho:o.op= .call {callee:= .builtin .append,args:=#[s,x],argTypes:=#[t,t]})
 {e:TypeId} {i:TypeInfo} (ht:P.underlying t=some (.slice e)) (hi:P.info? e=some i)
 (hs:a.eval s= .slice none 0 0) {p:Option Addr} {c:Nat} (hx:a.eval x= .slice p 0 c)
 (h:∀w',Fr [] w w'→Hp T w0 w' l→K (a.put o.dst (.slice none 0 0)) w'):o.wp P a w K Q:=by
 have e1:(Builtin.append_ #[t,t] o.type #[.slice none 0 0, .slice p 0 c]).run P w= .ok (.slice none 0 0) w:=by
  cases p with
  | none=>simp[Builtin.append_,run_underlying ht,sizeOf,typeInfo,hi,Builtin.lenOf,Builtin.firstCells]
  | some ad=>simp[Builtin.append_,run_underlying ht,sizeOf,typeInfo,hi,Builtin.lenOf,Builtin.firstCells,loadCells,loadCellsFrom]
 refine zU (w':=w) ?_ (h _ (Fr.refl _ _) H);unfold execOp;simp only[ho,resolve,invoke,builtin,Sem.run_bind,Sem.run_pure,Result.andThen_ok,List.map_toArray,List.map_cons,List.map_nil,hs,hx,e1]
def ziP(H:Hp T w0 w l){t:TypeId}{s x:Operand}(ho:o.op= .call {callee:= .builtin .append,args:=#[s,x],argTypes:=#[t,t]})
 {e:TypeId} {i:TypeInfo} (ht:P.underlying t=some (.slice e)) (hi:P.info? e=some i)
 {q:Option Addr} {n cap:Nat} (hs:a.eval s= .slice q n cap) (hn:n≤cap) {p:Option Addr} {c:Nat} (hx:a.eval x= .slice p 0 c)
 (h:∀w',Fr [] w w'→Hp T w0 w' l→K (a.put o.dst (.slice q n cap)) w'):o.wp P a w K Q:=by
 have e1:(Builtin.append_ #[t,t] o.type #[.slice q n cap, .slice p 0 c]).run P w= .ok (.slice q n cap) w:=by
  cases p with
  | none=>cases q<;>simp[Builtin.append_,run_underlying ht,sizeOf,typeInfo,hi,Builtin.lenOf,Builtin.firstCells,hn,storeCells]
  | some ad=>cases q<;>simp[Builtin.append_,run_underlying ht,sizeOf,typeInfo,hi,Builtin.lenOf,Builtin.firstCells,loadCells,loadCellsFrom,hn,storeCells]
 refine zU (w':=w) ?_ (h _ (Fr.refl _ _) H);unfold execOp;simp only[ho,resolve,invoke,builtin,Sem.run_bind,Sem.run_pure,Result.andThen_ok,List.map_toArray,List.map_cons,List.map_nil,hs,hx,e1]
def zju(H:Hp T w0 w l){t:TypeId}{s x:Operand}(ho:o.op= .call {callee:= .builtin .append,args:=#[s,x],argTypes:=#[t,t]})
 {e:TypeId} {i:TypeInfo} {z:Value} (ht:P.underlying t=some (.slice e)) (hi:P.info? e=some i) (hz:i.zero=some z) (hzs:z.cells.size=i.size)
 {b n cap:Nat} (hs:a.eval s= .slice (some ⟨b,0,none⟩) n cap) {ad:Addr} {m c:Nat} (hx:a.eval x= .slice (some ad) m c)
 {cs xs:List Value} {l1:Nat→List Value→List Ent} (hm:∀g cs1,Rep (.blk b cs e) (.blk g cs1 e) l (l1 g cs1)) (hxs:xs<+:cs) (hxl:xs.length=n*i.size) (hcl:cs.length=cap*i.size) (hcap:cap≤maxLen)
 {news:List Value} (hr:Rd w (.slice (some ad) m c) m news) (hl:news.length=m*i.size) (h1:∀u∈news,u.oneCell'=true)
 (h0:0<m) (h48:(n+m)*i.bytes≤140737488355328) (h63:n+m≤maxLen)
 (h:∀g w' cap' pad,(g=b∨w0.heap.size≤g∧w.heap.size≤g)→n+m≤cap'→cap'≤maxLen→(xs++news++pad).length=cap'*i.size→Fr [b] w w'→Hp T w0 w' (l1 g (xs++news++pad))→K (a.put o.dst (.slice (some ⟨g,0,none⟩) (n+m) cap')) w'):o.wp P a w K Q:=by
 have hnews:∀j v,news[j]? =some v→w.cell? (ad.add j)=some v:=by
  rcases hr with⟨h2,_⟩|⟨ad',c',h2,h3⟩
  ·omega
  ·cases h2;exact h3
 obtain⟨rst,hrst⟩:=hxs;have hmem:=(hm b cs).mem
 by_cases hroom:n+m≤cap
 ·have e1:=run_append_room (P:=P) w t o.type e i ht hi b n cap cs.toArray (H.get hmem) ad m c news hl hnews h1 hroom (by
   rw[hl,List.size_toArray,hcl,←Nat.add_mul];exact Nat.mul_le_mul_right _ hroom)
  have e2:(cs.toArray.toList.take (n*i.size)++news++cs.toArray.toList.drop (n*i.size+news.length))=xs++news++rst.drop news.length:=by
   subst hrst;rw[←hxl]
   simp[List.drop_append]
  rw[e2]at e1;refine zU ?_ (h b _ cap (rst.drop news.length) (.inl rfl) hroom hcap ?_ (Fr.setRow w b _) (H.setRow (hm b _)))
  ·unfold execOp;simp only[ho,resolve,invoke,builtin,Sem.run_bind,Sem.run_pure,Result.andThen_ok,List.map_toArray,List.map_cons,List.map_nil,hs,hx,e1]
  ·have h2:cs.length=xs.length+rst.length:=by rw[←hrst,List.length_append]
   have h3:(n+m)*i.size≤cap*i.size:=Nat.mul_le_mul_right _ hroom;rw[Nat.add_mul]at h3;simp only[List.length_append,List.length_drop]
   omega
 ·have holds:∀j u,xs[j]? =some u→w.cell? ((⟨b,0,none⟩:Addr).add j)=some u:=fun j u hj=>by
   rw[zaL,Nat.zero_add];refine H.blkCell hmem ?_;rw[←hrst,List.getElem?_append_left (List.getElem?_eq_some_iff.1 hj).1];exact hj
  have e1:=run_append_grow (P:=P) (w:=w) t o.type e i z ht hi hz ⟨b,0,none⟩ n cap xs hxl holds ad m c news hl hnews yb (by simp only[maxLen]at h63;omega) (growslice_fits yb h48);have hge:=grownCap_ge w (n+m) cap e
  have e2:xs.toArray++news.toArray++Builtin.zeroCells z.cells (grownCap w (n+m) cap e-(n+m))=(xs++news++(Builtin.zeroCells z.cells (grownCap w (n+m) cap e-(n+m))).toList).toArray:=by
   apply Array.ext';simp
  rw[e2]at e1;refine zU ?_ (h _ _ _ _ (.inr ⟨H.fr.size,Nat.le_refl _⟩) hge (grownCap_le_maxLen w _ cap e h63) ?_ ((Fr.drew [b] w).trans (Fr.alloc [b] _ _)) (H.drew.repl (hm _ (xs++news++(Builtin.zeroCells z.cells (grownCap w (n+m) cap e-(n+m))).toList)) (Fr.alloc [b] _ _) (heap_alloc_new w.drew _) (.inr (Nat.le_refl _))))
  ·unfold execOp;simp only[ho,resolve,invoke,builtin,Sem.run_bind,Sem.run_pure,Result.andThen_ok,List.map_toArray,List.map_cons,List.map_nil,hs,hx,e1]
  ·simp only[List.length_append,Array.length_toList,size_zeroCells,hzs,hxl,hl,←Nat.add_mul]
   congr 1;omega
def zsH(H:Hp T w0 w l){d s:Operand}{dT sT:TypeId}(ho:o.op= .call {callee:= .builtin .copy,args:=#[d,s],argTypes:=#[dT,sT]})
 {e:TypeId} {i:TypeInfo} (ht:P.underlying dT=some (.slice e)) (hi:P.info? e=some i)
 {b off dl dc:Nat} (hd:a.eval d= .slice (some ⟨b,off,none⟩) dl dc) {sp:Option Addr} {sl sc:Nat} (hs:a.eval s= .slice sp sl sc)
 {cs news:List Value} {t':TypeId} {l1:List Ent} (hm:Put b cs (zL cs off news) t' l l1) (hr:Rd w (.slice sp (min sl dl) sc) (min sl dl) news) (hl:news.length=min sl dl*i.size) (h1:∀u∈news,u.oneCell'=true) (hfit:off+news.length≤cs.length)
 (h:∀w',Fr [b] w w'→Hp T w0 w' l1→K (a.put o.dst (goInt (min sl dl:Nat))) w'):o.wp P a w K Q:=by
 have hst:=run_storeCells_at P b off t' news 0 cs.toArray w (H.get hm.mem) (by simpa using hfit) h1;simp only[Nat.add_zero]at hst
 have hfc:(Builtin.firstCells i.size (min sl dl) (.slice sp sl sc)).run P w= .ok news.toArray w:=by
  rcases hr with⟨h2,h3,p,c,h4⟩|⟨ad,c,h2,h3⟩
  ·subst h3;rw[h2]
   cases sp with
   | none=>simp[Builtin.firstCells]
   | some ad=>simp[Builtin.firstCells,loadCells,loadCellsFrom]
  ·simp only[Value.slice.injEq]at h2;obtain⟨rfl,_,_⟩:=h2;exact run_firstCells_some w i.size _ ad sl sc news hl h3
 have e1:(Builtin.copy_ #[dT,sT] o.type #[.slice (some ⟨b,off,none⟩) dl dc, .slice sp sl sc]).run P w= .ok (goInt (min sl dl:Nat)) (w.setRow b (zL cs off news).toArray):=by
  have hmin:Nat.min sl dl=min sl dl:=rfl
  simp[Builtin.copy_,run_underlying ht,sizeOf,typeInfo,hi,Builtin.lenOf,hmin,hfc,hst,zL]
 refine zU ?_ (h _ (Fr.setRow w b _) (H.setRow hm));unfold execOp;simp only[ho,resolve,invoke,builtin,Sem.run_bind,Sem.run_pure,Result.andThen_ok,List.map_toArray,List.map_cons,List.map_nil,hd,hs,e1]
end
inductive Plan where
 | done
 | st (i:Nat) (k:Plan)
 | ld (i:Nat) (k:Plan)
 | ld2 (i:Nat) (k:Plan) (j:Nat) (k2:Plan)
 | ld3 (i:Nat) (k:Plan) (j:Nat) (k2:Plan) (m:Nat) (k3:Plan)
 | ldf (i:Nat) (k:Plan)
 | stf (i:Nat) (k:Plan)
section
variable {P:Program} {ops:Array Oper} {Q:Exit→Act→World→Prop} {S:World→Prop}
def zeN(ops:Array Oper):Nat→Nat→Nat→Bool
 | 0,_,_=>false
 | n+1,f,i=>match ops[f]? with
  | none=>false
  | some o=>o.after.any fun e=>Region.binds .any e&&(e.on==i||zeN ops n e.on i)
def Plan.isDone:Plan→Bool
 | .done=>true
 | _=>false
def Plan.chk(ops:Array Oper):Nat→Plan→Nat→Array Bool→Bool
 | f, .done,_,l=>Region.ready .any ops l==[]
 | f, .st i k,n+1,l=>(Region.ready .any ops l).contains i&&Region.free .any ops l i&&(f==ops.size||zeN ops ops.size f i)&&Plan.chk ops f k n (l.setIfInBounds i true)
 | f, .ld i k,n+1,l=>Region.ready .any ops l==[i]&&(i !=f||k.isDone)&&Plan.chk ops f k n (l.setIfInBounds i true)
 | f, .ld2 i k j k2,n+1,l=>Region.ready .any ops l==[i,j]&&(i !=f||k.isDone)&&(j !=f||k2.isDone)&&Plan.chk ops f k n (l.setIfInBounds i true)&&Plan.chk ops f k2 n (l.setIfInBounds j true)
 | f, .ld3 i k j k2 m k3,n+1,l=>Region.ready .any ops l==[i,j,m]&&(i !=f||k.isDone)&&(j !=f||k2.isDone)&&(m !=f||k3.isDone)&&Plan.chk ops f k n (l.setIfInBounds i true)&&Plan.chk ops f k2 n (l.setIfInBounds j true)&&Plan.chk ops f k3 n (l.setIfInBounds m true)
 | f, .ldf i k,n+1,l=>Region.ready .any ops l==[i]&&i==f&&Plan.chk ops ops.size k n (l.setIfInBounds i true)
 | f, .stf i k,n+1,l=>(Region.ready .any ops l).contains i&&Region.free .any ops l i&&i !=f&&Plan.chk ops f k n (l.setIfInBounds i true)
 | _,_,0,_=>false
def Plan.wp(P:Program)(ops:Array Oper)(Q:Exit→Act→World→Prop):(World→Prop)→Nat→Plan→Act→World→Prop
 | _,_, .done,a,w=>Q .normal a w
 | S,f, .st i k,a,w=>∃o v,ops[i]? =some o∧YieldsIf P ops S o v a∧Plan.wp P ops Q S f k (a.put o.dst v) w
 | S,f, .ld i k,a,w=>wpOp P ops Q i (fun a' w'=>(i≠f→S w')∧Plan.wp P ops Q S f k a' w') a w
 | S,f, .ld2 i k j k2,a,w=>wpOp P ops Q i (fun a' w'=>(i≠f→S w')∧Plan.wp P ops Q S f k a' w') a w∧wpOp P ops Q j (fun a' w'=>(j≠f→S w')∧Plan.wp P ops Q S f k2 a' w') a w
 | S,f, .ld3 i k j k2 m k3,a,w=>wpOp P ops Q i (fun a' w'=>(i≠f→S w')∧Plan.wp P ops Q S f k a' w') a w∧wpOp P ops Q j (fun a' w'=>(j≠f→S w')∧Plan.wp P ops Q S f k2 a' w') a w∧wpOp P ops Q m (fun a' w'=>(m≠f→S w')∧Plan.wp P ops Q S f k3 a' w') a w
 | _,_, .ldf i k,a,w=>wpOp P ops Q i (fun a' w'=>Plan.wp P ops Q (fun _=>True) ops.size k a' w') a w
 | S,f, .stf i k,a,w=>∃o v,ops[i]? =some o∧YieldsIf P ops (fun _=>True) o v a∧Plan.wp P ops Q S f k (a.put o.dst v) w
def Clo(ops:Array Oper)(l:Array Bool):Prop:=∀k o,ops[k]? =some o→l.getD k false=true→∀e∈o.after,Region.binds .any e=true→l.getD e.on false=true
def Clo.set{l:Array Bool}(h:Clo ops l){j:Nat}(hj:j∈Region.ready .any ops l):Clo ops (l.setIfInBounds j true):=by
 intro k o ho hk e he hb
 by_cases hkj:j=k
 ·subst hkj;obtain⟨_,o2,ho2,hall⟩:=mem_ready.1 hj;rw[ho]at ho2;cases ho2;exact getD_set_true (hall e he hb)
 ·rw[getD_set_ne false hkj]at hk;exact getD_set_true (h k o ho hk e he hb)
def zct{l:Array Bool}(h:Clo ops l){i:Nat}:∀(n f:Nat) (o:Oper),ops[f]? =some o→(∀e∈o.after,Region.binds .any e=true→l.getD e.on false=true)→zeN ops n f i=true→l.getD i false=true
 | 0,_,_,_,_,hw=>by simp[zeN]at hw
 | n+1,f,o,ho,hall,hw=>by
  simp only[zeN,ho]at hw;obtain⟨e,he,hw⟩:=Array.any_eq_true'.1 hw;simp only[Bool.and_eq_true,Bool.or_eq_true,beq_iff_eq]at hw;obtain⟨hb,hw⟩:=hw;have hl:=hall e he hb
  rcases hw with rfl|hw
  ·exact hl
  ·cases ho2:ops[e.on]? with
   | none=>cases n<;>simp[zeN,ho2]at hw
   | some o2=>exact zct h n e.on o2 ho2 (h e.on o2 ho2 hl) hw
def wpJ(P:Program)(ops:Array Oper)(Q:Exit→Act→World→Prop)(S:World→Prop)(f:Nat):Nat→Array Bool→Act→World→Prop
 | 0,l,a,w=>Region.ready .any ops l=[]∧Q .normal a w
 | n+1,l,a,w=>(Region.ready .any ops l=[]→Q .normal a w)∧
  ∀i∈Region.ready .any ops l,wpOp P ops Q i (fun a' w'=>((i≠f∧(ops[f]? =none∨l.getD f false=false))→S w')∧wpJ P ops Q S f n (l.setIfInBounds i true) a' w') a w
def zhD{f:Nat}:∀(n:Nat) (l:Array Bool) (a:Act) (w:World),wpJ P ops Q S f n l a w→wpAny P .any ops Q n l a w
 | 0,_,_,_,h=>h
 | n+1,_,_,_,h=>⟨h.1,fun i hi=>wpOp_mono (fun a' w' k=>zhD n _ a' w' k.2) (h.2 i hi)⟩
def zrt{f:Nat}{l:Array Bool}{a:Act}{w:World}(hr:Region.ready .any ops l=[])(h:Q .normal a w):∀n,wpJ P ops Q S f n l a w
 | 0=>⟨hr,h⟩
 | _+1=>⟨fun _=>h,by rw[hr];simp⟩
def zpn{f i:Nat}{oi:Oper}{v:Value}(hi:ops[i]? =some oi)(hns:Region.noSelect ops=true)
 (hQ:∀c a w,Q (.panic c) (a.put oi.dst v) w→Q (.panic c) a w) (hf:f=ops.size∨zeN ops ops.size f i=true) (n:Nat):∀(l:Array Bool) (a:Act) (w:World),Clo ops l→Region.free .any ops l i=true→
  i∈Region.ready .any ops l→YieldsIf P ops S oi v a→S w→wpJ P ops Q S f n (l.setIfInBounds i true) (a.put oi.dst v) w→wpJ P ops Q S f (n+1) l a w:=by
 have hsel:=Region.noSelect_spec hns
 suffices hmain:∀(l:Array Bool) (a:Act) (w:World),Clo ops l→(∀j oj,ops[j]? =some oj→j≠i→l.getD j true=false→(∀e∈oj.after,Region.binds .any e=true→e.on≠i)→oi.apart ops oj=true)→
  i∈Region.ready .any ops l→YieldsIf P ops S oi v a→S w→wpJ P ops Q S f n (l.setIfInBounds i true) (a.put oi.dst v) w→wpJ P ops Q S f (n+1) l a w from
  fun l a w hc hf=>hmain l a w hc (Region.free_spec hi hf)
 have unlisted:∀ {l:Array Bool},i∈Region.ready .any ops l→l.getD i false=true→False:=by
  intro l hr h2;have hil:=(mem_ready.1 hr).1
  by_cases hlt:i<l.size
  ·simp[hlt]at h2 hil;simp[h2]at hil
  ·simp[Array.getElem?_eq_none (Nat.le_of_not_lt hlt)]at h2
 induction n with
 | zero=>
  intro l a w _ _ hr hy hS H;refine⟨fun h0=>absurd hr yak,fun j hj=>?_⟩
  by_cases hji:j=i
  ·subst hji;exact hy.wpOp hi hS ⟨fun _=>hS,H⟩
  ·have:=ready_mono hj hji
   rw[H.1]at this;cases this
 | succ n ih=>
  intro l a w hc hfree hr hy hS H;refine⟨fun h0=>absurd hr yak,fun j hj=>?_⟩
  by_cases hji:j=i
  ·subst hji;exact hy.wpOp hi hS ⟨fun _=>hS,H⟩
  ·obtain⟨hjl,oj,hoj,hall⟩:=mem_ready.1 hj
   have hnot:∀e∈oj.after,Region.binds .any e=true→e.on≠i:=by
    intro e he hb heq;have h2:=hall e he hb;rw[heq]at h2;exact unlisted hr h2
   have hjf:j≠f∧(ops[f]? =none∨(l.setIfInBounds i true).getD f false=false):=by
    refine⟨?_,?_⟩
    ·intro e;subst e
     rcases hf with h0|h0
     ·rw[h0]at hoj;simp at hoj
     ·exact unlisted hr (zct hc _ _ _ hoj hall h0)
    ·rcases hf with h0|h0
     ·exact .inl yak
     ·cases hof:ops[f]? with
      | none=>exact .inl rfl
      | some off=>
       refine .inr ?_
       cases hlf:(l.setIfInBounds i true).getD f false with
       | false=>rfl
       | true=>
        refine(unlisted hr ?_).elim
        by_cases hfi:i=f
        ·subst hfi;obtain⟨_,o2,ho2,hall2⟩:=mem_ready.1 hr;exact zct hc _ _ _ ho2 hall2 h0
        ·rw[getD_set_ne false hfi]at hlf;exact zct hc _ _ _ hof (hc f off hof hlf) h0
   have hap:=hfree j oj hoj hji hjl hnot;have hgo:=wpOp_putIf hoj hap (fun cs b=>hsel i oi cs b hi) (fun cs b=>hsel j oj cs b hoj) hQ hy (H.2 j (ready_mono hj hji));refine wpOp_mono (fun a' w' h3=>?_) hgo;obtain⟨hy',hS',hrest⟩:=h3;have hi':=ready_mono (i:=j) hr (fun e=>hji e.symm);have hcomm:(l.setIfInBounds j true).setIfInBounds i true=(l.setIfInBounds i true).setIfInBounds j true:=Array.setIfInBounds_comm _ _ hji;have hSw:S w':=hS' hjf
   exact⟨fun _=>hSw,ih (l.setIfInBounds j true) a' w' (hc.set hj) (fun k ok hk hki hun hno=>hfree k ok hk hki (by
    by_cases hjk:j=k
    ·subst hjk;exact hjl
    ·rwa [getD_set_ne true hjk]at hun) hno) hi' hy' hSw (by rw[hcomm];exact hrest)⟩
def zmY{f i:Nat}{oi:Oper}{v:Value}(hi:ops[i]? =some oi)(hns:Region.noSelect ops=true)
 (hQ:∀c a w,Q (.panic c) (a.put oi.dst v) w→Q (.panic c) a w) (hif:i≠f) (n:Nat):∀(l:Array Bool) (a:Act) (w:World),Clo ops l→Region.free .any ops l i=true→
  i∈Region.ready .any ops l→YieldsIf P ops (fun _=>True) oi v a→((ops[f]? =none∨l.getD f false=false)→S w)→wpJ P ops Q S f n (l.setIfInBounds i true) (a.put oi.dst v) w→wpJ P ops Q S f (n+1) l a w:=by
 have hsel:=Region.noSelect_spec hns
 suffices hmain:∀(l:Array Bool) (a:Act) (w:World),Clo ops l→(∀j oj,ops[j]? =some oj→j≠i→l.getD j true=false→(∀e∈oj.after,Region.binds .any e=true→e.on≠i)→oi.apart ops oj=true)→
  i∈Region.ready .any ops l→YieldsIf P ops (fun _=>True) oi v a→((ops[f]? =none∨l.getD f false=false)→S w)→wpJ P ops Q S f n (l.setIfInBounds i true) (a.put oi.dst v) w→wpJ P ops Q S f (n+1) l a w from
  fun l a w hc hf=>hmain l a w hc (Region.free_spec hi hf)
 have unlisted:∀ {l:Array Bool},i∈Region.ready .any ops l→l.getD i false=true→False:=by
  intro l hr h2;have hil:=(mem_ready.1 hr).1
  by_cases hlt:i<l.size
  ·simp[hlt]at h2 hil;simp[h2]at hil
  ·simp[Array.getElem?_eq_none (Nat.le_of_not_lt hlt)]at h2
 induction n with
 | zero=>
  intro l a w _ _ hr hy hS H;refine⟨fun h0=>absurd hr yak,fun j hj=>?_⟩
  by_cases hji:j=i
  ·subst hji;exact hy.wpOp hi trivial ⟨fun h=>hS h.2,H⟩
  ·have:=ready_mono hj hji
   rw[H.1]at this;cases this
 | succ n ih=>
  intro l a w hc hfree hr hy hS H;refine⟨fun h0=>absurd hr yak,fun j hj=>?_⟩
  by_cases hji:j=i
  ·subst hji;exact hy.wpOp hi trivial ⟨fun h=>hS h.2,H⟩
  ·obtain⟨hjl,oj,hoj,hall⟩:=mem_ready.1 hj
   have hnot:∀e∈oj.after,Region.binds .any e=true→e.on≠i:=by
    intro e he hb heq;have h2:=hall e he hb;rw[heq]at h2;exact unlisted hr h2
   have hap:=hfree j oj hoj hji hjl hnot;have hgo:=wpOp_putIf hoj hap (fun cs b=>hsel i oi cs b hi) (fun cs b=>hsel j oj cs b hoj) hQ hy (H.2 j (ready_mono hj hji));refine wpOp_mono (fun a' w' h3=>?_) hgo;obtain⟨hy',hS',hrest⟩:=h3;have hi':=ready_mono (i:=j) hr (fun e=>hji e.symm);have hcomm:(l.setIfInBounds j true).setIfInBounds i true=(l.setIfInBounds i true).setIfInBounds j true:=Array.setIfInBounds_comm _ _ hji
   have hlt:j<l.size:=by
    rcases Nat.lt_or_ge j l.size with h|h
    ·exact h
    ·simp[Array.getElem?_eq_none h]at hjl
   have hS1:(j≠f∧(ops[f]? =none∨l.getD f false=false))→S w':=fun h=>hS' ⟨h.1,h.2.imp id (fun h2=>by rw[getD_set_ne false hif];exact h2)⟩
   have hS2:(ops[f]? =none∨(l.setIfInBounds j true).getD f false=false)→S w':=fun h=>by
    by_cases e:j=f
    ·subst e
     rcases h with h|h
     ·rw[hoj]at h;cases h
     ·simp[hlt]at h
    ·exact hS1 ⟨e,h.imp id (fun h2=>by rwa [getD_set_ne false e]at h2)⟩
   exact⟨fun h=>hS1 h,ih (l.setIfInBounds j true) a' w' (hc.set hj) (fun k ok hk hki hun hno=>hfree k ok hk hki (by
    by_cases hjk:j=k
    ·subst hjk;exact hjl
    ·rwa [getD_set_ne true hjk]at hun) hno) hi' hy' hS2 (by rw[hcomm];exact hrest)⟩
def zho{f:Nat}{of:Oper}(hof:ops[f]? =some of):∀(n:Nat) (l:Array Bool) (a:Act) (w:World),l.getD f false=true→wpJ P ops Q (fun _=>True) ops.size n l a w→wpJ P ops Q S f n l a w
 | 0,_,_,_,_,h=>h
 | n+1,l,a,w,hl,h=>by
  refine⟨h.1,fun i hi=>wpOp_mono (fun a' w' k=>⟨fun hc=>?_,zho hof n _ a' w' (getD_set_true hl) k.2⟩) (h.2 i hi)⟩
  rcases hc.2 with h1|h1
  ·rw[hof]at h1;cases h1
  ·rw[hl]at h1;cases h1
def Plan.sound(hns:Region.noSelect ops=true)(hQ:∀c a d v w,Q (.panic c) (Act.put a d v) w→Q (.panic c) a w):
 ∀(p:Plan) (S:World→Prop) (f:Nat) (n:Nat) (l:Array Bool) (a:Act) (w:World),Clo ops l→p.chk ops f n l=true→(S w∨p= .done)→p.wp P ops Q S f a w→wpJ P ops Q S f n l a w:=by
 intro p
 have fin:∀ {S:World→Prop} {f:Nat} (k:Plan) (i:Nat) (w:World),(i !=f||k.isDone)=true→(i≠f→S w)→(S w∨k= .done):=by
  intro S f k i w h hs
  by_cases hif:i=f
  ·right;subst hif;simp at h;cases k<;>simp_all [Plan.isDone]
  ·exact .inl (hs hif)
 induction p with
 | done=>intro S f n l a w _ h _ hw;simp only[Plan.chk,beq_iff_eq]at h;exact zrt h hw n
 | st i k ih=>
  intro S f n l a w hc h hS hw
  cases n with
  | zero=>simp[Plan.chk]at h
  | succ n=>
   simp only[Plan.chk,Bool.and_eq_true,Bool.or_eq_true,beq_iff_eq,List.contains_eq_mem,decide_eq_true_eq]at h;obtain⟨⟨⟨h1,h2⟩,h3⟩,h4⟩:=h;obtain⟨o,v,ho,hy,hk⟩:=hw;have hSw:S w:=hS.resolve_right yg;exact zpn ho hns (fun c a w=>hQ c a _ _ w) h3 n l a w hc h2 h1 hy hSw (ih S f n _ _ _ (hc.set h1) h4 (.inl hSw) hk)
 | ld i k ih=>
  intro S f n l a w hc h hS hw
  cases n with
  | zero=>simp[Plan.chk]at h
  | succ n=>
   simp only[Plan.chk,Bool.and_eq_true,beq_iff_eq]at h;obtain⟨⟨h1,h2⟩,h3⟩:=h;refine⟨fun h0=>by rw[h0]at h1;simp at h1,fun j hj=>?_⟩;have hj2:=hj;rw[h1,List.mem_singleton]at hj;subst hj;exact wpOp_mono (fun a' w' h4=>⟨fun hx=>h4.1 hx.1,ih S f n _ _ _ (hc.set hj2) h3 (fin k j w' h2 h4.1) h4.2⟩) hw
 | ld2 i k j k2 ih1 ih2=>
  intro S f n l a w hc h hS hw
  cases n with
  | zero=>simp[Plan.chk]at h
  | succ n=>
   simp only[Plan.chk,Bool.and_eq_true,beq_iff_eq]at h;obtain⟨⟨⟨⟨h1,h2⟩,h3⟩,h4⟩,h5⟩:=h;refine⟨fun h0=>by rw[h0]at h1;simp at h1,fun m hm=>?_⟩;have hm2:=hm;rw[h1]at hm;simp only[List.mem_cons,List.not_mem_nil,or_false]at hm
   rcases hm with rfl|rfl
   ·exact wpOp_mono (fun a' w' h6=>⟨fun hx=>h6.1 hx.1,ih1 S f n _ _ _ (hc.set hm2) h4 (fin k m w' h2 h6.1) h6.2⟩) hw.1
   ·exact wpOp_mono (fun a' w' h6=>⟨fun hx=>h6.1 hx.1,ih2 S f n _ _ _ (hc.set hm2) h5 (fin k2 m w' h3 h6.1) h6.2⟩) hw.2
 | ld3 i k j k2 o k3 ih1 ih2 ih3=>
  intro S f n l a w hc h hS hw
  cases n with
  | zero=>simp[Plan.chk]at h
  | succ n=>
   simp only[Plan.chk,Bool.and_eq_true,beq_iff_eq]at h;obtain⟨⟨⟨⟨⟨⟨h1,h2⟩,h3⟩,h4⟩,h5⟩,h6⟩,h7⟩:=h;refine⟨fun h0=>by rw[h0]at h1;simp at h1,fun m hm=>?_⟩;have hm2:=hm;rw[h1]at hm;simp only[List.mem_cons,List.not_mem_nil,or_false]at hm
   rcases hm with rfl|rfl|rfl
   ·exact wpOp_mono (fun a' w' h8=>⟨fun hx=>h8.1 hx.1,ih1 S f n _ _ _ (hc.set hm2) h5 (fin k m w' h2 h8.1) h8.2⟩) hw.1
   ·exact wpOp_mono (fun a' w' h8=>⟨fun hx=>h8.1 hx.1,ih2 S f n _ _ _ (hc.set hm2) h6 (fin k2 m w' h3 h8.1) h8.2⟩) hw.2.1
   ·exact wpOp_mono (fun a' w' h8=>⟨fun hx=>h8.1 hx.1,ih3 S f n _ _ _ (hc.set hm2) h7 (fin k3 m w' h4 h8.1) h8.2⟩) hw.2.2
 | ldf i k ih=>
  intro S f n l a w hc h hS hw
  cases n with
  | zero=>simp[Plan.chk]at h
  | succ n=>
   simp only[Plan.chk,Bool.and_eq_true,beq_iff_eq]at h;obtain⟨⟨h1,h2⟩,h3⟩:=h;subst h2;refine⟨fun h0=>by rw[h0]at h1;simp at h1,fun m hm=>?_⟩;have hm2:=hm;rw[h1,List.mem_singleton]at hm;subst hm;obtain⟨hml,of,hof,_⟩:=mem_ready.1 hm2
   have hlt:m<l.size:=by
    rcases Nat.lt_or_ge m l.size with h|h
    ·exact h
    ·simp[Array.getElem?_eq_none h]at hml
   exact wpOp_mono (fun a' w' h4=>⟨fun hx=>absurd rfl hx.1,zho hof n _ a' w' (by simp[hlt]) (ih (fun _=>True) ops.size n _ _ _ (hc.set hm2) h3 (.inl trivial) h4)⟩) hw
 | stf i k ih=>
  intro S f n l a w hc h hS hw
  cases n with
  | zero=>simp[Plan.chk]at h
  | succ n=>
   simp only[Plan.chk,Bool.and_eq_true,bne_iff_ne,List.contains_eq_mem,decide_eq_true_eq]at h;obtain⟨⟨⟨h1,h2⟩,h3⟩,h4⟩:=h;obtain⟨o,v,ho,hy,hk⟩:=hw;have hSw:S w:=hS.resolve_right yg;exact zmY ho hns (fun c a w=>hQ c a _ _ w) h3 n l a w hc h2 h1 hy (fun _=>hSw) (ih S f n _ _ _ (hc.set h1) h4 (.inl hSw) hk)
def zsb{id:Nat}{a:Act}{w w0:World}{T:List Nat}{l lS:List Ent}(H:Hp T w0 w l)(hs:List.Sublist lS l)(f:Nat)(p:Plan)(hm:P.follows .mixedOrders=true)(hns:Region.noSelect ops=true)(hc:p.chk ops f ops.size (Array.replicate ops.size false)=true)
 (hQ:∀c a d v w,Q (.panic c) (Act.put a d v) w→Q (.panic c) a w)
 (h:∀w',Hp T w0 w' l→p.wp P ops Q (fun w=>Hp T w0 w lS) f a w'):(Code.region id ops true).wp P Q a w:=
 wp_region_any hm (zhD _ _ _ _ (Plan.sound hns hQ p _ _ _ _ _ _ (fun k o ho hk=>by simp[Array.getElem?_replicate]at hk;split at hk<;>simp at hk) hc (.inl (H.drew.sub hs)) (h _ H.drew)))
def zf{f:Nat}{a:Act}{w:World}(h:Q .normal a w):Plan.wp P ops Q S f .done a w:=h
def zuy{f i j m:Nat}{k k2 k3:Plan}{a:Act}{w:World}(h1:Plan.wp P ops Q S f (.ld i k) a w)(h2:Plan.wp P ops Q S f (.ld j k2) a w)(h3:Plan.wp P ops Q S f (.ld m k3) a w):Plan.wp P ops Q S f (.ld3 i k j k2 m k3) a w:=⟨h1,h2,h3⟩
def zcF{f i j:Nat}{k k2:Plan}{a:Act}{w:World}(h1:Plan.wp P ops Q S f (.ld i k) a w)(h2:Plan.wp P ops Q S f (.ld j k2) a w):Plan.wp P ops Q S f (.ld2 i k j k2) a w:=⟨h1,h2⟩
end
end
end Go.Proofs.YtaijhllckmndhaaGreatDoor
