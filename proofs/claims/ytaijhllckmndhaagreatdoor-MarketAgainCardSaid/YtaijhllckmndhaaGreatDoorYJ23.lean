import Derived.Test.YtaijhllckmndhaaGreatDoorYJ0
import Derived.Test.YtaijhllckmndhaaGreatDoorYJ15
import Derived.Test.YtaijhllckmndhaaGreatDoorYJ22
import Derived.Test.YtaijhllckmndhaaGreatDoorYJ20
import Derived.Test.YtaijhllckmndhaaGreatDoorYJ19
import Derived.Test.YtaijhllckmndhaaGreatDoorCards
import Derived.Test.YtaijhllckmndhaaGreatDoorTie
import Derived.Test.YtaijhllckmndhaaGreatDoorYJ16
namespace Go.Proofs.YtaijhllckmndhaaGreatDoor
set_option linter.all false
set_option maxHeartbeats 64000000
set_option maxRecDepth 100000
section
variable {w:World} {c n:Nat}
open Go.RowKit
def ziL(k:Nat):Lib.repeatL [48] k=List.replicate k 48:=by
 induction k with
 | zero=>rfl
 | succ k ih=>rw[Lib.repeatL,ih];rfl
def zmN(k:Nat)(hk:k≤1000000)(w:World):
 Calls Tryz.prog 148 #[.string (ByteArray.mk #[48]), .int .i64 (k:Int)] w fun e w'=>e= .returned (ze (List.replicate k 48))∧Fr [] w w':=by
 refine Calls.mono (Tryz.strings_Repeat (ByteArray.mk #[48]) k w yb (by show 1*k≤_;omega)) ?_;rintro e w' ⟨rfl,hb⟩;exact⟨by rw[show(ByteArray.mk #[48]).data.toList=[48]from rfl,ziL];rfl,Fr.of_below hb⟩
def zoZ(gs:List (List UInt8)):(gs.map fun s=>(⟨s.toArray⟩:ByteArray)).map (·.data.toList)=gs:=by
 rw[List.map_map]
 conv=>rhs;rw[←List.map_id gs]
 exact List.map_congr_left (fun s _=>by simp)
def zig(gs:List (List UInt8)):Lib.join gs []=gs.flatten:=by
 unfold Lib.join
 induction gs with
 | nil=>rfl
 | cons x l ih=>
  cases l with
  | nil=>simp
  | cons y l=>rw[List.intercalate_cons_cons,ih];simp
def zky{g:Nat}(gs:List (List UInt8))(hln:gs.length=n)(hc:∀(j:Nat) x,gs[j]? =some x→w.cell? ⟨g,0+j,none⟩=some (ze x))(hg:g<w.heap.size)(hn:gs.length≤1000000)(hcap:gs.length≤c)(hl:gs.flatten.length≤140737488355328):
 Calls Tryz.prog 50 #[.slice (some ⟨g,0,none⟩) n c, .string (ByteArray.mk #[])] w fun e w'=>e= .returned (ze gs.flatten)∧Fr [] w w':=by
 subst hln;have hm:=zoZ gs
 have h:=Tryz.strings_Join g 0 c (gs.map fun s=>(⟨s.toArray⟩:ByteArray)) (ByteArray.mk #[]) w (fun j x hx=>by
  rw[List.getElem?_map]at hx;obtain⟨s,hs,rfl⟩:=Option.map_eq_some_iff.1 hx
  exact hc j s hs) hg (by rw[List.length_map];omega) (by rw[List.length_map];exact hcap) (by rw[hm,show(ByteArray.mk #[]).data.toList=[]from rfl,zig];exact hl)
 rw[hm,List.length_map]at h;refine Calls.mono h ?_;rintro e w' ⟨rfl,hb⟩;exact⟨by rw[show(ByteArray.mk #[]).data.toList=[]from rfl,zig];rfl,Fr.of_below hb⟩
def Fr.setCells(b:Nat):∀(vs:List Value) (o:Nat) (w:World),Fr [b] w (w.setCells b o vs)
 | [],_,_=>Fr.refl _ _
 | v::vs,o,w=>by
  rw[World.setCells];refine Fr.trans ?_ (Fr.setCells b vs (o+1) _);exact⟨rfl,rfl,rfl,by simp,fun k hk hn=>Below.heap_setCell w _ v k (by simpa using hn)⟩
def zfU{g:Nat}{e:TypeId}(gs:List (List UInt8))(pad:List Value)(hln:gs.length=n)(hg:w.heap[g]? =some (.cells ((gs.map ze)++pad).toArray e (0,0)))(hn:gs.length≤1000000):
 Calls Tryz.prog 149 #[.slice (some ⟨g,0,none⟩) n c] w fun e w'=>e= .returned (.tuple #[])∧Fr [g] w w'∧g<w'.heap.size∧∀(j:Nat) x,gs.reverse[j]? =some x→w'.cell? ⟨g,0+j,none⟩=some (ze x):=by
 subst hln
 have hS:Lib.strsOf (fun i=>⟨(gs.getD i []).toArray⟩) gs.length=gs:=by
  unfold Lib.strsOf
  apply List.ext_getElem
  ·simp
  ·intro i h1 h2
   simp[List.getD,List.getElem?_eq_getElem h2]
 have hc:∀i,i<gs.length→w.cell? ⟨g,0+i,none⟩=some (ze (gs.getD i [])):=by
  intro i hi;rw[cell_of_row w g _ _ _ _ hg,Nat.zero_add]
  simp[List.getElem?_append_left,hi,List.getD,List.getElem?_eq_getElem hi]
 refine Calls.mono (Tryz.slices_Reverse_string_cells g 0 gs.length c (fun i=>⟨(gs.getD i []).toArray⟩) w yb hc (fun j _=>frozen_of_row w g _ _ _ hg)) ?_;rintro e w' ⟨rfl,q,rfl⟩;rw[hS];have hF:Fr [g] w ((w.drewN q).setCells g 0 (gs.reverse.map encStr)):=(⟨rfl,rfl,rfl,Nat.le_refl _,fun _ _ _=>rfl⟩:Fr [g] w (w.drewN q)).trans (Fr.setCells g _ _ _);refine⟨rfl,hF,Nat.lt_of_lt_of_le (Array.getElem?_eq_some_iff.1 hg).1 hF.size,fun j x hx=>?_⟩;have hj:=(List.getElem?_eq_some_iff.1 hx).1
 have h1:=World.cell?_setCells_in g (gs.reverse.map encStr) 0 (w.drewN q) (fun i hi=>by
  have h2:=hc i (by simpa using hi)
  show(w.cell? _).isSome=true
  rw[h2];rfl) j (by simpa using hj)
 rw[h1];simp only[List.getElem_map];have h3:=(List.getElem?_eq_some_iff.1 hx).2;rw[h3]
 rfl
def zl4{P:Program}{t:TypeId}(s r:List UInt8)(hl:s.length+r.length≤1000000000):(binOp .add t (ze s) (ze r)).run P w= .ok (ze (s++r)) w:=by
 have e:(⟨s.toArray⟩:ByteArray)++⟨r.toArray⟩=⟨(s++r).toArray⟩:=by
  apply ByteArray.ext
  simp[ByteArray.data_append]
 have hn:¬(((ByteArray.mk s.toArray).size+(ByteArray.mk r.toArray).size:Nat):Int)>IntKind.i64.max:=by
  show ¬(((s.toArray.size+r.toArray.size:Nat):Int)>9223372036854775807)
  simp only[List.size_toArray]
  omega
 have e2:(Op.stringOp .add ⟨s.toArray⟩ ⟨r.toArray⟩).run P w= .ok (ze (s++r)) w:=by
  unfold Op.stringOp;simp only[if_neg hn,e]
  rfl
 exact e2
def Hp.past{wr:World}{l:List Ent}{k:Nat}{S:List Nat}{Q:World→Prop}{g:Nat}(H:Hp [] w wr l)(hm: .obj k S Q∈l)(hS:g∈S){w':World}(hF:Fr [g] wr w'):Fr [] w w':=
 H.fr.andThen hF (fun x hx=>by
  simp only[List.mem_singleton]at hx;subst hx
  exact(H.ok _ hm).2.2 _ hS)
def Dg.fin{N:Nat}{gs:List (List UInt8)}(h:Dg N n 0 gs)(hne:gs≠[]):gs.reverse.flatten=dec N:=by
 rw[h.d,if_pos ⟨rfl,hne⟩,List.nil_append]
def zmy{w:World}{p:Option Addr}{n c:Nat}(neg:Bool)(l:List Nat)(hl:l.length=n)(hn:n≤10000)(h:LR w p c l)(ht:Lib.TabIs Tryz.prog w "internal/strconv.uint64pow10" .u64 Lib.pow10Tab):
 Calls Tryz.prog 97 #[.agg #[.bool neg, .slice p n c]] w fun e w'=>e= .returned (ze (fmt (zv neg l)))∧Fr [] w w':=by
 subst hl;have Hh:=hid h;have hA:=hid (h.trim);have HT:=hid ht;have hlen:=zI h.lim;have H:=Hp.start [] w;clear h ht;obtain⟨A,hAe⟩:∃A,val l=A:=⟨_,rfl⟩;have Hv:=hid hAe;have Hz:Hid (zv neg l=sg neg A):=hid (by rw[zan,hAe]);rw[hAe]at hA hlen;clear hAe;have HAl:=hid (zbu A)
 go_enter Tryz.func97,Tryz.ntmps97
 revert H;refine W21 ?_;intro _ g w1 hg H _ _ _ _;(refine x_c H (zt l rfl (Hh.out.fr H.fr)) ?_;clear H;rintro e w1 ⟨rfl,hF⟩ H;skip);rw[Hv.out];simp only[Int.not_lt,Int.not_le]at*;revert H;refine W21 ?_;intro H _ _;(refine x_c H (zc9 (zd A) rfl yb (hA.out.fr H.fr)) ?_;clear H;rintro e w1 ⟨p1,c1,rfl,hF,hL⟩ H;have HL1:=hid hL;clear hL);simp only[Int.not_lt,Int.not_le]at*;revert H;refine W21 ?_;intro H _ _;have H1:=H.newRow 0 (e:=9) (sz:=1);clear H;have H:=H1;clear H1
 go_loopg [3,4] A (fun kk s3 s4 wr=>∃(p1:Option Addr) (c1:Nat) (gs:List (List UInt8)) (v:Value) (S:List Nat) (m:Nat),s3= .slice p1 (zd kk).length c1∧s4=v∧Hid (LR wr p1 c1 (zd kk))∧Dg A (zd A).length kk gs∧(zd kk).length≤10000∧Hid (gs.length=m)∧m≤320000∧Hp [] w wr [.obj 0 S (RowAt 9 1 v m (gs.map ze) S), .blk g [.bool neg, .slice p l.length c] 118])
 case atStart=>exact⟨p1,c1,[],_,_,0,rfl,rfl,HL1,Dg.start _ _,by omega,hid rfl,by omega,H⟩
 case round=>
  clear H HL1;obtain⟨p1,c1,gs,v,S,m,rfl,hv,HL1,HD,hkl,Hm,hm3,H⟩:=hrel;obtain⟨pg,cg,he,hmc,hcm,_⟩:=(H.rowo 0).form;subst he;subst hv;unfold maxLen at hcm
  by_cases h0:gk=0
  ·have h0':(zd gk).length≤0:=by rw[h0,zn];exact Nat.le_refl _
   have H0:=hid h0;clear h0
   by_cases hm0:m≤0
   ·have hA0:Hid (A=0):=hid (by
     have e:gs=[]:=List.eq_nil_of_length_eq_zero (by have:=Hm.out;omega)
     have:=HD.x
     rw[H0.out,e]at this
     simpa using this.symm)
    revert H;refine W21 ?_;intro H _ _ _ _
    go_ret
    refine⟨?_,H.fr⟩;rw[Hz.out,hA0.out,zfJ,zry]
    rfl
   ·have hm1:0<m:=by omega
    have hne:gs≠[]:=fun e=>by have:=Hm.out;rw[e]at this;simp at this;omega
    have Hf:Hid (gs.reverse.flatten=dec A):=hid (by have h1:=HD;rw[H0.out]at h1;exact h1.fin hne);have HA0:=hid (HD.nz hne)
    have Hdl:Hid ((dec A).length≤9*320000):=hid (by
     rw[←Hf.out];have h1:=HD.bytes
     have h2:gs.reverse.flatten.length=gs.flatten.length:=by
      rw[List.length_flatten,List.length_flatten,List.map_reverse,List.sum_reverse]
     have:=Hm.out
     omega)
    clear hne hm0
    cases neg
    ·revert H;refine W21 ?_;intro H _ _ _ _ _ _;obtain⟨hrow0,⟨hS0,hn0',he⟩|⟨g0,cap0,pad0,hS0,he,hle,hmax,hlen0,hg0⟩⟩:=H.rowo 0
     ·exact absurd hn0' yb
     injection he with e1 e2 e3
     subst e1 e3;refine Calls.mono (zfU (gs) pad0 Hm.out hg0 (by have:=Hm.out;omega)) ?_;rintro e w1 ⟨rfl,hF,hgw,hcell⟩;have hfr:=H.past (g:=g0) (by first|exact .head _|exact .tail _ (.head _)) (by rw[hS0];simp) hF;clear H hF hS0 hrow0;have H:Hp [] w w1 []:=⟨hfr,by simp,by simp⟩;clear hfr;have Hcell:=hid hcell;clear hcell;simp only[Int.not_lt,Int.not_le]at*;revert H;refine W21 ?_;intro H _ _ _ _;refine Calls.mono (zky (gs).reverse (by rw[List.length_reverse];exact Hm.out) (fun j x hx=>Hcell.out j x hx) hgw (by rw[List.length_reverse];have:=Hm.out;omega) (by rw[List.length_reverse];have:=Hm.out;omega) (by rw[Hf.out];have:=Hdl.out;(try simp only[List.length_cons]);omega)) ?_;rintro e w2 ⟨rfl,hF⟩;have H1:=H.step hF yg;clear H hF;have H:=H1;clear H1;rw[Hf.out];simp only[Int.not_lt,Int.not_le]at*;revert H;refine W21 ?_;intro H
     go_ret
     refine⟨?_,H.fr⟩;rw[Hz.out,fmt,za0];rw[if_neg (by unfold sg;simp)]
     rfl
    ·revert H;refine W22 ?_;intro _ _ g _ hg p1 c1 w1 S' H _ _ _ _;rw[show(gs.map ze)++[ze [45]]=(gs++[[45]]).map ze by simp]at H;have Hm2:Hid ((gs++[[45]]).length=m+1):=hid (by rw[List.length_append,Hm.out];rfl);have Hf2:Hid ((gs++[[45]]).reverse.flatten=45::dec A):=hid (by rw[List.reverse_append,List.reverse_singleton,List.singleton_append,List.flatten_cons,Hf.out];rfl);obtain⟨hrow0,⟨hS0,hn0',he⟩|⟨g0,cap0,pad0,hS0,he,hle,hmax,hlen0,hg0⟩⟩:=H.rowo 0
     ·exact absurd hn0' yb
     injection he with e1 e2 e3
     subst e1 e3;refine Calls.mono (zfU (gs++[[45]]) pad0 Hm2.out hg0 (by have:=Hm2.out;omega)) ?_;rintro e w1 ⟨rfl,hF,hgw,hcell⟩;have hfr:=H.past (g:=g0) (by first|exact .head _|exact .tail _ (.head _)) (by rw[hS0];simp) hF;clear H hF hS0 hrow0;have H:Hp [] w w1 []:=⟨hfr,by simp,by simp⟩;clear hfr;have Hcell:=hid hcell;clear hcell;simp only[Int.not_lt,Int.not_le]at*;revert H;refine W21 ?_;intro H _ _ _ _;refine Calls.mono (zky (gs++[[45]]).reverse (by rw[List.length_reverse];exact Hm2.out) (fun j x hx=>Hcell.out j x hx) hgw (by rw[List.length_reverse];have:=Hm2.out;omega) (by rw[List.length_reverse];have:=Hm2.out;omega) (by rw[Hf2.out];have:=Hdl.out;(try simp only[List.length_cons]);omega)) ?_;rintro e w2 ⟨rfl,hF⟩;have H1:=H.step hF yg;clear H hF;have H:=H1;clear H1;rw[Hf2.out];simp only[Int.not_lt,Int.not_le]at*;revert H;refine W21 ?_;intro H
     go_ret
     refine⟨?_,H.fr⟩;rw[Hz.out,fmt,za0];rw[if_pos (by have:=HA0.out;unfold sg;simp;omega)]
     rfl
  ·have hkp:0<(zd gk).length:=zbR h0;have HN:=HD.next HAl.out h0;have hlt:=hid (Nat.div_lt_self (Nat.pos_of_ne_zero h0) (show 1<1000000000 by decide));have h0:=hid h0;have hml:=HN.len;rw[List.length_append,Hm.out,List.length_cons,List.length_nil]at hml;have hql:=za6 (Nat.div_le_self gk 1000000000);revert H;refine W21 ?_;intro H _ _ _ _;have hSlt:∀x∈S,x<wr.heap.size:=(H.ok _ (.head _)).2.1.lt _ (H.ok _ (.head _)).1;(refine x_c H (znL (zd gk) 1000000000 rfl yb HL1.out yb yb) ?_;clear H;rintro e w1 ⟨p2,c2,rfl,hF,hL,hnw⟩ H;have HL2:=hid hL;have HN2:Hid (∀b off,p2=some ⟨b,off,none⟩→b∉S):=hid (fun b off e hb=>by have h1:=hnw b off e;have h2:=hSlt b hb;omega);clear hL hnw hSlt);rw[zg]at HL2 ⊢;have hr9:gk%1000000000<1000000000:=Nat.mod_lt _ yf;have hgr:Hid (grp gk=if gk/1000000000=0 then dec (gk%1000000000)else zfG (gk%1000000000)):=hid rfl;generalize gk%1000000000=r at hr9 hgr ⊢
   generalize gk/1000000000=X at*;simp only[Int.not_lt,Int.not_le]at*;revert H;refine W21 ?_;intro H _ _ _ _;(refine x_c H (zqx r yb _ (TabIs.fr HT.out H.fr)) ?_;clear H;rintro e w1 ⟨rfl,hF⟩ H;replace HL2:=hid (HL2.out.fr hF))
   by_cases hX:X=0
   ·have hX0:(zd X).length≤0:=by rw[hX,zn];exact Nat.le_refl _
    have Hg:Hid (grp gk=dec r):=hid (by rw[hgr.out,if_pos hX]);clear hX hgr;have hkk:=hid (fun(p:Option Addr) (c:Nat) (l:List Nat) (h:LR w1 p c l) (hn:∀b off,p=some ⟨b,off,none⟩→b∉S)=>h);simp only[Int.not_lt,Int.not_le]at*;revert H;refine W23 ?_;intro g _ hg p1 c1 w1 S' H hkk;rw[show(gs.map ze)++[ze (dec r)]=(gs++[grp gk]).map ze by rw[Hg.out];simp]at H
    go_roundg X
    case measure=>exact hlt.out
    case rel=>exact⟨p2,c2,gs++[grp gk],_,S',m+1,rfl,rfl,hid (hkk.out _ _ _ HL2.out HN2.out),HN,by omega,hid (by rw[List.length_append,Hm.out];rfl),by omega,H.sub yd⟩
   ·have hX0:0<(zd X).length:=zbR hX;have Hg:Hid (grp gk=zfG r):=hid (by rw[hgr.out,if_neg hX]);have hd9:=zgu hr9;obtain⟨b,hb⟩:∃b:ByteArray,b=⟨(dec r).toArray⟩:=⟨_,rfl⟩;have hbs:b.size=(dec r).length:=by rw[hb];show(dec r).toArray.size=_;simp
    have hbs9:b.size≤9:=by omega
    have Hbs:=hid hbs;have Hb:Hid (Value.string b=ze (dec r)):=hid (by rw[hb];rfl);clear hX hgr hb hbs;rw[show ze (Lib.decDigits r)=Value.string b from Hb.out.symm];simp only[Int.not_lt,Int.not_le]at*;revert H;refine W21 ?_;intro H _ _ _ _;rw[show(9:Int)-(b.size:Int)=((9-b.size:Nat):Int) by omega];(refine x_c H (zmN (9-b.size) yb _) ?_;clear H;rintro e w1 ⟨rfl,hF⟩ H;replace HL2:=hid (HL2.out.fr hF));have Hp9:Hid (List.replicate (9-b.size) 48++dec r=zfG r):=hid (by rw[Hbs.out];rfl);have hadd:(List.replicate (9-b.size) (48:UInt8)).length+(dec r).length≤1000000000:=by rw[List.length_replicate];omega
    rw[Hb.out];simp only[Int.not_lt,Int.not_le]at*;revert H;refine W21 ?_;intro H _ _;rw[zl4 _ _ hadd,Hp9.out];have hkk:=hid (fun(p:Option Addr) (c:Nat) (l:List Nat) (h:LR w1 p c l) (hn:∀b off,p=some ⟨b,off,none⟩→b∉S)=>h);revert H;refine W24 ?_;intro g _ hg p1 c1 w1 S' H hkk;rw[show(gs.map ze)++[ze (zfG r)]=(gs++[grp gk]).map ze by rw[Hg.out];simp]at H
    go_roundg X
    case measure=>exact hlt.out
    case rel=>exact⟨p2,c2,gs++[grp gk],_,S',m+1,rfl,rfl,hid (hkk.out _ _ _ HL2.out HN2.out),HN,by omega,hid (by rw[List.length_append,Hm.out];rfl),by omega,H.sub yd⟩
def ziB{u:Value}{x:Int}(h:Av w u x n)(hn:n≤10000)(ht:Lib.TabIs Tryz.prog w "internal/strconv.uint64pow10" .u64 Lib.pow10Tab):
 Calls Tryz.prog 97 #[u] w fun e w'=>e= .returned (ze (fmt x))∧Fr [] w w':=by
 obtain⟨na,la,p,c,rfl,h1,rfl,h3⟩:=h;exact zmy na la rfl yb h1 ht
end
def zs7(L:List En)(m j:Nat):(ze9 L m j).length≤m:=by
 unfold ze9
 have:=List.length_filterMap_le (fun i=>L.find? fun x=>x.1==i&&x.2.1==j) (List.range m)
 rwa [List.length_range]at this
def zsv(L:List En)(m n:Nat):(entP L m n).length≤n*m:=by
 unfold entP
 induction n with
 | zero=>simp
 | succ n ih=>
  rw[List.range_succ,List.flatMap_append,List.length_append,Nat.succ_mul]
  have:=zs7 L m n
  simp only[List.flatMap_cons,List.flatMap_nil,List.append_nil]
  omega
def zjr(sep:List UInt8)(r:List (List UInt8)):(Lib.joinTail sep r).length=(r.map fun y=>sep.length+y.length).sum:=by
 unfold Lib.joinTail
 induction r with
 | nil=>rfl
 | cons y r ih=>simp only[List.map_cons,List.flatten_cons,List.length_append,List.sum_cons,ih]
def zku{α:Type}(f:α→Nat)(K:Nat):∀(l:List α),(∀x∈l,f x≤K)→(l.map f).sum≤l.length*K
 | [],_=>by simp
 | x::l,h=>by
  have h1:=h x (List.mem_cons_self ..);have h2:=zku f K l (fun y hy=>h y (List.mem_cons_of_mem _ hy));rw[List.map_cons,List.sum_cons,List.length_cons,Nat.succ_mul]
  omega
def zgx{ws:List (List UInt8)}{K:Nat}(h:∀y∈ws,y.length≤K):(zq ws).length≤ws.length*(1+K):=by
 cases ws with
 | nil=>simp[zq,Lib.join_nil]
 | cons x r=>
  unfold zq;rw[Lib.join_cons,List.length_append,zjr];have h1:=h x (List.mem_cons_self ..)
  have h2:=zku (fun y:List UInt8=>([32]:List UInt8).length+y.length) (1+K) r (fun y hy=>by
   have:=h y (List.mem_cons_of_mem _ hy)
   simp only[List.length_cons,List.length_nil]
   omega)
  have h3:(x::r).length=r.length+1:=rfl;rw[h3,Nat.succ_mul]
  omega
def zqi{ls:List (List UInt8)}{K:Nat}(h:∀y∈ls,y.length≤K):(zcy ls).length≤ls.length*(K+1):=by
 unfold zcy;rw[List.length_flatMap]
 exact zku (fun s:List UInt8=>(s++[10]).length) (K+1) ls (fun y hy=>by
  have:=h y hy
  rw[List.length_append,List.length_singleton]
  omega)
def zaE{n:Nat}(h:n<100000):(dec n).length≤5:=by
 rcases Nat.eq_zero_or_pos n with e|e
 ·rw[e,zbj yf];simp
 ·obtain⟨h1,_,_⟩:=zhC e
  rcases Nat.lt_or_ge ((dec n).length-1) 5 with g|g
  ·omega
  ·exfalso
   have h2:10^5≤10^((dec n).length-1):=Nat.pow_le_pow_right yf g
   omega
def zqS:∀a:Bool,∀f∈[0,1,2],∀s∈[0,1,2],(zq (zaX ⟨a,f,s⟩)).length≤100:=by decide+kernel
def zmD{h:Hd}{p:En×List UInt8}(h1:p.1.1<1000)(h2:p.1.2.1<1000)(ht:p.2.length≤2000):(zq (zy h p)).length≤6003:=by
 have hl:(zy h p).length≤3:=by
  unfold zy;rw[List.length_append]
  split<;>split<;>simp
 have:=zgx (ws:=zy h p) (K:=2000) (fun y hy=>by
  unfold zy at hy
  rcases List.mem_append.1 hy with e|e
  ·split at e
   ·cases e
   ·simp only[List.mem_cons,List.not_mem_nil,or_false]at e
    rcases e with e|e<;>subst e
    ·have:=zaE (n:=p.1.1+1) yb ;omega
    ·have:=zaE (n:=p.1.2.1+1) yb ;omega
  ·split at e
   ·cases e
   ·simp only[List.mem_singleton]at e;subst e
    exact ht)
 have h3:(zy h p).length*(1+2000)≤3*(1+2000):=Nat.mul_le_mul_right _ hl
 omega
def zis{h:Hd}{m n:Nat}{R:List (En×List UInt8)}(hf:h.field≤2)(hs:h.sym≤2)(hm:m<1000)(hn:n<1000)(hR:R.length≤150)(hE:∀p∈R,p.1.1<1000∧p.1.2.1<1000∧p.2.length≤2000):(za2 h m n R).length≤1000000:=by
 unfold za2
 have hall:∀y∈(zq (zaX h)::zq (zaa h m n R.length)::R.map fun p=>zq (zy h p)),y.length≤6003:=by
  intro y hy
  rcases List.mem_cons.1 hy with e|hy
  ·subst e;obtain⟨a,f,s⟩:=h
   have:=zqS a f (by simp only at hf;simp;omega) s (by simp only at hs;simp;omega)
   omega
  rcases List.mem_cons.1 hy with e|hy
  ·subst e;have hl:(zaa h m n R.length).length≤3:=by unfold zaa;rw[List.length_append];split<;>simp
   have:=zgx (ws:=zaa h m n R.length) (K:=5) (fun y hy=>by
    unfold zaa at hy
    rcases List.mem_append.1 hy with e|e
    ·simp only[List.mem_cons,List.not_mem_nil,or_false]at e
     rcases e with e|e<;>subst e<;>exact zaE yb
    ·split at e
     ·cases e
     ·simp only[List.mem_singleton]at e;subst e
      exact zaE yb)
   have h3:(zaa h m n R.length).length*(1+5)≤3*(1+5):=Nat.mul_le_mul_right _ hl
   omega
  ·obtain⟨p,hp,rfl⟩:=List.mem_map.1 hy
   have:=hE p hp
   exact zmD this.1 this.2.1 this.2.2
 have:=zqi hall
 have h3:(zq (zaX h)::zq (zaa h m n R.length)::R.map fun p=>zq (zy h p)).length≤152:=by
  simp only[List.length_cons,List.length_map];omega
 have h4:=Nat.mul_le_mul_right (6003+1) h3
 omega
section
variable {P:Program} {ops:Array Oper} {Q:Exit→Act→World→Prop} {id:Nat} {a:Act} {w w0:World} {T:List Nat} {l lS:List Ent}
open Go.ChangeShapes Go.WideShapes Go.RowKit
def zvU:ownKnob Tryz.prog.godebug=none:=by kernel_rfl
def zvr:laidOutB Tryz.prog=true:=by kernel_rfl
def vals(k:IntKind)(zs:List Int):Array Value:=(zs.map fun z=>Value.int k z).toArray
def zj9:DataW Unit→List Int
 | .agg l=>l.map fun| .lit (.int _ z)=>z|_=>0
 | _=>[]
def zq5(H:Hp T w0 w l)(hs:List.Sublist lS l)(f:Nat)(p:Plan)(hm:P.follows .mixedOrders=true)(hns:Region.noSelect ops=true)(hc:p.chk ops f ops.size (Array.replicate ops.size false)=true)
 (hQ:∀c a d v w,Q (.panic c) (Act.put a d v) w→Q (.panic c) a w)
 (h:∀w',Fr [] w w'→Hp T w0 w' l→p.wp P ops Q (fun w=>Hp T w0 w lS) f a w'):(Code.region id ops true).wp P Q a w:=
 wp_region_any hm (zhD _ _ _ _ (Plan.sound hns hQ p _ _ _ _ _ _ (fun k o ho hk=>by simp[Array.getElem?_replicate]at hk;split at hk<;>simp at hk) hc (.inl (H.drew.sub hs)) (h _ (Fr.drew _ _) H.drew)))
def zR(f:Nat)(p:Plan)(h:∀w',Fr [] w w'→Hp T w0 w' l→p.wp P ops Q (fun w=>Hp T w0 w lS) f a w')(hs:List.Sublist lS l:=by exact List.Sublist.refl _)(hm:P.follows .mixedOrders=true:=by rfl)(hns:Region.noSelect ops=true:=by kernel_rfl)(hc:p.chk ops f ops.size (Array.replicate ops.size false)=true:=by kernel_rfl)
 (hQ:∀c a d v w,Q (.panic c) (Act.put a d v) w→Q (.panic c) a w:=by intro c a d v w h;cases d<;>exact h) (H:Hp T w0 w l):(Code.region id ops true).wp P Q a w:=zq5 H hs f p hm hns hc hQ h
def zo0{u v:Value}{x y:Int}{n m:Nat}(h:Av w u x n)(k:Av w v y m)(hn:n≤200000)(hm:m≤200000)(hx:x<y):
 Calls Tryz.prog 277 #[u,v] w fun e w'=>∃s:Int,e= .returned (.int .i64 s)∧s<0∧Fr [] w w':=
 Calls.mono (zhg h k hn hm) (fun e w' hb=>⟨_,hb.1,by rw[zbr hx];decide,hb.2⟩)
end
section
variable {t:Int} {N D:Nat}
def k0(t:Int):Int:=(t*30103).tdiv 100000-2
def zuC:∀i:Nat,i<2300→10^(k0 ((i:Int)-1150)).toNat*2^(-((i:Int)-1150)).toNat≤2^((i:Int)-1150).toNat*10^(-k0 ((i:Int)-1150)).toNat:=by decide+kernel
def zuZ(h1: -1150≤t)(h2:t<1150):10^(k0 t).toNat*2^(-t).toNat≤2^t.toNat*10^(-k0 t).toNat:=by
 obtain⟨i,hi⟩:=Int.eq_ofNat_of_zero_le (show 0≤t+1150 by omega);have h:=zuC i yb;rw[show(i:Int)-1150=t by omega]at h;exact h
def zup(hN:N≠0)(hD:D≠0)(ht:t=(bl N:Int)-bl D-1):D*2^t.toNat≤N*2^(-t).toNat:=by
 obtain⟨h1,h2⟩:=zb5 hN;have h3:=zay D;have e:D*2^t.toNat≤2^bl D*2^t.toNat:=Nat.mul_le_mul_right _ yb;have e2:2^(bl N-1)*2^(-t).toNat≤N*2^(-t).toNat:=Nat.mul_le_mul_right _ h1;rw[←Nat.pow_add]at e e2;have e3:2^(bl D+t.toNat)≤2^(bl N-1+(-t).toNat):=Nat.pow_le_pow_right yf yb
 omega
def ztH(hN:N≠0)(hD:D≠0)(ht:t=(bl N:Int)-bl D-1)(h1: -1150≤t)(h2:t<1150):z1 N D (k0 t):=by
 rw[zbf];have a:=zup hN hD ht;have b:=zuZ h1 h2;generalize k0 t=k at b ⊢;have hp:=zu (-t).toNat
 apply Nat.le_of_mul_le_mul_right _ hp
 calc D*10^k.toNat*2^(-t).toNat=D*(10^k.toNat*2^(-t).toNat):=Nat.mul_assoc _ _ _
  _≤D*(2^t.toNat*10^(-k).toNat):=Nat.mul_le_mul_left _ b
  _=D*2^t.toNat*10^(-k).toNat:=(Nat.mul_assoc _ _ _).symm
  _≤N*2^(-t).toNat*10^(-k).toNat:=Nat.mul_le_mul_right _ a
  _=N*10^(-k).toNat*2^(-t).toNat:=Nat.mul_right_comm _ _ _
def zqN:∀K:Nat,K=1100→2^K≤10^(333:Nat):=by intro K h;subst h;decide+kernel
def zuX{k:Int}(hD:D≠0)(hb:bl N≤1100)(h:z1 N D k):k≤332:=by
 apply Classical.byContradiction
 intro hc;have h3:=zcE h (show(333:Int)≤k by omega);rw[zbf]at h3;rw[show(-(333:Int)).toNat=0 from rfl,show(333:Int).toNat=333 from rfl,Nat.pow_zero,Nat.mul_one]at h3;have h4:=zay N;obtain⟨K,hK⟩:∃K:Nat,K=1100:=⟨_,rfl⟩;have h5:2^bl N≤2^K:=Nat.pow_le_pow_right yf yb;have h6:=zqN K hK;have h7:10^(333:Nat)≤D*10^(333:Nat):=Nat.le_mul_of_pos_left _ (Nat.pos_of_ne_zero hD)
 omega
def zrw(h1: -1150≤t)(h2:t<1150): -400≤k0 t∧k0 t≤400:=by
 unfold k0
 rcases Int.le_total 0 t with h|h
 ·rw[Int.tdiv_eq_ediv_of_nonneg yb];omega
 ·obtain⟨s,rfl⟩:∃s,t= -s:=⟨-t,by omega⟩;rw[show -s*30103= -(s*30103) by omega,Int.neg_tdiv,Int.tdiv_eq_ediv_of_nonneg yb];omega
end
section
open Go.RowKit
def OwnM(v:Value)(s:List UInt8)(S:List Nat)(w:World):Prop:=
 ∃g cap cur fz,S=[g]∧v= .slice (some ⟨g,0,none⟩) s.length cap∧w.heap[g]? =some (.cells cur 5 fz)∧(cur.size≤fz.1∨fz.2=0)∧s.length≤cap∧cur.size=cap∧cur.toList.take s.length=zx s
def OwnM.firm{v:Value}{s:List UInt8}{S:List Nat}:Firm S (OwnM v s S):=by
 refine⟨fun w w' R k hn h=>?_,fun w h x hx=>?_,fun w h=>?_⟩
 ·obtain⟨g,cap,cur,fz,rfl,h1,h2,h3⟩:=h;exact⟨g,cap,cur,fz,rfl,h1,k.get h2 (hn g yg),h3⟩
 ·obtain⟨g,cap,cur,fz,rfl,h1,h2,h3⟩:=h;simp only[List.mem_singleton]at hx;subst hx;exact zbg h2
 ·obtain⟨g,cap,cur,fz,rfl,_⟩:=h;simp
instance {v:Value} {s:List UInt8} {S:List Nat}:Fm S (OwnM v s S):=⟨OwnM.firm⟩
def zh1{w:World}{g:Nat}{cur:Array Value}{fz:Nat×Nat}{e:TypeId}{s:List UInt8}(h:w.heap[g]? =some (.cells cur e fz))(ht:cur.toList.take s.length=zx s):∀(j:Nat) u,(zx s)[j]? =some u→w.cell? ⟨g,j,none⟩=some u:=by
 intro j u hj;rw[←ht]at hj
 have hlt:j<s.length:=by
  have:=(List.getElem?_eq_some_iff.1 hj).1
  rw[List.length_take]at this;omega
 rw[List.getElem?_take_of_lt hlt]at hj;simp only[World.cell?,h]
 simpa using hj
def OwnM.rd{v:Value}{s:List UInt8}{S:List Nat}{w:World}(h:OwnM v s S w):Rd w v s.length (zx s):=by
 obtain⟨g,cap,cur,fz,rfl,rfl,h2,h3,h4,h6,h7⟩:=h;exact .inr ⟨_,cap,rfl,fun j u hj=>by rw[zaL,Nat.zero_add];exact zh1 h2 h7 j u hj⟩
def OwnM.form{v:Value}{s:List UInt8}{S:List Nat}{w:World}(h:OwnM v s S w):∃g c,v= .slice (some ⟨g,0,none⟩) s.length c:=by
 obtain⟨g,cap,cur,fz,rfl,rfl,_⟩:=h;exact⟨g,cap,rfl⟩
section
variable {P:Program} {Q:Exit→Act→World→Prop} {a:Act} {w w0:World} {o:Oper} {K:Act→World→Prop} {T:List Nat} {l:List Ent}
def zvR(H:Hp T w0 w l){sT dT:TypeId}{x:Operand}(ho:o.op= .convert sT dT x){s:List UInt8}(hx:a.eval x=ze s)[h1:Sy P sT][h2:By P dT](he:P.underlying dT=some (.slice 5))(hu8:P.underlying 5=some (.int .u8))(k:Nat)
 (h:∀g w' cap,Fr [] w w'→Hp T w0 w' (.obj k [g] (OwnM (.slice (some ⟨g,0,none⟩) s.length cap) s [g])::l)→K (a.put o.dst (.slice (some ⟨g,0,none⟩) s.length cap)) w'):o.wp P a w K Q:=by
 have hr:=run_bytes_of_string (P:=P) w sT dT 5 ⟨s.toArray⟩ h1.h he hu8;rw[zbs]at hr;have hF:Fr [] w (w.drew.alloc (.cells (bytesRow ⟨s.toArray⟩ (grownCap w s.length 0 5)) 5 ((bytesRow ⟨s.toArray⟩ (grownCap w s.length 0 5)).size,(bytesRow ⟨s.toArray⟩ (grownCap w s.length 0 5)).size+1))):=(Fr.drew [] w).trans (Fr.alloc [] _ _);refine zU (v:= .slice (some ⟨w.heap.size,0,none⟩) s.length (grownCap w s.length 0 5)) ?_ (h w.heap.size _ (grownCap w s.length 0 5) hF ?_)
 ·unfold execOp;unfold ze at hx;simp only[ho,hx,Sem.run_bind,hr,Result.andThen_ok,Sem.run_pure]
 ·have hge:=grownCap_ge w s.length 0 5
  have hsz:(bytesRow ⟨s.toArray⟩ (grownCap w s.length 0 5)).size=grownCap w s.length 0 5:=by
   unfold bytesRow;simp only[Array.size_append,Array.size_map,Array.size_replicate,zbs,List.size_toArray]
   omega
  refine H.born k hF ⟨w.heap.size,grownCap w s.length 0 5,_,_,rfl,rfl,heap_alloc_new w.drew _, .inl (Nat.le_refl _),hge,hsz,?_⟩ OwnM.firm yg;unfold bytesRow;rw[Array.toList_append,List.take_append_of_le_length yg,List.take_of_length_le yg]
  simp[zx]
def OwnM.cell{g c k:Nat}{s:List UInt8}{S:List Nat}(H:Hp T w0 w l)(hm:Ent.obj k S (OwnM (.slice (some ⟨g,0,none⟩) s.length c) s S)∈l){i:Nat}{b:UInt8}(hb:s[i]? =some b):w.cell? ⟨g,i,none⟩=some (.int .u8 b.toNat):=by
 obtain⟨g',cap,cur,fz,h1,h2,h3,h4,h5,h6,h7⟩:=(H.ok _ hm).1
 cases h2
 exact zh1 h3 h7 i _ (by simp[zx,hb])
def OwnM.rdL{g c k n:Nat}{s:List UInt8}{S:List Nat}(H:Hp T w0 w l)(hm:Ent.obj k S (OwnM (.slice (some ⟨g,0,none⟩) s.length c) s S)∈l)(hn:s.length=n):Rd w (.slice (some ⟨g,0,none⟩) n c) s.length (zx s):=by
 subst hn;exact OwnM.rd (H.ok _ hm).1
def zvM{g c k:Nat}{s:List UInt8}{S:List Nat}(H:Hp T w0 w (.obj k S (OwnM (.slice (some ⟨g,0,none⟩) s.length c) s S)::l)){t:TypeId}{x y:Operand}(b:UInt8)(ho:o.op= .store t x y){i:Nat}{z:Int}
 (hx:a.eval x= .pointer (some ⟨g,i,none⟩)) (hy:a.eval y= .int .u8 z) (hz:z=(b.toNat:Int)) [hs:Sc P t] (hi:i<s.length)
 (h:∀w',Fr S w w'→Hp T w0 w' (.obj k S (OwnM (.slice (some ⟨g,0,none⟩) (s.set i b).length c) (s.set i b) S)::l)→K (a.put o.dst undef) w'):o.wp P a w K Q:=by
 subst hz;obtain⟨g',cap,cur,fz,rfl,h2,hg,hfz,hnc,hcs,htake⟩:=(H.ok _ (.head _)).1
 cases h2
 have hic:i<cur.size:=by omega
 have hcell:w.cell? ⟨g,i,none⟩=some cur[i]:=by simp[World.cell?,hg,hic]
 have hfr:w.frozen? ⟨g,i,none⟩=false:=by
  obtain⟨lo,hi'⟩:=fz;simp only[World.frozen?,hg,Bool.and_eq_false_iff,decide_eq_false_iff_not];simp only at hfz
  omega
 have hsz:=hs.s
 have e:(Instr.storeAt t (.pointer (some ⟨g,i,none⟩)) (.int .u8 b.toNat)).run P w= .ok () (w.setCell ⟨g,i,none⟩ (.int .u8 b.toNat)):=by
  cases hq:P.info? t with
  | none=>simp[hq]at hsz
  | some ti=>
   have hz:ti.size=1:=by simpa[hq]using hsz
   have hst:(store ((⟨g,i,none⟩:Addr).add 0) (.int .u8 b.toNat)).run P w= .ok () (w.setCell ⟨g,i,none⟩ (.int .u8 b.toNat)):=by
    rw[zaL,Nat.add_zero,run_store P w _ _ .plain rfl,hcell];simp[hfr]
   simp[Instr.storeAt,Instr.sureAddr,storeVar,sizeOf,typeInfo,hq,hz,Value.cells,storeCells,hst]
 rw[setCell_eq_setRow w g i cur _ fz _ hg]at e;have hF:Fr [g] w (w.setRow g (cur.setIfInBounds i (.int .u8 b.toNat))):=Fr.setRow w g _;refine zdl (w':=w.setRow g (cur.setIfInBounds i (.int .u8 b.toNat))) ?_ (h _ hF (H.upd k hF (S':=[g]) ⟨g,c,cur.setIfInBounds i (.int .u8 b.toNat),fz,rfl,by rw[List.length_set],setRow_heap w g cur _ _ _ hg,by simpa using hfz,by rw[List.length_set];exact hnc,by simpa using hcs,?_⟩ yg))
 ·unfold execOp;simp only[ho,hx,hy,Sem.run_bind,e,Result.andThen_ok,Sem.run_pure]
 ·rw[List.length_set,Array.toList_setIfInBounds,List.take_set,htake]
  simp[zx,List.map_set]
end
end
end Go.Proofs.YtaijhllckmndhaaGreatDoor
