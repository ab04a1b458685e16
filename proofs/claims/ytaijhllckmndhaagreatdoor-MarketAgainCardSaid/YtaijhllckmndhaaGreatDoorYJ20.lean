import Derived.Test.YtaijhllckmndhaaGreatDoorYJ0
import Derived.Test.YtaijhllckmndhaaGreatDoorYJ19
import Derived.Test.YtaijhllckmndhaaGreatDoorYJ15
namespace Go.Proofs.YtaijhllckmndhaaGreatDoor
set_option linter.all false
set_option maxHeartbeats 64000000
set_option maxRecDepth 100000
section
variable {s x:List UInt8} {Ls:List (List UInt8)} {i:Nat}
def zgK:∀(r cur x:List UInt8),x∈wds cur r→x≠[]
 | [],cur,x,h=>by
  unfold wds at h
  split at h
  ·cases h
  ·rename_i hc;rw[List.mem_singleton]at h;exact h ▸ hc
 | b::r,cur,x,h=>by
  unfold wds at h
  split at h
  ·split at h
   ·exact zgK r _ x h
   ·rename_i hc
    rcases List.mem_cons.1 h with h|h
    ·exact h ▸ hc
    ·exact zgK r _ x h
  ·exact zgK r _ x h
def zfl:∀(r cur:List UInt8),(wds cur r).length≤r.length+1
 | [],cur=>by unfold wds;split<;>simp
 | b::r,cur=>by
  unfold wds;have h1:=zfl r [];have h2:=zfl r (cur++[b])
  split
  ·split
   ·rw[List.length_cons];omega
   ·rw[List.length_cons,List.length_cons];omega
  ·rw[List.length_cons];omega
def zey:∀(r cur x:List UInt8),x∈wds cur r→x.length≤cur.length+r.length
 | [],cur,x,h=>by
  unfold wds at h
  split at h
  ·cases h
  ·rw[List.mem_singleton]at h;subst h;omega
 | b::r,cur,x,h=>by
  unfold wds at h;rw[List.length_cons]
  split at h
  ·split at h
   ·have:=zey r _ x h;rw[List.length_nil]at this;omega
   ·rcases List.mem_cons.1 h with h|h
    ·subst h;omega
    ·have:=zey r _ x h;rw[List.length_nil]at this;omega
  ·have:=zey r _ x h;rw[List.length_append,List.length_singleton]at this;omega
def zoy(h:x∈zE s):x≠[]:=zgK _ _ _ h
def zba(s:List UInt8):(zE s).length≤s.length+1:=zfl _ _
def zbN(h:x∈zE s):x.length≤s.length:=by have:=zey _ _ _ h;rw[List.length_nil]at this;omega
def zib(l:List UInt8):(zae l).length≤l.length:=by unfold zae;split<;>simp
def zdT:∀(r cur:List UInt8),(lns cur r).length≤r.length+1
 | [],cur=>by unfold lns;split<;>simp
 | b::r,cur=>by
  unfold lns
  split
  ·have:=zdT r [];rw[List.length_cons,List.length_cons];omega
  ·have:=zdT r (cur++[b]);rw[List.length_cons];omega
def zeL:∀(r cur x:List UInt8),x∈lns cur r→x.length≤cur.length+r.length
 | [],cur,x,h=>by
  unfold lns at h
  split at h
  ·cases h
  ·rw[List.mem_singleton]at h;subst h;have:=zib cur;omega
 | b::r,cur,x,h=>by
  unfold lns at h;rw[List.length_cons]
  split at h
  ·rcases List.mem_cons.1 h with h|h
   ·subst h;have:=zib cur;omega
   ·have:=zeL r _ x h;rw[List.length_nil]at this;omega
  ·have:=zeL r _ x h;rw[List.length_append,List.length_singleton]at this;omega
def zgy:∀(L:List (List UInt8)) (i k:Nat) (ws:List (List UInt8)) (rest:List (Nat×List (List UInt8))),sig i L=(k,ws)::rest→i<k∧k≤i+L.length∧rest=sig k (L.drop (k-i))∧skip ws=false∧∃s,L[k-1-i]? =some s∧ws=zE s
 | [],i,k,ws,rest,h=>by cases h
 | s::r,i,k,ws,rest,h=>by
  unfold sig at h
  split at h
  ·obtain⟨h1,h2,h3,h4,s',h5,h6⟩:=zgy r (i+1) k ws rest h;refine⟨by omega,by rw[List.length_cons];omega,?_,h4,s',?_,h6⟩
   ·rw[h3];have e:k-i=(k-(i+1))+1:=by omega
    rw[e,List.drop_succ_cons]
   ·have e:k-1-i=(k-1-(i+1))+1:=by omega
    rw[e,List.getElem?_cons_succ];exact h5
  ·rename_i hs
   injection h with h1 h2
   injection h1 with h3 h4
   subst h3 h4;refine⟨by omega,by rw[List.length_cons];omega,?_,by simpa using hs,s,?_,rfl⟩
   ·rw[←h2];have e:i+1-i=1:=by omega
    rw[e,List.drop_succ_cons,List.drop_zero]
   ·have e:i+1-1-i=0:=by omega
    rw[e];rfl
def zkc(h:Ls[i]? =some s)(hs:skip (zE s)=true):sig i (Ls.drop i)=sig (i+1) (Ls.drop (i+1)):=by
 obtain⟨hlt,rfl⟩:=List.getElem?_eq_some_iff.1 h;rw[List.drop_eq_getElem_cons hlt,sig,if_pos hs]
def zre(h:Ls[i]? =some s)(hs:skip (zE s)=false):sig i (Ls.drop i)=(i+1,zE s)::sig (i+1) (Ls.drop (i+1)):=by
 obtain⟨hlt,rfl⟩:=List.getElem?_eq_some_iff.1 h;rw[List.drop_eq_getElem_cons hlt,sig,if_neg (by rw[hs];decide)]
def ztq(h:Ls.length≤i):sig i (Ls.drop i)=[]:=by rw[List.drop_eq_nil_of_le h];rfl
def zcM{k:Nat}{ws:List (List UInt8)}{rest:List (Nat×List (List UInt8))}(h:sig i (Ls.drop i)=(k,ws)::rest):i<k∧k≤Ls.length∧rest=sig k (Ls.drop k)∧skip ws=false∧∃s,s∈Ls∧ws=zE s:=by
 obtain⟨h1,h2,h3,h4,s,h5,h6⟩:=zgy _ _ _ _ _ h;rw[List.length_drop]at h2;rw[List.drop_drop,show i+(k-i)=k by omega]at h3;rw[List.getElem?_drop]at h5;exact⟨h1,by omega,h3,h4,s,List.mem_of_getElem? h5,h6⟩
end
def zqb(neg:Bool){X Y:Nat}(hY:0<Y):2*X≤2*(rm neg 0 X Y*Y)+Y∧2*(rm neg 0 X Y*Y)≤2*X+Y:=by
 have e:=Nat.div_add_mod X Y;have hr:=Nat.mod_lt X hY;unfold rm;simp only[zdx];rw[Nat.mul_comm]at e;generalize X/Y=q at e ⊢;generalize X%Y=r at e hr ⊢;have e1:(q+1)*Y=q*Y+Y:=Nat.succ_mul q Y
 by_cases h0:r=0
 ·rw[if_pos h0]
  omega
 ·rw[if_neg h0];unfold zbD
  by_cases h1:2*r<Y
  ·rw[if_pos h1];simp only[show decide ((0:Int)< -1)=false from rfl,show decide ((-1:Int)=0)=false from rfl,Bool.false_and,Bool.or_false,Bool.false_eq_true,if_false]
   omega
  ·rw[if_neg h1]
   by_cases h2:2*r=Y
   ·rw[if_pos h2];generalize (decide ((0:Int)<0)||decide ((0:Int)=0)&&q%2==1)=t
    cases t
    ·simp only[Bool.false_eq_true,if_false]
     omega
    ·simp only[if_true];rw[e1]
     omega
   ·rw[if_neg h2];simp only[show decide ((0:Int)<1)=true from rfl,Bool.true_or,if_true];rw[e1]
    omega
def ztz{b N D:Nat}{k:Int}(h0:0<b)(hb:b<9218868437227405312)(hN:0<N)(hD:0<D)
 (hv:N*2^(-zh b).toNat=zA b*(D*2^(zh b).toNat)) (hk:z1 N D k) (hk2:¬z1 N D (k+1)):dvF false 0 (zbF N D (16-k)) (k-16)=b:=by
 have hs:=zfF (n:=17) hD yf hk hk2;have e16:((17:Nat):Int)-1-k=16-k:=by omega
 rw[e16]at hs;have hcl:=zqb false (X:=upN N (16-k)) (Y:=dnD D (16-k)) (Nat.mul_pos hD (zD _));have hq0:0<zbF N D (16-k):=Nat.lt_of_lt_of_le (zD _) hs.1;change 2*upN N (16-k)≤2*(zbF N D (16-k)*dnD D (16-k))+dnD D (16-k)∧2*(zbF N D (16-k)*dnD D (16-k))≤2*upN N (16-k)+dnD D (16-k)at hcl;generalize zbF N D (16-k)=q at hcl hq0 ⊢;unfold upN dnD at hcl;have ea:(-(16-k)).toNat=(k-16).toNat:=by omega
 have ec:(-(k-16)).toNat=(16-k).toNat:=by omega
 rw[ea]at hcl;rw[zbf]at hk
 have hbig:D*10^(k-16).toNat*10000000000000000≤N*10^(16-k).toNat:=by
  apply Nat.le_of_mul_le_mul_right _ (zD (-k).toNat)
  have a1:10^(k-16).toNat*10^16*10^(-k).toNat=10^k.toNat*10^(16-k).toNat:=by
   rw[←Nat.pow_add,←Nat.pow_add,←Nat.pow_add]
   congr 1
   omega
  calc D*10^(k-16).toNat*10000000000000000*10^(-k).toNat=D*(10^(k-16).toNat*10^16*10^(-k).toNat):=by simp only[Nat.mul_assoc]
   _=D*10^k.toNat*10^(16-k).toNat:=by rw[a1,Nat.mul_assoc]
   _≤N*10^(-k).toNat*10^(16-k).toNat:=Nat.mul_le_mul_right _ hk
   _=N*10^(16-k).toNat*10^(-k).toNat:=Nat.mul_right_comm _ _ _
 unfold dvF;rw[ec];have hA:=zD (k-16).toNat;have hC:=zD (16-k).toNat;generalize 10^(k-16).toNat=A at hcl hbig hA ⊢;generalize 10^(16-k).toNat=C at hcl hbig hC ⊢;have hqA:q*(D*A)=q*A*D:=by rw[Nat.mul_comm D,Nat.mul_assoc]
 rw[hqA]at hcl;generalize hP:q*A=P at hcl;have hP0:0<P:=by rw[←hP];exact Nat.mul_pos hq0 hA
 generalize hE1:2^(-zh b).toNat=E1 at hv;generalize hE2:2^(zh b).toNat=E2 at hv;have hE1p:0<E1:=by rw[←hE1];exact zu _
 have hE2p:0<E2:=by rw[←hE2];exact zu _
 have hm:zA b≤9007199254740991:=by
  unfold zA
  split<;>omega
 have hY:0<C*E2:=Nat.mul_pos hC hE2p
 have hR:N*C*E1=zA b*(C*E2)*D:=by
  rw[Nat.mul_right_comm,hv];simp only[Nat.mul_assoc,Nat.mul_left_comm,Nat.mul_comm]
 have u1:20000000000000000*(P*E1)≤20000000000000001*(zA b*(C*E2)):=by
  apply Nat.le_of_mul_le_mul_right _ hD
  have z:20000000000000000*(P*D)≤20000000000000001*(N*C):=by omega
  have z2:=Nat.mul_le_mul_right E1 z
  calc 20000000000000000*(P*E1)*D=20000000000000000*(P*D)*E1:=by simp only[Nat.mul_assoc,Nat.mul_left_comm,Nat.mul_comm]
   _≤20000000000000001*(N*C)*E1:=z2
   _=20000000000000001*(zA b*(C*E2))*D:=by rw[Nat.mul_assoc,hR,←Nat.mul_assoc]
 have u2:19999999999999999*(zA b*(C*E2))≤20000000000000000*(P*E1):=by
  apply Nat.le_of_mul_le_mul_right _ hD
  have z:19999999999999999*(N*C)≤20000000000000000*(P*D):=by omega
  have z2:=Nat.mul_le_mul_right E1 z
  calc 19999999999999999*(zA b*(C*E2))*D=19999999999999999*(N*C)*E1:=by rw[Nat.mul_assoc,←hR,←Nat.mul_assoc]
   _≤20000000000000000*(P*D)*E1:=z2
   _=20000000000000000*(P*E1)*D:=by simp only[Nat.mul_assoc,Nat.mul_left_comm,Nat.mul_comm]
 have hmY:zA b*(C*E2)≤9007199254740991*(C*E2):=Nat.mul_le_mul_right _ hm;have g1:(0-zh b).toNat=(-zh b).toNat:=by omega
 have g2:(zh b-0).toNat=(zh b).toNat:=by omega
 apply zpm h0 hb hP0 hC
 ·rw[g1,g2,hE1,hE2]
  omega
 ·rw[g1,g2,hE1,hE2]
  omega
 ·intro hm2;rw[g1,g2,hE1,hE2];rw[hm2]at u1 u2 ⊢
  omega
section
variable {x y z:En} {S L:List En} {m n:Nat}
def ltE(x y:En):Prop:=x.2.1<y.2.1∨(x.2.1=y.2.1∧x.1<y.1)
def leE(x y:En):Prop:=x.2.1<y.2.1∨(x.2.1=y.2.1∧x.1≤y.1)
def apE(x y:En):Prop:=¬(x.1=y.1∧x.2.1=y.2.1)
def ltE.irrefl(x:En):¬ltE x x:=by unfold ltE;omega
def ltE.trans(h:ltE x y)(k:ltE y z):ltE x z:=by unfold ltE at*;omega
def leE.trans(h:leE x y)(k:leE y z):leE x z:=by unfold leE at*;omega
def leE.total(x y:En):leE x y∨leE y x:=by unfold leE;omega
def leE.refl(x:En):leE x x:=by unfold leE;omega
def ltE.le(h:ltE x y):leE x y:=by unfold ltE at h;unfold leE;omega
def leE.lt(h:leE x y)(k:apE x y):ltE x y:=by unfold leE at h;unfold apE at k;unfold ltE;omega
def apE.symm(h:apE x y):apE y x:=by unfold apE at*;omega
def ltE.ap(h:ltE x y):apE x y:=by unfold ltE at h;unfold apE;omega
def zcc:∀ {A B:List En},A.Pairwise ltE→B.Pairwise ltE→(∀x,x∈A↔x∈B)→A=B
 | [],[],_,_,_=>rfl
 | [],b::B,_,_,h=>by have:=(h b).2 yg ;cases this
 | a::A,[],_,_,h=>by have:=(h a).1 yg ;cases this
 | a::A,b::B,hA,hB,h=>by
  obtain⟨hA1,hA2⟩:=List.pairwise_cons.1 hA;obtain⟨hB1,hB2⟩:=List.pairwise_cons.1 hB
  have hab:a=b:=by
   rcases List.mem_cons.1 ((h a).1 yg)with e|e
   ·exact e
   ·rcases List.mem_cons.1 ((h b).2 yg)with e2|e2
    ·exact e2.symm
    ·exact absurd ((hB1 a e).trans (hA1 b e2)) (ltE.irrefl b)
  subst hab
  congr 1
  refine zcc hA2 hB2 fun x=>?_
  constructor
  ·intro hx
   rcases List.mem_cons.1 ((h x).1 (List.mem_cons_of_mem _ hx))with e|e
   ·subst e;exact absurd (hA1 x hx) (ltE.irrefl x)
   ·exact e
  ·intro hx
   rcases List.mem_cons.1 ((h x).2 (List.mem_cons_of_mem _ hx))with e|e
   ·subst e;exact absurd (hB1 x hx) (ltE.irrefl x)
   ·exact e
def ze6(h:S.Pairwise leE)(k:S.Pairwise apE):S.Pairwise ltE:=by
 induction S with
 | nil=>exact .nil
 | cons a S ih=>
  obtain⟨h1,h2⟩:=List.pairwise_cons.1 h;obtain⟨k1,k2⟩:=List.pairwise_cons.1 k;exact List.pairwise_cons.2 ⟨fun x hx=>(h1 x hx).lt (k1 x hx),ih h2 k2⟩
def zfQ(h:L.Perm S)(k:L.Pairwise apE):S.Pairwise apE:=h.pairwise k (fun h=>apE.symm h)
def znH:∀ {L:List En},L.Pairwise apE→∀ {x y:En},x∈L→y∈L→x≠y→apE x y
 | a::L,h,x,y,hx,hy,hne=>by
  obtain⟨h1,h2⟩:=List.pairwise_cons.1 h
  rcases List.mem_cons.1 hx with e|e
  ·rcases List.mem_cons.1 hy with e2|e2
   ·exact absurd (e.trans e2.symm) hne
   ·rw[e];exact h1 y e2
  ·rcases List.mem_cons.1 hy with e2|e2
   ·rw[e2];exact(h1 x e).symm
   ·exact znH h2 e e2 hne
def zkj{j:Nat}(hL:L.Pairwise apE):x∈ze9 L m j↔x∈L∧x.1<m∧x.2.1=j:=by
 unfold ze9;rw[List.mem_filterMap]
 constructor
 ·rintro⟨i,hi,h⟩;have h1:=List.mem_of_find?_eq_some h;have h2:=List.find?_some h;simp only[Bool.and_eq_true,beq_iff_eq]at h2;exact⟨h1,by rw[h2.1];exact List.mem_range.1 hi,h2.2⟩
 ·rintro⟨h1,h2,h3⟩;refine⟨x.1,List.mem_range.2 h2,?_⟩
  cases hf:L.find? (fun y=>y.1==x.1&&y.2.1==j)with
  | none=>
   have:=List.find?_eq_none.1 hf x h1
   simp[h3]at this
  | some y=>
   have h4:=List.mem_of_find?_eq_some hf;have h5:=List.find?_some hf;simp only[Bool.and_eq_true,beq_iff_eq]at h5
   congr 1
   by_cases e:y=x
   ·exact e
   ·exfalso
    have:=znH hL h4 h1 e
    exact this ⟨h5.1,by rw[h5.2,h3]⟩
def zdA(hL:L.Pairwise apE)(hb:∀x∈L,x.1<m∧x.2.1<n)(x:En):x∈entP L m n↔x∈L:=by
 unfold entP;rw[List.mem_flatMap]
 constructor
 ·rintro⟨j,_,h⟩;exact((zkj hL).1 h).1
 ·intro h;exact⟨x.2.1,List.mem_range.2 (hb x h).2,(zkj hL).2 ⟨h,(hb x h).1,rfl⟩⟩
def zkL(L:List En)(m j:Nat):(ze9 L m j).Pairwise ltE:=by
 unfold ze9;rw[List.pairwise_filterMap];refine List.pairwise_lt_range.imp ?_;intro a b hab x hx y hy;have h1:=List.find?_some hx;have h2:=List.find?_some hy;simp only[Bool.and_eq_true,beq_iff_eq]at h1 h2;unfold ltE
 omega
def zaS(L:List En)(m n:Nat):(entP L m n).Pairwise ltE:=by
 unfold entP;rw[List.pairwise_flatMap];refine⟨fun j _=>zkL L m j,List.pairwise_lt_range.imp ?_⟩;intro a b hab x hx y hy;unfold ze9 at hx hy;obtain⟨i,_,h1⟩:=List.mem_filterMap.1 hx;obtain⟨i',_,h2⟩:=List.mem_filterMap.1 hy;have h1:=List.find?_some h1;have h2:=List.find?_some h2;simp only[Bool.and_eq_true,beq_iff_eq]at h1 h2;unfold ltE
 omega
def zs5(hL:L.Pairwise apE)(hb:∀x∈L,x.1<m∧x.2.1<n)(hp:L.Perm S)(hs:S.Pairwise leE):S=entP L m n:=
 zcc (ze6 hs (zfQ hp hL)) (zaS L m n) fun x=>by rw[zdA hL hb,hp.mem_iff]
end
def zl1(s:List UInt8):Prop:=∀(i:Nat) (l:List UInt8),1≤i→(zak s)[i]? =some l→∀(k:Nat) (w:List UInt8),k<2→(zE l)[k]? =some w→zT w=true→num w≤200→num w≤12
def zkV{h:Hd}{w:List (List UInt8)}{m n z:Nat}(e:zas h w= .ok (m,n,z)):w.all zT=true∧2≤w.length∧m=num (w.getD 0 [])∧n=num (w.getD 1 [])∧m≤200∧n≤200:=by
 unfold zas at e
 by_cases k:w.length=(if h.arr=true then 2 else 3)∧w.all zT=true∧(h.sym=0∨zW (w.getD 0 [])=zW (w.getD 1 []))
 ·rw[if_pos k]at e;simp only[]at e;generalize hc:(if h.arr=true then zV h.sym (num (w.getD 0 [])) (num (w.getD 1 []))else num (w.getD 2 []))=c at e
  by_cases g:num (w.getD 0 [])≤200∧num (w.getD 1 [])≤200∧c≤10000∧(h.sym=0∨2*c≤10000)
  ·rw[if_pos g]at e;have e:=Except.ok.inj e;have e1:=congrArg Prod.fst e;have e2:=congrArg (fun x=>x.2.1) e;simp only at e1 e2;have hl:=k.1;refine⟨k.2.1,?_,e1.symm,e2.symm,by omega,by omega⟩
   split at hl<;>omega
  ·rw[if_neg g]at e;cases e
 ·rw[if_neg k]at e;cases e
def zmd{s:List UInt8}{h:Hd}{m n:Nat}{L:List En}(ht:zl1 s)(e:zF s= .ok (h,m,n,L)):m≤12∧n≤12:=by
 unfold zF at e
 split at e
 ·cases e
 ·rename_i s0 r hl
  split at e
  ·cases e
  ·rename_i h' hh
   split at e
   ·cases e
   ·rename_i i w ls hsig
    split at e
    ·cases e
    ·rename_i m' n' c hsz
     split at e
     ·cases e
     ·rename_i L' hen;have e:=Except.ok.inj e;simp only[Prod.mk.injEq]at e;obtain⟨rfl,rfl,rfl,rfl⟩:=e;obtain⟨hi,_,_,_,l,hlr,rfl⟩:=zgy r 1 i w ls hsig;obtain⟨g1,g2,g3,g4,g5,g6⟩:=zkV hsz;have hline:(zak s)[i-1-1+1]? =some l:=by rw[hl,List.getElem?_cons_succ];exact hlr
      have key:∀k,k<2→num ((zE l).getD k [])≤200→num ((zE l).getD k [])≤12:=by
       intro k hk h200
       have hw:(zE l)[k]? =some ((zE l).getD k []):=by
        rw[List.getD_eq_getElem?_getD,List.getElem?_eq_getElem yb]
        rfl
       refine ht _ l yb hline k _ hk hw ?_ h200;exact List.all_eq_true.1 g1 _ (List.mem_of_getElem? hw)
      rw[g3,g4];exact⟨key 0 yf yb,key 1 yf yb⟩
     ·cases e
section
variable {ws:List (List UInt8)} {c:UInt8} {h:Hd} {m n:Nat} {p:En×List UInt8}
def zj6:∀(s r cur:List UInt8),(10:UInt8)∉s→lns cur (s++10::r)=zae (cur++s)::lns [] r
 | [],r,cur,_=>by simp[lns]
 | b::s,r,cur,h=>by
  have hb:b≠10:=fun e=>h (by simp[e])
  show lns cur (b::(s++10::r))=_
  rw[lns,if_neg hb,zj6 s r (cur++[b]) (fun e=>h (List.mem_cons_of_mem _ e))]
  simp
def znD{s:List UInt8}(h:(13:UInt8)∉s):zae s=s:=by
 unfold zae;rw[if_neg];intro e;exact h (List.mem_of_getLast? e)
def zcy(ls:List (List UInt8)):List UInt8:=ls.flatMap (· ++[10])
def zgb:∀(ls:List (List UInt8)),(∀s∈ls,(10:UInt8)∉s∧(13:UInt8)∉s)→zak (zcy ls)=ls
 | [],_=>rfl
 | s::ls,h=>by
  have h1:=h s (List.mem_cons_self ..);have ih:=zgb ls (fun x hx=>h x (List.mem_cons_of_mem _ hx));unfold zak at ih ⊢;have e:zcy (s::ls)=s++10::zcy ls:=by simp[zcy]
  rw[e,zj6 s _ [] h1.1,ih,List.nil_append,znD h1.2]
def zit(x:List UInt8)(ls:List (List UInt8)):Lib.join (x::ls) [10]++[10]=zcy (x::ls):=by
 rw[Lib.join_cons];unfold zcy;rw[List.flatMap_cons]
 induction ls generalizing x with
 | nil=>simp[Lib.joinTail]
 | cons y r ih=>
  have h:=ih y;simp only[Lib.joinTail,List.map_cons,List.flatten_cons,List.flatMap_cons,List.append_assoc,List.cons_append,List.nil_append]at h ⊢;rw[h]
def zaT(t:List UInt8):Prop:=t≠[]∧∀c∈t,isW c=false∧c≠10∧c≠13∧c≠37
def zg5:∀(ws:List (List UInt8)) (x:List UInt8),(x≠[]∧∀c∈x,isW c=false)→(∀y∈ws,y≠[]∧∀c∈y,isW c=false)→wds [] (x++Lib.joinTail [32] ws)=x::ws
 | [],x,hx,_=>by
  have e:x++Lib.joinTail [32] []=x++[]:=rfl;rw[e,zep x [] [] hx.2,List.nil_append,wds,if_neg hx.1]
 | y::ws,x,hx,h=>by
  have e:Lib.joinTail [32] (y::ws)=32::(y++Lib.joinTail [32] ws):=by simp[Lib.joinTail]
  rw[e,zep x _ [] hx.2,List.nil_append,wds,if_pos yf,if_neg hx.1,zg5 ws y (h y (List.mem_cons_self ..)) (fun z hz=>h z (List.mem_cons_of_mem _ hz))]
def zq(ws:List (List UInt8)):List UInt8:=Lib.join ws [32]
def zlJ(h0:ws≠[])(h:∀y∈ws,zaT y):zE (zq ws)=ws:=by
 cases ws with
 | nil=>exact absurd rfl h0
 | cons x r=>
  unfold zE zq;rw[Lib.join_cons];exact zg5 r x ⟨(h x (List.mem_cons_self ..)).1,fun c hc=>((h x (List.mem_cons_self ..)).2 c hc).1⟩ (fun y hy=>⟨(h y (List.mem_cons_of_mem _ hy)).1,fun c hc=>((h y (List.mem_cons_of_mem _ hy)).2 c hc).1⟩)
def zrC:∀ {ws:List (List UInt8)},c∈zq ws→c=32∨∃y∈ws,c∈y
 | [],h=>by simp[zq,Lib.join_nil]at h
 | x::r,h=>by
  unfold zq at h;rw[Lib.join_cons]at h
  rcases List.mem_append.1 h with h|h
  ·exact .inr ⟨x,List.mem_cons_self ..,h⟩
  ·unfold Lib.joinTail at h;obtain⟨l,hl,hc⟩:=List.mem_flatten.1 h;obtain⟨y,hy,rfl⟩:=List.mem_map.1 hl
   rcases List.mem_append.1 hc with hc|hc
   ·exact .inl (by simpa using hc)
   ·exact .inr ⟨y,List.mem_cons_of_mem _ hy,hc⟩
def zlL(h:∀y∈ws,zaT y):(10:UInt8)∉zq ws∧(13:UInt8)∉zq ws:=by
 constructor<;>intro hc<;>rcases zrC hc with e|⟨y,hy,hcy⟩
 ·exact absurd e yf
 ·exact((h y hy).2 _ hcy).2.1 rfl
 ·exact absurd e yf
 ·exact((h y hy).2 _ hcy).2.2.1 rfl
def zfv(h:dig c=true):isW c=false∧c≠10∧c≠13∧c≠37:=by
 unfold dig at h;simp only[Bool.and_eq_true,decide_eq_true_eq]at h;refine⟨?_,?_,?_,?_⟩
 ·rw[zen];simp only[Bool.or_eq_false_iff,beq_eq_false_iff_ne,ne_eq]
  omega
 all_goals
  intro e;subst e
  revert h
  decide
def zc7(n:Nat):zaT (dec n):=⟨(zar n).2.2,fun c hc=>zfv (List.all_eq_true.1 (zar n).1 c hc)⟩
def ziy(z:Int):zaT (fmt z):=by
 unfold fmt
 split
 ·refine⟨by simp,fun c hc=>?_⟩
  rcases List.mem_cons.1 hc with e|e
  ·subst e;decide
  ·exact(zc7 _).2 c e
 ·exact zc7 _
def zhS:Nat→List (List (List UInt8))→List (Nat×List (List UInt8))
 | _,[]=>[]
 | i,w::r=>(i+1,w)::zhS (i+1) r
def zm9(h0:ws≠[])(h:∀y∈ws,zaT y):skip ws=false:=by
 cases ws with
 | nil=>exact absurd rfl h0
 | cons x r=>
  have hx:=h x (List.mem_cons_self ..)
  cases hx0:x with
  | nil=>exact absurd hx0 hx.1
  | cons c s=>
   have:=(hx.2 c (by rw[hx0];exact List.mem_cons_self ..)).2.2.2
   simp[skip,this]
def zhY:∀(W:List (List (List UInt8))) (i:Nat),(∀w∈W,w≠[]∧∀y∈w,zaT y)→sig i (W.map zq)=zhS i W
 | [],i,_=>rfl
 | w::r,i,h=>by
  have hw:=h w (List.mem_cons_self ..);rw[List.map_cons,sig,zlJ hw.1 hw.2,zm9 hw.1 hw.2,if_neg yf,zhY r (i+1) (fun x hx=>h x (List.mem_cons_of_mem _ hx))]
  rfl
def zy(h:Hd)(p:En×List UInt8):List (List UInt8):=
 (if h.arr then []else [dec (p.1.1+1),dec (p.1.2.1+1)])++(if h.field=2 then []else [p.2])
def okP(h:Hd)(m n:Nat)(p:En×List UInt8):Prop:=
 p.1.1<m∧p.1.2.1<n∧may h.sym p.1.1 p.1.2.1=true∧(h.field=2→p.1.2.2=4607182418800017408)∧(h.field≠2→zai h.field p.2=some p.1.2.2∧zaT p.2)
def zor(ha:¬(h.arr=true∧h.field=2))(hp:okP h m n p):zy h p≠[]∧∀y∈zy h p,zaT y:=by
 unfold zy
 by_cases h1:h.arr=true
 ·have h2:h.field≠2:=fun e=>ha ⟨h1,e⟩
  rw[if_pos h1,if_neg h2];refine⟨by simp,fun y hy=>?_⟩;simp only[List.nil_append,List.mem_singleton]at hy;subst hy;exact(hp.2.2.2.2 h2).2
 ·rw[if_neg h1];refine⟨by simp,fun y hy=>?_⟩
  rcases List.mem_append.1 hy with e|e
  ·simp only[List.mem_cons,List.not_mem_nil,or_false]at e
   rcases e with e|e<;>subst e<;>exact zc7 _
  ·by_cases h2:h.field=2
   ·rw[if_pos h2]at e;cases e
   ·rw[if_neg h2]at e;simp only[List.mem_singleton]at e;subst e;exact(hp.2.2.2.2 h2).2
def zqz{sym i j:Nat}(h:may sym i j=true):may sym (i+1) (j+1)=true:=by
 unfold may at h ⊢;simp only[Bool.or_eq_true,beq_iff_eq,Bool.and_eq_true,decide_eq_true_eq]at h ⊢
 omega
def ziE(n:Nat):zT (dec n)=true:=by
 unfold zT;rw[(zar n).1]
 have:=(zar n).2.2
 cases hd:dec n with
 | nil=>exact absurd hd this
 | cons a b=>rfl
def zq6{k:Nat}(ha:¬(h.arr=true∧h.field=2))(hp:okP h m n p)(hk:h.arr=true→(zbd h.sym m n).getD k (0,0)=(p.1.1,p.1.2.1)):one h m n k (zy h p)=some p.1:=by
 obtain⟨⟨i,j,v⟩,t⟩:=p;obtain⟨h1,h2,h3,h4,h5⟩:=hp;simp only at h1 h2 h3 h4 h5 hk;unfold one
 by_cases hA:h.arr=true
 ·have hf:h.field≠2:=fun e=>ha ⟨hA,e⟩
  have e:zy h ((i,j,v),t)=[t]:=by unfold zy;rw[if_pos hA,if_neg hf];rfl
  rw[if_pos hA,e,if_pos yF]
  show(zai h.field t).map _=_
  rw[(h5 hf).1,hk hA]
  rfl
 ·rw[if_neg hA]
  have hpos:zdo h m n (zy h ((i,j,v),t))=some (i,j):=by
   unfold zdo;have e0:(zy h ((i,j,v),t)).getD 0 []=dec (i+1):=by unfold zy;rw[if_neg hA];rfl
   have e1:(zy h ((i,j,v),t)).getD 1 []=dec (j+1):=by unfold zy;rw[if_neg hA];rfl
   have e2:(zy h ((i,j,v),t)).length=if h.field=2 then 2 else 3:=by
    unfold zy;rw[if_neg hA]
    split<;>rfl
   simp only[e0,e1,e2,ziE,(zar _).2.1,zqz h3,true_and,and_true];rw[if_pos yb]
   rfl
  rw[hpos];simp only
  by_cases hf:h.field=2
  ·rw[if_pos hf,h4 hf]
  ·rw[if_neg hf];have e2:(zy h ((i,j,v),t)).getD 2 []=t:=by unfold zy;rw[if_neg hA,if_neg hf];rfl
   rw[e2,(h5 hf).1]
   rfl
def zo3{L:List En}{x:En}(h:∀y∈L,apE y x):zcz L x=false:=by
 unfold zcz;rw[List.any_eq_false];intro y hy
 have:=h y hy
 unfold apE at this
 simpa using this
def ziF{h:Hd}{m n N:Nat}(ha:¬(h.arr=true∧h.field=2)):∀(R:List (En×List UInt8)) (i:Nat) (L0:List En),(∀p∈R,okP h m n p)→(h.arr=true→∀k p,R[k]? =some p→(zbd h.sym m n).getD (L0.length+k) (0,0)=(p.1.1,p.1.2.1))→(L0++R.map (·.1)).Pairwise apE→
 zac h m n N R.length L0 (zhS i (R.map (zy h)))= .ok (L0++R.map (·.1),[])
 | [],i,L0,_,_,_=>by simp[zac,zhS]
 | p::R,i,L0,hR,hk,hP=>by
  have h1:one h m n L0.length (zy h p)=some p.1:=zq6 ha (hR p (List.mem_cons_self ..)) (fun e=>hk e 0 p rfl);rw[List.map_cons,List.pairwise_append]at hP;have hs:=zo3 (fun y hy=>hP.2.2 y hy p.1 (List.mem_cons_self ..))
  have hP2:(L0++[p.1]++R.map (·.1)).Pairwise apE:=by
   rw[List.append_assoc,List.singleton_append,List.pairwise_append];exact hP
  have ih:=ziF (N:=N) ha R (i+1) (L0++[p.1]) (fun q hq=>hR q (List.mem_cons_of_mem _ hq)) (fun e k q hq=>by
   have:=hk e (k+1) q hq
   rw[List.length_append,List.length_singleton]
   rwa [show L0.length+1+k=L0.length+(k+1) by omega]) hP2
  rw[List.map_cons,List.length_cons]
  show zac h m n N (R.length+1) L0 ((i+1,zy h p)::zhS (i+1) (R.map (zy h)))=_
  rw[zac];rw[h1];simp only;rw[hs,if_neg yf,ih,List.map_cons]
  simp
def zaX(h:Hd):List (List UInt8):=[[37,37,77,97,116,114,105,120,77,97,114,107,101,116],zfi,if h.arr then sArr else sCoo,sFlds.getD h.field [],sSyms.getD h.sym []]
def zaa(h:Hd)(m n c:Nat):List (List UInt8):=[dec m,dec n]++(if h.arr then []else [dec c])
def za2(h:Hd)(m n:Nat)(R:List (En×List UInt8)):List UInt8:=zcy (zq (zaX h)::zq (zaa h m n R.length)::R.map fun p=>zq (zy h p))
def zsJ:∀a:Bool,∀f∈[0,1,2],∀s∈[0,1,2],¬(a=true∧f=2)→((hdr (zq (zaX ⟨a,f,s⟩))).map fun h=>(h.arr,h.field,h.sym))=some (a,f,s)∧(10:UInt8)∉zq (zaX ⟨a,f,s⟩)∧(13:UInt8)∉zq (zaX ⟨a,f,s⟩):=by decide+kernel
def zqv(hf:h.field≤2)(hs:h.sym≤2)(ha:¬(h.arr=true∧h.field=2)):hdr (zq (zaX h))=some h∧(10:UInt8)∉zq (zaX h)∧(13:UInt8)∉zq (zaX h):=by
 obtain⟨a,f,s⟩:=h;simp only at hf hs ha;have h1:=zsJ a f yn s yn ha;refine⟨?_,h1.2⟩
 cases hh:hdr (zq (zaX ⟨a,f,s⟩))with
 | none=>rw[hh]at h1;exact absurd h1.1 yg
 | some g=>
  rw[hh]at h1;have e:=Option.some.inj h1.1;simp only[Prod.mk.injEq]at e;obtain⟨b,x,y⟩:=g;obtain⟨e1,e2,e3⟩:=e;simp only at e1 e2 e3;subst e1;subst e2;subst e3
  rfl
def zne{c:Nat}(hm:m≤200)(hn:n≤200)(hc:c≤10000)(hc2:h.sym=0∨2*c≤10000)(hmn:h.sym=0∨m=n)(hst:h.arr=true→c=zV h.sym m n):zas h (zaa h m n c)= .ok (m,n,c):=by
 have e0:(zaa h m n c).getD 0 []=dec m:=by unfold zaa;rfl
 have e1:(zaa h m n c).getD 1 []=dec n:=by unfold zaa;rfl
 have el:(zaa h m n c).length=if h.arr=true then 2 else 3:=by unfold zaa;split<;>rfl
 have ea:(zaa h m n c).all zT=true:=by
  unfold zaa
  split<;>simp[ziE]
 unfold zas;rw[if_pos ⟨el,ea,by rw[e0,e1];rcases hmn with e|e;exact .inl e;exact .inr (by rw[e])⟩];simp only[e0,e1,(zar _).2.1]
 have ec:(if h.arr=true then zV h.sym m n else num ((zaa h m n c).getD 2 []))=c:=by
  by_cases hA:h.arr=true
  ·rw[if_pos hA,hst hA]
  ·rw[if_neg hA];have e2:(zaa h m n c).getD 2 []=dec c:=by unfold zaa;rw[if_neg hA];rfl
   rw[e2,(zar _).2.1]
 rw[ec,if_pos ⟨hm,hn,hc,hc2⟩]
def zqt(h:Hd)(m n c:Nat):zaa h m n c≠[]∧∀y∈zaa h m n c,zaT y:=by
 unfold zaa;refine⟨by simp,fun y hy=>?_⟩
 rcases List.mem_append.1 hy with e|e
 ·simp only[List.mem_cons,List.not_mem_nil,or_false]at e
  rcases e with e|e<;>subst e<;>exact zc7 _
 ·split at e
  ·cases e
  ·simp only[List.mem_singleton]at e;subst e;exact zc7 _
def zkM{R:List (En×List UInt8)}(hf:h.field≤2)(hs:h.sym≤2)(ha:¬(h.arr=true∧h.field=2))(hm:m≤200)(hn:n≤200)(hc:R.length≤10000)(hc2:h.sym=0∨2*R.length≤10000)(hmn:h.sym=0∨m=n)
 (hR:∀p∈R,okP h m n p) (hP:(R.map (·.1)).Pairwise apE) (harr:h.arr=true→R.map (fun p=>(p.1.1,p.1.2.1))=zbd h.sym m n) (hst:h.arr=true→R.length=zV h.sym m n):zF (za2 h m n R)= .ok (h,m,n,R.map (·.1)):=by
 obtain⟨h1,h2,h3⟩:=zqv hf hs ha
 have hW:∀w∈zaa h m n R.length::R.map (zy h),w≠[]∧∀y∈w,zaT y:=by
  intro w hw
  rcases List.mem_cons.1 hw with e|e
  ·subst e;exact zqt _ _ _ _
  ·obtain⟨p,hp,rfl⟩:=List.mem_map.1 e;exact zor ha (hR p hp)
 have el:(zq (zaX h)::zq (zaa h m n R.length)::R.map fun p=>zq (zy h p))=zq (zaX h)::(zaa h m n R.length::R.map (zy h)).map zq:=by
  rw[List.map_cons,List.map_map];rfl
 have hl:zak (za2 h m n R)=zq (zaX h)::(zaa h m n R.length::R.map (zy h)).map zq:=by
  unfold za2;rw[el];refine zgb _ (fun s hs=>?_)
  rcases List.mem_cons.1 hs with e|e
  ·subst e;exact⟨h2,h3⟩
  ·obtain⟨w,hw,rfl⟩:=List.mem_map.1 e;exact zlL (hW w hw).2
 unfold zF;rw[hl];simp only[h1];rw[zhY _ _ hW];simp only[zhS];rw[zne hm hn hc hc2 hmn hst];simp only
 rw[ziF ha R 2 [] hR (fun e k p hp=>by
  have h4:=congrArg (fun l=>l.getD k (0,0)) (harr e);rw[List.length_nil,Nat.zero_add,←h4,List.getD_eq_getElem?_getD,List.getElem?_map,hp]
  rfl) hP]
 rfl
end
end Go.Proofs.YtaijhllckmndhaaGreatDoor
