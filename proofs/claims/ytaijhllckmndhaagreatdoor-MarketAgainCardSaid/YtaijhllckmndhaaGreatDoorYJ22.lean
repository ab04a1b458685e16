import Derived.Test.YtaijhllckmndhaaGreatDoorYJ0
import Derived.Test.YtaijhllckmndhaaGreatDoorYJ15
import Derived.Test.YtaijhllckmndhaaGreatDoorYJ14
import Derived.Test.YtaijhllckmndhaaGreatDoorYJ6
import Derived.Test.YtaijhllckmndhaaGreatDoorYJ21
namespace Go.Proofs.YtaijhllckmndhaaGreatDoor
set_option linter.all false
set_option maxHeartbeats 64000000
set_option maxRecDepth 100000
section
variable {w w':World} {v u:Value} {z x y:Int} {n m:Nat} {l:List Nat}
open Go.RowKit
def Av(w:World)(v:Value)(z:Int)(n:Nat):Prop:=∃neg l p c,v= .agg #[.bool neg, .slice p l.length c]∧LR w p c l∧zv neg l=z∧l.length≤n
def dl(z:Int):Nat:=(zd z.natAbs).length
def Bv(w:World)(v:Value)(z:Int)(n:Nat):Prop:=BigV w v z∧dl z≤n
def Av.fr(h:Av w v z n)(k:Fr [] w w'):Av w' v z n:=by
 obtain⟨neg,l,p,c,rfl,h1,h2,h3⟩:=h;exact⟨neg,l,p,c,rfl,h1.fr k,h2,h3⟩
def Bv.fr(h:Bv w v z n)(k:Fr [] w w'):Bv w' v z n:=⟨h.1.fr k,h.2⟩
def Bv.ar(h:Bv w v z n):Av w v z n:=by
 obtain⟨⟨p,c,rfl,hl⟩,hn⟩:=h;exact⟨_,_,p,c,rfl,hl,zrm z,hn⟩
def Kp(w w':World):Prop:=∀p c l,LR w p c l→LR w' p c l
def Kp.refl(w:World):Kp w w:=fun _ _ _ h=>h
def Kp.trans{a b c:World}(h:Kp a b)(k:Kp b c):Kp a c:=fun p q l x=>k p q l (h p q l x)
def Fr.kp(h:Fr [] w w'):Kp w w':=fun _ _ _ k=>k.fr h
def xK{P:Program}{T:List Nat}{w0 w:World}{l:List Ent}(H:Hp T w0 w l){f:FuncId}{args:Array Value}{v:Value}{R':Ending→World→Prop}(hc:Calls P f args w fun e w'=>e= .returned v∧Fr [] w w')(h:∀w',Kp w w'→Hp T w0 w' l→R' (.returned v) w'):Calls P f args w R':=
 Calls.mono hc fun e w' hr=>by obtain⟨rfl,hF⟩:=hr;exact h w' hF.kp (H.step hF yg)
def xG{P:Program}{ops:Array Oper}{Q:Exit→Act→World→Prop}{w w0:World}{rest:List Oper}{o:Oper}{T:List Nat}{l:List Ent}{L:List Value}{ds:List Deferred}{zs:List Value}{t:TypeId}{v:Nat→Value}{L':Nat→List Value}
 (h:∀g w',w0.heap.size≤g∧w.heap.size≤g→Kp w w'→Hp T w0 w' (.blk g zs t::l)→wpList P ops Q rest ⟨(L' g).toArray,ds⟩ w')
 (hw:Region.wanted o (yielded ops L.toArray)=true:=by rfl)
 (he:Hp T w0 w l→∀K:Act→World→Prop,(∀g w',w0.heap.size≤g∧w.heap.size≤g→Fr [] w w'→Hp T w0 w' (.blk g zs t::l)→K (Act.put ⟨L.toArray,ds⟩ o.dst (v g)) w')→o.wp P ⟨L.toArray,ds⟩ w K Q:=by
  intro H K hK
  first|exact zqQ H rfl hK|exact zms H rfl rfl rfl (h:=hK)|exact zhP H rfl rfl hK|exact zhH H rfl rfl rfl hK|exact zme H rfl rfl rfl (h:=hK)|exact zmf H rfl rfl (h:=hK))
 (hs:∀g,zad L o.dst (v g)=L' g:=by intro g;((try simp only[nrm,zP,zQ,↓reduceIte,Nat.reduceAdd]);(try exact rfl))) (H:Hp T w0 w l):wpList P ops Q (o::rest) ⟨L.toArray,ds⟩ w:=
 x_g (fun g w' h1 h2 h3=>h g w' h1 h2.kp h3) hw he hs H
def lr{p:Option Addr}{c:Nat}(h:Hid (LR w p c l))(k:Kp w w':=by repeat first|assumption|exact Kp.refl _|refine Kp.trans ?_ yo):LR w' p c l:=k _ _ _ h.out
def av(h:Hid (Av w v z n))(k:Kp w w':=by repeat first|assumption|exact Kp.refl _|refine Kp.trans ?_ yo):Av w' v z n:=by
 obtain⟨neg,l,p,c,rfl,h1,h2,h3⟩:=h.out;exact⟨neg,l,p,c,rfl,k _ _ _ h1,h2,h3⟩
def bv(h:Hid (Bv w v z n))(k:Kp w w':=by repeat first|assumption|exact Kp.refl _|refine Kp.trans ?_ yo):Bv w' v z n:=by
 obtain⟨⟨p,c,rfl,hl⟩,hn⟩:=h.out;exact⟨⟨p,c,rfl,k _ _ _ hl⟩,hn⟩
def Av.dl(h:Av w v z n):dl z≤n:=by
 obtain⟨neg,l,p,c,rfl,h1,rfl,h3⟩:=h;unfold Go.Proofs.YtaijhllckmndhaaGreatDoor.dl;rw[zdG];exact Nat.le_trans (zI h1.lim) h3
def Big.bv{e:Ending}(h:Big e w w' z)(hn:dl z≤n):∃v,e= .returned v∧Fr [] w w'∧Bv w' v z n:=by
 obtain⟨v,h1,h2,h3⟩:=Big.iff.1 h;exact⟨v,h1,h2,h3,hn⟩
def zrW{x:Nat}(h:z.natAbs≤x):dl z≤(zd x).length:=za6 h
def ziW:z.natAbs<4294967296^dl z:=zbu _
def ziV(h:z.natAbs<4294967296^n):dl z≤n:=zap h
def zot(hx:dl x≤n)(hy:dl y≤m):dl (x+y)≤n+m+1:=by
 have h:=zrp (zaO x.natAbs) (zaO y.natAbs) (x:=(x+y).natAbs) (by rw[zg,zg];omega);unfold dl at*
 omega
def zoa(x:Int):dl (-x)=dl x:=by unfold dl;rw[Int.natAbs_neg]
def ztQ(hx:dl x≤n)(hy:dl y≤m):dl (x-y)≤n+m+1:=by
 rw[Int.sub_eq_add_neg];exact zot hx (by rw[zoa];exact hy)
def zus(hx:dl x≤n)(hy:dl y≤m):dl (x*y)≤n+m:=by
 apply ziV
 rw[Int.natAbs_mul,Nat.pow_add];have h1:x.natAbs<4294967296^n:=Nat.lt_of_lt_of_le ziW (Nat.pow_le_pow_right yf hx);have h2:y.natAbs<4294967296^m:=Nat.lt_of_lt_of_le ziW (Nat.pow_le_pow_right yf hy);exact Nat.mul_lt_mul'' h1 h2
def ztX(x:Int):dl (x.natAbs:Int)=dl x:=by unfold dl;rw[Int.natAbs_natCast]
def zok(hx:dl x≤n):dl (x/y)≤n:=Nat.le_trans (zrW (Int.natAbs_ediv_le_natAbs x y)) hx
def ztT(hy:dl y≤n)(h0:y≠0):dl (x%y)≤n:=by
 refine Nat.le_trans (zrW (x:=y.natAbs) ?_) hy;have h1:=Int.emod_nonneg x h0;have h2:=Int.emod_lt x h0
 omega
def zb9(h:Av w u x n)(k:Av w v y m)(hn:n≤200000)(hm:m≤200000):
 Calls Tryz.prog 258 #[u,v] w fun e w'=>∃v',e= .returned v'∧Fr [] w w'∧Bv w' v' (x+y) (n+m+1):=by
 have hdx:=h.dl;have hdy:=k.dl;obtain⟨na,la,p,c,rfl,h1,rfl,h3⟩:=h;obtain⟨nb,lb,q,d,rfl,k1,rfl,k3⟩:=k;exact Calls.mono (zls na nb la lb rfl rfl yb yb h1 k1) (fun e w' hb=>hb.bv (zot hdx hdy))
def zjJ(h:Av w u x n)(k:Av w v y m)(hn:n≤200000)(hm:m≤200000):
 Calls Tryz.prog 312 #[u,v] w fun e w'=>∃v',e= .returned v'∧Fr [] w w'∧Bv w' v' (x-y) (n+m+1):=by
 have hdx:=h.dl;have hdy:=k.dl;obtain⟨na,la,p,c,rfl,h1,rfl,h3⟩:=h;obtain⟨nb,lb,q,d,rfl,k1,rfl,k3⟩:=k;exact Calls.mono (zs4 na nb la lb rfl rfl yb yb h1 k1) (fun e w' hb=>hb.bv (ztQ hdx hdy))
def zdB(h:Av w u x n)(k:Av w v y m)(hn:n≤200000)(hm:m≤200000):
 Calls Tryz.prog 186 #[u,v] w fun e w'=>∃v',e= .returned v'∧Fr [] w w'∧Bv w' v' (x*y) (n+m):=by
 have hdx:=h.dl;have hdy:=k.dl;obtain⟨na,la,p,c,rfl,h1,rfl,h3⟩:=h;obtain⟨nb,lb,q,d,rfl,k1,rfl,k3⟩:=k;exact Calls.mono (zsf na nb la lb rfl rfl yb yb h1 k1) (fun e w' hb=>hb.bv (zus hdx hdy))
def zhI(h:Av w u x n)(hn:n≤200000):
 Calls Tryz.prog 210 #[u] w fun e w'=>∃v',e= .returned v'∧Fr [] w w'∧Bv w' v' (x) n:=by
 have hdx:=h.dl;obtain⟨na,la,p,c,rfl,h1,rfl,h3⟩:=h;refine Calls.mono (zqw na la rfl yb h1) (fun e w' hb=>?_);have e1:zv na la=zv na la:=rfl;rw[e1]at hb;exact hb.bv (hdx)
def za7(h:Av w u x n)(hn:n≤200000):
 Calls Tryz.prog 140 #[u] w fun e w'=>∃v',e= .returned v'∧Fr [] w w'∧Bv w' v' (-x) n:=by
 have hdx:=h.dl;obtain⟨na,la,p,c,rfl,h1,rfl,h3⟩:=h;refine Calls.mono (zsG na la rfl yb h1) (fun e w' hb=>?_);have e1:zv (!na) la= -(zv na la):=zoh na la;rw[e1]at hb;exact hb.bv ((by rw[zoa];exact hdx))
def zfd(h:Av w u x n)(hn:n≤200000):
 Calls Tryz.prog 245 #[u] w fun e w'=>∃v',e= .returned v'∧Fr [] w w'∧Bv w' v' ((x.natAbs:Int)) n:=by
 have hdx:=h.dl;obtain⟨na,la,p,c,rfl,h1,rfl,h3⟩:=h;refine Calls.mono (zse na la rfl yb h1) (fun e w' hb=>?_);have e1:zv false la=((zv na la).natAbs:Int):=(by rw[zdG];rfl);rw[e1]at hb;exact hb.bv ((by rw[ztX];exact hdx))
def zpa{n:Bool}(h:zv n l≠0):val l≠0:=fun e=>h (by unfold zv;rw[e];cases n<;>rfl)
def zh7(h:Av w u x n)(k:Av w v y m)(hn:n≤200000)(hm:m≤200000)(h0:y≠0):
 Calls Tryz.prog 278 #[u,v] w fun e w'=>∃v1 v2,e= .returned (.tuple #[v1,v2, .int .i64 0])∧Fr [] w w'∧Bv w' v1 (x/y) n∧Bv w' v2 (x%y) m:=by
 have hdx:=h.dl;have hdy:=k.dl;obtain⟨na,la,p,c,rfl,h1,rfl,h3⟩:=h;obtain⟨nb,lb,q,d,rfl,k1,rfl,k3⟩:=k;refine Calls.mono (zng na nb la lb rfl rfl yb yb h1 k1 (zpa h0)) ?_;rintro e w' ⟨v1,v2,rfl,hF,b1,b2⟩;exact⟨v1,v2,rfl,hF,⟨b1,zok hdx⟩,⟨b2,ztT hdy h0⟩⟩
def zhL(h:Av w u x n)(hn:n≤200000):
 Calls Tryz.prog 211 #[u] w fun e w'=>e= .returned (.int .i64 (Int.sign x))∧Fr [] w w':=by
 obtain⟨na,la,p,c,rfl,h1,rfl,h3⟩:=h;exact zgi na la rfl yb h1
def zhg(h:Av w u x n)(k:Av w v y m)(hn:n≤200000)(hm:m≤200000):
 Calls Tryz.prog 277 #[u,v] w fun e w'=>e= .returned (.int .i64 (zC x y))∧Fr [] w w':=by
 obtain⟨na,la,p,c,rfl,h1,rfl,h3⟩:=h;obtain⟨nb,lb,q,d,rfl,k1,rfl,k3⟩:=k;exact zsE na nb la lb rfl rfl yb yb h1 k1
def zO(w:World)(z:Int)(hz:inr .i64 z):
 Calls Tryz.prog 138 #[.int .i64 z] w fun e w'=>∃v',e= .returned v'∧Fr [] w w'∧Bv w' v' z 2:=by
 refine Calls.mono (zkU w z hz) (fun e w' hb=>hb.bv (ziV ?_));have h1: -9223372036854775808≤z∧z≤9223372036854775807:=hz;have h3:(4294967296:Nat)^2=18446744073709551616:=by decide
 omega
def zo9(h:Av w u x n)(hn:n≤200000)(hx: -9223372036854775808≤x∧x≤9223372036854775807):
 Calls Tryz.prog 244 #[u] w fun e w'=>e= .returned (.tuple #[.int .i64 x, .bool true])∧Fr [] w w':=by
 obtain⟨na,la,p,c,rfl,h1,rfl,h3⟩:=h;have hi:=zsO na la rfl yb h1 (.inr hx);rw[zgs,if_pos hx]at hi;exact hi
end
section
variable {w:World} {v:Value} {z:Int} {n:Nat}
open Go.RowKit
def Bv.form(h:Bv w v z n):∃b p m c,v= .agg #[.bool b, .slice p m c]:=by
 obtain⟨⟨p,c,rfl,_⟩,_⟩:=h;exact⟨_,_,_,_,rfl⟩
def Av.form(h:Av w v z n):∃b p m c,v= .agg #[.bool b, .slice p m c]:=by
 obtain⟨_,_,p,c,rfl,_⟩:=h;exact⟨_,_,_,_,rfl⟩
end
section
open Go.RowKit
inductive Rm (e:Ent):List Ent→List Ent→Prop where
 | here (l:List Ent):Rm e (e::l) l
 | there {x:Ent} {l l2:List Ent} (h:Rm e l l2):Rm e (x::l) (x::l2)
def Rm.perm{e:Ent}{l l2:List Ent}(h:Rm e l l2):List.Perm l (e::l2):=by
 induction h with
 | here l=>exact List.Perm.refl _
 | there h ih=>exact(List.Perm.cons _ ih).trans (List.Perm.swap _ _ _)
inductive Pm:List Ent→List Ent→Prop where
 | nil (l:List Ent):Pm l []
 | cons {e:Ent} {l l2 r:List Ent} (h:Rm e l l2) (k:Pm l2 r):Pm l (e::r)
def Pm.sub{l r:List Ent}(h:Pm l r):∃m,List.Perm l m∧List.Sublist r m:=by
 induction h with
 | nil l=>exact⟨l,List.Perm.refl _,List.nil_sublist _⟩
 | cons h k ih=>
  obtain⟨m,h1,h2⟩:=ih;exact⟨_,h.perm.trans (List.Perm.cons _ h1),h2.cons_cons _⟩
def Hp.arr{T:List Nat}{w0 w:World}{l r:List Ent}(H:Hp T w0 w l)(h:Pm l r):Hp T w0 w r:=by
 obtain⟨m,h1,h2⟩:=h.sub;exact(H.perm h1).sub h2
section
variable {P:Program} {w w0:World} {a:Act} {o:Oper} {T:List Nat} {l:List Ent} {K:Act→World→Prop} {Q:Exit→Act→World→Prop}
def zuA{x y:Operand}{t t':TypeId}(ho:o.op= .call {callee:= .builtin .max,args:=#[x,y],argTypes:=#[t,t']}){k:IntKind}{m n z:Int}(hx:a.eval x= .int k m)(hy:a.eval y= .int k n)(hz:max m n=z:=by first|rfl|assumption|omega):(execOp a.eval o).run P w= .ok (.value (.int k z)) w:=by
 have e:(if n>m then n else m)=z:=by rw[←hz];split<;>omega
 unfold execOp
 simp[ho,hx,hy,resolve,invoke,builtin,Builtin.max_,Builtin.max2,e]
def zvC{x y:Operand}{t t':TypeId}(ho:o.op= .call {callee:= .builtin .min,args:=#[x,y],argTypes:=#[t,t']}){k:IntKind}{m n z:Int}(hx:a.eval x= .int k m)(hy:a.eval y= .int k n)(hz:min m n=z:=by first|rfl|assumption|omega):(execOp a.eval o).run P w= .ok (.value (.int k z)) w:=by
 have e:(if n<m then n else m)=z:=by rw[←hz];split<;>omega
 unfold execOp
 simp[ho,hx,hy,resolve,invoke,builtin,Builtin.min_,Builtin.min2,e]
def zpV(H:Hp T w0 w l){t:TypeId}{x:Operand}(ho:o.op= .load t x){b p:Nat}(hx:a.eval x= .pointer (some ⟨b,p,none⟩)){n:Nat}[s:Ro P t n]{cs:List Value}{t':TypeId}{f:Nat→List Value→List Ent}[i:In b cs t' l f]{vs:List Value}(hv:(cs.drop p).take n=vs:=by((try simp only[List.drop_succ_cons,List.drop_zero,List.take_succ_cons,List.take_zero]);exact rfl))(hn:vs.length=n:=by rfl):(execOp a.eval o).run P w= .ok (.value (.agg vs.toArray)) w:=
 zah H ho hx (vs:=vs) (hv:=⟨(cs.drop p).drop n,by rw[←hv];exact List.take_append_drop _ _⟩) hn
def zj7{cs vs:List Value}(h:cs.length=vs.length):zL cs 0 vs=vs:=by
 unfold zL;rw[Nat.zero_add,List.drop_of_length_le yb];simp
def ziU(H:Hp T w0 w l){t:TypeId}{x y:Operand}(ho:o.op= .store t x y){b:Nat}{vs:List Value}(hx:a.eval x= .pointer (some ⟨b,0,none⟩))(hy:a.eval y= .agg vs.toArray){n:Nat}[hs:Ro P t n]{cs:List Value}{t':TypeId}{f:Nat→List Value→List Ent}[hm:In b cs t' l f](hn:vs.length=n:=by rfl)(hc:cs.length=n:=by rfl)
 (h1:∀v∈vs,v.oneCell'=true:=by intro z hz;simp only[List.mem_cons,List.not_mem_nil,or_false]at hz;rcases hz with rfl|rfl|rfl|rfl|rfl|rfl<;>rfl) (h3:∀u∈cs,∀x,u≠ .int .u32 x:=by intro z hz x;simp only[List.mem_cons,List.not_mem_nil,or_false]at hz;rcases hz with rfl|rfl|rfl|rfl|rfl|rfl<;>(intro h;cases h))
 (h:∀w',Fr [b] w w'→Hp T w0 w' (f b vs)→(∀p c l,LR w p c l→LR w' p c l)→K (a.put o.dst undef) w'):o.wp P a w K Q:=
 zdS H ho hx (vs:=vs) hy hn h1 yb (fun w' hf H1=>h w' hf (by rw[zj7 yb]at H1;exact H1) (fun p c l hL=>hL.keep (H.at b) h3 hf))
end
section
variable {P:Program} {ops:Array Oper} {Q:Exit→Act→World→Prop} {w w0:World} {rest lo:List Oper} {o:Oper} {T:List Nat} {l:List Ent} {L:List Value} {ds:List Deferred} {S:World→Prop} {fi i:Nat} {k:Plan}
def x_l(H:Hp T w0 w l){v:Value}{L':List Value}(h:wpList P ops Q rest ⟨L'.toArray,ds⟩ w)(hw:Region.wanted o (yielded ops L.toArray)=true:=by rfl)
 (he:Hp T w0 w l→(execOp (Act.mk L.toArray ds).eval o).run P w= .ok (.value v) w:=by intro H;refine zjm rfl ?_;exact zpV H rfl rfl)
 (hs:zad L o.dst v=L':=by((try simp only[nrm,zP,zQ,↓reduceIte,Nat.reduceAdd]);(try exact rfl))):wpList P ops Q (o::rest) ⟨L.toArray,ds⟩ w:=x_e (he H) h hw hs
def zau{b:Nat}{l':List Ent}{L':List Value}
 (h:∀w',Fr [b] w w'→Hp T w0 w' l'→(∀p c l,LR w p c l→LR w' p c l)→wpList P ops Q rest ⟨L'.toArray,ds⟩ w')
 (hw:Region.wanted o (yielded ops L.toArray)=true:=by rfl)
 (he:Hp T w0 w l→∀K:Act→World→Prop,(∀w',Fr [b] w w'→Hp T w0 w' l'→(∀p c l,LR w p c l→LR w' p c l)→K (Act.put ⟨L.toArray,ds⟩ o.dst undef) w')→o.wp P ⟨L.toArray,ds⟩ w K Q:=by intro H K hK;exact ziU H rfl rfl rfl (h:=hK))
 (hs:zad L o.dst undef=L':=by((try simp only[nrm,zP,zQ,↓reduceIte,Nat.reduceAdd]);(try exact rfl))) (H:Hp T w0 w l):wpList P ops Q (o::rest) ⟨L.toArray,ds⟩ w:=
 zaB hw fun K hK=>he H K fun w' h2 h3 h4=>hK _ _ yO
def xF{b:Nat}{l':List Ent}{L':List Value}
 (h:∀w',Hp T w0 w' l'→Kp w w'→wpList P ops Q rest ⟨L'.toArray,ds⟩ w')
 (hw:Region.wanted o (yielded ops L.toArray)=true:=by rfl)
 (he:Hp T w0 w l→∀K:Act→World→Prop,(∀w',Fr [b] w w'→Hp T w0 w' l'→(∀p c l,LR w p c l→LR w' p c l)→K (Act.put ⟨L.toArray,ds⟩ o.dst undef) w')→o.wp P ⟨L.toArray,ds⟩ w K Q:=by intro H K hK;exact ziU H rfl rfl rfl (h:=hK))
 (hs:zad L o.dst undef=L':=by((try simp only[nrm,zP,zQ,↓reduceIte,Nat.reduceAdd]);(try exact rfl))) (H:Hp T w0 w l):wpList P ops Q (o::rest) ⟨L.toArray,ds⟩ w:=
 zau (fun w' _ h2 h3=>h w' h2 h3) hw he hs H
def zZ{b:Nat}{l':List Ent}{L':List Value}
 (h:∀w',Fr [b] w w'→Hp T w0 w' l'→(∀p c l,LR w p c l→LR w' p c l)→k.wp P lo.toArray Q S fi ⟨L'.toArray,ds⟩ w') (hi:lo[i]? =some o:=by rfl)
 (hw:Region.wanted o (yielded lo.toArray L.toArray)=true:=by rfl)
 (he:Hp T w0 w l→∀K:Act→World→Prop,(∀w',Fr [b] w w'→Hp T w0 w' l'→(∀p c l,LR w p c l→LR w' p c l)→K (Act.put ⟨L.toArray,ds⟩ o.dst undef) w')→o.wp P ⟨L.toArray,ds⟩ w K Q:=by intro H K hK;exact ziU H rfl rfl rfl (h:=hK))
 (hs:zad L o.dst undef=L':=by((try simp only[nrm,zP,zQ,↓reduceIte,Nat.reduceAdd]);(try exact rfl)))
 (hS:i≠fi→∀w',Hp T w0 w' l'→S w':=by intro hne w' H1;first|exact absurd rfl hne|exact trivial|exact H1.sub yd)
 (H:Hp T w0 w l):Plan.wp P lo.toArray Q S fi (.ld i k) ⟨L.toArray,ds⟩ w:=
 zag hi hw fun K hK=>he H K fun w' h2 h3 h4=>hK _ _ (fun hne=>hS hne w' h3) yO
def zmV{b:Nat}{l':List Ent}{L':List Value}
 (h:∀w',Fr [b] w w'→Hp T w0 w' l'→(∀p c l,LR w p c l→LR w' p c l)→k.wp P lo.toArray Q (fun _=>True) lo.toArray.size ⟨L'.toArray,ds⟩ w') (hi:lo[i]? =some o:=by rfl)
 (hw:Region.wanted o (yielded lo.toArray L.toArray)=true:=by rfl)
 (he:Hp T w0 w l→∀K:Act→World→Prop,(∀w',Fr [b] w w'→Hp T w0 w' l'→(∀p c l,LR w p c l→LR w' p c l)→K (Act.put ⟨L.toArray,ds⟩ o.dst undef) w')→o.wp P ⟨L.toArray,ds⟩ w K Q:=by intro H K hK;exact ziU H rfl rfl rfl (h:=hK))
 (hs:zad L o.dst undef=L':=by((try simp only[nrm,zP,zQ,↓reduceIte,Nat.reduceAdd]);(try exact rfl)))
 (H:Hp T w0 w l):Plan.wp P lo.toArray Q S fi (.ldf i k) ⟨L.toArray,ds⟩ w:=
 zkt hi hw fun K hK=>he H K fun w' h2 h3 h4=>hK _ _ yO
def p_l{v:Value}{L':List Value}(h:k.wp P lo.toArray Q S fi ⟨L'.toArray,ds⟩ w)(hi:lo[i]? =some o:=by rfl)(hw:Region.wanted o (yielded lo.toArray L.toArray)=true:=by rfl)
 (he:∀w,S w→(execOp (Act.mk L.toArray ds).eval o).run P w= .ok (.value v) w:=by intro w H;refine zjm rfl ?_;exact zpV H rfl rfl)
 (hs:zad L o.dst v=L':=by((try simp only[nrm,zP,zQ,↓reduceIte,Nat.reduceAdd]);(try exact rfl))):Plan.wp P lo.toArray Q S fi (.st i k) ⟨L.toArray,ds⟩ w:=
 p_e hi he h hw hs
def zco(H:Hp T w0 w l){fn:Func}{R:Ending→World→Prop}{k u u2:Nat}{ty:TypeId}(hr:fn.results=#[.cell k ty, .tmp u, .tmp u2]){g:Nat}(hp:L[k]? =some (.pointer (some ⟨g,0,none⟩))){cs:List Value}{t':TypeId}{f:Nat→List Value→List Ent}[i:In g cs t' l f]{n:Nat}[hs:Ro P ty n](hn:cs.length=n){v v2:Value}(hv:L[u]? =some v)(hv2:L[u2]? =some v2)
 (hR:R (.returned (.tuple #[.agg cs.toArray,v,v2])) w):bodyPost P fn R .ret ⟨L.toArray,[]⟩ w:=by
 refine bodyPost_ret (v:= .tuple #[.agg cs.toArray,v,v2]) ?_ rfl hR;simp only[results,hr]
 simp[Sem.run_bind,Result.andThen,hp,hv,hv2,asAddr,zcS H i.mem hs.h hn]
end
def zaz{P:Program}{a:Act}{w:World}{o:Oper}{t:TypeId}{x:Operand}(ho:o.op= .load t x){ad:Addr}{v:Value}(hx:a.eval x= .pointer (some ad))[s:Sc P t](hc:w.cell? ad=some v):(execOp a.eval o).run P w= .ok (.value v) w:=zcP ho hx s.h hc
end
section
variable {b N D n d:Nat} {ds:List UInt8} {x:Int}
def nF(b:Nat):Nat:=zA b*2^(zh b).toNat
def dF(b:Nat):Nat:=2^(-zh b).toNat
def zjn(h:0<b):0<nF b:=Nat.mul_pos (zcm h) (zu _)
def zgS(b:Nat):0<dF b:=zu _
def zhc(hn:0<n)(hN:0<N)(hd:0<d)(hD:0<D)(h:N*d=n*D)(k:Int):z1 N D k↔z1 n d k:=by
 rw[←ziz hd k,Nat.mul_comm d N,h,Nat.mul_comm d D,Nat.mul_comm n D,ziz hD]
def zoH(hd:0<d)(hD:0<D)(h:N*d=n*D)(x:Int):zbF N D x=zbF n d x:=by
 rw[←zkv hd x,Nat.mul_comm d N,h,Nat.mul_comm d D,Nat.mul_comm n D,zkv hD]
def zhk(hb:b<9218868437227405312):zA b<9007199254740992∧ -1074≤zh b∧zh b≤971:=by
 unfold zA zh
 split
 ·omega
 ·have:b/4503599627370496≤2046:=by omega
  omega
def zuP{K:Nat}(h:(-zh b).toNat≤K):dF b≤2^K:=Nat.pow_le_pow_right yf h
def zqI:∀K:Nat,K=1074→2^K≤10^(330:Nat):=by intro K h;subst h;decide+kernel
def zs8:∀K:Nat,K=971→2^53*2^K≤10^(310:Nat):=by intro K h;subst h;decide+kernel
def zdD{k:Int}(h0:0<b)(hb:b<9218868437227405312)(h1:z1 (nF b) (dF b) k)(h2:¬z1 (nF b) (dF b) (k+1)): -331≤k∧k≤309:=by
 obtain⟨a1,a2,a3⟩:=zhk hb;have hm:=zcm h0;have hd:=zgS b
 constructor
 ·apply Classical.byContradiction
  intro hc
  apply h2
  refine zcE (k:= -330) ?_ yb;rw[zbf];obtain⟨K,hK⟩:∃K:Nat,K=1074:=⟨_,rfl⟩;have e1:dF b≤2^K:=zuP yb;have e2:=zqI K hK;have e3:(-(-330:Int)).toNat=330:=rfl;have e4:(-330:Int).toNat=0:=rfl;rw[e3,e4,Nat.pow_zero,Nat.mul_one];exact Nat.le_trans (Nat.le_trans e1 e2) (Nat.le_mul_of_pos_left _ (zjn h0))
 ·apply Classical.byContradiction
  intro hc;have h3:=zcE h1 (show(310:Int)≤k by omega);rw[zbf]at h3;have e3:(-(310:Int)).toNat=0:=rfl;have e4:(310:Int).toNat=310:=rfl;rw[e3,e4,Nat.pow_zero,Nat.mul_one]at h3;obtain⟨K,hK⟩:∃K:Nat,K=971:=⟨_,rfl⟩
  have e1:nF b<2^53*2^K:=by
   unfold nF
   have:2^(zh b).toNat≤2^K:=Nat.pow_le_pow_right yf yb
   exact Nat.lt_of_lt_of_le (Nat.mul_lt_mul_of_pos_right (show zA b<2^53 by omega) (zu _)) (Nat.mul_le_mul_left _ this)
  have e2:=zs8 K hK;have e5:10^(310:Nat)≤dF b*10^(310:Nat):=Nat.le_mul_of_pos_left _ hd;exact absurd (Nat.lt_of_lt_of_le e1 (Nat.le_trans e2 (Nat.le_trans e5 h3))) (Nat.lt_irrefl _)
def zr3(neg:Bool)(mode:Int)(x:Int)(hN:0<N):dvF neg mode (N*10) x=dvF neg mode N (x+1):=by
 unfold dvF
 by_cases h:0≤x
 ·have e1:(x+1).toNat=x.toNat+1:=by omega
  have e2:(-x).toNat=0:=by omega
  have e3:(-(x+1)).toNat=0:=by omega
  rw[e1,e2,e3,Nat.pow_succ,Nat.mul_assoc,Nat.mul_comm 10]
 ·have e1:(x+1).toNat=0:=by omega
  have e2:x.toNat=0:=by omega
  have e3:(-x).toNat=(-(x+1)).toNat+1:=by omega
  rw[e1,e2,e3,Nat.pow_succ,Nat.pow_zero,Nat.mul_one,Nat.mul_one,Nat.mul_comm N,Nat.mul_comm _ 10];exact zrx neg mode 0 hN (zD _) yf
def Dgs(b n:Nat)(ds:List UInt8)(x:Int):Prop:=∃k:Int,z1 (nF b) (dF b) k∧¬z1 (nF b) (dF b) (k+1)∧ds=(dec (zbF (nF b) (dF b) (n-1-k))).take n∧x=if n<(dec (zbF (nF b) (dF b) (n-1-k))).length then k+1 else k
def Dgs.one{es:List UInt8}{y:Int}(h:Dgs b n ds x)(g:Dgs b n es y):ds=es∧x=y:=by
 obtain⟨k,h1,h2,h3,h4⟩:=h;obtain⟨j,g1,g2,g3,g4⟩:=g;obtain rfl:=zsz h1 h2 g1 g2;exact⟨h3.trans g3.symm,h4.trans g4.symm⟩
def zeC{q:Nat}(hn:1≤n)(h1:10^(n-1)≤q)(h2:q<10^n):(dec q).length=n:=by
 have h0:0<q:=Nat.lt_of_lt_of_le (zD _) h1;obtain⟨a1,a2,a3⟩:=zhC h0;have b1:(dec q).length-1<n:=(Nat.pow_lt_pow_iff_right yf).1 (Nat.lt_of_le_of_lt a1 h2);have b2:n-1<(dec q).length:=(Nat.pow_lt_pow_iff_right yf).1 (Nat.lt_of_le_of_lt h1 a2)
 omega
def Dgs.val(h:Dgs b n ds x)(h0:0<b)(hn:1≤n):
 ∃k,z1 (nF b) (dF b) k∧¬z1 (nF b) (dF b) (k+1)∧ds.length=n∧ds.all dig=true∧10^(n-1)≤num ds∧(x=k∨x=k+1)∧∀neg mode,dvF neg mode (num ds) (x-(n-1))=dvF neg mode (zbF (nF b) (dF b) (n-1-k)) (k-(n-1)):=by
 obtain⟨k,h1,h2,h3,h4⟩:=h;obtain⟨q1,q2⟩:=zfF (n:=n) (zgS b) hn h1 h2;refine⟨k,h1,h2,?_⟩;generalize zbF (nF b) (dF b) (n-1-k)=q at*
 rcases Nat.lt_or_ge q (10^n)with hq|hq
 ·have hl:=zeC hn q1 hq;rw[List.take_of_length_le yb]at h3;rw[if_neg yb]at h4;subst h3 h4;obtain⟨d1,d2,d3⟩:=zar q;exact⟨hl,d1,by rw[d2];exact q1, .inl rfl,fun neg mode=>by rw[d2]⟩
 ·obtain rfl:q=10^n:=by omega
  have hl:(dec (10^n)).length=n+1:=zeC yb yg (Nat.pow_lt_pow_right yf yb);have hs:10^n=10^(n-1)*10:=by rw[←Nat.pow_succ];congr 1;omega
  have hn1:(dec (10^(n-1))).length=n:=zeC hn (Nat.le_refl _) (Nat.pow_lt_pow_right yf yb)
  have e:(dec (10^n)).take n=dec (10^(n-1)):=by
   rw[hs,zek (by have:=zD (n-1);omega),Nat.mul_div_cancel _ yf];rw[List.take_append_of_le_length yb,List.take_of_length_le yb]
  rw[e]at h3;rw[if_pos yb]at h4;subst h3 h4;obtain⟨d1,d2,d3⟩:=zar (10^(n-1));refine⟨hn1,d1,by rw[d2];exact Nat.le_refl _, .inr rfl,fun neg mode=>?_⟩;rw[d2,hs,zr3 neg mode _ (zD _)]
  congr 1
  omega
def txt(n:Nat)(ds:List UInt8)(x:Int):List UInt8:=ds.take 1++((if 1<n then 46::ds.drop 1 else [])++101::fmt x)
def zno{a b t:List UInt8}{c:UInt8}(ha:a.all dig=true)(hb:b.all dig=true)(ha0:a≠[])(hc:isE c=true)(hx:zex t=some x):zcA (a++46::(b++c::t))=some (false,a++b,b.length,x):=by
 obtain⟨c1,c2⟩:=zll hc
 have h1:zaU false (46::(b++c::t))=(b,b.length,c::t):=by
  rw[zaU,if_neg yf,if_pos ⟨rfl,rfl⟩,zgv hb,zin t true c1 c2]
  simp
 have hd:dsg (a++46::(b++c::t))=(false,a++46::(b++c::t)):=by
  cases a with
  | nil=>exact absurd rfl ha0
  | cons y r=>
   simp only[List.all_cons,Bool.and_eq_true]at ha;exact zeZ ha.1 _
 unfold zcA;rw[hd];simp only[zgv ha,h1];rw[if_neg (by simp[ha0])]
 simp[hc,hx]
def zkn(h:Dgs b n ds x)(h0:0<b)(hb:b<9218868437227405312)(hn:1≤n)(hn2:n≤900)(mode:Int):
 dpz 1024 (txt n ds x) mode=(zck false mode (num ds) (x-(n-1)),0):=by
 obtain⟨k,h1,h2,hl,hd,hq,hx,_⟩:=h.val h0 hn;obtain⟨k1,k2⟩:=zdD h0 hb h1 h2;have hf:=zc6 (x:=x) yb;have hds:ds=ds.take 1++ds.drop 1:=(List.take_append_drop 1 ds).symm
 have ha:(ds.take 1).all dig=true:=by
  rw[hds,List.all_append,Bool.and_eq_true]at hd;exact hd.1
 have hb':(ds.drop 1).all dig=true:=by
  rw[hds,List.all_append,Bool.and_eq_true]at hd;exact hd.2
 have hne:ds.take 1≠[]:=by
  intro e
  have:=congrArg List.length e
  rw[List.length_take,List.length_nil]at this
  omega
 have hr:zcA (txt n ds x)=some (false,ds,n-1,x):=by
  unfold txt
  split
  ·next h1=>
   have:=zno (t:=fmt x) (c:=101) ha hb' hne yf (zkr x)
   simp only[List.cons_append];rw[this,←hds]
   simp[hl]
  ·next h1=>
   have e1:ds.take 1=ds:=List.take_of_length_le yb
   have:=zk6 (t:=fmt x) (c:=101) hd (by rw[←e1];exact hne) yf (zkr x)
   rw[e1,List.nil_append,this]
   simp;omega
 have hlt:(txt n ds x).length≤1024:=by
  have e1:(ds.take 1).length≤1:=by rw[List.length_take];omega
  have e2:(if 1<n then 46::ds.drop 1 else []).length≤n:=by
   split
   ·rw[List.length_cons,List.length_drop];omega
   ·exact Nat.zero_le _
  unfold txt;rw[List.length_append,List.length_append,List.length_cons]
  omega
 rw[zog mode hlt hr yb];have e:x-((n-1:Nat):Int)=x-(n-1):=by omega
 rw[e]
def zjX(h:Dgs b 17 ds x)(h0:0<b)(hb:b<9218868437227405312):dpz 1024 (txt 17 ds x) 0=(b,0):=by
 obtain⟨k,h1,h2,hl,hd,hq,hx,hv⟩:=h.val h0 yf;rw[zkn h h0 hb yf yf];have hn0:num ds≠0:=by have:=zD (17-1);omega
 have hb2:=ztz h0 hb (zjn h0) (zgS b) (by unfold nF dF;rw[Nat.mul_assoc,Nat.mul_comm (2^(zh b).toNat)]) h1 h2;unfold zck;rw[if_neg hn0];have hv:=hv false 0;rw[show((17:Nat):Int)-1-k=16-k by omega,show k-(((17:Nat):Int)-1)=k-16 by omega]at hv;rw[hv,hb2]
end
end Go.Proofs.YtaijhllckmndhaaGreatDoor
