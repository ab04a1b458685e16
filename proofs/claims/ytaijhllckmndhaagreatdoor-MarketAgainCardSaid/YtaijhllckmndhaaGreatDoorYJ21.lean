import Derived.Test.YtaijhllckmndhaaGreatDoorYJ0
import Derived.Test.YtaijhllckmndhaaGreatDoorYJ20
import Derived.Test.YtaijhllckmndhaaGreatDoorYJ7
import Derived.Test.YtaijhllckmndhaaGreatDoorYJ15
namespace Go.Proofs.YtaijhllckmndhaaGreatDoor
set_option linter.all false
set_option maxHeartbeats 64000000
set_option maxRecDepth 100000
section
variable {i j cols p t:Nat} {S A:List En} {x:En} {xs:List Nat}
def zN(S:List En)(j:Nat):Nat:=(S.filter fun x=>decide (x.2.1=j)).length
def zat(A:List En)(cols:Nat):List Nat:=0::(List.range cols).map (zN A)
def zal(S:List En)(cols j:Nat):List Nat:=(List.range (j+1)).map (pre S)++((List.range cols).drop j).map (zN S)
def zgl(S:List En):pre S 0=0:=by unfold pre;simp
def zbS(S:List En)(j:Nat):pre S (j+1)=zN S j+pre S j:=by
 unfold pre zN
 induction S with
 | nil=>rfl
 | cons x S ih=>
  rw[List.filter_cons,List.filter_cons,List.filter_cons]
  by_cases h1:x.2.1<j
  ·have h2:x.2.1<j+1:=by omega
   have h3:¬x.2.1=j:=by omega
   simp only[h1,h2,h3,decide_true,decide_false,if_true,Bool.false_eq_true,if_false,List.length_cons]
   omega
  ·by_cases h3:x.2.1=j
   ·have h2:x.2.1<j+1:=by omega
    simp only[h1,h2,h3,decide_true,decide_false,if_true,Bool.false_eq_true,if_false,List.length_cons];have h4:j<j+1:=by omega
    simp only[h4,Nat.lt_irrefl,decide_true,decide_false,if_true,Bool.false_eq_true,if_false,List.length_cons]
    omega
   ·have h2:¬x.2.1<j+1:=by omega
    simp only[h1,h2,h3,decide_true,decide_false,if_true,Bool.false_eq_true,if_false,List.length_cons];exact ih
def zhx(S:List En)(j:Nat):zN S j≤S.length:=List.length_filter_le _ _
def zd6(S:List En)(j:Nat):pre S j≤S.length:=List.length_filter_le _ _
def zeW(S:List En)(h:i≤j):pre S i≤pre S j:=by
 induction j with
 | zero=>rw[Nat.le_zero.1 h];exact Nat.le_refl _
 | succ j ih=>
  rcases Nat.eq_or_lt_of_le h with h|h
  ·subst h;exact Nat.le_refl _
  ·have:=ih yb ;rw[zbS];omega
def zlx{n:Nat}(h:∀x∈S,x.2.1<n):pre S n=S.length:=by
 unfold pre;rw[List.filter_eq_self.2 (fun x hx=>by simpa using h x hx)]
def zil(A:List En)(x:En)(j:Nat):zN (A++[x]) j=if x.2.1=j then zN A j+1 else zN A j:=by
 unfold zN;rw[List.filter_append,List.length_append]
 by_cases h:x.2.1=j<;>simp[h]
def zqU(A:List En)(cols:Nat):(zat A cols).length=cols+1:=by simp[zat]
def zqg(cols:Nat):zat [] cols=List.replicate (cols+1) 0:=by
 unfold zat;rw[List.replicate_succ]
 congr 1
 apply List.ext_getElem?
 intro i;rw[List.getElem?_map,List.getElem?_replicate]
 by_cases h:i<cols
 ·rw[List.getElem?_range h,if_pos h];rfl
 ·rw[if_neg h,List.getElem?_eq_none yn];rfl
def zsy(h:j<cols):(zat A cols)[j+1]? =some (zN A j):=by
 unfold zat;rw[List.getElem?_cons_succ,List.getElem?_map,List.getElem?_range h]
 rfl
def zpg(h:x.2.1<cols):(zat A cols).set (x.2.1+1) (zN A x.2.1+1)=zat (A++[x]) cols:=by
 unfold zat;rw[List.set_cons_succ]
 congr 1
 apply List.ext_getElem?
 intro i;rw[List.getElem?_set,List.getElem?_map,List.getElem?_map]
 by_cases h1:i<cols
 ·rw[List.getElem?_range h1]
  by_cases h2:x.2.1=i
  ·subst h2;rw[if_pos rfl,if_pos yM];simp only[Option.map_some];rw[zil,if_pos rfl]
  ·rw[if_neg h2];simp only[Option.map_some];rw[zil,if_neg h2]
 ·rw[List.getElem?_eq_none yn,if_neg yb];rfl
def zpG(S:List En)(cols:Nat):zal S cols 0=zat S cols:=by
 unfold zal zat
 simp[zgl,List.range_succ]
def zqp(h:j≤cols):(zal S cols j).length=cols+1:=by simp[zal];omega
def zsk:(zal S cols j)[j]? =some (pre S j):=by
 unfold zal;rw[List.getElem?_append_left yg,List.getElem?_map,List.getElem?_range yb]
 rfl
def zsm(h:j<cols):(zal S cols j)[j+1]? =some (zN S j):=by
 unfold zal;rw[List.getElem?_append_right yg,List.getElem?_map,List.getElem?_drop]
 simp[h]
def znN(h:j<cols):(zal S cols j).set (j+1) (zN S j+pre S j)=zal S cols (j+1):=by
 have e:(List.range cols).drop j=j::(List.range cols).drop (j+1):=by
  rw[List.drop_eq_getElem_cons yM]
  simp
 unfold zal;rw[e,List.map_cons,List.set_append_right _ _ yg,List.range_succ (n:=j+1),List.map_append,List.append_assoc]
 congr 1
 simp[zbS]
def zqV(S:List En)(cols:Nat):zal S cols cols=(List.range (cols+1)).map (pre S):=by
 unfold zal;rw[List.drop_of_length_le yg]
 simp
def zcG:∀ {S:List En},S.Pairwise ltE→∀j,S.filter (fun x=>decide (x.2.1<j))++S.filter (fun x=> !decide (x.2.1<j))=S
 | [],_,_=>rfl
 | x::S,h,j=>by
  obtain⟨h1,h2⟩:=List.pairwise_cons.1 h
  by_cases k:x.2.1<j
  ·rw[List.filter_cons_of_pos y6,List.filter_cons_of_neg y6,List.cons_append,zcG h2 j]
  ·have e:S.filter (fun x=>decide (x.2.1<j))=[]:=by
    rw[List.filter_eq_nil_iff];intro y hy
    have:=h1 y hy
    unfold ltE at this
    simp
    omega
   have e2:S.filter (fun x=> !decide (x.2.1<j))=S:=by
    have:=zcG h2 j
    rw[e,List.nil_append]at this;exact this
   rw[List.filter_cons_of_neg y6,List.filter_cons_of_pos y6,e,e2,List.nil_append]
def zrD(h:S.Pairwise ltE)(j:Nat):S.take (pre S j)=S.filter fun x=>decide (x.2.1<j):=by
 have e:S.take (pre S j)=(S.filter (fun x=>decide (x.2.1<j))++S.filter (fun x=> !decide (x.2.1<j))).take (pre S j):=by rw[zcG h j]
 rw[e];exact List.take_left' rfl
def zkk(h:S.Pairwise ltE)(j:Nat):S.drop (pre S j)=S.filter fun x=> !decide (x.2.1<j):=by
 have e:=zcG h j
 have:pre S j=(S.filter fun x=>decide (x.2.1<j)).length:=rfl
 rw[this]
 conv=>lhs;rw[←e]
 rw[List.drop_left' (by rw[e])]
def zpR(h:S.Pairwise ltE)(j:Nat):(S.drop (pre S j)).take (zN S j)=S.filter fun x=>decide (x.2.1=j):=by
 have h2:(S.drop (pre S j)).Pairwise ltE:=h.sublist (List.drop_sublist _ _);have e:=zcG h2 (j+1)
 have e2:(S.drop (pre S j)).filter (fun x=>decide (x.2.1<j+1))=S.filter fun x=>decide (x.2.1=j):=by
  rw[zkk h,List.filter_filter]
  apply List.filter_congr
  intro x _;rw[Bool.eq_iff_iff]
  simp
  omega
 rw[e2]at e
 have:zN S j=(S.filter fun x=>decide (x.2.1=j)).length:=rfl
 rw[this]
 conv=>lhs;rw[←e]
 exact List.take_left' rfl
def zcX(h:S.Pairwise ltE)(j:Nat):(((S.drop (pre S j)).take (zN S j)).map (·.1)).Pairwise (· <·):=by
 rw[zpR h,List.pairwise_map];refine(List.Pairwise.and_mem.1 (h.filter _)).imp ?_;rintro a b ⟨ha,hb,hab⟩;have h1:=(List.mem_filter.1 ha).2;have h2:=(List.mem_filter.1 hb).2;simp only[decide_eq_true_eq]at h1 h2;unfold ltE at hab
 omega
def zeO(h:S.Pairwise ltE)(hp:S[p]? =some x):∃k,p=pre S x.2.1+k∧k<zN S x.2.1∧((S.drop (pre S x.2.1)).take (zN S x.2.1))[k]? =some x:=by
 have hpl:=(List.getElem?_eq_some_iff.1 hp).1
 have h1:pre S x.2.1≤p:=by
  rcases Nat.lt_or_ge p (pre S x.2.1)with hlt|hge
  ·exfalso
   have e:(S.take (pre S x.2.1))[p]? =some x:=by rw[List.getElem?_take_of_lt hlt];exact hp
   rw[zrD h]at e
   have:=(List.mem_filter.1 (List.mem_of_getElem? e)).2
   simp at this
  ·exact hge
 have h2:p<pre S x.2.1+zN S x.2.1:=by
  rcases Nat.lt_or_ge p (pre S (x.2.1+1))with hlt|hge
  ·rw[zbS]at hlt;omega
  ·exfalso
   have e:(S.drop (pre S (x.2.1+1)))[p-pre S (x.2.1+1)]? =some x:=by rw[List.getElem?_drop,Nat.add_sub_cancel' hge];exact hp
   rw[zkk h]at e
   have:=(List.mem_filter.1 (List.mem_of_getElem? e)).2
   simp at this
 exact⟨p-pre S x.2.1,by omega,by omega,by rw[List.getElem?_take_of_lt yb,List.getElem?_drop,Nat.add_sub_cancel' h1];exact hp⟩
def Lb(xs:List Nat)(t i:Nat):Prop:=i≤xs.length∧(∀k x,k<i→xs[k]? =some x→x<t)∧∀k x,i≤k→xs[k]? =some x→t≤x
def Lb.hit(h:Lb xs t i)(hs:xs.Pairwise (· <·))(hp:xs[p]? =some t):i=p:=by
 obtain⟨h0,h1,h2⟩:=h;have hpl:=(List.getElem?_eq_some_iff.1 hp).1
 rcases Nat.lt_trichotomy i p with k|k|k
 ·exfalso
  have hx:xs[i]? =some xs[i]:=List.getElem?_eq_getElem yb
  have:=h2 i _ (Nat.le_refl _) hx
  have h3:=List.pairwise_iff_getElem.1 hs i p yb hpl k;have h4:=(List.getElem?_eq_some_iff.1 hp).2
  omega
 ·exact k
 ·exfalso
  have:=h1 p t k hp
  omega
def Lb.at(h:Lb xs t i)(hs:xs.Pairwise (· <·)):(xs[i]? ==some t)=xs.contains t:=by
 by_cases hm:t∈xs
 ·obtain⟨p,hp⟩:=List.mem_iff_getElem?.1 hm;rw[h.hit hs hp,hp]
  simp[hm]
 ·have e:xs.contains t=false:=by simpa using hm
  rw[e];simp only[beq_eq_false_iff_ne,ne_eq];intro h2;exact hm (List.mem_of_getElem? h2)
end
def zc6{x:Int}(h: -99999≤x∧x≤99999):(fmt x).length≤6:=by
 have h4:=(zef 4 x.natAbs yb).1;unfold fmt
 split
 ·rw[List.length_cons];omega
 ·omega
def zog{s:List UInt8}{neg:Bool}{ds:List UInt8}{b:Nat}{x:Int}(mode:Int)(hl:s.length≤1024)(hr:zcA s=some (neg,ds,b,x))(hx: -99999≤x∧x≤99999):dpz 1024 s mode=(zck neg mode (num ds) (x-b),0):=by
 unfold dpz;rw[if_neg yb,hr];simp only[];rw[if_neg yb]
section
variable {w:World} {e:TypeId} {sz c n k:Nat} {b:UInt8} {xs:List Value} {S:List Nat} {l:List UInt8}
open Go.RowKit
attribute [local irreducible] wpList Code.wp Plan.wp
def RowAt.cellR{b p:Nat}{v:Value}(h:RowAt e sz (.slice (some ⟨b,0,none⟩) n c) n xs S w)(hv:xs[p]? =some v):w.cell? ⟨b,p,none⟩=some v:=by
 obtain⟨h0,⟨_,_,h3⟩|⟨g,cap,pad,rfl,h1,h2,h3,h4,h5⟩⟩:=h
 ·cases h3
 ·cases h1
  rw[cell_of_row w b _ _ _ _ h5]
  simpa using(by rw[List.getElem?_append_left (List.getElem?_eq_some_iff.1 hv).1];exact hv:(xs++pad)[p]? =some v)
def RowAt.someR{p:Option Addr}(h:RowAt e sz (.slice p n c) n xs S w)(hn:0<n):∃g,p=some ⟨g,0,none⟩:=by
 obtain⟨_,⟨_,rfl,_⟩|⟨g,cap,pad,_,h1,_⟩⟩:=h
 ·omega
 ·cases h1;exact⟨g,rfl⟩
def zhU(s:List UInt8):Nat×Bool:=if s.all dig=true then(min (num s) 1000000000, !s.isEmpty)else(0,false)
def zmL(B a:Nat)(l:List UInt8)(b:UInt8):zcw B a (l++[b])=min (10*zcw B a l+(b.toNat-48)) B:=by unfold zcw;rw[List.foldl_append];rfl
def zhl(h:l[k]? =some b):l.take (k+1)=l.take k++[b]:=by rw[List.take_add_one,h];rfl
def zpO(h:l[k]? =some b)(hb:dig b=false):l.all dig=false:=by
 rw[List.all_eq_false];exact⟨b,List.mem_of_getElem? h,by rw[hb];decide⟩
def zdi(w:World)(s:List UInt8)(hs:s.length≤4000000){v:Nat}{b:Bool}(hv:Hid (zhU s=(v,b))):
 Calls Tryz.prog 21 #[ze s] w fun e w'=>e= .returned (.tuple #[.int .i64 (v:Int), .bool b])∧Fr [] w w':=by
 have H:=Hp.start [] w;obtain⟨z,hz0⟩:∃z,(s==[])=z:=⟨_,rfl⟩;have hz:=hid hz0;clear hz0
 go_enter Tryz.func21,Tryz.ntmps21
 revert H;refine W94 ?_;intro H _ _ _
 go_loopw [4,5] (fun s4 s5 wr=>∃(k a:Nat),s4= .int .i64 (a:Int)∧s5= .int .i64 (k:Int)∧k≤s.length∧a≤1000000000∧Hid (zcw 1000000000 0 (s.take k)=a)∧Hid ((s.take k).all dig=true)∧Hp [] w wr []) (fun _ v _=>s.length-(intOf v).toNat)
 case atStart=>exact⟨0,0,rfl,rfl,Nat.zero_le _,by omega,hid rfl,hid rfl,H⟩
 case round=>
  clear H;obtain⟨k,a,rfl,rfl,hk,ha,HE,HD,H⟩:=hrel
  by_cases hlt:k<s.length
  ·obtain⟨c,hc⟩:∃c,s[k]? =some c:=⟨_,List.getElem?_eq_getElem hlt⟩
   by_cases hd:dig c=true
   ·have hd1:=zcD hd;have HE2:=hid (show zcw 1000000000 0 (s.take (k+1))=min (10*a+(c.toNat-48)) 1000000000 by rw[zhl hc,zmL,HE.out]);have HD2:=hid (show(s.take (k+1)).all dig=true by rw[zhl hc,List.all_append,HD.out];simp[hd]);clear HE HD hd;obtain⟨n,hn⟩:∃n,c.toNat=n:=⟨_,rfl⟩;have HN:=hid hn;rw[hn]at hd1 HE2;obtain⟨h48,h57⟩:=hd1;clear hn
    go_wp2_with(first|refine x_e (zcL rfl rfl rfl hc HN) ?_|refine x_e (z6 rfl rfl) ?_|refine x_q H ?_|refine x_l H ?_|refine zm ?_ ?_<;>intro h|(revert H;(first|(refine x_g ?_;intro g0 w1 hg hf H;(first|replace hf:=hf.kp|clear hf))|(refine x_s ?_;intro w1 hf H;(first|replace hf:=hf.kp|clear hf))|(refine zau ?_;intro w1 hf H hk;clear hf hk))))
    all_goals
     go_roundw
     case rel=>exact⟨k+1,min (10*a+(n-48)) 1000000000,congrArg (Value.int .i64) yb,congrArg (Value.int .i64) yb,by omega,by omega,HE2,HD2,H⟩
     case measure=>(simp[intOf];try omega)
   ·have hd':dig c=false:=by simpa using hd
    have HV:Hid (v=0∧b=false):=hid (by
     have h:=hv.out;unfold zhU at h;rw[if_neg (by rw[zpO hc hd'];decide)]at h
     cases h;exact⟨rfl,rfl⟩)
    have hd2:c.toNat<48∨(48≤c.toNat∧57<c.toNat):=by
     unfold dig at hd'
     simp at hd'
     omega
    obtain⟨n,hn⟩:∃n,c.toNat=n:=⟨_,rfl⟩;have HN:=hid hn;rw[hn]at hd2;clear hd hd' HE HD hn
    rcases hd2 with h1|⟨h1,h2⟩
    ·revert H;refine W95 ?_;intro H _ _ _ _ _;refine bodyPost_ret (results_tmp2 rfl _ _ _) rfl ?_;exact⟨by rw[HV.out.1,HV.out.2];rfl,H.fr⟩
    ·revert H;refine W95 ?_;intro H _ _ _ _ _;refine bodyPost_ret (results_tmp2 rfl _ _ _) rfl ?_;exact⟨by rw[HV.out.1,HV.out.2];rfl,H.fr⟩
  ·have hke:k=s.length:=by omega
   have HV:Hid (v=a∧b= !z):=hid (by
    have h:=hv.out;have h1:=HD.out;have h2:=HE.out;rw[hke,List.take_length]at h1 h2;unfold zhU at h;rw[if_pos h1]at h;have h3:=zgj 1000000000 s 0;have h4:zcw 1000000000 0 s=min (num s) 1000000000:=h3;have h5:s.isEmpty=z:=by rw[←hz.out];cases s<;>rfl
    rw[←h4,h2,h5]at h
    cases h;exact⟨rfl,rfl⟩)
   have HZ:Hid (decide (0<s.length)= !z):=hid (by
    rw[←hz.out]
    cases s<;>simp)
   clear hke HE HD
   cases z with
   | false=>
    have hp:0<s.length:=by have:=HZ.out;simpa using this
    revert H;refine W94 ?_;intro H _ _ _;refine bodyPost_ret (results_tmp2 rfl _ _ _) rfl ?_;exact⟨by rw[HV.out.1,HV.out.2];rfl,H.fr⟩
   | true=>
    have hp:¬ 0<s.length:=by have:=HZ.out;simpa using this
    revert H;refine W94 ?_;intro H _ _ _;refine bodyPost_ret (results_tmp2 rfl _ _ _) rfl ?_;exact⟨by rw[HV.out.1,HV.out.2];rfl,H.fr⟩
def zg2(ws:List (List UInt8))(n:Nat):Prop:=∀(k:Nat) (w:List UInt8),k<n→k<2→ws[k]? =some w→zT w=true→num w≤200→num w≤12
def zsc{s:List UInt8}(h:zT s=true)(h2:num s≤200):zhU s=(num s,true):=by
 unfold zT at h;rw[Bool.and_eq_true]at h;unfold zhU;rw[if_pos h.1,Nat.min_eq_left yb]
 simp[h.2]
def zqo(w:World)(s:List UInt8)(hs:s.length≤1000000){p0:Option Addr}{c0:Nat}(hc0:s.length≤c0)(hv:Rd w (.slice p0 s.length c0) s.length (zx s)):
 Calls Tryz.prog 8 #[.slice p0 s.length c0] w fun e w'=>∃t:Bool,e= .returned (.bool t)∧Fr [] w w'∧(t=true→zl1 s):=by
 have HV:=hid hv;clear hv;have H:=Hp.start [] w;obtain⟨ls,hls⟩:∃ls,zak s=ls:=⟨_,rfl⟩;have HLS:=hid hls;have hL:ls.length≤1000001:=by rw[←hls];exact Nat.le_trans (zdT _ _) yb
 have HSZ:=hid (fun(l:List UInt8) (h:l∈ls)=>show l.length≤1000000 from by
  rw[←hls]at h
  have:=zeL _ _ _ h
  rw[List.length_nil]at this
  omega)
 clear hls
 go_enter Tryz.func8,Tryz.ntmps8
 revert H;refine W94 ?_;intro H _ _ _ _ _;(refine Calls.mono (zm6 _ s hs hc0 (HV.out.fr H.fr yg) HLS) ?_;rintro e w1 ⟨v,rfl,hF,hown⟩;obtain⟨Sl,H1⟩:=H.rowNew 1 hF hown;clear H hF hown;have H:=H1;clear H1);obtain⟨pl,cl,rfl,_⟩:=(H.rowo 1).form;simp only[Int.not_lt,Int.not_le]at*;revert H;refine W94 ?_;intro H _ _
 go_loopw [4] (fun s4 wr=>∃i:Nat,s4= .int .i64 (i:Int)∧1≤i∧i≤ls.length+1∧Hid (∀j l,1≤j→j<i→ls[j]? =some l→zg2 (zE l) 2)∧Hp [] w wr [.obj 1 Sl (RowAt 9 1 (.slice pl ls.length cl) ls.length (ls.map ze) Sl)]) (fun v _=>ls.length+2-(intOf v).toNat)
 case atStart=>exact⟨1,rfl,Nat.le_refl _,by omega,hid (fun j l h1 h2=>by omega),H⟩
 case round=>
  clear H;obtain⟨i,rfl,h1i,hi,HOK,H⟩:=hrel
  by_cases hlt:i<ls.length
  ·obtain⟨l,hl⟩:∃l,ls[i]? =some l:=⟨_,List.getElem?_eq_getElem hlt⟩;have hll:=HSZ.out l (List.mem_of_getElem? hl);obtain⟨gl,rfl⟩:=(H.rowo 1).someR yb;have HCL:=hid (fun(k:Nat) (u:Value) (hk:(ls.map ze)[k]? =some u)=>(H.rowo 1).cellR hk);have hcl:=(H.rowo 1).cellR (show(ls.map ze)[i]? =some (ze l) by rw[List.getElem?_map,hl];rfl);have HLI:=hid hl;obtain⟨ws,hws⟩:∃ws,zE l=ws:=⟨_,rfl⟩;have HWS:=hid hws;have hWl:ws.length≤1000001:=by rw[←hws];exact Nat.le_trans (zba _) yb
   have HWZ:=hid (fun(x:List UInt8) (h:x∈ws)=>show x.length≤1000000 from by
    rw[←hws]at h
    have:=zbN h
    omega)
   clear hl hws HCL;revert H;refine W96 ?_;intro H _ _ _ _ _ _ _;clear hcl;(refine Calls.mono (znj _ l yb HWS) ?_;rintro e w1 ⟨v,rfl,hF,hown⟩;obtain⟨Sw,H1⟩:=H.rowNew 3 hF hown;clear H hF hown;have H:=H1;clear H1);obtain⟨pw,cw,rfl,_⟩:=(H.rowo 3).form;simp only[Int.not_lt,Int.not_le]at*;revert H;refine W94 ?_;intro H _ _
   go_loopw [6] (fun s6 wr=>∃k:Nat,s6= .int .i64 (k:Int)∧k≤2∧k≤ws.length∧Hid (zg2 ws k)∧Hp [] w wr [.obj 3 Sw (RowAt 9 1 (.slice pw ws.length cw) ws.length (ws.map ze) Sw), .obj 1 Sl (RowAt 9 1 (.slice (some ⟨gl,0,none⟩) ls.length cl) ls.length (ls.map ze) Sl)]) (fun v _=>3-(intOf v).toNat)
   case atStart=>exact⟨0,rfl,by omega,by omega,hid (fun k w h=>by omega),H.sub yd⟩
   case round=>
    clear H;obtain⟨k,rfl,hk2,hkW,HK,H⟩:=hrel
    by_cases hgo:k<ws.length∧k<2
    ·obtain⟨g1',g2'⟩:=hgo;obtain⟨x,hx⟩:∃x,ws[k]? =some x:=⟨_,List.getElem?_eq_getElem g1'⟩;have hxl:=HWZ.out x (List.mem_of_getElem? hx);obtain⟨gw,rfl⟩:=(H.rowo 3).someR yb;have hcx:=(H.rowo 3).cellR (show(ws.map ze)[k]? =some (ze x) by rw[List.getElem?_map,hx];rfl);obtain⟨v,b,hvb⟩:∃v b,zhU x=(v,b):=⟨_,_,rfl⟩;have HVB:=hid hvb;clear hvb
     by_cases hbad:b=true∧12<v∧v≤200
     ·obtain⟨rfl,hb1,hb2⟩:=hbad;clear HK hx;revert H;refine W97 ?_;intro H _ _ _ _ _ _ _;clear hcx;(refine xA H (zdi _ x yb HVB) ?_;clear H;intro w1 H);simp only[Int.not_lt,Int.not_le]at*;revert H;refine W94 ?_;intro H
      go_ret
      exact⟨false,rfl,H.fr,fun h=>by cases h⟩
     ·have HK2:=hid (show zg2 ws (k+1)from fun j y hj h2 hy hn h200=>by
       by_cases hjk:j<k
       ·exact HK.out j y hjk h2 hy hn h200
       ·obtain rfl:j=k:=by omega
        rw[hx]at hy
        cases hy
        have:=HVB.out
        rw[zsc hn h200]at this
        cases this
        have:¬(12<num x∧num x≤200):=fun g=>hbad ⟨rfl,g.1,g.2⟩
        omega)
      clear HK hx
      cases b with
      | false=>
       clear hbad;revert H;refine W97 ?_;intro H _ _ _ _ _ _ _;clear hcx;(refine xA H (zdi _ x yb HVB) ?_;clear H;intro w1 H)
       go_wp2_with(first|refine x_e (z6 rfl rfl) ?_|refine x_q H ?_|refine x_l H ?_|refine zm ?_ ?_<;>intro h|(revert H;(first|(refine x_g ?_;intro g0 w1 hg hf H;(first|replace hf:=hf.kp|clear hf))|(refine x_s ?_;intro w1 hf H;(first|replace hf:=hf.kp|clear hf))|(refine zau ?_;intro w1 hf H hk;clear hf hk))))
       all_goals
        go_roundw
        case rel=>exact⟨k+1,congrArg (Value.int .i64) yb,by omega,by omega,HK2,H⟩
        case measure=>(simp[intOf];try omega)
      | true=>
       have hb2:v≤12∨(12<v∧200<v):=by
        rcases Nat.lt_or_ge 12 v with g|g
        ·exact .inr ⟨g,by
          rcases Nat.lt_or_ge 200 v with g2|g2
          ·exact g2
          ·exact absurd ⟨rfl,g,g2⟩ hbad⟩
        ·exact .inl g
       clear hbad
       rcases hb2 with h12|⟨h12,h200⟩
       ·revert H;refine W97 ?_;intro H _ _ _ _ _ _ _;clear hcx;(refine xA H (zdi _ x yb HVB) ?_;clear H;intro w1 H)
        go_wp2_with(first|refine x_e (z6 rfl rfl) ?_|refine x_q H ?_|refine x_l H ?_|refine zm ?_ ?_<;>intro h|(revert H;(first|(refine x_g ?_;intro g0 w1 hg hf H;(first|replace hf:=hf.kp|clear hf))|(refine x_s ?_;intro w1 hf H;(first|replace hf:=hf.kp|clear hf))|(refine zau ?_;intro w1 hf H hk;clear hf hk))))
        all_goals
         go_roundw
         case rel=>exact⟨k+1,congrArg (Value.int .i64) yb,by omega,by omega,HK2,H⟩
         case measure=>(simp[intOf];try omega)
       ·revert H;refine W97 ?_;intro H _ _ _ _ _ _ _;clear hcx;(refine xA H (zdi _ x yb HVB) ?_;clear H;intro w1 H)
        go_wp2_with(first|refine x_e (z6 rfl rfl) ?_|refine x_q H ?_|refine x_l H ?_|refine zm ?_ ?_<;>intro h|(revert H;(first|(refine x_g ?_;intro g0 w1 hg hf H;(first|replace hf:=hf.kp|clear hf))|(refine x_s ?_;intro w1 hf H;(first|replace hf:=hf.kp|clear hf))|(refine zau ?_;intro w1 hf H hk;clear hf hk))))
        all_goals
         go_roundw
         case rel=>exact⟨k+1,congrArg (Value.int .i64) yb,by omega,by omega,HK2,H⟩
         case measure=>(simp[intOf];try omega)
    ·have HOK2:=hid (show ∀j l,1≤j→j<i+1→ls[j]? =some l→zg2 (zE l) 2 from fun j l' hj1 hj2 hl'=>by
      by_cases hji:j<i
      ·exact HOK.out j l' hj1 hji hl'
      ·obtain rfl:j=i:=by omega
       rw[HLI.out]at hl'
       cases hl'
       rw[HWS.out];intro q y hq hq2 hy;have hql:=(List.getElem?_eq_some_iff.1 hy).1
       exact HK.out q y yb hq2 hy)
     clear HK HOK
     have hstop:¬k<ws.length∨(k<ws.length∧¬k<2):=by
      by_cases g:k<ws.length
      ·exact .inr ⟨g,fun g2=>hgo ⟨g,g2⟩⟩
      ·exact .inl g
     clear hgo
     rcases hstop with hst|⟨hst1,hst2⟩
     ·revert H;refine W94 ?_;intro H _ _ _
      go_loopw [9] (fun s9 wr=>∃q:Nat,s9= .int .i64 (q:Int)∧q≤ws.length∧Hp [] w wr [.obj 3 Sw (RowAt 9 1 (.slice pw ws.length cw) ws.length (ws.map ze) Sw), .obj 1 Sl (RowAt 9 1 (.slice (some ⟨gl,0,none⟩) ls.length cl) ls.length (ls.map ze) Sl)]) (fun v _=>ws.length-(intOf v).toNat)
      case atStart=>exact⟨0,rfl,Nat.zero_le _,H⟩
      case round=>
       clear H;obtain⟨q,rfl,hq,H⟩:=hrel
       by_cases hq2:q<ws.length
       ·obtain⟨x,hx⟩:∃x,ws[q]? =some x:=⟨_,List.getElem?_eq_getElem hq2⟩;have hxl:=HWZ.out x (List.mem_of_getElem? hx);obtain⟨gw,rfl⟩:=(H.rowo 3).someR yb;have hcx:=(H.rowo 3).cellR (show(ws.map ze)[q]? =some (ze x) by rw[List.getElem?_map,hx];rfl);clear hx
        by_cases h40:40<x.length
        ·revert H;refine W98 ?_;intro H _ _ _
         go_ret
         exact⟨false,rfl,H.fr,fun h=>by cases h⟩
        ·revert H;refine W98 ?_;intro H _ _ _ _ _ _ _;clear hcx;refine x_c H (zjp _ x yb) ?_;clear H;rintro e w1 ⟨pb,rfl,hF⟩ H;clear hF
         cases pb with
         | true=>
          simp only[Int.not_lt,Int.not_le]at*;revert H;refine W94 ?_;intro H
          go_ret
          exact⟨false,rfl,H.fr,fun h=>by cases h⟩
         | false=>
          go_wp2_with(first|refine x_e (z6 rfl rfl) ?_|refine x_q H ?_|refine x_l H ?_|refine zm ?_ ?_<;>intro h|(revert H;(first|(refine x_g ?_;intro g0 w1 hg hf H;(first|replace hf:=hf.kp|clear hf))|(refine x_s ?_;intro w1 hf H;(first|replace hf:=hf.kp|clear hf))|(refine zau ?_;intro w1 hf H hk;clear hf hk))))
          all_goals
           go_roundw
           case rel=>exact⟨q+1,congrArg (Value.int .i64) yb,by omega,H⟩
           case measure=>(simp[intOf];try omega)
       ·revert H;refine W94 ?_;intro H _ _ _
        go_roundw
        case rel=>exact⟨i+1,congrArg (Value.int .i64) yb,by omega,by omega,HOK2,H.sub yd⟩
        case measure=>(simp[intOf];try omega)
     ·revert H;refine W94 ?_;intro H _ _ _
      go_loopw [9] (fun s9 wr=>∃q:Nat,s9= .int .i64 (q:Int)∧q≤ws.length∧Hp [] w wr [.obj 3 Sw (RowAt 9 1 (.slice pw ws.length cw) ws.length (ws.map ze) Sw), .obj 1 Sl (RowAt 9 1 (.slice (some ⟨gl,0,none⟩) ls.length cl) ls.length (ls.map ze) Sl)]) (fun v _=>ws.length-(intOf v).toNat)
      case atStart=>exact⟨0,rfl,Nat.zero_le _,H⟩
      case round=>
       clear H;obtain⟨q,rfl,hq,H⟩:=hrel
       by_cases hq2:q<ws.length
       ·obtain⟨x,hx⟩:∃x,ws[q]? =some x:=⟨_,List.getElem?_eq_getElem hq2⟩;have hxl:=HWZ.out x (List.mem_of_getElem? hx);obtain⟨gw,rfl⟩:=(H.rowo 3).someR yb;have hcx:=(H.rowo 3).cellR (show(ws.map ze)[q]? =some (ze x) by rw[List.getElem?_map,hx];rfl);clear hx
        by_cases h40:40<x.length
        ·revert H;refine W98 ?_;intro H _ _ _
         go_ret
         exact⟨false,rfl,H.fr,fun h=>by cases h⟩
        ·revert H;refine W98 ?_;intro H _ _ _ _ _ _ _;clear hcx;refine x_c H (zjp _ x yb) ?_;clear H;rintro e w1 ⟨pb,rfl,hF⟩ H;clear hF
         cases pb with
         | true=>
          simp only[Int.not_lt,Int.not_le]at*;revert H;refine W94 ?_;intro H
          go_ret
          exact⟨false,rfl,H.fr,fun h=>by cases h⟩
         | false=>
          go_wp2_with(first|refine x_e (z6 rfl rfl) ?_|refine x_q H ?_|refine x_l H ?_|refine zm ?_ ?_<;>intro h|(revert H;(first|(refine x_g ?_;intro g0 w1 hg hf H;(first|replace hf:=hf.kp|clear hf))|(refine x_s ?_;intro w1 hf H;(first|replace hf:=hf.kp|clear hf))|(refine zau ?_;intro w1 hf H hk;clear hf hk))))
          all_goals
           go_roundw
           case rel=>exact⟨q+1,congrArg (Value.int .i64) yb,by omega,H⟩
           case measure=>(simp[intOf];try omega)
       ·revert H;refine W94 ?_;intro H _ _ _
        go_roundw
        case rel=>exact⟨i+1,congrArg (Value.int .i64) yb,by omega,by omega,HOK2,H.sub yd⟩
        case measure=>(simp[intOf];try omega)
  ·have HT:=hid (show zl1 s from fun j l hj hl=>by
    rw[HLS.out]at hl;have hjl:=(List.getElem?_eq_some_iff.1 hl).1;intro k y hk hy
    exact HOK.out j l hj yb hl k y hk hk hy)
   clear HOK;revert H;refine W94 ?_;intro H _ _ _
   go_ret
   exact⟨true,rfl,H.fr,fun _=>HT.out⟩
end
end Go.Proofs.YtaijhllckmndhaaGreatDoor
