import Derived.Test.YtaijhllckmndhaaGreatDoorYJ0
import Derived.Test.YtaijhllckmndhaaGreatDoorYJ24
import Derived.Test.YtaijhllckmndhaaGreatDoorYJ21
import Derived.Test.YtaijhllckmndhaaGreatDoorYJ20
namespace Go.Proofs.YtaijhllckmndhaaGreatDoor
set_option linter.all false
set_option maxHeartbeats 64000000
set_option maxRecDepth 100000
def dE(neg:Bool)(ds:List UInt8)(b:Nat)(s2:List UInt8):Option (Bool×List UInt8×Nat×Int):=
 if ds=[]then none else
 match s2 with
 | []=>some (neg,ds,b,0)
 | e::t=>if isE e then(zex t).map (fun x=>(neg,ds,b,x))else none
def dO(o:Option (Bool×List UInt8×Nat×Int))(mode:Int):Nat×Int:=
 match o with
 | none=>(0,7)
 | some (neg,ds,b,x)=>if x< -99999∨99999<x then(0,3)else(zck neg mode (num ds) (x-b),0)
def zgn:∀u:List UInt8,u.all dig=true→u.takeWhile dig=u
 | [],_=>rfl
 | b::r,h=>by
  rw[List.all_cons,Bool.and_eq_true]at h;rw[List.takeWhile_cons_of_pos h.1,zgn r h.2]
def zva{u:List UInt8}:(u≠[]∧u.all dig=true)↔¬(u.takeWhile dig=[]∨u.dropWhile dig≠[]):=by
 have h:u.takeWhile dig++u.dropWhile dig=u:=List.takeWhile_append_dropWhile
 constructor
 ·rintro⟨h1,h2⟩;have h3:u.takeWhile dig=u:=zgn u h2
  rintro(h4|h4)
  ·rw[h3]at h4;exact h1 h4
  ·rw[h3]at h
   have:u.dropWhile dig=[]:=List.append_right_eq_self.1 h
   exact h4 this
 ·intro h1;have h2:u.takeWhile dig≠[]:=fun h=>h1 (.inl h)
  have h3:u.dropWhile dig=[]:=Classical.byContradiction (fun h=>h1 (.inr h));rw[h3,List.append_nil]at h;have h4:(u.takeWhile dig).all dig=true:=List.all_takeWhile;rw[h]at h2 h4;exact⟨h2,h4⟩
def Spec(r:(Bool×List UInt8×Int)×Int)(v:Nat×Int)(mode:Int):Prop:=
 (r.2≠0∧0≤r.2∧r.2≤7∧v=(0,r.2))∨(r.2=0∧r.1.2.1.all dig=true∧r.1.2.1.length≤1024∧ -102000≤r.1.2.2∧r.1.2.2≤100000∧v=(zck r.1.1 mode (num r.1.2.1) r.1.2.2,0))
def zgc(neg:Bool){ds:List UInt8}{b:Nat}(s2:List UInt8)(mode:Int)(hd:ds.all dig=true)(hl:ds.length≤1024)(hb:b≤1024):Spec (rdE neg ds b s2) (dO (dE neg ds b s2) mode) mode:=by
 by_cases h0:ds=[]
 ·left
  unfold rdE dE;rw[if_pos h0,if_pos h0];exact⟨by decide,by decide,by decide,rfl⟩
 ·cases s2 with
  | nil=>
   right
   unfold rdE dE;rw[if_neg h0,if_neg h0];refine⟨rfl,hd,hl,?_,?_,rfl⟩
   ·show -102000≤(0:Int)-b;omega
   ·show(0:Int)-b≤100000;omega
  | cons c t=>
   unfold rdE dE;rw[if_neg h0,if_neg h0];simp only[]
   by_cases hc:isE c=true
   ·rw[if_pos hc,if_pos hc];unfold zex
    by_cases hp:(dsg t).2.takeWhile dig=[]∨(dsg t).2.dropWhile dig≠[]
    ·left
     rw[if_pos hp,if_neg (fun h=>zva.1 h hp)];exact⟨by decide,by decide,by decide,rfl⟩
    ·have hs:=zva.2 hp;rw[if_neg hp,if_pos hs];have e:(dsg t).2.takeWhile dig=(dsg t).2:=zgn _ hs.2;rw[e]
     by_cases h9:num (dsg t).2≤99999
     ·right
      rw[if_pos h9];refine⟨rfl,hd,hl,?_,?_,?_⟩
      ·show -102000≤(if(dsg t).1=true then -(num (dsg t).2:Int)else(num (dsg t).2:Int))-b
       split<;>omega
      ·show(if(dsg t).1=true then -(num (dsg t).2:Int)else(num (dsg t).2:Int))-b≤100000
       split<;>omega
      ·show dO (some (neg,ds,b,_)) mode=_
       unfold dO;simp only[];rw[if_neg (by split<;>omega)]
     ·left
      rw[if_neg h9];refine⟨by decide,by decide,by decide,?_⟩
      show dO (some (neg,ds,b,_)) mode=_
      unfold dO;simp only[];rw[if_pos (by split<;>omega)]
   ·left
    rw[if_neg hc,if_neg hc];exact⟨by decide,by decide,by decide,rfl⟩
def ztN{s:List UInt8}(mode:Int)(hs:s.length≤1024):dpz 1024 s mode=dO (dE (dsg s).1 (zaU false (dsg s).2).1 (zaU false (dsg s).2).2.1 (zaU false (dsg s).2).2.2) mode:=by
 unfold dpz;rw[if_neg yb]
 rfl
def zrh{s:List UInt8}(mode:Int)(hs:s.length≤1024):Spec (rdS s) (dpz 1024 s mode) mode:=by
 rw[ztN mode hs,zgX];have hl:=zfI s;have h1:((dsg s).2.takeWhile dig).all dig=true:=List.all_takeWhile;have h2:((dsg s).2.takeWhile dig).length≤(dsg s).2.length:=(List.takeWhile_prefix dig).length_le;have h3:((dsg s).2.dropWhile dig).length≤(dsg s).2.length:=(List.dropWhile_suffix dig).length_le;have h4:(dsg s).2.takeWhile dig++(dsg s).2.dropWhile dig=(dsg s).2:=List.takeWhile_append_dropWhile;have h5:=congrArg List.length h4;rw[List.length_append]at h5;unfold rdS;generalize (dsg s).2.takeWhile dig=a at*;generalize (dsg s).2.dropWhile dig=q at*
 cases q with
 | nil=>
  simp only[List.append_nil];exact zgc _ _ _ h1 yb yb
 | cons c t=>
  simp only[List.append_nil]
  by_cases hc:c=46
  ·rw[if_pos hc,if_pos hc];have h6:(t.takeWhile dig).length≤t.length:=(List.takeWhile_prefix dig).length_le;rw[List.length_cons]at h5;refine zgc _ _ _ ?_ ?_ yb
   ·rw[List.all_append,h1,List.all_takeWhile];rfl
   ·rw[List.length_append];omega
  ·rw[if_neg hc,if_neg hc];exact zgc _ _ _ h1 yb yb
section
open Go.RowKit
def zdj(line code:Int):List PanicEntry:=[{v:= .iface 54 (.agg #[.int .i64 line, .int .i64 code]),recovered:=false}]
def zp(w:World)(g:Nat)(code:Int):Calls Tryz.prog 26 #[.pointer (some ⟨g,0,none⟩), .bool true, .int .i64 code] w fun e w'=>e= .returned (.tuple #[])∧Fr [] w w':=by
 have H:=Hp.start [] w
 go_enter Tryz.func26,Tryz.ntmps26
 revert H;refine W49 ?_;intro H
 go_end0
 exact⟨rfl,H.fr⟩
def zo(w:World)(g:Nat)(code n:Int)(hc:w.cell? ⟨g,1,none⟩=some (.int .i64 n)):Calls Tryz.prog 26 #[.pointer (some ⟨g,0,none⟩), .bool false, .int .i64 code] w fun e w'=>e= .panicked (zdj n code)∧Fr [] w w':=by
 have H:=Hp.start [] w
 go_enter Tryz.func26,Tryz.ntmps26
 revert H;refine W49 ?_;intro H _ _ _;exact⟨rfl,rfl,H.fr⟩
structure RdrAt (g b c:Nat) (Ls:List (List UInt8)) (i:Nat) (w:World):Prop where
 hg:w.heap[g]? =some (.cells #[.slice (some ⟨b,0,none⟩) Ls.length c, .int .i64 (i:Int)] 57 (0,0))
 hne:b≠g
 hb:b<w.heap.size
 hc:∀j s,Ls[j]? =some s→w.cell? ⟨b,j,none⟩=some (ze s)
 hN:Ls.length≤2000000
 hl:∀s∈Ls,s.length≤2000000
def RdrAt.fr{g b c:Nat}{Ls:List (List UInt8)}{i i':Nat}{w w':World}(h:RdrAt g b c Ls i w)(k:Fr [g] w w')(hg:w'.heap[g]? =some (.cells #[.slice (some ⟨b,0,none⟩) Ls.length c, .int .i64 (i':Int)] 57 (0,0))):RdrAt g b c Ls i' w':=
 ⟨hg,h.hne,Nat.lt_of_lt_of_le h.hb k.size,fun j s hj=>k.cell (h.hc j s hj) (by simp;exact h.hne),h.hN,h.hl⟩
def RdrAt.hp{g b c:Nat}{Ls:List (List UInt8)}{i:Nat}{w:World}(h:RdrAt g b c Ls i w):Hp [g] w w [.blk g [.slice (some ⟨b,0,none⟩) Ls.length c, .int .i64 (i:Int)] 57, .rng b 0 (Ls.map ze)]:=
 ((Hp.start [g] w).pushRng h.hb (by simp;exact h.hne) (by
  intro j u hj;rw[List.getElem?_map,Option.map_eq_some_iff]at hj;obtain⟨s,hs,rfl⟩:=hj;rw[Nat.zero_add]
  exact h.hc j s hs)).push h.hg (.inl yg) yac
def zcN{g b c i:Nat}{Ls:List (List UInt8)}{w:World}(hR:RdrAt g b c Ls i w)(hi:i≤Ls.length+1):
 Calls Tryz.prog 30 #[.pointer (some ⟨g,0,none⟩)] w fun e w'=>∃v i',e= .returned v∧Fr [g] w w'∧RdrAt g b c Ls i' w'∧
  ((sig i (Ls.drop i)=[]∧v= .slice none 0 0∧i'=Ls.length+1)∨
   (∃ws r q,sig i (Ls.drop i)=(i',ws)::r∧v= .slice (some ⟨q,0,none⟩) ws.length ws.length∧w.heap.size≤q∧w'.heap[q]? =some (.cells (ws.map ze).toArray 9 (0,0)))):=by
 have H:=hR.hp;have HR:=hid hR;have HN:=hR.hN
 go_enter Tryz.func30,Tryz.ntmps30
 revert H;refine W49 ?_;intro H _ _ _
 go_loopw [] (fun wr=>∃k:Nat,k≤Ls.length+1∧Hid (sig i (Ls.drop i)=sig k (Ls.drop k))∧Hp [g] w wr [.blk g [.slice (some ⟨b,0,none⟩) Ls.length c, .int .i64 (k:Int)] 57, .rng b 0 (Ls.map ze)]) (fun wr=>Ls.length+2-(intOf ((wr.cell? ⟨g,1,none⟩).getD undef)).toNat)
 case atStart=>exact⟨i,hi,hid rfl,H⟩
 case round=>
  clear H;obtain⟨k,hk,HS,H⟩:=hrel;have hcell0:=H.blkCell (.head _) (o:=1) (v:= .int .i64 (k:Int)) rfl;have HC0:=hid hcell0;clear hcell0
  by_cases hlt:k<Ls.length
  ·obtain⟨s,hs⟩:∃s,Ls[k]? =some s:=⟨_,List.getElem?_eq_getElem hlt⟩;have hsv:(Ls.map ze)[k]? =some (ze s):=by rw[List.getElem?_map,hs];rfl
   have hsl:=HR.out.hl s (List.mem_of_getElem? hs);obtain⟨ws,hws0⟩:∃ws,zE s=ws:=⟨_,rfl⟩;have hws:=hid hws0;have hwc:=zba s;rw[hws0]at hwc
   cases hw:ws with
   | nil=>
    have HS2:=hid (show sig i (Ls.drop i)=sig (k+1) (Ls.drop (k+1)) by rw[HS.out];exact zkc hs (by rw[hws0,hw];rfl));subst hw;clear HS hws0 hwc;revert H;refine W49 ?_;intro H _ _ _ _ _
    (revert H;refine w_p 10 (.st 0 (.st 1 (.st 2 (.st 3 (.st 4 (.st 5 (.st 6 (.st 7 (.st 8 (.st 9 .done)))))))))) ?_;intro w1 H)
    iterate 10 refine p_q ?_
    (refine zf ?_)
    all_goals
     revert H;refine W49 ?_;intro H _ _
     (revert H;refine w_p 12 (.st 0 (.st 1 (.st 2 (.st 3 (.st 4 (.st 5 (.st 6 (.st 7 (.st 8 (.st 9 (.ld 10 (.st 11 .done)))))))))))) ?_;intro w1 H)
     iterate 10 refine p_q ?_
     ((have H0:=H;refine p_c H rfl rfl Tryz.func67 (zeT _ hws yb) ?_;clear H;rintro e w1 ⟨q,rfl,hF,hq,hc⟩ H;clear H;have HQ:=hid (Nat.le_trans H0.fr.size hq);have H:=H0.bornB hF hq hc;clear H0;refine p_r ?_;clear hF hq hc))
     refine p_q ?_;(refine zf ?_)
     all_goals
      revert H;refine W49 ?_;intro w1 H
      go_roundw
      case rel=>exact⟨k+1,by omega,HS2,H.sub yd⟩
      case measure=>
       have hcell1:=H.blkCell (.tail _ (.head _)) (o:=1) (v:= .int .i64 ((k:Int)+1)) rfl;rw[hcell1,HC0.out]
       simp[intOf]
       omega
   | cons x r=>
    have hx0:x≠[]:=zoy (s:=s) (by rw[hws0,hw];simp);obtain⟨y,t,hyt⟩:=List.exists_cons_of_ne_nil hx0;have HY:=hid (show x[0]? =some y by rw[hyt];rfl);obtain⟨n,hn⟩:∃n,y.toNat=n:=⟨_,rfl⟩;have hsk:skip ws=(y==37):=by rw[hw,hyt];unfold skip;simp
    clear hx0
    by_cases h37:n=37
    ·have HS2:=hid (show sig i (Ls.drop i)=sig (k+1) (Ls.drop (k+1)) by
      rw[HS.out];refine zkc hs ?_;rw[hws0,hsk,beq_iff_eq]
      exact UInt8.toNat_inj.1 (by rw[hn,h37];rfl))
     subst h37;subst hw;clear HS hws0 hwc hsk hyt;revert H;refine W49 ?_;intro H _ _ _ _ _
     (revert H;refine w_p 10 (.st 0 (.st 1 (.st 2 (.st 3 (.st 4 (.st 5 (.st 6 (.st 7 (.st 8 (.st 9 .done)))))))))) ?_;intro w1 H)
     iterate 10 refine p_q ?_
     (refine zf ?_)
     all_goals
      revert H;refine W49 ?_;intro H _ _
      (revert H;refine w_p 12 (.st 0 (.st 1 (.st 2 (.st 3 (.st 4 (.st 5 (.st 6 (.st 7 (.st 8 (.st 9 (.ld 10 (.st 11 .done)))))))))))) ?_;intro w1 H)
      iterate 10 refine p_q ?_
      ((have H0:=H;refine p_c H rfl rfl Tryz.func67 (zeT _ hws yb) ?_;clear H;rintro e w1 ⟨q,rfl,hF,hq,hc⟩ H;clear H;have HQ:=hid (Nat.le_trans H0.fr.size hq);have H:=H0.bornB hF hq hc;clear H0;refine p_r ?_;clear hF hq hc))
      refine p_q ?_;(refine zf ?_)
      all_goals
       revert H;refine W50 ?_;intro w1 H
       go_roundw
       case rel=>exact⟨k+1,by omega,HS2,H.sub yd⟩
       case measure=>
        have hcell1:=H.blkCell (.tail _ (.head _)) (o:=1) (v:= .int .i64 ((k:Int)+1)) rfl;rw[hcell1,HC0.out]
        simp[intOf]
        omega
    ·have HS2:=hid (show sig i (Ls.drop i)=(k+1,ws)::sig (k+1) (Ls.drop (k+1)) by
      rw[HS.out,←hws0];refine zre hs ?_;rw[hws0,hsk];refine beq_false_of_ne fun e=>h37 ?_
      rw[←hn,e];rfl)
     have h37':¬(n:Int)=37:=by omega
     subst hw;clear HS hws0 hwc hsk hyt h37;revert H;refine W49 ?_;intro H _ _ _ _ _
     (revert H;refine w_p 10 (.st 0 (.st 1 (.st 2 (.st 3 (.st 4 (.st 5 (.st 6 (.st 7 (.st 8 (.st 9 .done)))))))))) ?_;intro w1 H)
     iterate 10 refine p_q ?_
     (refine zf ?_)
     all_goals
      revert H;refine W49 ?_;intro H _ _
      (revert H;refine w_p 12 (.st 0 (.st 1 (.st 2 (.st 3 (.st 4 (.st 5 (.st 6 (.st 7 (.st 8 (.st 9 (.ld 10 (.st 11 .done)))))))))))) ?_;intro w1 H)
      iterate 10 refine p_q ?_
      ((have H0:=H;refine p_c H rfl rfl Tryz.func67 (zeT _ hws yb) ?_;clear H;rintro e w1 ⟨q,rfl,hF,hq,hc⟩ H;clear H;have HQ:=hid (Nat.le_trans H0.fr.size hq);have H:=H0.bornB hF hq hc;clear H0;refine p_r ?_;clear hF hq hc))
      refine p_q ?_;(refine zf ?_)
      all_goals
       revert H;refine W50 ?_;intro w1 H
       go_ret
       exact⟨_,k+1,rfl,H.fr,HR.out.fr H.fr (H.get (.tail _ (.head _))), .inr ⟨x::r,_,q,HS2.out,rfl,HQ.out,H.get (.head _)⟩⟩
  ·have HS2:=hid (show sig i (Ls.drop i)=[] by rw[HS.out];exact ztq yb);clear HS;revert H;refine W49 ?_;intro H _ _ _ _ _
   (revert H;refine w_p 10 (.st 0 (.st 1 (.st 2 (.st 3 (.st 4 (.st 5 (.st 6 (.st 7 (.st 8 (.st 9 .done)))))))))) ?_;intro w1 H)
   iterate 10 refine p_q ?_
   (refine zf ?_)
   all_goals
    revert H;refine W49 ?_;intro w1 H
    go_ret
    exact⟨_,Ls.length+1,rfl,H.fr,HR.out.fr H.fr (H.get (.head _)), .inl ⟨HS2.out,rfl,rfl⟩⟩
end
section
open Go.RowKit
section
variable {P:Program} {a:Act} {w:World} {o:Oper}
def zB{t t':TypeId}{x y:Operand}(ho:o.op= .binOp .eql t x y t'){s r:List UInt8}(hx:a.eval x=ze s)(hy:a.eval y=ze r){b:Bool}(hs:Hid ((s==r)=b)):(execOp a.eval o).run P w= .ok (.value (.bool b)) w:=by
 rw[←hs.out];exact zeV ho hx hy
def zvd{t t':TypeId}{x y:Operand}(ho:o.op= .binOp .neq t x y t'){s r:List UInt8}(hx:a.eval x=ze s)(hy:a.eval y=ze r){b:Bool}(hs:Hid ((s==r)=b)):(execOp a.eval o).run P w= .ok (.value (.bool (!b))) w:=by
 rw[←hs.out];exact zeK ho hx hy
end
def zbW(w:World)(sym i j:Nat)(hs:sym≤2){b:Bool}(hb:Hid (may sym i j=b)):
 Calls Tryz.prog 92 #[.int .i64 (sym:Int), .int .i64 (i:Int), .int .i64 (j:Int)] w fun e w'=>e= .returned (.bool b)∧Fr [] w w':=by
 have H:=Hp.start [] w
 by_cases h0:sym=0
 ·have HB:Hid (b=true):=hid (by rw[←hb.out,h0];rfl);subst h0
  go_enter Tryz.func92,Tryz.ntmps92
  revert H;refine W51 ?_;intro H
  go_ret
  exact⟨by first|rfl|(rw[HB.out];rfl),H.fr⟩
 ·have g0:¬(sym:Int)=0:=by omega
  by_cases h1:j<i
  ·have HB:Hid (b=true):=hid (by rw[←hb.out];unfold may;simp[h1])
   go_enter Tryz.func92,Tryz.ntmps92
   revert H;refine W51 ?_;intro H
   go_ret
   exact⟨by first|rfl|(rw[HB.out];rfl),H.fr⟩
  ·by_cases h2:sym=1
   ·by_cases h3:i=j
    ·have HB:Hid (b=true):=hid (by rw[←hb.out,h2,h3];unfold may;simp);subst h2 h3
     go_enter Tryz.func92,Tryz.ntmps92
     revert H;refine W51 ?_;intro H
     go_ret
     exact⟨by first|rfl|(rw[HB.out];rfl),H.fr⟩
    ·have HB:Hid (b=false):=hid (by rw[←hb.out,h2];unfold may;simp[h1,h3]);have h3':i<j:=by omega
     subst h2;clear h1 h3
     go_enter Tryz.func92,Tryz.ntmps92
     revert H;refine W51 ?_;intro H
     go_ret
     exact⟨by first|rfl|(rw[HB.out];rfl),H.fr⟩
   ·obtain rfl:sym=2:=by omega
    have HB:Hid (b=false):=hid (by rw[←hb.out];unfold may;simp[h1])
    go_enter Tryz.func92,Tryz.ntmps92
    revert H;refine W51 ?_;intro H
    go_ret
    exact⟨by first|rfl|(rw[HB.out];rfl),H.fr⟩
def zbO(h:Hd):Value:= .agg #[.int .i64 0, .int .i64 0, .slice none 0 0, .slice none 0 0, .slice none 0 0, .bool h.arr, .int .i64 (h.field:Int), .int .i64 (h.sym:Int)]
def zdR{n:Int}(h: -9223372036854775808≤n∧n≤9223372036854775807):wrap64 n=n:=by unfold wrap64;omega
def zcv(w:World)(h:Hd)(m n:Nat)(hs:h.sym≤2)(hm:m≤200)(hn:n≤200){z:Nat}(hz:Hid (zV h.sym m n=z)):
 Calls Tryz.prog 44 #[zbO h, .int .i64 (m:Int), .int .i64 (n:Int)] w fun e w'=>e= .returned (.int .i64 (z:Int))∧Fr [] w w':=by
 have H:=Hp.start [] w;obtain⟨arr,field,sym⟩:=h;simp only at hs hz;have k1:m*(m+1)≤200*201:=Nat.mul_le_mul hm yb;have k2:m*n≤200*200:=Nat.mul_le_mul hm hn;have k3:m*(m-1)≤200*200:=Nat.mul_le_mul hm yb;unfold zbO
 rcases(show sym=0∨sym=1∨sym=2 by omega)with rfl|rfl|rfl
 ·have e1:(m:Int)*(n:Int)=((m*n:Nat):Int):=by rw[Int.natCast_mul]
  have i1:inr .i64 ((m:Int)*(n:Int)):=by rw[e1];simp only[inr];omega
  have E1:=hid e1;clear e1 k1 k2 k3
  go_enter Tryz.func44,Tryz.ntmps44
  revert H;refine W52 ?_;intro g w1 hg H hf
  go_ret
  refine⟨?_,H.fr⟩;rw[E1.out,←hz.out]
  rfl
 ·have e1:(m:Int)*((m:Int)+1)=((m*(m+1):Nat):Int):=by rw[Int.natCast_mul];rfl
  have i1:inr .i64 ((m:Int)*((m:Int)+1)):=by rw[e1];simp only[inr];omega
  have e2:((m:Int)*((m:Int)+1)).tdiv 2=((m*(m+1)/2:Nat):Int):=by rw[e1,Int.tdiv_eq_ediv_of_nonneg yb];omega
  have E2:=hid e2;have KW:=hid (show -9223372036854775808≤((m*(m+1)/2:Nat):Int)∧((m*(m+1)/2:Nat):Int)≤9223372036854775807 from⟨by omega,by omega⟩);clear e1 e2 k1 k2 k3
  go_enter Tryz.func44,Tryz.ntmps44
  revert H;refine W52 ?_;intro _ g w1 hg H hf _ _
  go_ret
  refine⟨?_,H.fr⟩;rw[←hz.out];exact congrArg (fun z=>Ending.returned (.int .i64 z)) ((congrArg wrap64 E2.out).trans ((zdR KW.out).trans rfl))
 ·have e0:(m:Int)*((m:Int)-1)=((m*(m-1):Nat):Int):=by
   rcases Nat.eq_zero_or_pos m with h0|h0
   ·subst h0;rfl
   ·rw[Int.natCast_mul];congr 1;omega
  have i1:inr .i64 ((m:Int)*((m:Int)-1)):=by rw[e0];simp only[inr];omega
  have e2:((m:Int)*((m:Int)-1)).tdiv 2=((m*(m-1)/2:Nat):Int):=by rw[e0,Int.tdiv_eq_ediv_of_nonneg yb];omega
  have E2:=hid e2;have KW:=hid (show -9223372036854775808≤((m*(m-1)/2:Nat):Int)∧((m*(m-1)/2:Nat):Int)≤9223372036854775807 from⟨by omega,by omega⟩);clear e0 e2 k1 k2 k3
  go_enter Tryz.func44,Tryz.ntmps44
  revert H;refine W52 ?_;intro _ g w1 hg H hf _ _
  go_ret
  refine⟨?_,H.fr⟩;rw[←hz.out];exact congrArg (fun z=>Ending.returned (.int .i64 z)) ((congrArg wrap64 E2.out).trans ((zdR KW.out).trans rfl))
def zcu(vs:List (List UInt8))(d:List UInt8):Int:=if d∈vs then(vs.idxOf d:Int)else -1
def zjE:∀(vs:List (List UInt8)) (k:Nat) (d:List UInt8),vs[k]? =some d→d∉vs.take k→vs.idxOf d=k
 | [],k,d,h,_=>by simp at h
 | v::vs,0,d,h,_=>by
  have e:v=d:=by simpa using h
  rw[e,List.idxOf_cons_self]
 | v::vs,k+1,d,h,hn=>by
  rw[List.take_succ_cons,List.mem_cons,not_or]at hn;rw[List.idxOf_cons,zjE vs k d yM hn.2];have e:(v==d)=false:=by simpa using fun e=>hn.1 e.symm
  rw[e];rfl
def zsu{vs:List (List UInt8)}{d:List UInt8}{k:Nat}(hk:vs[k]? =some d)(hn:d∉vs.take k):zcu vs d=k:=by
 unfold zcu;rw[if_pos (List.mem_of_getElem? hk),zjE vs k d hk hn]
def zam(w:World)(vs:List (List UInt8))(d:List UInt8){b n c:Nat}(hn:vs.length=n)(hn2:n≤100)(hc:∀j s,vs[j]? =some s→w.cell? ⟨b,j,none⟩=some (ze s)){z:Int}(hz:Hid (zcu vs d=z)):
 Calls Tryz.prog 69 #[.slice (some ⟨b,0,none⟩) n c,ze d] w fun e w'=>e= .returned (.int .i64 z)∧Fr [] w w':=by
 subst hn;have HC:=hid hc;clear hc;have H:=Hp.start [] w
 go_enter Tryz.func69,Tryz.ntmps69
 revert H;refine W51 ?_;intro H _ _ _
 go_loopw [8] (fun s8 wr=>∃k:Nat,s8= .int .i64 (k:Int)∧k≤vs.length∧Hid (d∉vs.take k)∧Hp [] w wr []) (fun v _=>vs.length-(intOf v).toNat)
 case atStart=>exact⟨0,rfl,Nat.zero_le _,hid yg,H⟩
 case round=>
  clear H;obtain⟨k,rfl,hk,HD,H⟩:=hrel
  by_cases hlt:k<vs.length
  ·obtain⟨s,hs⟩:∃s,vs[k]? =some s:=⟨_,List.getElem?_eq_getElem hlt⟩;have hcell:=H.fr.cell (HC.out k s hs) yg
   by_cases hd:d=s
   ·have hE:Hid ((d==s)=true):=hid (by simp[hd]);have HZ:=hid (show z=(k:Int) by rw[←hz.out];exact zsu (hd ▸ hs) HD.out);revert H;refine W51 ?_;intro H _ _ _
    go_ret
    exact⟨by first|rfl|(rw[HZ.out];rfl),H.fr⟩
   ·have hE:Hid ((d==s)=false):=hid (by simp[hd]);have HD2:=hid (show d∉vs.take (k+1) by rw[List.take_add_one,hs];simp[HD.out,hd]);clear HD;revert H;refine W51 ?_;intro H
    go_roundw
    case rel=>exact⟨k+1,rfl,by omega,HD2,H⟩
    case measure=>(simp[intOf];try omega)
  ·have hke:k=vs.length:=by omega
   have HZ:=hid (show z= -1 by
    rw[←hz.out];unfold zcu
    have:=HD.out
    rw[hke,List.take_length]at this
    rw[if_neg this])
   clear hke;revert H;refine W51 ?_;intro H _ _ _
   go_ret
   exact⟨by first|rfl|(rw[HZ.out];rfl),H.fr⟩
end
section
variable {s:List UInt8} {ws:List (List UInt8)} {k:Nat}
open Go.RowKit
def zhb(c:UInt8):∀l:List UInt8,Lib.index l [c]=Lib.indexByte l c
 | []=>rfl
 | b::l=>by
  rw[Lib.index,Lib.indexByte,zhb c l]
  have e:([c]:List UInt8).isPrefixOf (b::l)=(b==c):=by
   rw[Bool.beq_comm];simp[List.isPrefixOf]
  rw[e]
def zqG(w:World)(s:List UInt8)(hs:s.length≤2000000):Calls Tryz.prog 65 #[ze s, .string (ByteArray.mk #[10])] w fun e w'=>
 ∃g,e= .returned (.slice (some ⟨g,0,none⟩) (nl [] s).length (nl [] s).length)∧Fr [] w w'∧w.heap.size≤g∧w'.heap[g]? =some (.cells ((nl [] s).map ze).toArray 9 (0,0)):=by
 have hsz:(ByteArray.mk s.toArray).size=s.length:=zbs s
 have hcount:Lib.countB ⟨s.toArray⟩ ⟨#[10]⟩=s.count 10:=by
  show Lib.count (ByteArray.mk s.toArray).data.toList [10]=_
  rw[Lib.count_one]
 have hle:s.count 10≤s.length:=List.count_le_length
 have hspl:(Lib.splitB ⟨#[10]⟩ 0 (s.count 10) ⟨s.toArray⟩).map (·.data.toList)=nl [] s:=by
  rw[Lib.splitB_data];exact zhW _ s rfl
 have hlen:(Lib.splitB ⟨#[10]⟩ 0 (s.count 10) ⟨s.toArray⟩).length=s.count 10+1:=Lib.splitB_all _ yf 0 _ _ hcount;have hlen2:(nl [] s).length=s.count 10+1:=by rw[←hspl,List.length_map,hlen]
 have hstr:(Lib.splitB ⟨#[10]⟩ 0 (s.count 10) ⟨s.toArray⟩).map Value.string=(nl [] s).map ze:=by
  rw[←hspl,List.map_map];rfl
 have key:=Any.strings_genSplit_core (P:=Tryz.prog) (ρ:=Tryz.lays146_ren) {Tryz.lays146 with} yh ⟨s.toArray⟩ ⟨#[10]⟩ 0 (-1) (s.count 10+1) w (by rw[hsz]<;>omega) yf yf
  (fun x c hx=>by
   refine Calls.mono (Tryz.strings_Index_one x 10 _) ?_;rintro e w' ⟨rfl,rfl⟩
   exact⟨by rw[←zhb],rfl⟩)
  (by
   refine Calls.mono (Tryz.strings_Count_one ⟨s.toArray⟩ 10 w) ?_;rintro e w' ⟨rfl,rfl⟩;refine⟨?_,rfl⟩;rw[hcount]
   first|done|rfl) yf yf (by rw[hcount,hsz,if_pos yf];omega)
 have H:=Hp.start [] w
 go_enter Tryz.func65,Tryz.ntmps65
 revert H;refine Wa3 ?_;intro H _ _ _ _ _;refine Calls.mono key ?_;rw[Nat.add_sub_cancel,hlen];rintro e w' ⟨rfl,rfl⟩
 have hcells:Lib.cellsOf (Lib.splitB ⟨#[10]⟩ 0 (s.count 10) ⟨s.toArray⟩) (s.count 10+1)=((nl [] s).map ze).toArray:=by
  rw[←hlen,Lib.cellsOf_full,hstr]
 rw[hcells];clear H;have H:=(Hp.start [] w).step (Fr.alloc [] w (.cells ((nl [] s).map ze).toArray 9)) yg;simp only[Int.not_lt,Int.not_le]at*;revert H;refine Wa3 ?_;intro H
 go_ret
 refine⟨w.heap.size,?_,H.fr,Nat.le_refl _,heap_alloc_new w _⟩;rw[hlen2]
 rfl
def zqB(w:World){P:List (List UInt8)}{n:Nat}(h:Hid (nl [] s=P))(hn:Hid (P.length=n+1))(hs:s.length≤2000000):Calls Tryz.prog 65 #[ze s, .string (ByteArray.mk #[10])] w fun e w'=>
 ∃g,e= .returned (.slice (some ⟨g,0,none⟩) (n+1) (n+1))∧Fr [] w w'∧w.heap.size≤g∧w'.heap[g]? =some (.cells (P.map ze).toArray 9 (0,0)):=by
 rw[←hn.out,←h.out];exact zqG w s hs
def ztI(l:List UInt8):Lib.trimSuffix l [13]=zae l:=by
 unfold Lib.trimSuffix zae Lib.hasSuffix
 rcases List.eq_nil_or_concat l with rfl|⟨a,b,rfl⟩
 ·rfl
 ·rw[List.concat_eq_append]
  have e:([13]:List UInt8).isSuffixOf (a++[b])=(b==13):=by
   rw[List.isSuffixOf]
   simp[List.isPrefixOf]
   rw[Bool.beq_comm]
  rw[e,List.getLast?_concat,List.dropLast_concat]
  by_cases h:b=13
  ·simp[h]
  ·simp[h]
def zh9(w:World)(s:List UInt8)(hs:s.length≤2000000):Calls Tryz.prog 66 #[ze s, .string (ByteArray.mk #[13])] w fun e w'=>e= .returned (ze (zae s))∧Fr [] w w':=by
 refine Calls.mono (Tryz.strings_TrimSuffix ⟨s.toArray⟩ ⟨#[13]⟩ w (by rw[zbs];omega)) ?_;rintro e w' ⟨rfl,rfl⟩;refine⟨?_,Fr.refl _ _⟩;rw[show(ByteArray.mk s.toArray).data.toList=s by simp]
 show Ending.returned (.string ⟨(Lib.trimSuffix s [13]).toArray⟩)=_
 rw[ztI]
 rfl
def zie(h:ws[k]? =some s):(((ws.take k).map zae++ws.drop k).map ze).set k (ze (zae s))=((ws.take (k+1)).map zae++ws.drop (k+1)).map ze:=by
 obtain⟨hlt,rfl⟩:=List.getElem?_eq_some_iff.1 h;rw[←List.map_set,List.set_append_right _ _ yn];simp only[List.length_map,List.length_take,Nat.min_eq_left (Nat.le_of_lt hlt),Nat.sub_self];rw[List.drop_eq_getElem_cons hlt,List.set_cons_zero,List.take_add_one,h];simp only[Option.toList_some,List.map_append,List.map_cons,List.map_nil,List.append_assoc,List.singleton_append]
def zjR(h:ws[k]? =some s):(((ws.take k).map zae++ws.drop k).map ze)[k]? =some (ze s):=by
 obtain⟨hlt,he⟩:=List.getElem?_eq_some_iff.1 h;rw[List.getElem?_map,List.getElem?_append_right yn];simp only[List.length_map,List.length_take,Nat.min_eq_left (Nat.le_of_lt hlt),Nat.sub_self,List.getElem?_drop,Nat.add_zero];rw[h];rfl
def zhB:∀(r cur x:List UInt8),x∈nl cur r→x.length≤cur.length+r.length
 | [],cur,x,h=>by
  unfold nl at h;rw[List.mem_singleton]at h;subst h;omega
 | b::r,cur,x,h=>by
  unfold nl at h;rw[List.length_cons]
  split at h
  ·rcases List.mem_cons.1 h with h|h
   ·subst h;omega
   ·have:=zhB r _ x h;rw[List.length_nil]at this;omega
  ·have:=zhB r _ x h;rw[List.length_append,List.length_singleton]at this;omega
def zgf:∀(r cur:List UInt8),(nl cur r).length≤r.length+1
 | [],cur=>by unfold nl;simp
 | b::r,cur=>by
  unfold nl
  split
  ·have:=zgf r [];rw[List.length_cons,List.length_cons];omega
  ·have:=zgf r (cur++[b]);rw[List.length_cons];omega
def zoJ(w:World)(s:List UInt8)(hs:s.length≤1500000){v:Value}(hv:Rd w v s.length (zx s)):Calls Tryz.prog 25 #[v] w fun e w'=>
 ∃g,e= .returned (.slice (some ⟨g,0,none⟩) (zak s).length (nl [] s).length)∧Fr [] w w'∧w.heap.size≤g∧g<w'.heap.size∧∀j x,(zak s)[j]? =some x→w'.cell? ⟨g,j,none⟩=some (ze x):=by
 have HV:=hid hv;clear hv;have hml:zak s=(zbE (nl [] s)).map zae:=zjk s [];have H:=Hp.start [] w;obtain⟨P,hP⟩:∃P,nl [] s=P:=⟨_,rfl⟩;have hPc:=zgf s [];have HPZ:=hid (show ∀x∈P,x.length≤2000000 from fun x hx=>Nat.le_trans (zhB s [] x (hP ▸ hx)) (by rw[List.length_nil];omega));have hPn:=zl9 s [];rw[hP]at hPc hPn hml;obtain⟨n,hn⟩:∃n,P.length=n+1:=⟨P.length-1,by have:=List.length_pos_iff.2 hPn;omega⟩;obtain⟨z,hz⟩:∃z,P[n]? =some z:=⟨_,List.getElem?_eq_getElem yb⟩;have hlast:P.getLast? =some z:=by rw[List.getLast?_eq_getElem?,hn];exact hz
 have hzs:(P.map ze)[n]? =some (ze z):=by rw[List.getElem?_map,hz];rfl
 have hSP:=hid hP;have HCP:=hid (show(nl [] s).length=n+1 by rw[hP];exact hn)
 go_enter Tryz.func25,Tryz.ntmps25
 revert H;refine Wa4 ?_;intro H _ _ _ _ _
 (have H0:=H;refine Calls.mono (zqB _ hSP (hid hn) yb) ?_;clear H;rintro e w1 ⟨q,rfl,hF,hq,hc⟩;have HQ:=hid (Nat.le_trans H0.fr.size hq);have H:=H0.bornB hF hq hc;clear H0;clear hF hq hc)
 by_cases hz0:z=[]
 ·have HZ:=hid (show(z==[])=true by simp[hz0]);obtain⟨m,hm⟩:∃m,n=m:=⟨_,rfl⟩
  have htl:zbE P=P.take m:=by
   unfold zbE;rw[hlast,hz0,if_pos rfl,List.dropLast_eq_take,hn,hm]
   rfl
  have HLM:=hid (show(zak s).length=m by rw[hml,htl,List.length_map,List.length_take];omega)
  have HT:=hid (show ∀(j:Nat) (y:List UInt8),(zak s)[j]? =some y→((P.take m).map zae++P.drop m)[j]? =some y by
   intro j y hj;rw[hml,htl]at hj;rw[List.getElem?_append_left (List.getElem?_eq_some_iff.1 hj).1]
   exact hj)
  have hzm:(P.map ze)[m]? =some (ze z):=by rw[←hm];exact hzs
  clear hml htl hP hlast hz hz0 hPn hSP hzm;subst hm;simp only[Int.not_lt,Int.not_le]at*;revert H;refine Wa3 ?_;intro H _ _
  go_loopw [23] (fun s23 wr=>∃(k:Nat) (cs:List Value),s23= .int .i64 (k:Int)∧k≤n∧cs.length=P.length∧Hid (cs=((P.take k).map zae++P.drop k).map ze)∧Hp [] w wr [.blk q cs 9]) (fun v _=>n-(intOf v).toNat)
  case atStart=>exact⟨0,P.map ze,rfl,Nat.zero_le _,by simp,hid yg,H⟩
  case round=>
   clear H;obtain⟨k,cs,rfl,hk,hcl,HC,H⟩:=hrel
   by_cases hlt:k<n
   ·obtain⟨x,hx⟩:∃x,P[k]? =some x:=⟨_,List.getElem?_eq_getElem yb⟩;have hget:cs[k]? =some (ze x):=by rw[HC.out];exact zjR hx
    have HC2:=hid (show cs.set k (ze (zae x))=((P.take (k+1)).map zae++P.drop (k+1)).map ze by rw[HC.out];exact zie hx);have hxl:=HPZ.out x (List.mem_of_getElem? hx);clear HC;revert H;refine Wa3 ?_;intro H _ _ _ _ _;(refine xA H (zh9 _ x yb) ?_;clear H;intro w1 H);simp only[Int.not_lt,Int.not_le]at*;revert H;refine Wa3 ?_;intro w1 H
    go_roundw
    case rel=>exact⟨k+1,_,rfl,by omega,by rw[List.length_set];exact hcl,HC2,H⟩
    case measure=>(simp[intOf];try omega)
   ·have hke:k=n:=by omega
    subst hke;clear hlt;revert H;refine Wa3 ?_;intro H _ _ _
    go_ret
    refine⟨q,?_,H.fr,HQ.out,H.lt (.head _),?_⟩
    ·rw[HLM.out,HCP.out];rfl
    ·intro j y hj;refine H.blkCell (.head _) ?_;rw[HC.out,List.getElem?_map,HT.out j y hj]
     rfl
 ·have HZ:=hid (show(z==[])=false by simp[hz0]);obtain⟨m,hm⟩:∃m,P.length=m:=⟨_,rfl⟩
  have htl:zbE P=P:=by
   unfold zbE;rw[hlast,if_neg (by simp[hz0])]
  have HLM:=hid (show(zak s).length=m by rw[hml,htl,List.length_map];omega)
  have HT:=hid (show ∀(j:Nat) (y:List UInt8),(zak s)[j]? =some y→((P.take m).map zae++P.drop m)[j]? =some y by
   intro j y hj;rw[hml,htl]at hj;rw[←hm,List.take_length,List.drop_length,List.append_nil]
   exact hj)
  obtain rfl:m=n+1:=by omega
  clear hml htl hP hlast hz hz0 hPn hSP;simp only[Int.not_lt,Int.not_le]at*;revert H;refine Wa3 ?_;intro H _ _
  go_loopw [23] (fun s23 wr=>∃(k:Nat) (cs:List Value),s23= .int .i64 (k:Int)∧k≤(n+1)∧cs.length=P.length∧Hid (cs=((P.take k).map zae++P.drop k).map ze)∧Hp [] w wr [.blk q cs 9]) (fun v _=>(n+1)-(intOf v).toNat)
  case atStart=>exact⟨0,P.map ze,rfl,Nat.zero_le _,by simp,hid yg,H⟩
  case round=>
   clear H;obtain⟨k,cs,rfl,hk,hcl,HC,H⟩:=hrel
   by_cases hlt:k<(n+1)
   ·obtain⟨x,hx⟩:∃x,P[k]? =some x:=⟨_,List.getElem?_eq_getElem yb⟩;have hget:cs[k]? =some (ze x):=by rw[HC.out];exact zjR hx
    have HC2:=hid (show cs.set k (ze (zae x))=((P.take (k+1)).map zae++P.drop (k+1)).map ze by rw[HC.out];exact zie hx);have hxl:=HPZ.out x (List.mem_of_getElem? hx);clear HC;revert H;refine Wa3 ?_;intro H _ _ _ _ _;(refine xA H (zh9 _ x yb) ?_;clear H;intro w1 H);simp only[Int.not_lt,Int.not_le]at*;revert H;refine Wa3 ?_;intro w1 H
    go_roundw
    case rel=>exact⟨k+1,_,rfl,by omega,by rw[List.length_set];exact hcl,HC2,H⟩
    case measure=>(simp[intOf];try omega)
   ·have hke:k=(n+1):=by omega
    subst hke;clear hlt;revert H;refine Wa3 ?_;intro H _ _ _
    go_ret
    refine⟨q,?_,H.fr,HQ.out,H.lt (.head _),?_⟩
    ·rw[HLM.out,HCP.out];rfl
    ·intro j y hj;refine H.blkCell (.head _) ?_;rw[HC.out,List.getElem?_map,HT.out j y hj]
     rfl
end
end Go.Proofs.YtaijhllckmndhaaGreatDoor
