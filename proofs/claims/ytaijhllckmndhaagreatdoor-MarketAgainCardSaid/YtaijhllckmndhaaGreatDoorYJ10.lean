import Derived.Test.YtaijhllckmndhaaGreatDoorYJ0
import Derived.Test.YtaijhllckmndhaaGreatDoorYJ9
import Derived.Deep.DeepCutAuto
import Derived.Deep.CutBlock
namespace Go.Proofs.YtaijhllckmndhaaGreatDoor
set_option linter.all false
set_option maxHeartbeats 64000000
set_option maxRecDepth 100000
section
variable {w:World} {n c:Nat} {p:Option Addr}
open Go.RowKit
def LR.of_owns{base:Nat}{e:TypeId}{v:Value}{l:List Nat}(h:w.ownsRow base e 1 v n (zj l))(lm:Lim l):∃p c,v= .slice p l.length c∧l.length=n∧LR w p c l:=by
 obtain⟨S,h1,_⟩:=RowAt.of_owns h;exact LR.of_row h1 lm
def zc9(l:List Nat)(hl:l.length=n)(hn:n≤1000000)(h:LR w p c l):
 Calls Tryz.prog 145 #[.slice p n c] w fun e w'=>∃p' c',e= .returned (.slice p' n c')∧Fr [] w w'∧LR w' p' c' l:=by
 subst hl;have Hh:=hid h;have H:=(Hp.start [] w).newRow 0 (e:=160) (sz:=1)
 cases p with
 | none=>
  have h0:l=[]:=by
   rcases h.rd with⟨h,_⟩|⟨ad,c',h,_⟩
   ·exact List.eq_nil_of_length_eq_zero h
   ·cases h
  subst h0;obtain rfl:=h.nil rfl;clear h Hh
  go_enter Tryz.func145,Tryz.ntmps145
  go_wp2_with(first|refine x_q H ?_|refine zm ?_ ?_<;>intro h|(revert H;(first|(refine x_g ?_;intro g w1 hg hf H)|(refine x_s ?_;intro w1 hf H));(try clear hf)))
  go_ret
  exact⟨none,0,rfl,H.fr,LR.zero _⟩
 | some ad=>
  clear h
  by_cases h0:l.length<1
  ·have h1:l=[]:=List.eq_nil_of_length_eq_zero yb;subst h1
   go_enter Tryz.func145,Tryz.ntmps145
   go_wp2_with(first|refine x_q H ?_|refine zm ?_ ?_<;>intro h|(refine zcf rfl ?_;refine zaB rfl (fun K hK=>zez H rfl ym rfl yq yf yf (fun g w1 hg hf H1=>hK _ _ ?_));(clear hK K);(clear H;have H:=H1;clear H1;(try dsimp only at H);(try clear hf));(simp only[nrm,↓reduceIte,Nat.reduceAdd]))|(refine zbI (b:= .append) rfl ?_;refine zaB rfl (fun K hK=>zrQ H rfl rfl rfl yb (fun w1 hf H1=>hK _ _ ?_));(clear hK K);(clear H;have H:=H1;clear H1;(try dsimp only at H);(try clear hf));(simp only[nrm,↓reduceIte,Nat.reduceAdd]))|(revert H;(first|(refine x_g ?_;intro g w1 hg hf H)|(refine x_s ?_;intro w1 hf H));(try clear hf)))
   go_ret
   exact⟨_,_,rfl,H.fr,⟨fun h=>(by cases h),Nat.zero_le _,by unfold maxLen;omega,Lim.nil, .inl ⟨rfl,rfl,_,_,rfl⟩⟩⟩
  ·go_enter Tryz.func145,Tryz.ntmps145
   go_wp2_with(first|refine x_q H ?_|refine zm ?_ ?_<;>intro h|(refine zcf rfl ?_;refine zaB rfl (fun K hK=>zez H rfl ym rfl yq yf yf (fun g w1 hg hf H1=>hK _ _ ?_));(clear hK K);(clear H;have H:=H1;clear H1;(try dsimp only at H);(try clear hf));(simp only[nrm,↓reduceIte,Nat.reduceAdd]))|(refine zbI (b:= .append) rfl ?_;go_loud (refine zaB rfl (fun K hK=>zrR H rfl rfl rfl List.prefix_rfl rfl rfl (Nat.zero_le _) (Hh.out.rd.fr H.fr yg) (by rw[zbT,Nat.mul_one]) (znK _) yb yb (by first|omega|(unfold maxLen;omega)) (fun g w1 cap pad hg hc hcm hpl hf H1=>hK _ _ ?_)));(clear hK K);(clear H;have H:=H1;clear H1;(try dsimp only at H);(try clear hf));(simp only[nrm,↓reduceIte,Nat.reduceAdd]))|(revert H;(first|(refine x_g ?_;intro g w1 hg hf H)|(refine x_s ?_;intro w1 hf H));(try clear hf)))
   go_ret
   exact⟨_,_,by simp;rfl,H.fr,LR.of_blk (by simpa using H.at g) Hh.out.lim yb hcm⟩
def zqw(neg:Bool)(l:List Nat)(hl:l.length=n)(hn:n≤1000000)(h:LR w p c l):
 Calls Tryz.prog 210 #[.agg #[.bool neg, .slice p n c]] w fun e w'=>Big e w w' (zv neg l):=by
 have Hh:=hid h;have Hl:=hid hl;have H:=Hp.start [] w;clear h hl
 go_enter Tryz.func210,Tryz.ntmps210
 revert H;refine W00 ?_;intro _ _ _ _ g w1 hg H _ _
 (revert H;refine w_p 6 (.st 0 (.st 1 (.st 2 (.st 3 (.ld 4 (.ld 5 (.ld 6 .done))))))) ?_;intro w1 H)
 iterate 4 refine p_q ?_
 ((refine zag rfl rfl (fun K hK=>zdq rfl Tryz.func145 yh rfl (zc9 l Hl.out hn (Hh.out.fr H.fr)) (fun e w1 hpost=>?_)));obtain⟨p2,c2,rfl,hF,hL⟩:=hpost;refine⟨_,rfl,?_⟩;have HL2:=hid hL;clear hL;have H1:=H.step hF yg ;refine hK _ _ (fun hne=>by first|exact absurd rfl hne|exact H1.sub yd) ?_;clear hK K;(clear H;have H:=H1;clear H1);(simp only[nrm,↓reduceIte,Nat.reduceAdd]))
 ((refine zag rfl rfl (fun K hK=>zdq rfl Tryz.func178 yh rfl (zM neg l Hl.out (HL2.out)) (fun e w1 hpost=>?_)));obtain⟨p3,c3,rfl,hF,hL⟩:=hpost;refine⟨_,rfl,?_⟩;have HB2:=hid hL;clear hL;have H1:=H.step hF yg ;refine hK _ _ (fun hne=>by first|exact absurd rfl hne|exact H1.sub yd) ?_;clear hK K;(clear H;have H:=H1;clear H1);(simp only[nrm,↓reduceIte,Nat.reduceAdd]))
 (revert H;refine zcQ ?_;intro w1 hf H hk;have hk2:=hid hk;clear hk;(try clear hf))
 (refine zf ?_)
 all_goals
  revert H;refine W05 ?_;intro H;refine zk H rfl rfl rfl ?_;exact⟨p3,c3,rfl,H.fr,hk2.out _ _ _ HB2.out⟩
def zsG(neg:Bool)(l:List Nat)(hl:l.length=n)(hn:n≤1000000)(h:LR w p c l):
 Calls Tryz.prog 140 #[.agg #[.bool neg, .slice p n c]] w fun e w'=>Big e w w' (zv (!neg) l):=by
 have Hh:=hid h;have Hl:=hid hl;have H:=Hp.start [] w;clear h hl
 go_enter Tryz.func140,Tryz.ntmps140
 revert H;refine W00 ?_;intro _ _ _ _ g w1 hg H _ _
 (revert H;refine w_p 7 (.st 0 (.st 1 (.st 2 (.st 3 (.st 4 (.ld 5 (.ld 6 (.ld 7 .done)))))))) ?_;intro w1 H)
 iterate 5 refine p_q ?_
 ((refine zag rfl rfl (fun K hK=>zdq rfl Tryz.func145 yh rfl (zc9 l Hl.out hn (Hh.out.fr H.fr)) (fun e w1 hpost=>?_)));obtain⟨p2,c2,rfl,hF,hL⟩:=hpost;refine⟨_,rfl,?_⟩;have HL2:=hid hL;clear hL;have H1:=H.step hF yg ;refine hK _ _ (fun hne=>by first|exact absurd rfl hne|exact H1.sub yd) ?_;clear hK K;(clear H;have H:=H1;clear H1);(simp only[nrm,↓reduceIte,Nat.reduceAdd]))
 ((refine zag rfl rfl (fun K hK=>zdq rfl Tryz.func178 yh rfl (zM (!neg) l Hl.out (HL2.out)) (fun e w1 hpost=>?_)));obtain⟨p3,c3,rfl,hF,hL⟩:=hpost;refine⟨_,rfl,?_⟩;have HB2:=hid hL;clear hL;have H1:=H.step hF yg ;refine hK _ _ (fun hne=>by first|exact absurd rfl hne|exact H1.sub yd) ?_;clear hK K;(clear H;have H:=H1;clear H1);(simp only[nrm,↓reduceIte,Nat.reduceAdd]))
 (revert H;refine zcQ ?_;intro w1 hf H hk;have hk2:=hid hk;clear hk;(try clear hf))
 (refine zf ?_)
 all_goals
  revert H;refine W05 ?_;intro H;refine zk H rfl rfl rfl ?_;exact⟨p3,c3,rfl,H.fr,hk2.out _ _ _ HB2.out⟩
def zse(neg:Bool)(l:List Nat)(hl:l.length=n)(hn:n≤1000000)(h:LR w p c l):
 Calls Tryz.prog 245 #[.agg #[.bool neg, .slice p n c]] w fun e w'=>Big e w w' (zv false l):=by
 have Hh:=hid h;have Hl:=hid hl;have H:=Hp.start [] w;clear h hl
 go_enter Tryz.func245,Tryz.ntmps245
 revert H;refine W00 ?_;intro _ _ _ _ g w1 hg H _ _ _ _;refine Calls.mono (zc9 l Hl.out hn (Hh.out.fr H.fr)) ?_;rintro e w1 ⟨p2,c2,rfl,hF,hL⟩;have HL2:=hid hL;have H1:=H.step hF yg;clear H hF hL;have H:=H1;clear H1;revert H;refine W00 ?_;intro H _ _;refine Calls.mono (zM false l Hl.out HL2.out) ?_;rintro e w1 ⟨p3,c3,rfl,hF,hL⟩;have HB2:=hid hL;have H1:=H.step hF yg;clear H hF hL;have H:=H1;clear H1;revert H;refine W05 ?_;intro w1 H hk2;refine zk H rfl rfl rfl ?_;exact⟨p3,c3,rfl,H.fr,hk2.out _ _ _ HB2.out⟩
end
section
variable {na nb:Bool} {la lb:List Nat} {a b:Nat}
open Go.RowKit
def zeb(n:Bool)(A:Nat):zv n (zd A)=if n then -(A:Int)else(A:Int):=by unfold zv;rw[zg]
def zlt(n:Bool)(la lb:List Nat):zv n (zd (val la+val lb))=zv n la+zv n lb:=by
 rw[zeb];unfold zv;cases n<;>simp<;>omega
def zik(h:na≠nb)(hle:val lb≤val la):zv na (zd (val la-val lb))=zv na la+zv nb lb:=by
 rw[zeb];unfold zv;cases na<;>cases nb<;>simp at* <;>omega
def zic(h:na≠nb)(hle:val la≤val lb):zv nb (zd (val lb-val la))=zv na la+zv nb lb:=by
 rw[zeb];unfold zv;cases na<;>cases nb<;>simp at* <;>omega
def zoh(n:Bool)(l:List Nat):zv (!n) l= -zv n l:=by unfold zv;cases n<;>simp
def zcV(h:b≤a):0≤zC a b:=by
 rcases Nat.lt_or_ge b a with h1|h1
 ·rw[zb2 yb];decide
 ·rw[show a=b by omega,zem];decide
def zgk(h:a<b):zC a b<0:=by rw[zbr yb];decide
def za6(h:a≤b):(zd a).length≤(zd b).length:=by
 apply Classical.byContradiction
 intro hn
 have:=zd4 (n:=b) (m:=a) yb
 omega
def zls{w:World}{p q:Option Addr}{n m c d:Nat}(na nb:Bool)(la lb:List Nat)(hn:la.length=n)(hm:lb.length=m)(hn0:n≤1000000)(hm0:m≤1000000)(h:LR w p c la)(k:LR w q d lb):
 Calls Tryz.prog 258 #[.agg #[.bool na, .slice p n c], .agg #[.bool nb, .slice q m d]] w fun e w'=>Big e w w' (zv na la+zv nb lb):=by
 subst hn hm;have Hh:=hid h;have Hk:=hid k;have hla:=zI h.lim;have hlb:=zI k.lim;have H:=Hp.start [] w;clear h k
 go_enter Tryz.func258,Tryz.ntmps258
 go_upto_region 1 with(first|refine x_q H ?_|refine zm (fun h=>?_) (fun h=>?_)|(revert H;(first|(refine x_g ?_;intro g w1 hg hf H)|(refine x_s ?_;intro w1 hf H));(try clear hf)))
 go_cut [2,3,4,5,6] (fun s2 s3 s4 s5 s6 wx=>∃g1 g2 g3:Nat,s2= .pointer (some ⟨g1,0,none⟩)∧s3= .pointer (some ⟨g2,0,none⟩)∧s4= .pointer (some ⟨g3,0,none⟩)∧s5= .slice p (zd (val la)).length c∧s6= .slice q (zd (val lb)).length d∧Hp [] w wx [.blk g3 [.bool false, .slice none 0 0] 118, .blk g2 [.bool nb, .slice q lb.length d] 118, .blk g1 [.bool na, .slice p la.length c] 118])
 case first=>
  (revert H;refine w_p 8 (.st 0 (.st 1 (.st 3 (.st 4 (.ld 2 (.ld 5 (.st 6 (.st 7 .done)))))))) ?_;intro w1 H)
  iterate 4 refine p_q ?_
  ((refine p_c H rfl rfl Tryz.func146 (zt la rfl (Hh.out.fr H.fr)) ?_;clear H;rintro e w1 ⟨rfl,hF⟩ H;refine p_r ?_);skip)
  ((refine p_c H rfl rfl Tryz.func146 (zt lb rfl (Hk.out.fr H.fr)) ?_;clear H;rintro e w1 ⟨rfl,hF⟩ H;refine p_r ?_);skip)
  iterate 2 refine p_q ?_
  (refine zf ?_)
  all_goals
   revert H;refine W00 ?_;intro H
   go_meet
   case rel=>exact⟨_,_,_,rfl,rfl,rfl,rfl,rfl,H⟩
 case rest=>
  clear H;obtain⟨g1,g2,g3,rfl,rfl,rfl,rfl,rfl,H⟩:=hcut;have hA:=hid (Hh.out.trim);have hB:=hid (Hk.out.trim)
  cases na<;>cases nb
  ·revert H;refine W00 ?_;intro H _ _ _ _ _
   (revert H;refine w_p 6 (.st 0 (.st 1 (.st 2 (.st 3 (.ld 4 (.ld 5 (.ld 6 .done))))))) ?_;intro w1 H)
   iterate 4 refine p_q ?_
   ((refine p_c H rfl rfl Tryz.func176 (zcl (zd (val la)) (zd (val lb)) rfl rfl yb yb (hA.out.fr H.fr) (hB.out.fr H.fr)) ?_;clear H;rintro e w1 ⟨p5,c5,rfl,hF,hL⟩ H;refine p_r ?_);have HL5:=hid hL;clear hL)
   ((refine p_c H rfl rfl Tryz.func178 (zM false _ rfl HL5.out) ?_;clear H;rintro e w1 ⟨p6,c6,rfl,hF,hL⟩ H;refine p_r ?_);have HL6:=hid hL;clear hL)
   (revert H;refine zcQ ?_;intro w1 hf H hk;have hk2:=hid hk;clear hk;(try clear hf))
   (refine zf ?_)
   all_goals
    revert H;refine W00 ?_;intro H;refine zk H rfl rfl rfl ?_;have hz:zv false (zd (val (zd (val la))+val (zd (val lb))))=zv false la+zv false lb:=(by rw[zg,zg];exact zlt _ la lb);rw[hz]at HL6;refine⟨p6,c6,?_,H.fr,hk2.out _ _ _ HL6.out⟩;rw[hz]
  ·rcases Nat.lt_or_ge (val la) (val lb)with hlt|hge
   ·have hc:=zgk hlt;have hlen:=za6 (Nat.le_of_lt hlt);have hlt:=hid hlt;revert H;refine W00 ?_;intro H _ _ _ _ _ _ _;(refine x_c H (za5 (val la) (val lb) rfl rfl (hA.out.fr H.fr) (hB.out.fr H.fr)) ?_;clear H;rintro e w1 ⟨rfl,hF⟩ H);generalize zC (val la) (val lb)=z at hc ⊢;revert H;refine W00 ?_;intro H _ _
    (revert H;refine w_p 6 (.st 0 (.st 1 (.st 2 (.st 3 (.ld 4 (.ld 5 (.ld 6 .done))))))) ?_;intro w1 H)
    iterate 4 refine p_q ?_
    ((refine p_c H rfl rfl Tryz.func301 (zc4 (zd (val lb)) (zd (val la)) rfl rfl hlen yb (by rw[zg,zg];exact Nat.le_of_lt hlt.out) (hB.out.fr H.fr) (hA.out.fr H.fr)) ?_;clear H;rintro e w1 ⟨p5,c5,rfl,hF,hL⟩ H;refine p_r ?_);have HL5:=hid hL;clear hL)
    ((refine p_c H rfl rfl Tryz.func178 (zM true _ rfl HL5.out) ?_;clear H;rintro e w1 ⟨p6,c6,rfl,hF,hL⟩ H;refine p_r ?_);have HL6:=hid hL;clear hL)
    (revert H;refine zcQ ?_;intro w1 hf H hk;have hk2:=hid hk;clear hk;(try clear hf))
    (refine zf ?_)
    all_goals
     revert H;refine W00 ?_;intro H;refine zk H rfl rfl rfl ?_;have hz:zv true (zd (val (zd (val lb))-val (zd (val la))))=zv false la+zv true lb:=(by rw[zg,zg];exact zic yf (Nat.le_of_lt hlt.out));rw[hz]at HL6;refine⟨p6,c6,?_,H.fr,hk2.out _ _ _ HL6.out⟩;rw[hz]
   ·have hc:=zcV hge;have hlen:=za6 hge;have hge:=hid hge;revert H;refine W00 ?_;intro H _ _ _ _ _ _ _;(refine x_c H (za5 (val la) (val lb) rfl rfl (hA.out.fr H.fr) (hB.out.fr H.fr)) ?_;clear H;rintro e w1 ⟨rfl,hF⟩ H);generalize zC (val la) (val lb)=z at hc ⊢;revert H;refine W00 ?_;intro H _ _
    (revert H;refine w_p 6 (.st 0 (.st 1 (.st 2 (.st 3 (.ld 4 (.ld 5 (.ld 6 .done))))))) ?_;intro w1 H)
    iterate 4 refine p_q ?_
    ((refine p_c H rfl rfl Tryz.func301 (zc4 (zd (val la)) (zd (val lb)) rfl rfl hlen yb (by rw[zg,zg];exact hge.out) (hA.out.fr H.fr) (hB.out.fr H.fr)) ?_;clear H;rintro e w1 ⟨p5,c5,rfl,hF,hL⟩ H;refine p_r ?_);have HL5:=hid hL;clear hL)
    ((refine p_c H rfl rfl Tryz.func178 (zM false _ rfl HL5.out) ?_;clear H;rintro e w1 ⟨p6,c6,rfl,hF,hL⟩ H;refine p_r ?_);have HL6:=hid hL;clear hL)
    (revert H;refine zcQ ?_;intro w1 hf H hk;have hk2:=hid hk;clear hk;(try clear hf))
    (refine zf ?_)
    all_goals
     revert H;refine W00 ?_;intro H;refine zk H rfl rfl rfl ?_;have hz:zv false (zd (val (zd (val la))-val (zd (val lb))))=zv false la+zv true lb:=(by rw[zg,zg];exact zik yf hge.out);rw[hz]at HL6;refine⟨p6,c6,?_,H.fr,hk2.out _ _ _ HL6.out⟩;rw[hz]
  ·rcases Nat.lt_or_ge (val la) (val lb)with hlt|hge
   ·have hc:=zgk hlt;have hlen:=za6 (Nat.le_of_lt hlt);have hlt:=hid hlt;revert H;refine W00 ?_;intro H _ _ _ _ _ _ _;(refine x_c H (za5 (val la) (val lb) rfl rfl (hA.out.fr H.fr) (hB.out.fr H.fr)) ?_;clear H;rintro e w1 ⟨rfl,hF⟩ H);generalize zC (val la) (val lb)=z at hc ⊢;revert H;refine W00 ?_;intro H _ _
    (revert H;refine w_p 6 (.st 0 (.st 1 (.st 2 (.st 3 (.ld 4 (.ld 5 (.ld 6 .done))))))) ?_;intro w1 H)
    iterate 4 refine p_q ?_
    ((refine p_c H rfl rfl Tryz.func301 (zc4 (zd (val lb)) (zd (val la)) rfl rfl hlen yb (by rw[zg,zg];exact Nat.le_of_lt hlt.out) (hB.out.fr H.fr) (hA.out.fr H.fr)) ?_;clear H;rintro e w1 ⟨p5,c5,rfl,hF,hL⟩ H;refine p_r ?_);have HL5:=hid hL;clear hL)
    ((refine p_c H rfl rfl Tryz.func178 (zM false _ rfl HL5.out) ?_;clear H;rintro e w1 ⟨p6,c6,rfl,hF,hL⟩ H;refine p_r ?_);have HL6:=hid hL;clear hL)
    (revert H;refine zcQ ?_;intro w1 hf H hk;have hk2:=hid hk;clear hk;(try clear hf))
    (refine zf ?_)
    all_goals
     revert H;refine W00 ?_;intro H;refine zk H rfl rfl rfl ?_;have hz:zv false (zd (val (zd (val lb))-val (zd (val la))))=zv true la+zv false lb:=(by rw[zg,zg];exact zic yf (Nat.le_of_lt hlt.out));rw[hz]at HL6;refine⟨p6,c6,?_,H.fr,hk2.out _ _ _ HL6.out⟩;rw[hz]
   ·have hc:=zcV hge;have hlen:=za6 hge;have hge:=hid hge;revert H;refine W00 ?_;intro H _ _ _ _ _ _ _;(refine x_c H (za5 (val la) (val lb) rfl rfl (hA.out.fr H.fr) (hB.out.fr H.fr)) ?_;clear H;rintro e w1 ⟨rfl,hF⟩ H);generalize zC (val la) (val lb)=z at hc ⊢;revert H;refine W00 ?_;intro H _ _
    (revert H;refine w_p 6 (.st 0 (.st 1 (.st 2 (.st 3 (.ld 4 (.ld 5 (.ld 6 .done))))))) ?_;intro w1 H)
    iterate 4 refine p_q ?_
    ((refine p_c H rfl rfl Tryz.func301 (zc4 (zd (val la)) (zd (val lb)) rfl rfl hlen yb (by rw[zg,zg];exact hge.out) (hA.out.fr H.fr) (hB.out.fr H.fr)) ?_;clear H;rintro e w1 ⟨p5,c5,rfl,hF,hL⟩ H;refine p_r ?_);have HL5:=hid hL;clear hL)
    ((refine p_c H rfl rfl Tryz.func178 (zM true _ rfl HL5.out) ?_;clear H;rintro e w1 ⟨p6,c6,rfl,hF,hL⟩ H;refine p_r ?_);have HL6:=hid hL;clear hL)
    (revert H;refine zcQ ?_;intro w1 hf H hk;have hk2:=hid hk;clear hk;(try clear hf))
    (refine zf ?_)
    all_goals
     revert H;refine W00 ?_;intro H;refine zk H rfl rfl rfl ?_;have hz:zv true (zd (val (zd (val la))-val (zd (val lb))))=zv true la+zv false lb:=(by rw[zg,zg];exact zik yf hge.out);rw[hz]at HL6;refine⟨p6,c6,?_,H.fr,hk2.out _ _ _ HL6.out⟩;rw[hz]
  ·revert H;refine W00 ?_;intro H _ _ _ _ _
   (revert H;refine w_p 6 (.st 0 (.st 1 (.st 2 (.st 3 (.ld 4 (.ld 5 (.ld 6 .done))))))) ?_;intro w1 H)
   iterate 4 refine p_q ?_
   ((refine p_c H rfl rfl Tryz.func176 (zcl (zd (val la)) (zd (val lb)) rfl rfl yb yb (hA.out.fr H.fr) (hB.out.fr H.fr)) ?_;clear H;rintro e w1 ⟨p5,c5,rfl,hF,hL⟩ H;refine p_r ?_);have HL5:=hid hL;clear hL)
   ((refine p_c H rfl rfl Tryz.func178 (zM true _ rfl HL5.out) ?_;clear H;rintro e w1 ⟨p6,c6,rfl,hF,hL⟩ H;refine p_r ?_);have HL6:=hid hL;clear hL)
   (revert H;refine zcQ ?_;intro w1 hf H hk;have hk2:=hid hk;clear hk;(try clear hf))
   (refine zf ?_)
   all_goals
    revert H;refine W00 ?_;intro H;refine zk H rfl rfl rfl ?_;have hz:zv true (zd (val (zd (val la))+val (zd (val lb))))=zv true la+zv true lb:=(by rw[zg,zg];exact zlt _ la lb);rw[hz]at HL6;refine⟨p6,c6,?_,H.fr,hk2.out _ _ _ HL6.out⟩;rw[hz]
end
section
open Go.RowKit
def zs4{w:World}{p q:Option Addr}{n m c d:Nat}(na nb:Bool)(la lb:List Nat)(hn:la.length=n)(hm:lb.length=m)(hn0:n≤1000000)(hm0:m≤1000000)(h:LR w p c la)(k:LR w q d lb):
 Calls Tryz.prog 312 #[.agg #[.bool na, .slice p n c], .agg #[.bool nb, .slice q m d]] w fun e w'=>Big e w w' (zv na la-zv nb lb):=by
 have Hh:=hid h;have Hk:=hid k;have H:=Hp.start [] w;have HZ:Hid (zv na la+zv (!nb) lb=zv na la-zv nb lb):=hid (by rw[zoh];omega);have Hn:=hid hn;have Hm:=hid hm;clear h k hn hm
 go_enter Tryz.func312,Tryz.ntmps312
 revert H;refine W00 ?_;intro _ _ _ _ _ _ _ g _ hg w1 H _ _ _ _;refine Calls.mono (zls na (!nb) la lb Hn.out Hm.out hn0 hm0 (Hh.out.fr H.fr) (Hk.out.fr H.fr)) ?_;rintro e w1 ⟨p3,c3,rfl,hF,hL⟩;rw[HZ.out]at hL ⊢;have HB2:=hid hL;have H1:=H.step hF yg;clear H hF hL;have H:=H1;clear H1;revert H;refine W05 ?_;intro w1 H hk2;refine zk H rfl rfl rfl ?_;exact⟨p3,c3,rfl,H.fr,hk2.out _ _ _ HB2.out⟩
def zrm(z:Int):zv (decide (z<0)) (zd z.natAbs)=z:=by
 rw[zeb]
 by_cases h:z<0
 ·simp[h];omega
 ·simp[h];omega
end
section
open Go.RowKit
def zlZ(i j x y V T:Nat):V+4294967296^i*(x*T)+4294967296^(i+j)*(x*y)=V+4294967296^i*(x*(T+4294967296^j*y)):=by
 rw[Nat.pow_add,Nat.mul_add x,Nat.mul_add,Nat.mul_assoc,Nat.mul_left_comm x,Nat.add_assoc]
def zoT(i x A B:Nat):A*B+4294967296^i*(x*B)=(A+4294967296^i*x)*B:=by
 rw[Nat.add_mul,Nat.mul_assoc]
def zdO{z:Int}(n:Nat)(h:z=(n:Int))(hn:n<18446744073709551616):IntKind.u64.wrap z=(n:Int):=by
 rw[h,IntKind.wrap_u64];omega
def zpS{x y o cy:Nat}(hx:x<4294967296)(hy:y<4294967296)(ho:o<4294967296)(hc:cy<4294967296):
 IntKind.u64.wrap (IntKind.u64.wrap (IntKind.u64.wrap ((x:Int)*(y:Int))+(o:Int))+(cy:Int))=((x*y+o+cy:Nat):Int):=by
 have hb:=zf9 hx hy ho hc;have e1:IntKind.u64.wrap ((x:Int)*(y:Int))=((x*y:Nat):Int):=zdO _ (by rw[Int.natCast_mul]) yb;rw[e1];have e2:IntKind.u64.wrap (((x*y:Nat):Int)+(o:Int))=((x*y+o:Nat):Int):=zdO _ yb yb;rw[e2];exact zdO _ yb hb
def zed{t:Nat}(h:t<18446744073709551616):bits .and .u64 (t:Int) 4294967295%4294967296=((t%4294967296:Nat):Int):=by
 rw[and_low32 _ yb yb];omega
def zbZ{w:World}{p q:Option Addr}{n m c d:Nat}(a b:List Nat)(hn:a.length=n)(hm:b.length=m)(hn0:n≤400000)(hm0:m≤400000)(h:LR w p c a)(k:LR w q d b):
 Calls Tryz.prog 177 #[.slice p n c, .slice q m d] w fun e w'=>∃p' c',e= .returned (.slice p' (zd (val a*val b)).length c')∧Fr [] w w'∧LR w' p' c' (zd (val a*val b)):=by
 subst hn hm;have Hh:=hid h;have Hk:=hid k;clear h k;have H:=Hp.start [] w
 by_cases ha:a.length≤0
 ·have e:val a=0:=by rw[List.eq_nil_of_length_eq_zero (show a.length=0 by omega)];rfl
  have He:=hid e;clear e
  go_enter Tryz.func177,Tryz.ntmps177
  revert H;refine W00 ?_;intro H _ _ _
  go_ret
  rw[He.out,Nat.zero_mul,zn];exact⟨none,0,rfl,H.fr,LR.zero _⟩
 by_cases hb:b.length≤0
 ·have e:val b=0:=by rw[List.eq_nil_of_length_eq_zero (show b.length=0 by omega)];rfl
  have He:=hid e;clear e
  go_enter Tryz.func177,Tryz.ntmps177
  revert H;refine W00 ?_;intro H _ _ _
  go_ret
  rw[He.out,Nat.mul_zero,zn];exact⟨none,0,rfl,H.fr,LR.zero _⟩
 have ha1:0<a.length:=by omega
 have hb1:0<b.length:=by omega
 clear ha hb
 go_enter Tryz.func177,Tryz.ntmps177
 revert H;refine W00 ?_;intro _ g w1 hg H _ _;rw[show((a.length:Int)+(b.length:Int)).toNat=a.length+b.length by omega,za3]at H
 go_loopw [28] (fun s28 wr=>∃(i:Nat) (o:List Nat),i≤a.length∧s28= .int .i64 i∧Hid (o.length=a.length+b.length)∧Hid (Lim o)∧Hid (val o=val (a.take i)*val b)∧Hid (∀k,i+b.length≤k→k<a.length+b.length→o[k]? =some 0)∧Hp [] w wr [.blk g (zj o) 160]) (fun v _=>a.length-(intOf v).toNat)
 case atStart=>exact⟨0,List.replicate (a.length+b.length) 0,Nat.zero_le _,rfl,hid List.length_replicate,hid (Lim.zeros _),hid (by rw[zda];simp[val]),hid (fun k _ hk=>by rw[List.getElem?_replicate,if_pos hk]),H⟩
 case round=>
  clear H;obtain⟨i,o,hi,rfl,Hol,Hlo,Hv,Hz,H⟩:=hrel
  by_cases hin:i<a.length
  ·obtain⟨x,hx⟩:∃x,a[i]? =some x:=⟨_,List.getElem?_eq_getElem hin⟩;have hxv:=limbs_at hx;have hxB:=Hh.out.lim.at hx;have Hx:=hid hx;clear hx;obtain⟨b0,off,rfl,hb0,hcell⟩:=Hh.out.rd.rng (zH (i:=i) hin);have H1:=H.pushRng (b:=b0) (off:=off) hb0 yg hcell;clear H hcell;have H:=H1;clear H1;revert H;refine W00 ?_;intro H _ _ _ _ _;have H1:=H.sub (l':=[.blk g (zj o) 160]) yd;clear H;have H:=H1;clear H1
   go_loopw [8,35] (fun s8 s35 wr=>∃(j:Nat) (o:List Nat) (cy:Nat),j≤b.length∧s35= .int .i64 j∧s8= .int .u64 cy∧cy<4294967296∧Hid (o.length=a.length+b.length)∧Hid (Lim o)∧Hid (val o+4294967296^(i+j)*cy=val (a.take i)*val b+4294967296^i*(x*val (b.take j)))∧Hid (∀k,i+b.length≤k→k<a.length+b.length→o[k]? =some 0)∧Hp [] w wr [.blk g (zj o) 160]) (fun _ v _=>b.length-(intOf v).toNat)
   case atStart=>exact⟨0,o,0,Nat.zero_le _,rfl,rfl,by decide,Hol,Hlo,hid (by rw[Hv.out];simp[val]),Hz,H⟩
   case round=>
    clear H Hol Hlo Hv Hz;clear o;obtain⟨j,o,cy,hj,rfl,rfl,hcy,Hol,Hlo,Hv,Hz,H⟩:=hrel
    by_cases hjn:j<b.length
    ·obtain⟨y,hy⟩:∃y,b[j]? =some y:=⟨_,List.getElem?_eq_getElem hjn⟩;have hyv:=limbs_at hy;have hyB:=Hk.out.lim.at hy;have Hy:=hid hy;clear hy;have hij:i+j<o.length:=by rw[Hol.out];omega
     obtain⟨ov,hov⟩:∃ov,o[i+j]? =some ov:=⟨_,List.getElem?_eq_getElem hij⟩;have hovv:(zj o)[((i:Int)+(j:Int)).toNat]? =some (.int .u32 (ov:Int)):=by rw[show((i:Int)+(j:Int)).toNat=i+j by omega];exact limbs_at hov
     have hoB:=Hlo.out.at hov;have Hov:=hid hov;clear hov;obtain⟨b1,off1,he1,hb1',hcell1⟩:=Hk.out.rd.rng (zH (i:=j) hjn);have H1:=H.pushRng (b:=b1) (off:=off1) hb1' yg hcell1;clear H hcell1;have H:=H1;clear H1;subst he1;have HM:=hid (zpS hxB hyB hoB hcy);have HT:Hid (∃t,x*y+ov+cy=t∧t<18446744073709551616):=hid ⟨_,rfl,zf9 hxB hyB hoB hcy⟩;obtain⟨t,ht,htB⟩:=HT.out;rw[ht]at HM;have Ht:=hid ht;clear ht HT;revert H;refine W06 ?_;intro w1 H;rw[HM.out,zed htB,show((i:Int)+(j:Int)).toNat=i+j by omega,z7]at H;rw[HM.out]
     go_roundw
     case rel=>exact⟨j+1,o.set (i+j) (t%4294967296),t/4294967296,by omega,by go_num,by rw[Int.natCast_ediv];rfl,by omega,hid yB,hid (Hlo.out.set _ (Nat.mod_lt _ yf)),hid (by rw[←Nat.add_assoc,zkW Hov.out Hv.out Ht.out.symm,zw Hy.out];exact zlZ ..),hid (fun k hk1 hk2=>by rw[List.getElem?_set_ne yb];exact Hz.out k hk1 hk2),H.sub yd⟩
     case measure=>(simp[intOf];try omega)
    ·have e:j=b.length:=by omega
     have hib:i+b.length<o.length:=by rw[Hol.out];omega
     have H0:=hid (Hz.out (i+b.length) (Nat.le_refl _) yb)
     have HV:Hid (val (o.set (i+b.length) cy)=val (a.take (i+1))*val b):=hid (by
      have hv:=Hv.out;rw[e,List.take_of_length_le (Nat.le_refl _)]at hv;rw[zjH H0.out hv,zw Hx.out]
      exact zoT ..)
     clear e;revert H;refine W06 ?_;intro _ _ _ w1 H;rw[show((i:Int)+(b.length:Int)).toNat=i+b.length by omega,z7]at H
     go_roundw
     case rel=>exact⟨i+1,o.set (i+b.length) cy,by omega,by go_num,hid yB,hid (Hlo.out.set _ hcy),HV,hid (fun k hk1 hk2=>by rw[List.getElem?_set_ne yb];exact Hz.out k yb hk2),H⟩
     case measure=>(simp[intOf];try omega)
  ·have e:i=a.length:=by omega
   have HV:Hid (val o=val a*val b):=hid (by rw[Hv.out,e,List.take_of_length_le (Nat.le_refl _)]);clear e;revert H;refine W00 ?_;intro H _ _ _ _ _ _ _;have hL:LR _ (some ⟨g,0,none⟩) (a.length+b.length) o:=LR.of_blk (pad:=[]) yE Hlo.out yJ yk;have HL:=hid hL;refine Calls.mono (zt o Hol.out HL.out) ?_;rintro e w1 ⟨rfl,hF⟩;have HL2:=hid (hL.fr hF).trim;have H1:=H.step hF yg;clear H hF hL HL;have H:=H1;clear H1;revert H;refine W00 ?_;intro H
   go_ret
   rw[HV.out]at HL2;exact⟨_,_,by rw[HV.out];rfl,H.fr,HL2.out⟩
end
section
open Go.RowKit
end
section
open Go.RowKit
def ztZ(na nb:Bool)(la lb:List Nat):zv (!(na==nb)) (zd (val la*val lb))=zv na la*zv nb lb:=by
 rw[zeb];unfold zv;cases na<;>cases nb<;>simp[Int.neg_mul,Int.mul_neg]
def zsf{w:World}{p q:Option Addr}{n m c d:Nat}(na nb:Bool)(la lb:List Nat)(hn:la.length=n)(hm:lb.length=m)(hn0:n≤400000)(hm0:m≤400000)(h:LR w p c la)(k:LR w q d lb):
 Calls Tryz.prog 186 #[.agg #[.bool na, .slice p n c], .agg #[.bool nb, .slice q m d]] w fun e w'=>Big e w w' (zv na la*zv nb lb):=by
 subst hn hm;have Hh:=hid h;have Hk:=hid k;have hla:=zI h.lim;have hlb:=zI k.lim;have H:=Hp.start [] w;have HZ:=hid (ztZ na nb la lb);have Hb1:=hid (show na=nb→(!(na==nb))=false from fun h=>by subst h;cases na<;>rfl);clear h k
 cases na<;>cases nb
 ·go_enter Tryz.func186,Tryz.ntmps186
  (try simp only[Int.not_lt,Int.not_le]at*);revert H;refine W00 ?_;intro _ _ _ _ _ _ _ g w1 hg H _ _
  (revert H;refine w_p 13 (.st 0 (.st 1 (.st 2 (.st 3 (.st 4 (.st 5 (.st 6 (.st 8 (.st 9 (.ld 7 (.ld 10 (.ld 11 (.ld 12 (.ld 13 .done)))))))))))))) ?_;intro w1 H)
  iterate 9 refine p_q ?_
  ((refine p_c H rfl rfl Tryz.func146 (zt la rfl (Hh.out.fr H.fr)) ?_;clear H;rintro e w1 ⟨rfl,hF⟩ H;refine p_r ?_);skip)
  ((refine p_c H rfl rfl Tryz.func146 (zt lb rfl (Hk.out.fr H.fr)) ?_;clear H;rintro e w1 ⟨rfl,hF⟩ H;refine p_r ?_);skip)
  ((refine p_c H rfl rfl Tryz.func177 (zbZ (zd (val la)) (zd (val lb)) rfl rfl yb yb (Hh.out.trim.fr H.fr) (Hk.out.trim.fr H.fr)) ?_;clear H;rintro e w1 ⟨p5,c5,rfl,hF,hL⟩ H;refine p_r ?_);have HL5:=hid hL;clear hL)
  ((refine p_c H rfl rfl Tryz.func178 (zM false _ rfl HL5.out) ?_;clear H;rintro e w1 ⟨p6,c6,rfl,hF,hL⟩ H;refine p_r ?_);have HL6:=hid hL;clear hL)
  (revert H;refine zcQ ?_;intro w1 hf H hk;have hk2:=hid hk;clear hk;(try clear hf))
  (refine zf ?_)
  all_goals
   (try simp only[Int.not_lt,Int.not_le]at*);revert H;refine W00 ?_;intro H
   refine zk H rfl rfl rfl ?_;have hz:zv false (zd (val (zd (val la))*val (zd (val lb))))=zv false la*zv false lb:= yR;rw[hz]at HL6;refine⟨p6,c6,?_,H.fr,hk2.out _ _ _ HL6.out⟩;rw[hz]
 ·go_enter Tryz.func186,Tryz.ntmps186
  (try simp only[Int.not_lt,Int.not_le]at*);revert H;refine W00 ?_;intro _ _ _ _ _ _ _ g w1 hg H _ _
  (revert H;refine w_p 13 (.st 0 (.st 1 (.st 2 (.st 3 (.st 4 (.st 5 (.st 6 (.st 8 (.st 9 (.ld 7 (.ld 10 (.ld 11 (.ld 12 (.ld 13 .done)))))))))))))) ?_;intro w1 H)
  iterate 9 refine p_q ?_
  ((refine p_c H rfl rfl Tryz.func146 (zt la rfl (Hh.out.fr H.fr)) ?_;clear H;rintro e w1 ⟨rfl,hF⟩ H;refine p_r ?_);skip)
  ((refine p_c H rfl rfl Tryz.func146 (zt lb rfl (Hk.out.fr H.fr)) ?_;clear H;rintro e w1 ⟨rfl,hF⟩ H;refine p_r ?_);skip)
  ((refine p_c H rfl rfl Tryz.func177 (zbZ (zd (val la)) (zd (val lb)) rfl rfl yb yb (Hh.out.trim.fr H.fr) (Hk.out.trim.fr H.fr)) ?_;clear H;rintro e w1 ⟨p5,c5,rfl,hF,hL⟩ H;refine p_r ?_);have HL5:=hid hL;clear hL)
  ((refine p_c H rfl rfl Tryz.func178 (zM true _ rfl HL5.out) ?_;clear H;rintro e w1 ⟨p6,c6,rfl,hF,hL⟩ H;refine p_r ?_);have HL6:=hid hL;clear hL)
  (revert H;refine zcQ ?_;intro w1 hf H hk;have hk2:=hid hk;clear hk;(try clear hf))
  (refine zf ?_)
  all_goals
   (try simp only[Int.not_lt,Int.not_le]at*);revert H;refine W00 ?_;intro H
   refine zk H rfl rfl rfl ?_;have hz:zv true (zd (val (zd (val la))*val (zd (val lb))))=zv false la*zv true lb:= yR;rw[hz]at HL6;refine⟨p6,c6,?_,H.fr,hk2.out _ _ _ HL6.out⟩;rw[hz]
 ·go_enter Tryz.func186,Tryz.ntmps186
  (try simp only[Int.not_lt,Int.not_le]at*);revert H;refine W00 ?_;intro _ _ _ _ _ _ _ g w1 hg H _ _
  (revert H;refine w_p 13 (.st 0 (.st 1 (.st 2 (.st 3 (.st 4 (.st 5 (.st 6 (.st 8 (.st 9 (.ld 7 (.ld 10 (.ld 11 (.ld 12 (.ld 13 .done)))))))))))))) ?_;intro w1 H)
  iterate 9 refine p_q ?_
  ((refine p_c H rfl rfl Tryz.func146 (zt la rfl (Hh.out.fr H.fr)) ?_;clear H;rintro e w1 ⟨rfl,hF⟩ H;refine p_r ?_);skip)
  ((refine p_c H rfl rfl Tryz.func146 (zt lb rfl (Hk.out.fr H.fr)) ?_;clear H;rintro e w1 ⟨rfl,hF⟩ H;refine p_r ?_);skip)
  ((refine p_c H rfl rfl Tryz.func177 (zbZ (zd (val la)) (zd (val lb)) rfl rfl yb yb (Hh.out.trim.fr H.fr) (Hk.out.trim.fr H.fr)) ?_;clear H;rintro e w1 ⟨p5,c5,rfl,hF,hL⟩ H;refine p_r ?_);have HL5:=hid hL;clear hL)
  ((refine p_c H rfl rfl Tryz.func178 (zM true _ rfl HL5.out) ?_;clear H;rintro e w1 ⟨p6,c6,rfl,hF,hL⟩ H;refine p_r ?_);have HL6:=hid hL;clear hL)
  (revert H;refine zcQ ?_;intro w1 hf H hk;have hk2:=hid hk;clear hk;(try clear hf))
  (refine zf ?_)
  all_goals
   (try simp only[Int.not_lt,Int.not_le]at*);revert H;refine W00 ?_;intro H
   refine zk H rfl rfl rfl ?_;have hz:zv true (zd (val (zd (val la))*val (zd (val lb))))=zv true la*zv false lb:= yR;rw[hz]at HL6;refine⟨p6,c6,?_,H.fr,hk2.out _ _ _ HL6.out⟩;rw[hz]
 ·go_enter Tryz.func186,Tryz.ntmps186
  (try simp only[Int.not_lt,Int.not_le]at*);revert H;refine W00 ?_;intro _ _ _ _ _ _ _ g w1 hg H _ _
  (revert H;refine w_p 13 (.st 0 (.st 1 (.st 2 (.st 3 (.st 4 (.st 5 (.st 6 (.st 8 (.st 9 (.ld 7 (.ld 10 (.ld 11 (.ld 12 (.ld 13 .done)))))))))))))) ?_;intro w1 H)
  iterate 9 refine p_q ?_
  ((refine p_c H rfl rfl Tryz.func146 (zt la rfl (Hh.out.fr H.fr)) ?_;clear H;rintro e w1 ⟨rfl,hF⟩ H;refine p_r ?_);skip)
  ((refine p_c H rfl rfl Tryz.func146 (zt lb rfl (Hk.out.fr H.fr)) ?_;clear H;rintro e w1 ⟨rfl,hF⟩ H;refine p_r ?_);skip)
  ((refine p_c H rfl rfl Tryz.func177 (zbZ (zd (val la)) (zd (val lb)) rfl rfl yb yb (Hh.out.trim.fr H.fr) (Hk.out.trim.fr H.fr)) ?_;clear H;rintro e w1 ⟨p5,c5,rfl,hF,hL⟩ H;refine p_r ?_);have HL5:=hid hL;clear hL)
  ((refine p_c H rfl rfl Tryz.func178 (zM false _ rfl HL5.out) ?_;clear H;rintro e w1 ⟨p6,c6,rfl,hF,hL⟩ H;refine p_r ?_);have HL6:=hid hL;clear hL)
  (revert H;refine zcQ ?_;intro w1 hf H hk;have hk2:=hid hk;clear hk;(try clear hf))
  (refine zf ?_)
  all_goals
   (try simp only[Int.not_lt,Int.not_le]at*);revert H;refine W00 ?_;intro H
   refine zk H rfl rfl rfl ?_;have hz:zv false (zd (val (zd (val la))*val (zd (val lb))))=zv true la*zv true lb:= yR;rw[hz]at HL6;refine⟨p6,c6,?_,H.fr,hk2.out _ _ _ HL6.out⟩;rw[hz]
end
end Go.Proofs.YtaijhllckmndhaaGreatDoor
