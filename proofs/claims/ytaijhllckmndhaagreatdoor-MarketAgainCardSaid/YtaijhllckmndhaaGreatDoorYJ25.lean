import Derived.Test.YtaijhllckmndhaaGreatDoorYJ0
import Derived.Test.YtaijhllckmndhaaGreatDoorYJ16
import Derived.Test.YtaijhllckmndhaaGreatDoorYJ24
import Derived.Test.YtaijhllckmndhaaGreatDoorYJ22
namespace Go.Proofs.YtaijhllckmndhaaGreatDoor
set_option linter.all false
set_option maxHeartbeats 64000000
set_option maxRecDepth 100000
section
open Go.RowKit
def zsr{s:List UInt8}:s.drop (1:Int).toNat=s.tail:=by cases s<;>rfl
def zhs{l:List UInt8}(h:l.all dig=true):(zd (num l)).length≤l.length:=
 zap (Nat.lt_of_lt_of_le (zeg l h) (Nat.pow_le_pow_left yf _))
def zb4:num []=0:=rfl
def zaY(x:Nat):val [x]=x:=by simp[val]
def zi0{w:World}{p:Option Addr}{n c:Nat}(neg:Bool)(l:List Nat)(hl:l.length=n)(h:LR w p c l)(k:Nat)(hk:n≤k):
 Calls Tryz.prog 178 #[.bool neg, .slice p n c] w fun e w'=>∃v',e= .returned v'∧Fr [] w w'∧Bv w' v' (sg neg (val l)) k:=by
 refine Calls.mono (zM neg l hl h) (fun e w' hb=>hb.bv ?_);unfold dl;rw[zdG]
 have:=zI h.lim
 omega
def zh5(w:World)(s:List UInt8)(hs:s.length≤2000000):
 Calls Tryz.prog 117 #[ze s] w fun e w'=>∃v1,e= .returned (.tuple #[v1, .int .i64 (pz s).2])∧Fr [] w w'∧Bv w' v1 (pz s).1 1024:=by
 have H:=Hp.start [] w
 by_cases hl:1024<s.length
 ·have HZ:Hid (pz s=(0,2)):=hid (by unfold pz;rw[if_pos hl])
  go_enter Tryz.func117,Tryz.ntmps117
  revert H;refine W34 ?_;intro _ g _ hg hf _ _ w1 H hk;refine zi H rfl rfl rfl rfl ?_;rw[HZ.out];exact⟨_,rfl,H.fr,(zbq _).mono (Nat.zero_le _)⟩
 ·obtain⟨h1,hh1⟩:∃b,(s.head? ==some 45)=b:=⟨_,rfl⟩;obtain⟨h2,hh2⟩:∃b,(s.head? ==some 43)=b:=⟨_,rfl⟩;have HN:Hid (sgn s=h1):=hid hh1;obtain⟨b,hb⟩:∃b,body s=b:=⟨_,rfl⟩;have HB:=hid hb
  have HT:Hid (h1=true∨h2=true→s.drop (1:Int).toNat=b):=hid (fun h=>by
   rw[zsr,←hb];unfold body;rw[if_pos]
   rcases h with h|h
   ·left;rw[h]at hh1;simpa using hh1
   ·right;rw[h]at hh2;simpa using hh2)
  have HS:Hid (h1=false→h2=false→s=b):=hid (fun e1 e2=>by
   rw[←hb];unfold body;rw[if_neg];rw[e1]at hh1;rw[e2]at hh2
   simp at hh1 hh2
   rintro(h|h)
   ·exact hh1 h
   ·exact hh2 h)
  have hn1:Hid (h1=true∨h2=true→1≤s.length):=hid (fun h=>by
   cases s with
   | nil=>rcases h with h|h
          ·rw[h]at hh1;simp at hh1
          ·rw[h]at hh2;simp at hh2
   | cons x r=>simp)
  have hbl:b.length≤s.length:=by rw[←hb];unfold body;split<;>simp
  have HZ:Hid (b=[]∨b.all dig=false→pz s=(0,7)):=hid (fun h=>by unfold pz;rw[if_neg hl,hb,if_pos h]);have HV:Hid (b≠[]→b.all dig=true→pz s=(sg h1 (num b),0)):=hid (fun e1 e2=>by unfold pz;rw[if_neg hl,hb,if_neg (by rintro(h|h);exact e1 h;rw[e2]at h;cases h),HN.out]);have Hh1:=hid hh1;have Hh2:=hid hh2;have hl2:s.length≤1024:=by omega
  clear hh1 hh2 hl hb HB HN;obtain⟨e0,he0⟩:∃e,(b==[])=e:=⟨_,rfl⟩;have HE0:=hid he0;obtain⟨d0,hd0⟩:∃d,(!(b.all dig))=d:=⟨_,rfl⟩;have HD0:=hid hd0;have hb0:Hid (e0=false→b≠[]):=hid (fun h e=>by rw[h,e]at he0;cases he0);have hbe:Hid (e0=true→b=[]):=hid (fun h=>by rw[h]at he0;simpa using he0);have hbd:Hid (d0=false→b.all dig=true):=hid (fun h=>by rw[h]at hd0;simpa using hd0);have hbx:Hid (d0=true→b.all dig=false):=hid (fun h=>by rw[h]at hd0;simpa using hd0);clear he0 hd0
  go_enter Tryz.func117,Tryz.ntmps117
  revert H;refine W34 ?_;intro _ g w1 hg H hf _ _ _ _;(refine xK H (zaC _ s 45 Hh1) ?_;clear H;intro w1 hF H)
  cases h1
  ·simp only[Int.not_lt,Int.not_le]at*;revert H;refine W34 ?_;intro H _ _ _ _ _ _;(refine xK H (zaC _ s 43 Hh2) ?_;clear H;intro w1 hF H)
   cases h2
   ·obtain rfl:=(show b=s by have h:=HS.out;simp at h;exact h.symm);clear HT HS hn1
    cases e0
    ·cases d0
     ·simp only[Int.not_lt,Int.not_le]at*;revert H;refine W34 ?_;intro H _ _ _ _ _ _;(refine xK H (zbL _ _ HD0) ?_;clear H;intro w1 hF H);simp only[Int.not_lt,Int.not_le]at*;revert H;refine W34 ?_;intro H _ _;have Hall:=hid (show b.all dig=true by have h:=hbd.out;simpa using h);have HV2:=hid (HV.out (by have h:=hb0.out;simpa using h) Hall.out);clear HZ hb0 hbe hbd hbx HV HE0 HD0 Hh1 Hh2
      go_loopg [0,5] b.length (fun kk s0 s5 wr=>∃(pre rest:List UInt8) (p5:Option Addr) (c5:Nat),s0=ze rest∧s5= .slice p5 (zd (num pre)).length c5∧Hid (pre++rest=b)∧Hid (rest.length=kk)∧Hid (pre=[]∨rest.length%9=0)∧Hid (LR wr p5 c5 (zd (num pre)))∧Hp [] w wr [.blk g [.bool false, .slice none 0 0] 118])
      case atStart=>exact⟨[],b,none,0,rfl,by rw[zb4,zn];rfl,hid rfl,hid rfl,hid (.inl rfl),hid (by rw[zb4,zn];exact LR.zero _),H⟩
      case round=>
       clear H;obtain⟨pre,rest,p5,c5,rfl,rfl,Hpre,Hlen,Hmod,HL5,H⟩:=hrel;have hrl:pre.length+rest.length≤1024:=by have h:=congrArg List.length Hpre.out;rw[List.length_append]at h;omega
       have Hap:Hid (pre.all dig=true∧rest.all dig=true):=hid (by have h:=Hall.out;rw[←Hpre.out,List.all_append,Bool.and_eq_true]at h;exact h);have hdl:=zhs Hap.out.1
       by_cases hre:rest=[]
       ·have HR0:Hid ((rest==[])=true):=hid (by rw[hre];rfl);have HQ:Hid (pre=b):=hid (by have h:=Hpre.out;rw[hre,List.append_nil]at h;exact h);clear hre;revert H;refine W34 ?_;intro H _ _ _ _ _ _;(refine x_c H (zi0 false (zd (num pre)) rfl (lr HL5) 1024 yb) ?_;clear H;rintro e w1 ⟨v6,rfl,hF,hB⟩ H;replace hF:=hF.kp;rw[zg,HQ.out]at hB;obtain⟨b6,p6,m6,c6,rfl⟩:=hB.form;have HB6:=hid hB;clear hB);simp only[Int.not_lt,Int.not_le]at*;revert H;refine W34 ?_;intro w1 H hk;refine zi H rfl rfl rfl rfl ?_;rw[HV2.out];exact⟨_,rfl,H.fr,bv HB6⟩
       ·have HR0:Hid ((rest==[])=false):=hid (by simpa using hre)
        have hpos:1≤rest.length:=by cases rest with
         | nil=>exact absurd rfl hre
         | cons x r=>simp
        obtain⟨m,hm⟩:∃m,(rest.length-1)%9+1=m:=⟨_,rfl⟩;have hmz:(((rest.length:Int)-1)%9+1).toNat=m:=by omega
        have hm9:m≤9:=by omega
        have hmr:m≤rest.length:=by omega
        obtain⟨gr,hgr⟩:∃g,rest.take m=g:=⟨_,rfl⟩;obtain⟨rest2,hr2⟩:∃r,rest.drop m=r:=⟨_,rfl⟩;have HG:Hid (rest.take (((rest.length:Int)-1)%9+1).toNat=gr):=hid (by rw[hmz];exact hgr);have HD:Hid (rest.drop (((rest.length:Int)-1)%9+1).toNat=rest2):=hid (by rw[hmz];exact hr2);have Hsp:Hid (rest=gr++rest2):=hid (by rw[←hgr,←hr2,List.take_append_drop]);have hgl:gr.length=m:=by rw[←hgr,List.length_take];omega
        have hgl9:gr.length≤18:=by omega
        have hgl1:gr.length+rest2.length≤rest.length:=by rw[Hsp.out,List.length_append];exact Nat.le_refl _
        have Hg2:Hid (gr.all dig=true∧rest2.all dig=true):=hid (by have h:=Hap.out.2;rw[Hsp.out,List.all_append,Bool.and_eq_true]at h;exact h);have Hga:=hid Hg2.out.1;have Hgn:Hid (gr≠[]):=hid (fun e=>by rw[e]at hgl;simp at hgl;omega);have hv9:num gr<1000000000:=Nat.lt_of_lt_of_le (zeg gr Hga.out) (by rw[hgl];exact Nat.le_trans (Nat.pow_le_pow_right (n:=10) yf hm9) yf)
        have hd1:(zd (num pre*1000000000)).length≤1100:=by
         refine Nat.le_trans (zap (k:=(zd (num pre)).length+1) ?_) yb;rw[Nat.pow_succ];exact Nat.mul_lt_mul'' (zbu _) yf
        have hd2:(zd (num gr)).length≤1:=zap yb
        have HNum:Hid (num pre*1000000000+num gr=num (pre++gr)):=hid (by
         rw[zds]
         rcases Hmod.out with h|h
         ·rw[h,zb4,Nat.zero_mul,Nat.zero_mul]
         ·have e:gr.length=9:=by omega
          rw[e])
        have Hm2:Hid (pre++gr=[]∨rest2.length%9=0):=hid (.inr (by
         have h:rest.length=gr.length+rest2.length:=by rw[Hsp.out,List.length_append]
         omega))
        have HP2:Hid ((pre++gr)++rest2=b):=hid (by rw[List.append_assoc,←Hsp.out];exact Hpre.out)
        have hlt:rest2.length<rest.length:=by
         have h:rest.length=gr.length+rest2.length:=by rw[Hsp.out,List.length_append]
         omega
        have Hlt:=hid hlt;clear hre hm hmz hgr hr2 hlt Hmod Hpre hgl;revert H;refine W34 ?_;intro H _ _ _ _;(refine xK H (zeH _ gr Hga Hgn hgl9) ?_;clear H;intro w1 hF H);simp only[Int.not_lt,Int.not_le]at*;revert H;refine W34 ?_;intro _ _ g w1 hg H hf _ _;have HO:=hid (LR.of_blk (l:=[1000000000]) (c:=1) (pad:=[]) yA (Lim.cons yf Lim.nil) yg yk);(refine x_c H (zbZ (zd (num pre)) [1000000000] rfl rfl yb yg (lr HL5) HO.out) ?_;clear H;rintro e w1 ⟨p6,c6,rfl,hF,hL⟩ H;replace hF:=hF.kp;rw[zg,zaY]at hL;have HL6:=hid hL;clear hL);rw[zg,zaY];simp only[Int.not_lt,Int.not_le]at*;revert H;refine W34 ?_;intro g w1 hg H hf _ _;have HO2:=hid (LR.of_blk (l:=[num gr]) (c:=1) (pad:=[]) yA (Lim.cons yb Lim.nil) yg yk);(refine xK H (zt [num gr] rfl HO2.out) ?_;clear H;intro w1 hF H);have HT2:=hid (show LR _ _ _ (zd (num gr)) by have h:=(lr HO2).trim;rw[zaY]at h;exact h);rw[zaY]
        simp only[Int.not_lt,Int.not_le]at*;revert H;refine W34 ?_;intro H _ _;(refine x_c H (zcl (zd (num pre*1000000000)) (zd (num gr)) rfl rfl yb yb (lr HL6) (lr HT2)) ?_;clear H;rintro e w1 ⟨p8,c8,rfl,hF,hL⟩ H;replace hF:=hF.kp;rw[zg,zg,HNum.out]at hL;have HL8:=hid hL;clear hL);rw[zg,zg,HNum.out];simp only[Int.not_lt,Int.not_le]at*;revert H;refine W34 ?_;intro H
        go_roundg rest2.length
        case measure=>have:=Hlen.out;have:=Hlt.out;omega
        case rel=>exact⟨pre++gr,rest2,_,_,rfl,rfl,HP2,hid rfl,Hm2,hid (lr HL8),by(refine Hp.arr H ?_;repeat (first|exact Pm.nil _|(apply Pm.cons;· (repeat first|exact Rm.here _|apply Rm.there))))⟩
     ·simp only[Int.not_lt,Int.not_le]at*;revert H;refine W34 ?_;intro H _ _ _ _ _ _;(refine xK H (zbL _ _ HD0) ?_;clear H;intro w1 hF H);simp only[Int.not_lt,Int.not_le]at*;revert H;refine W34 ?_;intro w1 H hk;refine zi H rfl rfl rfl rfl ?_;rw[HZ.out (.inr (by have h:=hbx.out;simpa using h))];exact⟨_,rfl,H.fr,(zbq _).mono (Nat.zero_le _)⟩
    ·simp only[Int.not_lt,Int.not_le]at*;revert H;refine W34 ?_;intro _ _ w1 H hk;refine zi H rfl rfl rfl rfl ?_;rw[HZ.out (.inl (by have h:=hbe.out;simpa using h))];exact⟨_,rfl,H.fr,(zbq _).mono (Nat.zero_le _)⟩
   ·have HT1:=hid (show s.drop (1:Int).toNat=b by have h:=HT.out;simpa using h);have hn2:=(show 1≤s.length by have h:=hn1.out;simpa using h);clear HT HS hn1
    cases e0
    ·cases d0
     ·simp only[Int.not_lt,Int.not_le]at*;revert H;refine W34 ?_;intro H _ _ _ _ _ _;(refine xK H (zbL _ _ HD0) ?_;clear H;intro w1 hF H);simp only[Int.not_lt,Int.not_le]at*;revert H;refine W34 ?_;intro H _ _;have Hall:=hid (show b.all dig=true by have h:=hbd.out;simpa using h);have HV2:=hid (HV.out (by have h:=hb0.out;simpa using h) Hall.out);clear HZ hb0 hbe hbd hbx HV HE0 HD0 Hh1 Hh2
      go_loopg [0,5] b.length (fun kk s0 s5 wr=>∃(pre rest:List UInt8) (p5:Option Addr) (c5:Nat),s0=ze rest∧s5= .slice p5 (zd (num pre)).length c5∧Hid (pre++rest=b)∧Hid (rest.length=kk)∧Hid (pre=[]∨rest.length%9=0)∧Hid (LR wr p5 c5 (zd (num pre)))∧Hp [] w wr [.blk g [.bool false, .slice none 0 0] 118])
      case atStart=>exact⟨[],b,none,0,rfl,by rw[zb4,zn];rfl,hid rfl,hid rfl,hid (.inl rfl),hid (by rw[zb4,zn];exact LR.zero _),H⟩
      case round=>
       clear H;obtain⟨pre,rest,p5,c5,rfl,rfl,Hpre,Hlen,Hmod,HL5,H⟩:=hrel;have hrl:pre.length+rest.length≤1024:=by have h:=congrArg List.length Hpre.out;rw[List.length_append]at h;omega
       have Hap:Hid (pre.all dig=true∧rest.all dig=true):=hid (by have h:=Hall.out;rw[←Hpre.out,List.all_append,Bool.and_eq_true]at h;exact h);have hdl:=zhs Hap.out.1
       by_cases hre:rest=[]
       ·have HR0:Hid ((rest==[])=true):=hid (by rw[hre];rfl);have HQ:Hid (pre=b):=hid (by have h:=Hpre.out;rw[hre,List.append_nil]at h;exact h);clear hre;revert H;refine W34 ?_;intro H _ _ _ _ _ _;(refine x_c H (zi0 false (zd (num pre)) rfl (lr HL5) 1024 yb) ?_;clear H;rintro e w1 ⟨v6,rfl,hF,hB⟩ H;replace hF:=hF.kp;rw[zg,HQ.out]at hB;obtain⟨b6,p6,m6,c6,rfl⟩:=hB.form;have HB6:=hid hB;clear hB);simp only[Int.not_lt,Int.not_le]at*;revert H;refine W34 ?_;intro w1 H hk;refine zi H rfl rfl rfl rfl ?_;rw[HV2.out];exact⟨_,rfl,H.fr,bv HB6⟩
       ·have HR0:Hid ((rest==[])=false):=hid (by simpa using hre)
        have hpos:1≤rest.length:=by cases rest with
         | nil=>exact absurd rfl hre
         | cons x r=>simp
        obtain⟨m,hm⟩:∃m,(rest.length-1)%9+1=m:=⟨_,rfl⟩;have hmz:(((rest.length:Int)-1)%9+1).toNat=m:=by omega
        have hm9:m≤9:=by omega
        have hmr:m≤rest.length:=by omega
        obtain⟨gr,hgr⟩:∃g,rest.take m=g:=⟨_,rfl⟩;obtain⟨rest2,hr2⟩:∃r,rest.drop m=r:=⟨_,rfl⟩;have HG:Hid (rest.take (((rest.length:Int)-1)%9+1).toNat=gr):=hid (by rw[hmz];exact hgr);have HD:Hid (rest.drop (((rest.length:Int)-1)%9+1).toNat=rest2):=hid (by rw[hmz];exact hr2);have Hsp:Hid (rest=gr++rest2):=hid (by rw[←hgr,←hr2,List.take_append_drop]);have hgl:gr.length=m:=by rw[←hgr,List.length_take];omega
        have hgl9:gr.length≤18:=by omega
        have hgl1:gr.length+rest2.length≤rest.length:=by rw[Hsp.out,List.length_append];exact Nat.le_refl _
        have Hg2:Hid (gr.all dig=true∧rest2.all dig=true):=hid (by have h:=Hap.out.2;rw[Hsp.out,List.all_append,Bool.and_eq_true]at h;exact h);have Hga:=hid Hg2.out.1;have Hgn:Hid (gr≠[]):=hid (fun e=>by rw[e]at hgl;simp at hgl;omega);have hv9:num gr<1000000000:=Nat.lt_of_lt_of_le (zeg gr Hga.out) (by rw[hgl];exact Nat.le_trans (Nat.pow_le_pow_right (n:=10) yf hm9) yf)
        have hd1:(zd (num pre*1000000000)).length≤1100:=by
         refine Nat.le_trans (zap (k:=(zd (num pre)).length+1) ?_) yb;rw[Nat.pow_succ];exact Nat.mul_lt_mul'' (zbu _) yf
        have hd2:(zd (num gr)).length≤1:=zap yb
        have HNum:Hid (num pre*1000000000+num gr=num (pre++gr)):=hid (by
         rw[zds]
         rcases Hmod.out with h|h
         ·rw[h,zb4,Nat.zero_mul,Nat.zero_mul]
         ·have e:gr.length=9:=by omega
          rw[e])
        have Hm2:Hid (pre++gr=[]∨rest2.length%9=0):=hid (.inr (by
         have h:rest.length=gr.length+rest2.length:=by rw[Hsp.out,List.length_append]
         omega))
        have HP2:Hid ((pre++gr)++rest2=b):=hid (by rw[List.append_assoc,←Hsp.out];exact Hpre.out)
        have hlt:rest2.length<rest.length:=by
         have h:rest.length=gr.length+rest2.length:=by rw[Hsp.out,List.length_append]
         omega
        have Hlt:=hid hlt;clear hre hm hmz hgr hr2 hlt Hmod Hpre hgl;revert H;refine W34 ?_;intro H _ _ _ _;(refine xK H (zeH _ gr Hga Hgn hgl9) ?_;clear H;intro w1 hF H);simp only[Int.not_lt,Int.not_le]at*;revert H;refine W34 ?_;intro _ _ g w1 hg H hf _ _;have HO:=hid (LR.of_blk (l:=[1000000000]) (c:=1) (pad:=[]) yA (Lim.cons yf Lim.nil) yg yk);(refine x_c H (zbZ (zd (num pre)) [1000000000] rfl rfl yb yg (lr HL5) HO.out) ?_;clear H;rintro e w1 ⟨p6,c6,rfl,hF,hL⟩ H;replace hF:=hF.kp;rw[zg,zaY]at hL;have HL6:=hid hL;clear hL);rw[zg,zaY];simp only[Int.not_lt,Int.not_le]at*;revert H;refine W34 ?_;intro g w1 hg H hf _ _;have HO2:=hid (LR.of_blk (l:=[num gr]) (c:=1) (pad:=[]) yA (Lim.cons yb Lim.nil) yg yk);(refine xK H (zt [num gr] rfl HO2.out) ?_;clear H;intro w1 hF H);have HT2:=hid (show LR _ _ _ (zd (num gr)) by have h:=(lr HO2).trim;rw[zaY]at h;exact h);rw[zaY]
        simp only[Int.not_lt,Int.not_le]at*;revert H;refine W34 ?_;intro H _ _;(refine x_c H (zcl (zd (num pre*1000000000)) (zd (num gr)) rfl rfl yb yb (lr HL6) (lr HT2)) ?_;clear H;rintro e w1 ⟨p8,c8,rfl,hF,hL⟩ H;replace hF:=hF.kp;rw[zg,zg,HNum.out]at hL;have HL8:=hid hL;clear hL);rw[zg,zg,HNum.out];simp only[Int.not_lt,Int.not_le]at*;revert H;refine W34 ?_;intro H
        go_roundg rest2.length
        case measure=>have:=Hlen.out;have:=Hlt.out;omega
        case rel=>exact⟨pre++gr,rest2,_,_,rfl,rfl,HP2,hid rfl,Hm2,hid (lr HL8),by(refine Hp.arr H ?_;repeat (first|exact Pm.nil _|(apply Pm.cons;· (repeat first|exact Rm.here _|apply Rm.there))))⟩
     ·simp only[Int.not_lt,Int.not_le]at*;revert H;refine W34 ?_;intro H _ _ _ _ _ _;(refine xK H (zbL _ _ HD0) ?_;clear H;intro w1 hF H);simp only[Int.not_lt,Int.not_le]at*;revert H;refine W34 ?_;intro w1 H hk;refine zi H rfl rfl rfl rfl ?_;rw[HZ.out (.inr (by have h:=hbx.out;simpa using h))];exact⟨_,rfl,H.fr,(zbq _).mono (Nat.zero_le _)⟩
    ·simp only[Int.not_lt,Int.not_le]at*;revert H;refine W34 ?_;intro _ _ w1 H hk;refine zi H rfl rfl rfl rfl ?_;rw[HZ.out (.inl (by have h:=hbe.out;simpa using h))];exact⟨_,rfl,H.fr,(zbq _).mono (Nat.zero_le _)⟩
  ·have HT1:=hid (show s.drop (1:Int).toNat=b by have h:=HT.out;simpa using h);have hn2:=(show 1≤s.length by have h:=hn1.out;simpa using h);clear HT HS hn1
   cases e0
   ·cases d0
    ·simp only[Int.not_lt,Int.not_le]at*;revert H;refine W34 ?_;intro H _ _ _ _ _ _;(refine xK H (zbL _ _ HD0) ?_;clear H;intro w1 hF H);simp only[Int.not_lt,Int.not_le]at*;revert H;refine W34 ?_;intro H _ _;have Hall:=hid (show b.all dig=true by have h:=hbd.out;simpa using h);have HV2:=hid (HV.out (by have h:=hb0.out;simpa using h) Hall.out);clear HZ hb0 hbe hbd hbx HV HE0 HD0 Hh1 Hh2
     go_loopg [0,5] b.length (fun kk s0 s5 wr=>∃(pre rest:List UInt8) (p5:Option Addr) (c5:Nat),s0=ze rest∧s5= .slice p5 (zd (num pre)).length c5∧Hid (pre++rest=b)∧Hid (rest.length=kk)∧Hid (pre=[]∨rest.length%9=0)∧Hid (LR wr p5 c5 (zd (num pre)))∧Hp [] w wr [.blk g [.bool false, .slice none 0 0] 118])
     case atStart=>exact⟨[],b,none,0,rfl,by rw[zb4,zn];rfl,hid rfl,hid rfl,hid (.inl rfl),hid (by rw[zb4,zn];exact LR.zero _),H⟩
     case round=>
      clear H;obtain⟨pre,rest,p5,c5,rfl,rfl,Hpre,Hlen,Hmod,HL5,H⟩:=hrel;have hrl:pre.length+rest.length≤1024:=by have h:=congrArg List.length Hpre.out;rw[List.length_append]at h;omega
      have Hap:Hid (pre.all dig=true∧rest.all dig=true):=hid (by have h:=Hall.out;rw[←Hpre.out,List.all_append,Bool.and_eq_true]at h;exact h);have hdl:=zhs Hap.out.1
      by_cases hre:rest=[]
      ·have HR0:Hid ((rest==[])=true):=hid (by rw[hre];rfl);have HQ:Hid (pre=b):=hid (by have h:=Hpre.out;rw[hre,List.append_nil]at h;exact h);clear hre;revert H;refine W34 ?_;intro H _ _ _ _ _ _;(refine x_c H (zi0 true (zd (num pre)) rfl (lr HL5) 1024 yb) ?_;clear H;rintro e w1 ⟨v6,rfl,hF,hB⟩ H;replace hF:=hF.kp;rw[zg,HQ.out]at hB;obtain⟨b6,p6,m6,c6,rfl⟩:=hB.form;have HB6:=hid hB;clear hB);simp only[Int.not_lt,Int.not_le]at*;revert H;refine W34 ?_;intro w1 H hk;refine zi H rfl rfl rfl rfl ?_;rw[HV2.out];exact⟨_,rfl,H.fr,bv HB6⟩
      ·have HR0:Hid ((rest==[])=false):=hid (by simpa using hre)
       have hpos:1≤rest.length:=by cases rest with
        | nil=>exact absurd rfl hre
        | cons x r=>simp
       obtain⟨m,hm⟩:∃m,(rest.length-1)%9+1=m:=⟨_,rfl⟩;have hmz:(((rest.length:Int)-1)%9+1).toNat=m:=by omega
       have hm9:m≤9:=by omega
       have hmr:m≤rest.length:=by omega
       obtain⟨gr,hgr⟩:∃g,rest.take m=g:=⟨_,rfl⟩;obtain⟨rest2,hr2⟩:∃r,rest.drop m=r:=⟨_,rfl⟩;have HG:Hid (rest.take (((rest.length:Int)-1)%9+1).toNat=gr):=hid (by rw[hmz];exact hgr);have HD:Hid (rest.drop (((rest.length:Int)-1)%9+1).toNat=rest2):=hid (by rw[hmz];exact hr2);have Hsp:Hid (rest=gr++rest2):=hid (by rw[←hgr,←hr2,List.take_append_drop]);have hgl:gr.length=m:=by rw[←hgr,List.length_take];omega
       have hgl9:gr.length≤18:=by omega
       have hgl1:gr.length+rest2.length≤rest.length:=by rw[Hsp.out,List.length_append];exact Nat.le_refl _
       have Hg2:Hid (gr.all dig=true∧rest2.all dig=true):=hid (by have h:=Hap.out.2;rw[Hsp.out,List.all_append,Bool.and_eq_true]at h;exact h);have Hga:=hid Hg2.out.1;have Hgn:Hid (gr≠[]):=hid (fun e=>by rw[e]at hgl;simp at hgl;omega);have hv9:num gr<1000000000:=Nat.lt_of_lt_of_le (zeg gr Hga.out) (by rw[hgl];exact Nat.le_trans (Nat.pow_le_pow_right (n:=10) yf hm9) yf)
       have hd1:(zd (num pre*1000000000)).length≤1100:=by
        refine Nat.le_trans (zap (k:=(zd (num pre)).length+1) ?_) yb;rw[Nat.pow_succ];exact Nat.mul_lt_mul'' (zbu _) yf
       have hd2:(zd (num gr)).length≤1:=zap yb
       have HNum:Hid (num pre*1000000000+num gr=num (pre++gr)):=hid (by
        rw[zds]
        rcases Hmod.out with h|h
        ·rw[h,zb4,Nat.zero_mul,Nat.zero_mul]
        ·have e:gr.length=9:=by omega
         rw[e])
       have Hm2:Hid (pre++gr=[]∨rest2.length%9=0):=hid (.inr (by
        have h:rest.length=gr.length+rest2.length:=by rw[Hsp.out,List.length_append]
        omega))
       have HP2:Hid ((pre++gr)++rest2=b):=hid (by rw[List.append_assoc,←Hsp.out];exact Hpre.out)
       have hlt:rest2.length<rest.length:=by
        have h:rest.length=gr.length+rest2.length:=by rw[Hsp.out,List.length_append]
        omega
       have Hlt:=hid hlt;clear hre hm hmz hgr hr2 hlt Hmod Hpre hgl;revert H;refine W34 ?_;intro H _ _ _ _;(refine xK H (zeH _ gr Hga Hgn hgl9) ?_;clear H;intro w1 hF H);simp only[Int.not_lt,Int.not_le]at*;revert H;refine W34 ?_;intro _ _ g w1 hg H hf _ _;have HO:=hid (LR.of_blk (l:=[1000000000]) (c:=1) (pad:=[]) yA (Lim.cons yf Lim.nil) yg yk);(refine x_c H (zbZ (zd (num pre)) [1000000000] rfl rfl yb yg (lr HL5) HO.out) ?_;clear H;rintro e w1 ⟨p6,c6,rfl,hF,hL⟩ H;replace hF:=hF.kp;rw[zg,zaY]at hL;have HL6:=hid hL;clear hL);rw[zg,zaY];simp only[Int.not_lt,Int.not_le]at*;revert H;refine W34 ?_;intro g w1 hg H hf _ _;have HO2:=hid (LR.of_blk (l:=[num gr]) (c:=1) (pad:=[]) yA (Lim.cons yb Lim.nil) yg yk);(refine xK H (zt [num gr] rfl HO2.out) ?_;clear H;intro w1 hF H);have HT2:=hid (show LR _ _ _ (zd (num gr)) by have h:=(lr HO2).trim;rw[zaY]at h;exact h);rw[zaY]
       simp only[Int.not_lt,Int.not_le]at*;revert H;refine W34 ?_;intro H _ _;(refine x_c H (zcl (zd (num pre*1000000000)) (zd (num gr)) rfl rfl yb yb (lr HL6) (lr HT2)) ?_;clear H;rintro e w1 ⟨p8,c8,rfl,hF,hL⟩ H;replace hF:=hF.kp;rw[zg,zg,HNum.out]at hL;have HL8:=hid hL;clear hL);rw[zg,zg,HNum.out];simp only[Int.not_lt,Int.not_le]at*;revert H;refine W34 ?_;intro H
       go_roundg rest2.length
       case measure=>have:=Hlen.out;have:=Hlt.out;omega
       case rel=>exact⟨pre++gr,rest2,_,_,rfl,rfl,HP2,hid rfl,Hm2,hid (lr HL8),by(refine Hp.arr H ?_;repeat (first|exact Pm.nil _|(apply Pm.cons;· (repeat first|exact Rm.here _|apply Rm.there))))⟩
    ·simp only[Int.not_lt,Int.not_le]at*;revert H;refine W34 ?_;intro H _ _ _ _ _ _;(refine xK H (zbL _ _ HD0) ?_;clear H;intro w1 hF H);simp only[Int.not_lt,Int.not_le]at*;revert H;refine W34 ?_;intro w1 H hk;refine zi H rfl rfl rfl rfl ?_;rw[HZ.out (.inr (by have h:=hbx.out;simpa using h))];exact⟨_,rfl,H.fr,(zbq _).mono (Nat.zero_le _)⟩
   ·simp only[Int.not_lt,Int.not_le]at*;revert H;refine W34 ?_;intro _ _ w1 H hk;refine zi H rfl rfl rfl rfl ?_;rw[HZ.out (.inl (by have h:=hbe.out;simpa using h))];exact⟨_,rfl,H.fr,(zbq _).mono (Nat.zero_le _)⟩
end
end Go.Proofs.YtaijhllckmndhaaGreatDoor
