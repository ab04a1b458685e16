import Derived.Test.YtaijhllckmndhaaGreatDoorYJ0
import Derived.Test.YtaijhllckmndhaaGreatDoorYJ32
import Derived.Test.YtaijhllckmndhaaGreatDoorYJ22
import Derived.Deep.DeepCutAuto
import Derived.Deep.CutBlock
namespace Go.Proofs.YtaijhllckmndhaaGreatDoor
set_option linter.all false
set_option maxHeartbeats 64000000
set_option maxRecDepth 100000
section
open Go.RowKit
def zvz{P:Program}{w:World}{a:Act}{o:Oper}{t t':TypeId}{x:Operand}(ho:o.op= .binOp .and t x (.const (.int .u64 9223372036854775808)) t'){m z:Nat}(hx:a.eval x= .int .u64 (m:Int))(hz:Hid ((if 9223372036854775808≤m then 9223372036854775808 else 0:Nat)=z))(hm:m<18446744073709551616:=by omega):(execOp a.eval o).run P w= .ok (.value (.int .u64 (z:Int))) w:=by
 rw[←hz.out];exact ztC ho hx hm
def zpy(w:World)(b:Nat)(hb:b<18446744073709551616):
 Calls Tryz.prog 134 #[.int .u64 (b:Int)] w fun r w'=>r= .returned (.tuple #[.int .i64 ((b/4503599627370496%2048:Nat):Int), .int .u64 ((b%4503599627370496:Nat):Int)])∧Fr [] w w':=by
 have H:=Hp.start [] w
 go_enter Tryz.func134,Tryz.ntmps134
 revert H;refine W16 ?_;intro H;refine bodyPost_ret (results_tmp2 rfl _ _ _) rfl ?_;exact⟨rfl,H.fr⟩
def zaD(w:World){b x y:Nat}(hb:b<18446744073709551616)(hx:Hid (b/4503599627370496%2048=x))(hy:Hid (b%4503599627370496=y)):
 Calls Tryz.prog 134 #[.int .u64 (b:Int)] w fun r w'=>r= .returned (.tuple #[.int .i64 (x:Int), .int .u64 (y:Int)])∧Fr [] w w':=by
 rw[←hx.out,←hy.out];exact zpy w b hb
def zpY(w:World)(b:Nat)(hb:b<18446744073709551616):
 Calls Tryz.prog 150 #[.int .u64 (b:Int)] w fun r w'=>r= .returned (.int .i64 (zax b))∧Fr [] w w':=by
 have H:=Hp.start [] w;have HK:Hid (zax b=if b/4503599627370496%2048=2047 then(if b%4503599627370496=0 then 2 else 3)else if b/4503599627370496%2048=0∧b%4503599627370496=0 then 0 else 1):=hid rfl;have hx:b/4503599627370496%2048<2048:=Nat.mod_lt _ yf;obtain⟨x,hX⟩:∃x,b/4503599627370496%2048=x:=⟨_,rfl⟩;obtain⟨y,hY⟩:∃x,b%4503599627370496=x:=⟨_,rfl⟩;have hy:b%4503599627370496<4503599627370496:=Nat.mod_lt _ yf;rw[hX,hY]at HK;rw[hX]at hx;rw[hY]at hy;have HX:=hid hX;have HY:=hid hY;clear hX hY
 by_cases h1:x=2047
 ·by_cases h2:y=0
  ·have HV:Hid (zax b=2):=hid (HK.out.trans (by rw[if_pos h1,if_pos h2]))
   go_enter Tryz.func150,Tryz.ntmps150
   revert H;refine W16 ?_;intro H _ _ _ _ _;(refine xK H (zaD _ hb HX HY) ?_;clear H;intro w1 hF H);simp only[Int.not_lt,Int.not_le]at*;revert H;refine W16 ?_;intro H _ _
   go_ret
   exact⟨by rw[HV.out];rfl,H.fr⟩
  ·have HV:Hid (zax b=3):=hid (HK.out.trans (by rw[if_pos h1,if_neg h2]))
   go_enter Tryz.func150,Tryz.ntmps150
   revert H;refine W16 ?_;intro H _ _ _ _ _;(refine xK H (zaD _ hb HX HY) ?_;clear H;intro w1 hF H);simp only[Int.not_lt,Int.not_le]at*;revert H;refine W16 ?_;intro H _ _
   go_ret
   exact⟨by rw[HV.out];rfl,H.fr⟩
 ·by_cases h2:x=0
  ·by_cases h3:y=0
   ·have HV:Hid (zax b=0):=hid (HK.out.trans (by rw[if_neg h1,if_pos ⟨h2,h3⟩]))
    go_enter Tryz.func150,Tryz.ntmps150
    revert H;refine W16 ?_;intro H _ _ _ _ _;(refine xK H (zaD _ hb HX HY) ?_;clear H;intro w1 hF H);simp only[Int.not_lt,Int.not_le]at*;revert H;refine W16 ?_;intro H _ _
    go_ret
    exact⟨by rw[HV.out];rfl,H.fr⟩
   ·have HV:Hid (zax b=1):=hid (HK.out.trans (by rw[if_neg h1,if_neg (fun h=>h3 h.2)]))
    go_enter Tryz.func150,Tryz.ntmps150
    revert H;refine W16 ?_;intro H _ _ _ _ _;(refine xK H (zaD _ hb HX HY) ?_;clear H;intro w1 hF H);simp only[Int.not_lt,Int.not_le]at*;revert H;refine W16 ?_;intro H
    go_ret
    exact⟨by rw[HV.out];rfl,H.fr⟩
  ·have HV:Hid (zax b=1):=hid (HK.out.trans (by rw[if_neg h1,if_neg (fun h=>h2 h.1)]))
   go_enter Tryz.func150,Tryz.ntmps150
   revert H;refine W16 ?_;intro H _ _ _ _ _;(refine xK H (zaD _ hb HX HY) ?_;clear H;intro w1 hF H);simp only[Int.not_lt,Int.not_le]at*;revert H;refine W16 ?_;intro H
   go_ret
   exact⟨by rw[HV.out];rfl,H.fr⟩
def zcq(w:World){b:Nat}{k:Int}(hb:b<18446744073709551616)(hk:Hid (zax b=k)):
 Calls Tryz.prog 150 #[.int .u64 (b:Int)] w fun r w'=>r= .returned (.int .i64 k)∧Fr [] w w':=by
 rw[←hk.out];exact zpY w b hb
def zcH(w:World)(b:Nat)(hb:b<18446744073709551616):
 Calls Tryz.prog 139 #[.int .u64 (b:Int)] w fun r w'=>r= .returned (.bool (decide (9223372036854775808≤b)))∧Fr [] w w':=by
 have H:=Hp.start [] w
 by_cases h:9223372036854775808≤b
 ·have HI:=hid (show(if 9223372036854775808≤b then 9223372036854775808 else 0:Nat)=9223372036854775808 from if_pos h);rw[decide_eq_true h]
  go_enter Tryz.func139,Tryz.ntmps139
  revert H;refine W17 ?_;intro H
  go_ret
  exact⟨rfl,H.fr⟩
 ·have HI:=hid (show(if 9223372036854775808≤b then 9223372036854775808 else 0:Nat)=0 from if_neg h);rw[decide_eq_false h]
  go_enter Tryz.func139,Tryz.ntmps139
  revert H;refine W17 ?_;intro H
  go_ret
  exact⟨rfl,H.fr⟩
end
section
open Go.RowKit
def zbY(n:Nat):bl (10^n)≤4*n+1:=zbC (by
 have h1:10^n≤16^n:=Nat.pow_le_pow_left yf n;have h2:(16:Nat)^n=2^(4*n):=by rw[Nat.pow_mul]
 rw[h2]at h1
 exact Nat.lt_of_le_of_lt h1 (Nat.pow_lt_pow_right yf yb))
def zdb(w:World)(n:Nat)(hn:n≤5000):
 Calls Tryz.prog 187 #[.int .i64 (n:Int)] w fun e w'=>∃v1,e= .returned v1∧Fr [] w w'∧Bv w' v1 ((10^n:Nat):Int) (bl (10^n)):=by
 obtain⟨P,hP⟩:∃P,10^n=P:=⟨_,rfl⟩;have hbP:=zbY n;have hP0:0<P:=by rw[←hP];exact zD n
 rw[hP]at hbP ⊢;have HP:=hid hP;clear hP;have H:=Hp.start [] w
 go_enter Tryz.func187,Tryz.ntmps187
 go_wp2_with(first|refine x_q H ?_|refine x_l H ?_|refine x_e (zlA rfl rfl rfl) ?_|refine zm ?_ ?_<;>intro h|(revert H;refine xF ?_;intro w1 H hk)|(revert H;(first|(refine x_g ?_;intro g w1 hg hf H)|(refine x_s ?_;intro w1 hf H));(first|replace hf:=hf.kp|clear hf)))
 (refine x_c H (zO _ 1 yl) ?_;clear H;rintro e w1 ⟨v3,rfl,hF,hB⟩ H;replace hF:=hF.kp;obtain⟨b3,p3,m3,c3,rfl⟩:=hB.form;have HB3:=hid hB;clear hB)
 go_wp2_with(first|refine x_q H ?_|refine x_l H ?_|refine x_e (zlA rfl rfl rfl) ?_|refine zm ?_ ?_<;>intro h|(revert H;refine xF ?_;intro w1 H hk)|(revert H;(first|(refine x_g ?_;intro g w1 hg hf H)|(refine x_s ?_;intro w1 hf H));(first|replace hf:=hf.kp|clear hf)))
 (refine x_c H (zO _ 10 yl) ?_;clear H;rintro e w1 ⟨v4,rfl,hF,hB⟩ H;replace hF:=hF.kp;obtain⟨b4,p4,m4,c4,rfl⟩:=hB.form;have HB4:=hid hB;clear hB)
 go_wp2_with(first|refine x_q H ?_|refine x_l H ?_|refine x_e (zlA rfl rfl rfl) ?_|refine zm ?_ ?_<;>intro h|(revert H;refine xF ?_;intro w1 H hk)|(revert H;(first|(refine x_g ?_;intro g w1 hg hf H)|(refine x_s ?_;intro w1 hf H));(first|replace hf:=hf.kp|clear hf)))
 rename_i g2 wa ha fa wb Fb wc g3 wd hd fd we wf kf xa xb
 go_loopw [0] (fun s0 wr=>∃(k out ten:Nat) (b3 b4:Bool) (p3 p4:Option Addr) (m3 c3 m4 c4:Nat),s0= .int .i64 (k:Int)∧k≤5000∧Hid (out*ten^k=P)∧bl ten≤100000∧Hp [] w wr [.blk g [.bool b4, .slice p4 m4 c4] 118, .blk g3 [.bool b3, .slice p3 m3 c3] 118, .blk g2 [.bool false, .slice none 0 0] 118]∧Hid (Bv wr (.agg #[.bool b3, .slice p3 m3 c3]) (out:Int) (bl out))∧Hid (Bv wr (.agg #[.bool b4, .slice p4 m4 c4]) (ten:Int) (bl ten))) (fun v _=>(intOf v).toNat)
 case atStart=>exact⟨n,1,10,_,_,_,_,_,_,_,_,rfl,hn,hid (by rw[Nat.one_mul];exact HP.out),by decide,H,hid (bv HB3).c,hid (bv HB4).c⟩
 case round=>
  clear H HB3 HB4;obtain⟨k,out,ten,b3,b4,p3,p4,m3,c3,m4,c4,rfl,hk5,HO,hbt,H,HB3,HB4⟩:=hrel
  have hout:bl out≤bl P:=zbe (by
   have h:=HO.out
   rcases Nat.eq_zero_or_pos (ten^k)with h0|h0
   ·rw[h0,Nat.mul_zero]at h;omega
   ·rw[←h];exact Nat.le_mul_of_pos_right _ h0)
  by_cases hk:k=0
  ·subst hk;have HE:Hid (out=P):=hid (by have h:=HO.out;rwa [Nat.pow_zero,Nat.mul_one]at h);clear HO
   go_wp2_with(first|refine x_q H ?_|refine x_l H ?_|refine x_e (zlA rfl rfl rfl) ?_|refine zm ?_ ?_<;>intro h|(revert H;refine xF ?_;intro w1 H hk)|(revert H;(first|(refine x_g ?_;intro g w1 hg hf H)|(refine x_s ?_;intro w1 hf H));(first|replace hf:=hf.kp|clear hf)))
   refine zk H rfl rfl rfl ?_;exact⟨_,rfl,H.fr,by rw[←HE.out];exact bv HB3⟩
  ·have hten:bl ten≤bl P:=zbe (by
    have h:=HO.out;obtain⟨j,rfl⟩:∃j,k=j+1:=⟨k-1,by omega⟩;rw[Nat.pow_succ,←Nat.mul_assoc]at h;rw[←h]
    exact Nat.le_mul_of_pos_left _ (Nat.pos_of_ne_zero (fun h0=>by rw[h0,Nat.zero_mul]at h;omega)))
   have htt:=zcK ten ten;have hot:=zcK out ten;have hkk:(k:Int).tdiv 2=((k/2:Nat):Int):=by rw[Int.tdiv_eq_ediv_of_nonneg yb];omega
   have hk2:k/2<k:=by omega
   have hPR:=hid (zn7 HO.out);clear HO;have hmod:(k:Int).tmod 2=((k%2:Nat):Int):=by rw[Int.tmod_eq_emod_of_nonneg yb];omega
   by_cases h1:k%2=1
   ·have HPR:=hid (show out*ten*(ten*ten)^(k/2)=P by have h:=hPR.out;rwa [if_pos h1]at h);have hm1:(k:Int).tmod 2=1:=by omega
    clear hPR
    go_wp2_with(first|refine x_q H ?_|refine x_l H ?_|refine x_e (zlA rfl rfl rfl) ?_|refine zm ?_ ?_<;>intro h|(revert H;refine xF ?_;intro w1 H hk)|(revert H;(first|(refine x_g ?_;intro g w1 hg hf H)|(refine x_s ?_;intro w1 hf H));(first|replace hf:=hf.kp|clear hf)))
    (refine x_c H (zdB (bv HB3).ar (bv HB4).ar yb yb) ?_;clear H;rintro e w1 ⟨v5,rfl,hF,hB⟩ H;replace hF:=hF.kp;replace hB:=hB.c;rw[←Int.natCast_mul,Int.natAbs_natCast]at hB;obtain⟨b5,p5,m5,c5,rfl⟩:=hB.form;have HB5:=hid hB;clear hB)
    go_wp2_with(first|refine x_q H ?_|refine x_l H ?_|refine x_e (zlA rfl rfl rfl) ?_|refine zm ?_ ?_<;>intro h|(revert H;refine xF ?_;intro w1 H hk)|(revert H;(first|(refine x_g ?_;intro g w1 hg hf H)|(refine x_s ?_;intro w1 hf H));(first|replace hf:=hf.kp|clear hf)))
    (refine x_c H (zdB (bv HB4).ar (bv HB4).ar yb yb) ?_;clear H;rintro e w1 ⟨v6,rfl,hF,hB⟩ H;replace hF:=hF.kp;replace hB:=hB.c;rw[←Int.natCast_mul,Int.natAbs_natCast]at hB;obtain⟨b6,p6,m6,c6,rfl⟩:=hB.form;have HB6:=hid hB;clear hB)
    go_wp2_with(first|refine x_q H ?_|refine x_l H ?_|refine x_e (zlA rfl rfl rfl) ?_|refine zm ?_ ?_<;>intro h|(revert H;refine xF ?_;intro w1 H hk)|(revert H;(first|(refine x_g ?_;intro g w1 hg hf H)|(refine x_s ?_;intro w1 hf H));(first|replace hf:=hf.kp|clear hf)))
    go_roundw
    case rel=>exact⟨k/2,out*ten,ten*ten,_,_,_,_,_,_,_,_,by first|rfl|rw[hkk],by omega,HPR,by omega,H,hid (bv HB5),hid (bv HB6)⟩
    case measure=>(simp[intOf];try omega)
   ·have HPR:=hid (show out*(ten*ten)^(k/2)=P by have h:=hPR.out;rwa [if_neg h1]at h);have hm1:(k:Int).tmod 2=0:=by omega
    clear hPR
    go_wp2_with(first|refine x_q H ?_|refine x_l H ?_|refine x_e (zlA rfl rfl rfl) ?_|refine zm ?_ ?_<;>intro h|(revert H;refine xF ?_;intro w1 H hk)|(revert H;(first|(refine x_g ?_;intro g w1 hg hf H)|(refine x_s ?_;intro w1 hf H));(first|replace hf:=hf.kp|clear hf)))
    (refine x_c H (zdB (bv HB4).ar (bv HB4).ar yb yb) ?_;clear H;rintro e w1 ⟨v6,rfl,hF,hB⟩ H;replace hF:=hF.kp;replace hB:=hB.c;rw[←Int.natCast_mul,Int.natAbs_natCast]at hB;obtain⟨b6,p6,m6,c6,rfl⟩:=hB.form;have HB6:=hid hB;clear hB)
    go_wp2_with(first|refine x_q H ?_|refine x_l H ?_|refine x_e (zlA rfl rfl rfl) ?_|refine zm ?_ ?_<;>intro h|(revert H;refine xF ?_;intro w1 H hk)|(revert H;(first|(refine x_g ?_;intro g w1 hg hf H)|(refine x_s ?_;intro w1 hf H));(first|replace hf:=hf.kp|clear hf)))
    go_roundw
    case rel=>exact⟨k/2,out,ten*ten,_,_,_,_,_,_,_,_,by first|rfl|rw[hkk],by omega,HPR,by omega,H,hid (bv HB3),hid (bv HB6)⟩
    case measure=>(simp[intOf];try omega)
end
section
variable {w:World} {neg b more:Bool} {p:Option Addr} {k c n m:Nat} {ex z:Int} {u:Value}
open Go.RowKit
def znv(h:Av w (.agg #[.bool b, .slice p k c]) (m:Int) n)(hn:n≤200000)(hb:bl m≤200000)(he: -1000000≤ex∧ex≤1000000):
 Calls Tryz.prog 243 #[.agg #[.bool neg, .bool b, .slice p k c, .int .i64 ex, .bool more]] w fun r w'=>r= .returned (.int .i64 (ex+bl m-1))∧Fr [] w w':=by
 have HA1:=hid h;clear h;have H:=Hp.start [] w
 go_enter Tryz.func243,Tryz.ntmps243
 revert H;refine W15 ?_;intro _ g w1 hg H hf _ _
 (revert H;refine zR 8 (.st 0 (.st 1 (.st 2 (.st 3 (.ld 4 (.st 5 (.st 6 (.st 7 .done)))))))) ?_;intro w1 hf H;(first|replace hf:=hf.kp|clear hf))
 iterate 3 refine p_q ?_
 (refine p_l ?_)
 ((refine p_c H rfl rfl Tryz.func213 (zbi (HA1.out.fr H.fr) hn) ?_;clear H;rintro e w1 ⟨rfl,hF⟩ H;refine p_r ?_;replace hF:=hF.kp);rw[Int.natAbs_natCast])
 iterate 3 refine p_q ?_
 (refine zf ?_)
 all_goals
  revert H;refine W15 ?_;intro H
  go_ret
  exact⟨rfl,H.fr⟩
def zl8(k:Nat)(hz:z=(k:Int))(h:Av w u (m:Int) n)(hn:n≤200000)(hk:k≤1048576):
 Calls Tryz.prog 214 #[u, .int .i64 z] w fun e w'=>∃v1,e= .returned v1∧Fr [] w w'∧Bv w' v1 ((m/2^k:Nat):Int) (bl (m/2^k)):=by
 subst hz;refine Calls.mono (zfb k h hn hk) ?_;rintro e w' ⟨v1,rfl,hF,hB⟩;have e1:(m:Int)/2^k=((m/2^k:Nat):Int):=by rw[Int.natCast_ediv,Int.natCast_pow];rfl
 rw[e1,Int.natAbs_natCast]at hB;exact⟨v1,rfl,hF,hB⟩
def zc3(k:Nat)(hz:z=(k:Int))(h:Av w u (m:Int) n)(hn:n≤200000)(hk:k≤1048576):
 Calls Tryz.prog 259 #[u, .int .i64 z] w fun e w'=>∃v1,e= .returned v1∧Fr [] w w'∧Bv w' v1 ((m*2^k:Nat):Int) (bl (m*2^k)):=by
 subst hz;refine Calls.mono (zko k h hn hk) ?_;rintro e w' ⟨v1,rfl,hF,hB⟩;have e1:(m:Int)*2^k=((m*2^k:Nat):Int):=by rw[Int.natCast_mul,Int.natCast_pow];rfl
 rw[e1,Int.natAbs_natCast]at hB;exact⟨v1,rfl,hF,hB⟩
def zoe{r P:Nat}{h:Int}(hh:h=if r<P then -1 else if r=P∧more=false then 0 else 1)(hP:0<P):
 (r=0∧zC (r:Int) (P:Int)= -1∧h= -1∧decide (r=0∧more=false)= !more)∨(r≠0∧zC (r:Int) (P:Int)= -1∧h= -1∧decide (r=0∧more=false)=false)∨(r≠0∧more=false∧zC (r:Int) (P:Int)=0∧h=0∧decide (r=0∧more=false)=false)∨(r≠0∧more=true∧zC (r:Int) (P:Int)=0∧h=1∧decide (r=0∧more=false)=false)∨(r≠0∧zC (r:Int) (P:Int)=1∧h=1∧decide (r=0∧more=false)=false):=by
 by_cases r0:r=0
 ·subst r0;exact .inl ⟨rfl,zbr yb,by rw[hh,if_pos hP],by cases more<;>rfl⟩
 ·have he:decide (r=0∧more=false)=false:=decide_eq_false (fun h=>r0 h.1)
  rcases Nat.lt_trichotomy r P with h1|h1|h1
  ·exact .inr (.inl ⟨r0,zbr yb,by rw[hh,if_pos h1],he⟩)
  ·have hc:zC (r:Int) (P:Int)=0:=by rw[h1];exact zem _
   cases hm:more
   ·rw[hm]at he hh;exact .inr (.inr (.inl ⟨r0,rfl,hc,by rw[hh,if_neg yb,if_pos ⟨h1,rfl⟩],he⟩))
   ·rw[hm]at he hh;exact .inr (.inr (.inr (.inl ⟨r0,rfl,hc,by rw[hh,if_neg yb,if_neg yg],he⟩)))
  ·exact .inr (.inr (.inr (.inr ⟨r0,zb2 yb,by rw[hh,if_neg yb,if_neg yb],he⟩)))
def zp5{kk:Nat}(h:Av w (.agg #[.bool b, .slice p kk c]) (m:Int) n)(hn:n≤200000)(hm:m≠0)(hb:bl m≤200000)(hk0:1≤k)(hkU:k≤1048576):
 Calls Tryz.prog 297 #[.agg #[.bool neg, .bool b, .slice p kk c, .int .i64 ex, .bool more], .int .i64 (k:Int)] w fun r w'=>∃v1,r= .returned (.tuple #[v1, .int .i64 (half m k more), .bool (decide (m%2^k=0∧more=false))])∧Fr [] w w'∧Bv w' v1 ((m/2^k:Nat):Int) (bl (m/2^k)):=by
 have HA1:=hid h;have HM:=hid hm;clear h;have H:=Hp.start [] w
 by_cases hl:bl m<k
 ·obtain⟨e1,e2,e3⟩:=zmK (more:=more) hl;have E1:=hid e1;have E2:=hid e2;have E3:=hid e3;clear e1 e2 e3
  go_enter Tryz.func297,Tryz.ntmps297
  revert H;refine W15 ?_;intro _ _ _ _ _ g w1 hg H hf _ _ _ _;(refine x_c H (zbi (HA1.out.fr H.fr) hn) ?_;clear H;rintro e w1 ⟨rfl,hF⟩ H;replace hF:=hF.kp;rw[Int.natAbs_natCast]);simp only[Int.not_lt,Int.not_le]at*;revert H;refine W15 ?_;intro _ _ w1 H hk;refine zco H rfl rfl rfl rfl rfl ?_;exact⟨_,by rw[E1.out,decide_eq_false (by rw[E3.out];exact fun h=>HM.out h.1)],H.fr,by rw[E2.out];exact zbq _⟩
 ·have hn1:bl (m/2^k)≤bl m:=zbe (Nat.div_le_self _ _);have hn2:bl (m/2^k*2^k)≤bl m:=zbe (Nat.div_mul_le_self _ _);have hn3:bl (m%2^k)≤bl m:=zbe (Nat.mod_le _ _);have hn4:bl (2^(k-1))=k-1+1:=zjg _;have HS:Hid ((m:Int)-((m/2^k*2^k:Nat):Int)=((m%2^k:Nat):Int)):=hid (by have:=Nat.div_add_mod m (2^k);rw[Nat.mul_comm]at this;omega);have HP:Hid (0<2^(k-1)):=hid (Nat.two_pow_pos _);obtain⟨q,hq⟩:∃q,m/2^k=q:=⟨_,rfl⟩;obtain⟨qp,hqp⟩:∃q,m/2^k*2^k=q:=⟨_,rfl⟩;obtain⟨r,hr⟩:∃q,m%2^k=q:=⟨_,rfl⟩;obtain⟨P,hP⟩:∃q,2^(k-1)=q:=⟨_,rfl⟩;have HQP:Hid (q*2^k=qp):=hid (by rw[←hq,hqp]);have HPP:Hid (1*2^(k-1)=P):=hid (by rw[hP];omega);have HH:Hid (half m k more=if r<P then -1 else if r=P∧more=false then 0 else 1):=hid (by unfold half;rw[hr,hP]);rw[hqp]at hn2;rw[hq]at hn1 ⊢;rw[hr]at hn3 ⊢;rw[hP]at hn4 HP;rw[hqp,hr]at HS;have HQ:=hid hq;clear hq hqp hr hP
  have HALL:Hid ((r=0∧zC (r:Int) (P:Int)= -1∧half m k more= -1∧decide (r=0∧more=false)= !more)∨(r≠0∧zC (r:Int) (P:Int)= -1∧half m k more= -1∧decide (r=0∧more=false)=false)∨(r≠0∧more=false∧zC (r:Int) (P:Int)=0∧half m k more=0∧decide (r=0∧more=false)=false)∨(r≠0∧more=true∧zC (r:Int) (P:Int)=0∧half m k more=1∧decide (r=0∧more=false)=false)∨(r≠0∧zC (r:Int) (P:Int)=1∧half m k more=1∧decide (r=0∧more=false)=false)):=hid (zoe HH.out HP.out)
  go_enter Tryz.func297,Tryz.ntmps297
  revert H;refine W15 ?_;intro _ _ _ _ _ g w1 hg H hf _ _ _ _;(refine x_c H (zbi (HA1.out.fr H.fr) hn) ?_;clear H;rintro e w1 ⟨rfl,hF⟩ H;replace hF:=hF.kp;rw[Int.natAbs_natCast]);simp only[Int.not_lt,Int.not_le]at*;revert H;refine W15 ?_;intro H _ _ _ _;(refine x_c H (zl8 k rfl (HA1.out.fr H.fr) hn hkU) ?_;clear H;rintro e w1 ⟨v3,rfl,hF,hB⟩ H;replace hF:=hF.kp;rw[HQ.out]at hB;obtain⟨b3,p3,m3,c3,rfl⟩:=hB.form;have HB3:=hid hB;clear hB);simp only[Int.not_lt,Int.not_le]at*;revert H;refine W15 ?_;intro w1 H hk _ _
  go_cut [1,2,4,8] (fun s1 s2 s4 s8 wx=>∃(g2 g4 g8:Nat) (b5:Bool) (p5:Option Addr) (m5 c5:Nat),s1= .int .i64 (k:Int)∧s2= .pointer (some ⟨g2,0,none⟩)∧s4= .pointer (some ⟨g4,0,none⟩)∧s8= .pointer (some ⟨g8,0,none⟩)∧Hp [] w wx [.blk g8 [.bool b5, .slice p5 m5 c5] 118, .blk g4 [.bool b3, .slice p3 m3 c3] 118, .blk g2 [.bool neg, .bool b, .slice p kk c, .int .i64 ex, .bool more] 209]∧Hid (Bv wx (.agg #[.bool b5, .slice p5 m5 c5]) (r:Int) (bl r))∧Hid (Bv wx (.agg #[.bool b3, .slice p3 m3 c3]) (q:Int) (bl q)))
  case first=>
   (revert H;refine zR 7 (.st 0 (.st 1 (.st 2 (.st 3 (.ld2 4 (.ld2 5 (.ld 6 (.ld 7 .done)) 6 (.ld 5 (.ld 7 .done))) 6 (.ld 4 (.ld 5 (.ld 7 .done)))))))) ?_;intro w1 hf H;(first|replace hf:=hf.kp|clear hf))
   refine p_q ?_;(refine p_l ?_)
   iterate 2 refine p_q ?_
   (refine zcF ?_ ?_)
   ((refine p_c H rfl rfl Tryz.func259 (zc3 k rfl (bv HB3).ar yb hkU) ?_;clear H;rintro e w1 ⟨v4,rfl,hF,hB⟩ H;refine p_r ?_;replace hF:=hF.kp);rw[HQP.out]at hB;obtain⟨b4,p4,m4,c4,rfl⟩:=hB.form;have HB4:=hid hB;clear hB)
   (refine zcF ?_ ?_)
   ((refine p_c H rfl rfl Tryz.func312 (zjJ (HA1.out.fr H.fr) (bv HB4).ar hn yb) ?_;clear H;rintro e w1 ⟨v5,rfl,hF,hB⟩ H;refine p_r ?_;replace hF:=hF.kp);replace hB:=hB.c;rw[HS.out,Int.natAbs_natCast]at hB;obtain⟨b5,p5,m5,c5,rfl⟩:=hB.form;have HB5:=hid hB;clear hB)
   (revert H;refine p_g ?_;intro g w1 hg hf H;(first|replace hf:=hf.kp|clear hf))
   (revert H;refine zZ ?_;intro w1 hf H hk;clear hf;change Kp _ _ at hk)
   (refine zf ?_)
   rotate_left
   (revert H;refine p_g ?_;intro g w1 hg hf H;(first|replace hf:=hf.kp|clear hf))
   ((refine p_c H rfl rfl Tryz.func312 (zjJ (HA1.out.fr H.fr) (bv HB4).ar hn yb) ?_;clear H;rintro e w1 ⟨v5,rfl,hF,hB⟩ H;refine p_r ?_;replace hF:=hF.kp);replace hB:=hB.c;rw[HS.out,Int.natAbs_natCast]at hB;obtain⟨b5,p5,m5,c5,rfl⟩:=hB.form;have HB5:=hid hB;clear hB)
   (revert H;refine zZ ?_;intro w1 hf H hk;clear hf;change Kp _ _ at hk)
   (refine zf ?_)
   rotate_left
   (revert H;refine p_g ?_;intro g w1 hg hf H;(first|replace hf:=hf.kp|clear hf))
   ((refine p_c H rfl rfl Tryz.func259 (zc3 k rfl (bv HB3).ar yb hkU) ?_;clear H;rintro e w1 ⟨v4,rfl,hF,hB⟩ H;refine p_r ?_;replace hF:=hF.kp);rw[HQP.out]at hB;obtain⟨b4,p4,m4,c4,rfl⟩:=hB.form;have HB4:=hid hB;clear hB)
   ((refine p_c H rfl rfl Tryz.func312 (zjJ (HA1.out.fr H.fr) (bv HB4).ar hn yb) ?_;clear H;rintro e w1 ⟨v5,rfl,hF,hB⟩ H;refine p_r ?_;replace hF:=hF.kp);replace hB:=hB.c;rw[HS.out,Int.natAbs_natCast]at hB;obtain⟨b5,p5,m5,c5,rfl⟩:=hB.form;have HB5:=hid hB;clear hB)
   (revert H;refine zZ ?_;intro w1 hf H hk;clear hf;change Kp _ _ at hk)
   (refine zf ?_)
   rotate_left
   all_goals
    revert H;refine W15 ?_;intro H
    go_meet
    case rel=>exact⟨_,_,_,_,_,_,_,rfl,rfl,rfl,rfl,by(refine Hp.arr H ?_;repeat (first|exact Pm.nil _|(apply Pm.cons;· (repeat first|exact Rm.here _|apply Rm.there)))),hid (bv HB5),hid (bv HB3)⟩
  case rest=>
   clear H HB3;obtain⟨g2,g4,g8,b5,p5,m5,c5,rfl,rfl,rfl,rfl,H,HB5,HB3⟩:=hcut;revert H;refine W15 ?_;intro H _ _
   (revert H;refine zR 7 (.st 0 (.st 2 (.st 3 (.ld 1 (.ld 4 (.ld 5 (.st 6 .done))))))) ?_;intro w1 hf H;(first|replace hf:=hf.kp|clear hf))
   iterate 3 refine p_q ?_
   ((refine p_c H rfl rfl Tryz.func138 (zO _ 1 yl) ?_;clear H;rintro e w1 ⟨v7,rfl,hF,hB⟩ H;refine p_r ?_;replace hF:=hF.kp);obtain⟨b7,p7,m7,c7,rfl⟩:=hB.form;have HB7:=hid hB;clear hB)
   ((refine p_c H rfl rfl Tryz.func259 (zc3 (m:=1) (k-1) yb (bv HB7).ar yb yb) ?_;clear H;rintro e w1 ⟨v8,rfl,hF,hB⟩ H;refine p_r ?_;replace hF:=hF.kp);rw[HPP.out]at hB;obtain⟨b8,p8,m8,c8,rfl⟩:=hB.form;have HB8:=hid hB;clear hB)
   ((refine p_c H rfl rfl Tryz.func277 (zhg (bv HB5).ar (bv HB8).ar yb yb) ?_;clear H;rintro e w1 ⟨rfl,hF⟩ H;refine p_r ?_;replace hF:=hF.kp);skip)
   refine p_q ?_;(refine zf ?_)
   all_goals
    rcases HALL.out with⟨r0,hc,hh,he⟩|⟨r0,hc,hh,he⟩|⟨r0,hm0,hc,hh,he⟩|⟨r0,hm0,hc,hh,he⟩|⟨r0,hc,hh,he⟩
    ·rw[hc];have HHV:=hid hh;have HEV:=hid he;have hs0:=hid (show(r:Int)=0 by omega);clear r0 hc hh he HALL;revert H;refine W15 ?_;intro H _ _
     (revert H;refine zR 13 (.st 0 (.st 1 (.st 2 (.ld 3 (.st 4 (.st 5 (.st 6 (.st 7 (.st 8 (.st 9 (.ld 10 (.st 11 (.st 12 .done))))))))))))) ?_;intro w1 hf H;(first|replace hf:=hf.kp|clear hf))
     iterate 3 refine p_q ?_
     ((refine p_c H rfl rfl Tryz.func211 (zdF (bv HB5).ar yb hs0.out) ?_;clear H;rintro e w1 ⟨rfl,hF⟩ H;refine p_r ?_;replace hF:=hF.kp);skip)
     iterate 2 refine p_q ?_
     iterate 3 (first|refine p_q ?_|refine p_n ?_)
     refine p_q ?_
     (revert H;refine zZ ?_;intro w1 hf H hk;clear hf;change Kp _ _ at hk)
     iterate 2 refine p_q ?_
     (refine zf ?_)
     all_goals
      revert H;refine W15 ?_;intro H;refine zco H rfl rfl rfl rfl rfl ?_;exact⟨_,by first|(rw[HHV.out,HEV.out];done)|(rw[HHV.out,HEV.out];rfl)|(rw[HHV.out];simp[show ¬r=0 from fun h=>hs0.out (by rw[h];rfl)]),H.fr,bv HB3⟩
    ·rw[hc];have HHV:=hid hh;have HEV:=hid he;have hs0:=hid (show(r:Int)≠0 by omega);clear r0 hc hh he HALL;revert H;refine W15 ?_;intro H _ _
     (revert H;refine zR 13 (.st 0 (.st 1 (.st 2 (.ld 3 (.st 4 (.st 5 (.st 6 (.st 7 (.st 8 (.st 9 (.ld 10 (.st 11 (.st 12 .done))))))))))))) ?_;intro w1 hf H;(first|replace hf:=hf.kp|clear hf))
     iterate 3 refine p_q ?_
     ((refine p_c H rfl rfl Tryz.func211 (zbv (bv HB5).ar yb hs0.out) ?_;clear H;rintro e w1 ⟨s6,rfl,hs6,hF⟩ H;refine p_r ?_;replace hF:=hF.kp);skip)
     iterate 2 refine p_q ?_
     iterate 3 (first|refine p_q ?_|refine p_n ?_)
     refine p_q ?_
     (revert H;refine zZ ?_;intro w1 hf H hk;clear hf;change Kp _ _ at hk)
     iterate 2 refine p_q ?_
     (refine zf ?_)
     all_goals
      revert H;refine W15 ?_;intro H;refine zco H rfl rfl rfl rfl rfl ?_;exact⟨_,by first|(rw[HHV.out,HEV.out];done)|(rw[HHV.out,HEV.out];rfl)|(rw[HHV.out];simp[show ¬r=0 from fun h=>hs0.out (by rw[h];rfl)]),H.fr,bv HB3⟩
    ·rw[hc];have HHV:=hid hh;have HEV:=hid he;have hs0:=hid (show(r:Int)≠0 by omega);clear r0 hc hh he HALL HH;subst hm0;simp only[Int.not_lt,Int.not_le]at*;revert H;refine W15 ?_;intro H _ _
     (revert H;refine zR 13 (.st 0 (.st 1 (.st 2 (.ld 3 (.st 4 (.st 5 (.st 6 (.st 7 (.st 8 (.st 9 (.ld 10 (.st 11 (.st 12 .done))))))))))))) ?_;intro w1 hf H;(first|replace hf:=hf.kp|clear hf))
     iterate 3 refine p_q ?_
     ((refine p_c H rfl rfl Tryz.func211 (zbv (bv HB5).ar yb hs0.out) ?_;clear H;rintro e w1 ⟨s6,rfl,hs6,hF⟩ H;refine p_r ?_;replace hF:=hF.kp);skip)
     iterate 2 refine p_q ?_
     iterate 3 (first|refine p_q ?_|refine p_n ?_)
     refine p_q ?_
     (revert H;refine zZ ?_;intro w1 hf H hk;clear hf;change Kp _ _ at hk)
     iterate 2 refine p_q ?_
     (refine zf ?_)
     all_goals
      revert H;refine W15 ?_;intro H;refine zco H rfl rfl rfl rfl rfl ?_;exact⟨_,by first|(rw[HHV.out,HEV.out];done)|(rw[HHV.out,HEV.out];rfl)|(rw[HHV.out];simp[show ¬r=0 from fun h=>hs0.out (by rw[h];rfl)]),H.fr,bv HB3⟩
    ·rw[hc];have HHV:=hid hh;have HEV:=hid he;have hs0:=hid (show(r:Int)≠0 by omega);clear r0 hc hh he HALL HH;subst hm0;revert H;refine W15 ?_;intro H _ _
     (revert H;refine zR 13 (.st 0 (.st 1 (.st 2 (.ld 3 (.st 4 (.st 5 (.st 6 (.st 7 (.st 8 (.st 9 (.ld 10 (.st 11 (.st 12 .done))))))))))))) ?_;intro w1 hf H;(first|replace hf:=hf.kp|clear hf))
     iterate 3 refine p_q ?_
     ((refine p_c H rfl rfl Tryz.func211 (zbv (bv HB5).ar yb hs0.out) ?_;clear H;rintro e w1 ⟨s6,rfl,hs6,hF⟩ H;refine p_r ?_;replace hF:=hF.kp);skip)
     iterate 2 refine p_q ?_
     iterate 3 (first|refine p_q ?_|refine p_n ?_)
     refine p_q ?_
     (revert H;refine zZ ?_;intro w1 hf H hk;clear hf;change Kp _ _ at hk)
     iterate 2 refine p_q ?_
     (refine zf ?_)
     all_goals
      revert H;refine W15 ?_;intro H;refine zco H rfl rfl rfl rfl rfl ?_;exact⟨_,by first|(rw[HHV.out,HEV.out];done)|(rw[HHV.out,HEV.out];rfl)|(rw[HHV.out];simp[show ¬r=0 from fun h=>hs0.out (by rw[h];rfl)]),H.fr,bv HB3⟩
    ·rw[hc];have HHV:=hid hh;have HEV:=hid he;have hs0:=hid (show(r:Int)≠0 by omega);clear r0 hc hh he HALL;revert H;refine W15 ?_;intro H _ _
     (revert H;refine zR 13 (.st 0 (.st 1 (.st 2 (.ld 3 (.st 4 (.st 5 (.st 6 (.st 7 (.st 8 (.st 9 (.ld 10 (.st 11 (.st 12 .done))))))))))))) ?_;intro w1 hf H;(first|replace hf:=hf.kp|clear hf))
     iterate 3 refine p_q ?_
     ((refine p_c H rfl rfl Tryz.func211 (zbv (bv HB5).ar yb hs0.out) ?_;clear H;rintro e w1 ⟨s6,rfl,hs6,hF⟩ H;refine p_r ?_;replace hF:=hF.kp);skip)
     iterate 2 refine p_q ?_
     iterate 3 (first|refine p_q ?_|refine p_n ?_)
     refine p_q ?_
     (revert H;refine zZ ?_;intro w1 hf H hk;clear hf;change Kp _ _ at hk)
     iterate 2 refine p_q ?_
     (refine zf ?_)
     all_goals
      revert H;refine W15 ?_;intro H;refine zco H rfl rfl rfl rfl rfl ?_;exact⟨_,by first|(rw[HHV.out,HEV.out];done)|(rw[HHV.out,HEV.out];rfl)|(rw[HHV.out];simp[show ¬r=0 from fun h=>hs0.out (by rw[h];rfl)]),H.fr,bv HB3⟩
end
end Go.Proofs.YtaijhllckmndhaaGreatDoor
