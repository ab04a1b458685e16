import Derived.Test.YtoiebebjgnpkmaaGreatDoorYJ0
import Derived.Test.YtoiebebjgnpkmaaGreatDoorYJ42
import Derived.Test.YtoiebebjgnpkmaaGreatDoorYJ12
import Derived.Test.YtoiebebjgnpkmaaGreatDoorYJ45
namespace Go.Proofs.YtoiebebjgnpkmaaGreatDoor
open Go.RowKit
set_option linter.unusedSimpArgs false
set_option linter.unusedVariables false
set_option maxHeartbeats 8000000
set_option maxRecDepth 100000
attribute [local irreducible] wpList Code.wp Plan.wp
def sLen:Value→Nat
 | .string b=>b.size
 | _ =>0
theorem sLen_str (l:List UInt8):sLen (strV l)=l.length:=by unfold strV sLen;exact ba_size l
theorem lcount_any (w:World) (x:Nat) (hx:x≤9) (hT:La w) {l:List UInt8} (hl:Hid (padL [UInt8.ofNat (48+x)]=l)):Calls Tryz.prog 57 #[.int .i64 (x:Int)] w fun e w'=>e= .returned (strV l)∧Fr [] w w':=by
 have HT:=hid hT
 have HF:=hid (show fmt (x:Int)=[UInt8.ofNat (48+x)] by unfold fmt;rw [if_neg (by omega),Int.natAbs_natCast];exact dec_small (by omega))
 obtain ⟨r,hr⟩:∃ r,[UInt8.ofNat (48+x)]=r:=⟨_,rfl⟩
 have hrl:r.length=1:=by rw [← hr];rfl
 rw [hr] at HF hl
 clear hT hr
 have H:=Hp.start [] w
 go_enter Tryz.func57,Tryz.ntmps57
 (revert H;refine W874a ?_ <;>unhygienic intros)
 (refine x_c H (itoaZ_any _ (by omega) _ (HT.out.fr H.fr) HF) ?_;clear H;rintro e w1 ⟨rfl,hF⟩ H;clear hF)
 (revert H;refine W874a ?_ <;>unhygienic intros)
 go_loopw [3] (fun s3 wr=>∃ (k:Nat) (u:List UInt8),s3=strV u∧k≤13∧u.length=k+1∧Hid (u=List.replicate k 32++r)∧Hp [] w wr []) (fun v _ =>14 - sLen v)
 case atStart=>exact ⟨0,r,rfl,by omega,hrl,hid rfl,H⟩
 case round=>
  clear H
  obtain ⟨k,u,rfl,hk,hul,HU,H⟩:=hrel
  by_cases hlt:k<13
  ·obtain ⟨t,ht⟩:∃ t,[32]++u=t:=⟨_,rfl⟩
   have HQ:=hid ht
   have HN:=hid (show t=List.replicate (k+1) 32++r by rw [← ht,HU.out];rfl)
   have htl:t.length=k+2:=by rw [← ht,List.length_append,hul];simp only [List.length_cons,List.length_nil];omega
   clear ht
   (revert H;refine W5508 ?_ <;>unhygienic intros)
   go_roundw
   case rel=>exact ⟨k+1,t,rfl,by omega,htl,HN,H⟩
   case measure=>(rw [sLen_str,sLen_str];omega)
  ·obtain rfl:k=13:=by omega
   have HE:=hid (show u=l by rw [HU.out,← hl.out];unfold padL;rw [hrl])
   (revert H;refine W874a ?_ <;>unhygienic intros)
   go_ret
   exact ⟨by rw [HE.out];rfl,H.fr⟩
theorem lpad_any (w:World) (s:List UInt8) (n:Nat) (hs:s.length≤n) (hn:n≤1000) {l:List UInt8} (hl:Hid (padR n s=l)):Calls Tryz.prog 58 #[strV s, .int .i64 (n:Int)] w fun e w'=>e= .returned (strV l)∧Fr [] w w':=by
 have H:=Hp.start [] w
 go_enter Tryz.func58,Tryz.ntmps58
 (revert H;refine W874a ?_ <;>unhygienic intros)
 go_loopw [0] (fun s0 wr=>∃ (k:Nat) (u:List UInt8),s0=strV u∧s.length+k≤n∧u.length=s.length+k∧Hid (u=s++List.replicate k 32)∧Hp [] w wr []) (fun v _ =>n - sLen v)
 case atStart=>exact ⟨0,s,rfl,by omega,rfl,hid (by simp),H⟩
 case round=>
  clear H
  obtain ⟨k,u,rfl,hk,hul,HU,H⟩:=hrel
  by_cases hlt:s.length+k<n
  ·obtain ⟨t,ht⟩:∃ t,u++[32]=t:=⟨_,rfl⟩
   have HQ:=hid ht
   have HN:=hid (show t=s++List.replicate (k+1) 32 by rw [← ht,HU.out,List.append_assoc,← List.replicate_succ'])
   have htl:t.length=s.length+k+1:=by rw [← ht,List.length_append,hul];simp only [List.length_cons,List.length_nil]
   clear ht
   (revert H;refine Wbdee ?_ <;>unhygienic intros)
   go_roundw
   case rel=>exact ⟨k+1,t,rfl,by omega,by omega,HN,H⟩
   case measure=>(rw [sLen_str,sLen_str];omega)
  ·have hk2:k=n - s.length:=by omega
   have HE:=hid (show u=l by rw [HU.out,← hl.out,hk2];rfl)
   clear hk2
   (revert H;refine W874a ?_ <;>unhygienic intros)
   go_ret
   exact ⟨by rw [HE.out];rfl,H.fr⟩
theorem one_any (w:World) (f x:List UInt8) (hf:f.length≤1000) (hx:x.length≤1000) (hT:La w):Calls Tryz.prog 22 #[strV f,strV x] w fun e w'=>∃ p c,e= .returned (.slice p (oneB f x).length c)∧Fr [] w w'∧Rd w' (.slice p (oneB f x).length c) (oneB f x).length (bytesV (oneB f x)):=by
 have HT:=hid hT
 clear hT
 obtain ⟨c3,h3⟩:∃ c,padL [UInt8.ofNat (48+3)]=c:=⟨_,rfl⟩
 obtain ⟨c1,h1⟩:∃ c,padL [UInt8.ofNat (48+1)]=c:=⟨_,rfl⟩
 obtain ⟨c0,h0⟩:∃ c,padL [UInt8.ofNat (48+0)]=c:=⟨_,rfl⟩
 obtain ⟨a,ha⟩:∃ c,padR 14 [82,85,65]=c:=⟨_,rfl⟩
 obtain ⟨b,hb⟩:∃ c,padR 16 [40,50,73,52,41]=c:=⟨_,rfl⟩
 obtain ⟨d,hd⟩:∃ c,padR 16 [40,73,52,41]=c:=⟨_,rfl⟩
 have e3:c3.length≤20:=by rw [← h3];decide
 have e1:c1.length≤20:=by rw [← h1];decide
 have e0:c0.length≤20:=by rw [← h0];decide
 have ea:a.length≤20:=by rw [← ha];decide
 have eb:b.length≤20:=by rw [← hb];decide
 have ed:d.length≤20:=by rw [← hd];decide
 obtain ⟨t1,q1⟩:∃ t,[116,105,116,108,101,10]++c3=t:=⟨_,rfl⟩;have l1:t1.length≤26:=by (rw [← q1,List.length_append];(try simp only [List.length_cons,List.length_nil]);omega)
 obtain ⟨t2,q2⟩:∃ t,t1++c1=t:=⟨_,rfl⟩;have l2:t2.length≤46:=by (rw [← q2,List.length_append];(try simp only [List.length_cons,List.length_nil]);omega)
 obtain ⟨t3,q3⟩:∃ t,t2++c1=t:=⟨_,rfl⟩;have l3:t3.length≤66:=by (rw [← q3,List.length_append];(try simp only [List.length_cons,List.length_nil]);omega)
 obtain ⟨t4,q4⟩:∃ t,t3++c1=t:=⟨_,rfl⟩;have l4:t4.length≤86:=by (rw [← q4,List.length_append];(try simp only [List.length_cons,List.length_nil]);omega)
 obtain ⟨t5,q5⟩:∃ t,t4++c0=t:=⟨_,rfl⟩;have l5:t5.length≤106:=by (rw [← q5,List.length_append];(try simp only [List.length_cons,List.length_nil]);omega)
 obtain ⟨t6,q6⟩:∃ t,t5++[10]=t:=⟨_,rfl⟩;have l6:t6.length≤107:=by (rw [← q6,List.length_append];(try simp only [List.length_cons,List.length_nil]);omega)
 obtain ⟨t7,q7⟩:∃ t,t6++a=t:=⟨_,rfl⟩;have l7:t7.length≤127:=by (rw [← q7,List.length_append];(try simp only [List.length_cons,List.length_nil]);omega)
 obtain ⟨t8,q8⟩:∃ t,t7++c1=t:=⟨_,rfl⟩;have l8:t8.length≤147:=by (rw [← q8,List.length_append];(try simp only [List.length_cons,List.length_nil]);omega)
 obtain ⟨t9,q9⟩:∃ t,t8++c1=t:=⟨_,rfl⟩;have l9:t9.length≤167:=by (rw [← q9,List.length_append];(try simp only [List.length_cons,List.length_nil]);omega)
 obtain ⟨t10,q10⟩:∃ t,t9++c1=t:=⟨_,rfl⟩;have l10:t10.length≤187:=by (rw [← q10,List.length_append];(try simp only [List.length_cons,List.length_nil]);omega)
 obtain ⟨t11,q11⟩:∃ t,t10++c0=t:=⟨_,rfl⟩;have l11:t11.length≤207:=by (rw [← q11,List.length_append];(try simp only [List.length_cons,List.length_nil]);omega)
 obtain ⟨t12,q12⟩:∃ t,t11++[10]=t:=⟨_,rfl⟩;have l12:t12.length≤208:=by (rw [← q12,List.length_append];(try simp only [List.length_cons,List.length_nil]);omega)
 obtain ⟨t13,q13⟩:∃ t,t12++b=t:=⟨_,rfl⟩;have l13:t13.length≤228:=by (rw [← q13,List.length_append];(try simp only [List.length_cons,List.length_nil]);omega)
 obtain ⟨t14,q14⟩:∃ t,t13++d=t:=⟨_,rfl⟩;have l14:t14.length≤248:=by (rw [← q14,List.length_append];(try simp only [List.length_cons,List.length_nil]);omega)
 obtain ⟨t15,q15⟩:∃ t,t14++f=t:=⟨_,rfl⟩;have l15:t15.length≤1248:=by (rw [← q15,List.length_append];(try simp only [List.length_cons,List.length_nil]);omega)
 obtain ⟨t16,q16⟩:∃ t,t15++[10,32,32,32,49,32,32,32,50,10,32,32,32,49,10]=t:=⟨_,rfl⟩;have l16:t16.length≤1268:=by (rw [← q16,List.length_append];(try simp only [List.length_cons,List.length_nil]);omega)
 obtain ⟨t17,q17⟩:∃ t,t16++x=t:=⟨_,rfl⟩;have l17:t17.length≤2268:=by (rw [← q17,List.length_append];(try simp only [List.length_cons,List.length_nil]);omega)
 obtain ⟨t18,q18⟩:∃ t,t17++[10]=t:=⟨_,rfl⟩;have l18:t18.length≤2269:=by (rw [← q18,List.length_append];(try simp only [List.length_cons,List.length_nil]);omega)
 have HS:Hid (t18=oneB f x):=hid (by
  rw [← q18,← q17,← q16,← q15,← q14,← q13,← q12,← q11,← q10,← q9,← q8,← q7,← q6,← q5,← q4,← q3,← q2,← q1,← h3,← h1,← h0,← ha,← hb,← hd]
  unfold oneB bL1 bL2 bL3 bL4 bL5 sTitle sRUA
  simp only [List.append_assoc,List.cons_append,List.nil_append]
  rfl)
 have C3:=hid h3;have C1:=hid h1;have C0:=hid h0;have CA:=hid ha;have CB:=hid hb;have CD:=hid hd
 have Q1:=hid q1;have Q2:=hid q2;have Q3:=hid q3;have Q4:=hid q4;have Q5:=hid q5;have Q6:=hid q6;have Q7:=hid q7;have Q8:=hid q8;have Q9:=hid q9;have Q10:=hid q10;have Q11:=hid q11;have Q12:=hid q12;have Q13:=hid q13;have Q14:=hid q14;have Q15:=hid q15;have Q16:=hid q16;have Q17:=hid q17;have Q18:=hid q18
 clear h3 h1 h0 ha hb hd q1 q2 q3 q4 q5 q6 q7 q8 q9 q10 q11 q12 q13 q14 q15 q16 q17 q18
 have H:=Hp.start [] w
 go_enter Tryz.func22,Tryz.ntmps22
 (revert H;refine W8a50 ?_ <;>unhygienic intros)
 (refine x_c H (lcount_any _ 3 (by decide) (HT.out.fr H.fr) C3) ?_;clear H;rintro e w1 ⟨rfl,hF⟩ H;clear hF)
 (revert H;refine W8a50 ?_ <;>unhygienic intros)
 (refine x_c H (lcount_any _ 1 (by decide) (HT.out.fr H.fr) C1) ?_;clear H;rintro e w1 ⟨rfl,hF⟩ H;clear hF)
 (revert H;refine W8a50 ?_ <;>unhygienic intros)
 (refine x_c H (lcount_any _ 1 (by decide) (HT.out.fr H.fr) C1) ?_;clear H;rintro e w1 ⟨rfl,hF⟩ H;clear hF)
 (revert H;refine W8a50 ?_ <;>unhygienic intros)
 (refine x_c H (lcount_any _ 1 (by decide) (HT.out.fr H.fr) C1) ?_;clear H;rintro e w1 ⟨rfl,hF⟩ H;clear hF)
 (revert H;refine W8a50 ?_ <;>unhygienic intros)
 (refine x_c H (lcount_any _ 0 (by decide) (HT.out.fr H.fr) C0) ?_;clear H;rintro e w1 ⟨rfl,hF⟩ H;clear hF)
 (revert H;refine W8a50 ?_ <;>unhygienic intros)
 (refine x_c H (lpad_any _ [82,85,65] 14 (by decide) (by decide) CA) ?_;clear H;rintro e w1 ⟨rfl,hF⟩ H;clear hF)
 (revert H;refine W8a50 ?_ <;>unhygienic intros)
 (refine x_c H (lcount_any _ 1 (by decide) (HT.out.fr H.fr) C1) ?_;clear H;rintro e w1 ⟨rfl,hF⟩ H;clear hF)
 (revert H;refine W8a50 ?_ <;>unhygienic intros)
 (refine x_c H (lcount_any _ 1 (by decide) (HT.out.fr H.fr) C1) ?_;clear H;rintro e w1 ⟨rfl,hF⟩ H;clear hF)
 (revert H;refine W8a50 ?_ <;>unhygienic intros)
 (refine x_c H (lcount_any _ 1 (by decide) (HT.out.fr H.fr) C1) ?_;clear H;rintro e w1 ⟨rfl,hF⟩ H;clear hF)
 (revert H;refine W8a50 ?_ <;>unhygienic intros)
 (refine x_c H (lcount_any _ 0 (by decide) (HT.out.fr H.fr) C0) ?_;clear H;rintro e w1 ⟨rfl,hF⟩ H;clear hF)
 (revert H;refine W8a50 ?_ <;>unhygienic intros)
 (refine x_c H (lpad_any _ [40,50,73,52,41] 16 (by decide) (by decide) CB) ?_;clear H;rintro e w1 ⟨rfl,hF⟩ H;clear hF)
 (revert H;refine W8a50 ?_ <;>unhygienic intros)
 (refine x_c H (lpad_any _ [40,73,52,41] 16 (by decide) (by decide) CD) ?_;clear H;rintro e w1 ⟨rfl,hF⟩ H;clear hF)
 (revert H;refine W8a50 ?_ <;>unhygienic intros)
 go_ret
 have hrd:=(H.ob 9).rd
 refine ⟨some ⟨g,0,none⟩,cap, ?_,H.fr, ?_⟩
 ·rw [← HS.out];rfl
 ·rw [← HS.out];exact hrd
end Go.Proofs.YtoiebebjgnpkmaaGreatDoor
namespace Go.Proofs.YtoiebebjgnpkmaaGreatDoor
open Go.RowKit
set_option linter.unusedSimpArgs false
set_option linter.unusedVariables false
set_option maxHeartbeats 8000000
set_option maxRecDepth 100000
attribute [local irreducible] wpList Code.wp Plan.wp
theorem la_of {W:World} (h:laidMetH Tryz.prog laid7 W):La W:=⟨laid_tab7 h,laid_pow7 h⟩
theorem awakeB_any (w:World) (hT:La w):Calls Tryz.prog 6 #[] w fun e w'=>e= .returned (.bool true)∧Fr [] w w':=by
 have HT:=hid hT
 have HO:=hid awake_one
 clear hT
 have H:=Hp.start [] w
 go_enter Tryz.func6,Tryz.ntmps6
 (revert H;refine We7dc ?_ <;>unhygienic intros)
 refine x_c H (one_any _ [40,51,70,54,46,50,41] v125 (by decide) (by decide) (HT.out.fr H.fr)) ?_
 clear H
 rintro e w1 ⟨p,c,rfl,hF,hrd⟩ H
 clear hF
 (revert H;refine We7dc ?_ <;>unhygienic intros)
 refine Calls.mono (parse_good _ _ (one_len HO.out.nf (by have:=HO.out.nx;omega)) hrd (HT.out.fr H.fr) HO.out.lines (head_ok HO.out.nf HO.out.af HO.out.fmt_) (body_ok HO.out)) ?_
 clear hrd
 rintro e w1 ⟨hF,v1,v2,v3,B,rfl,hM,hB⟩
 obtain ⟨S1,S2,S3,H1⟩:=H.mat 2 3 4 hF hM hB
 clear H hF hM hB
 have H:=H1
 clear H1
 obtain ⟨q1,d1,rfl,_⟩:=(H.rowo 2).form
 obtain ⟨q2,d2,rfl,_⟩:=(H.rowo 3).form
 obtain ⟨gv,d3,hvv,rfl⟩:=(H.rowo 4).some (by simp)
 subst hvv
 (revert H;refine We7dc ?_ <;>unhygienic intros)
 refine x_c H (parse_nil _) ?_
 clear H
 rintro e w1 ⟨rfl,hF⟩ H
 clear hF
 have hld:=(H.rowo 4).cell (p:=0) (v:= .int .u64 4608308318706860032) rfl
 (revert H;refine W7772 ?_ <;>unhygienic intros)
 go_ret
 exact ⟨rfl,H.fr⟩
end Go.Proofs.YtoiebebjgnpkmaaGreatDoor
namespace Go.Proofs.YtoiebebjgnpkmaaGreatDoor
open Go.RowKit
set_option linter.unusedSimpArgs false
set_option linter.unusedVariables false
set_option maxHeartbeats 8000000
set_option maxRecDepth 100000
attribute [local irreducible] wpList Code.wp Plan.wp
theorem ev_m11J {P:Program} {w:World} {a:Act} {o:Oper} {t t':TypeId} {x:Operand} (ho:o.op= .binOp .and t x (.const (.int .u64 2047)) t') {m z:Nat} (hx:a.eval x= .int .u64 (m:Int)) (hz:Hid (m % 2048=z)) (hm:m<18446744073709551616:=by omega):(execOp a.eval o).run P w= .ok (.value (.int .u64 (z:Int))) w:=by
 rw [← hz.out];exact ev_m11 ho hx hm
theorem rfin_any (w:World) {b:Nat} (hb:b<18446744073709551616) {z:Bool} (hz:Hid (finF b=z)):
 Calls Tryz.prog 56 #[.int .u64 (b:Int)] w fun r w'=>r= .returned (.bool z)∧Fr [] w w':=by
 have H:=Hp.start [] w
 obtain ⟨x,hx0⟩:∃ x,b / 4503599627370496 % 2048=x:=⟨_,rfl⟩
 have hx:=hid hx0
 have hzz:=hz.out
 unfold finF at hzz
 rw [hx0] at hzz
 clear hx0 hz
 have hq:b / 4503599627370496<18446744073709551616:=by omega
 by_cases h1:x=2047
 ·have HZ:Hid (z=false):=hid (by rw [← hzz,h1];rfl)
  have h1':(x:Int)=2047:=by omega
  clear hzz
  go_enter Tryz.func56,Tryz.ntmps56
  ((try simp only [Int.not_lt,Int.not_le] at*);revert H;refine We17e ?_ <;>unhygienic intros)
  go_ret
  exact ⟨by rw [HZ.out];first | rfl | skip,H.fr⟩
 ·have HZ:Hid (z=true):=hid (by rw [← hzz];simpa using h1)
  have h1':¬ (x:Int)=2047:=by omega
  clear hzz
  go_enter Tryz.func56,Tryz.ntmps56
  ((try simp only [Int.not_lt,Int.not_le] at*);revert H;refine We17e ?_ <;>unhygienic intros)
  go_ret
  exact ⟨by rw [HZ.out];first | rfl | skip,H.fr⟩
theorem rfinite1_any (w:World) {b ga gb gc c1 c2 c3:Nat} (h:M1 b ga gb gc c1 c2 c3 w) {z:Bool} (hfz:Hid (finF b=z)):
 Calls Tryz.prog 21 #[.slice (some ⟨gc,0,none⟩) 1 c3] w fun e w'=>e= .returned (.bool z)∧Fr [] w w':=by
 have H3:=hid h.h3
 have hb:=h.hb
 clear h
 have H:=Hp.start [] w
 cases z with
 | false=>
  go_enter Tryz.func21,Tryz.ntmps21
  ((try simp only [Int.not_lt,Int.not_le] at*);revert H;refine W0ede ?_ <;>unhygienic intros)
  go_loopw [3] (fun s3 wr=>s3= .int .i64 0∧Hp [] w wr []) (fun v _ =>1 - (intOf v).toNat)
  case atStart=>exact ⟨rfl,H⟩
  case round=>
   clear H
   obtain ⟨rfl,H⟩:=hrel
   ((try simp only [Int.not_lt,Int.not_le] at*);revert H;refine W7ffd ?_ <;>unhygienic intros)
   (refine x_c H (rfin_any _ hb hfz) ?_;clear H;rintro e w1 ⟨rfl,hF⟩ H;clear hF)
   ((try simp only [Int.not_lt,Int.not_le] at*);revert H;refine W0ede ?_ <;>unhygienic intros)
   go_ret
   exact ⟨rfl,H.fr⟩
 | true=>
  go_enter Tryz.func21,Tryz.ntmps21
  ((try simp only [Int.not_lt,Int.not_le] at*);revert H;refine W0ede ?_ <;>unhygienic intros)
  go_loopw [3] (fun s3 wr=>(s3= .int .i64 0∨s3= .int .i64 1)∧Hp [] w wr []) (fun v _ =>1 - (intOf v).toNat)
  case atStart=>exact ⟨.inl rfl,H⟩
  case round=>
   clear H
   obtain ⟨hj,H⟩:=hrel
   rcases hj with rfl | rfl
   ·((try simp only [Int.not_lt,Int.not_le] at*);revert H;refine W7ffd ?_ <;>unhygienic intros)
    (refine x_c H (rfin_any _ hb hfz) ?_;clear H;rintro e w1 ⟨rfl,hF⟩ H;clear hF)
    ((try simp only [Int.not_lt,Int.not_le] at*);revert H;refine W0ede ?_ <;>unhygienic intros)
    go_roundw
    case rel=>exact ⟨.inr rfl,H⟩
    case measure=>(simp [intOf];try omega)
   ·((try simp only [Int.not_lt,Int.not_le] at*);revert H;refine W0ede ?_ <;>unhygienic intros)
    go_ret
    exact ⟨rfl,H.fr⟩
set_option maxHeartbeats 32000000 in
theorem rcheck1_any (w:World) {b ga gb gc c1 c2 c3:Nat} (h:M1 b ga gb gc c1 c2 c3 w) {z:Bool} (hfz:Hid (finF b=z)):
 Calls Tryz.prog 5 #[.agg ([.int .i64 1, .int .i64 1, .slice (some ⟨ga,0,none⟩) 2 c1, .slice (some ⟨gb,0,none⟩) 1 c2, .slice (some ⟨gc,0,none⟩) 1 c3]).toArray] w fun e w'=>e= .returned (.int .i64 (if z then 0 else 4))∧Fr [] w w':=by
 have HM:=hid h
 have H0:=hid h.h0;have H1':=hid h.h1;have H2:=hid h.h2;have H3:=hid h.h3
 have n1:=h.n1;have n2:=h.n2;have n3:=h.n3
 clear h
 have H:=Hp.start [] w
 go_enter Tryz.func5,Tryz.ntmps5
 ((try simp only [Int.not_lt,Int.not_le] at*);revert H;refine W04fd ?_ <;>unhygienic intros)
 go_loopw [4] (fun s4 wr=>(s4= .int .i64 0∨s4= .int .i64 1)∧Hp [] w wr [.blk g0 [.int .i64 1, .int .i64 1, .slice (some ⟨ga,0,none⟩) 2 c1, .slice (some ⟨gb,0,none⟩) 1 c2, .slice (some ⟨gc,0,none⟩) 1 c3] 27]) (fun v _ =>1 - (intOf v).toNat)
 case atStart=>exact ⟨.inl rfl,H.arr (by repeat (first | exact Pm.nil _ | (apply Pm.cons;· (repeat first | exact Rm.here _ | apply Rm.there))))⟩
 case round=>
  clear H
  obtain ⟨hj,H⟩:=hrel
  rcases hj with rfl | rfl
  ·((try simp only [Int.not_lt,Int.not_le] at*);revert H;refine W0ede ?_ <;>unhygienic intros)
   (revert H;refine w_p 12 (.st 0 (.st 1 (.st 2 (.st 3 (.st 4 (.st 5 (.st 6 (.st 7 (.st 8 (.st 9 (.st 10 (.st 11 .done)))))))))))) ?_;intro w1 H)
   iterate 4 refine p_q ?_
   (refine p_e rfl (fun w H=>c_ldc rfl rfl (H.fr.cell H0.out (by simp))) ?_)
   iterate 5 refine p_q ?_
   (refine p_e rfl (fun w H=>c_ldc rfl rfl (H.fr.cell H1'.out (by simp))) ?_)
   refine p_q ?_
   (refine pl_done ?_)
   ((try simp only [Int.not_lt,Int.not_le] at*);revert H;refine W0ede ?_ <;>unhygienic intros)
   go_roundw
   case rel=>exact ⟨.inr rfl,H.arr (by repeat (first | exact Pm.nil _ | (apply Pm.cons;· (repeat first | exact Rm.here _ | apply Rm.there))))⟩
   case measure=>(simp [intOf];try omega)
  ·((try simp only [Int.not_lt,Int.not_le] at*);revert H;refine W0ede ?_ <;>unhygienic intros)
   go_loopw [5] (fun s5 wr=>(s5= .int .i64 0∨s5= .int .i64 1)∧Hp [] w wr [.blk g0 [.int .i64 1, .int .i64 1, .slice (some ⟨ga,0,none⟩) 2 c1, .slice (some ⟨gb,0,none⟩) 1 c2, .slice (some ⟨gc,0,none⟩) 1 c3] 27]) (fun v _ =>1 - (intOf v).toNat)
   case atStart=>exact ⟨.inl rfl,H.arr (by repeat (first | exact Pm.nil _ | (apply Pm.cons;· (repeat first | exact Rm.here _ | apply Rm.there))))⟩
   case round=>
    clear H
    obtain ⟨hj,H⟩:=hrel
    rcases hj with rfl | rfl
    ·((try simp only [Int.not_lt,Int.not_le] at*);revert H;refine W2e9e ?_ <;>unhygienic intros)
     go_loopw [6] (fun s6 wr=>(s6= .int .i64 0∨s6= .int .i64 1)∧Hp [] w wr [.blk g0 [.int .i64 1, .int .i64 1, .slice (some ⟨ga,0,none⟩) 2 c1, .slice (some ⟨gb,0,none⟩) 1 c2, .slice (some ⟨gc,0,none⟩) 1 c3] 27]) (fun v _ =>1 - (intOf v).toNat)
     case atStart=>exact ⟨.inl rfl,H.arr (by repeat (first | exact Pm.nil _ | (apply Pm.cons;· (repeat first | exact Rm.here _ | apply Rm.there))))⟩
     case round=>
      clear H
      obtain ⟨hj,H⟩:=hrel
      rcases hj with rfl | rfl
      ·((try simp only [Int.not_lt,Int.not_le] at*);revert H;refine Wae42 ?_ <;>unhygienic intros)
       (revert H;refine w_p 39 (.st 0 (.st 1 (.st 2 (.st 3 (.st 4 (.st 5 (.st 6 (.st 7 (.st 8 (.st 9 (.st 10 (.st 11 (.st 12 (.st 13 (.st 14 (.st 15 (.st 16 (.st 17 (.st 18 (.st 19 (.st 20 (.st 21 (.st 22 (.st 23 (.st 24 (.st 25 (.st 26 (.st 27 (.st 28 (.st 29 (.st 30 (.st 31 (.st 32 (.st 33 (.st 34 (.st 35 (.st 36 (.st 37 (.st 38 .done))))))))))))))))))))))))))))))))))))))) ?_;intro w1 H)
       iterate 4 refine p_q ?_
       (refine p_e rfl (fun w H=>c_ldc rfl rfl (H.fr.cell H2.out (by simp))) ?_)
       iterate 2 refine p_q ?_
       iterate 4 (first | refine p_q ?_ | refine p_n ?_)
       (first | (refine p_e rfl (fun w H=>c_ldc rfl rfl (H.fr.cell H2.out (by simp))) ?_) | refine p_n ?_)
       iterate 3 (first | refine p_q ?_ | refine p_n ?_)
       iterate 2 refine p_q ?_
       iterate 5 (first | refine p_q ?_ | refine p_n ?_)
       (first | (refine p_e rfl (fun w H=>c_ldc rfl rfl (H.fr.cell H0.out (by simp))) ?_) | refine p_n ?_)
       iterate 15 (first | refine p_q ?_ | refine p_n ?_)
       refine p_q ?_
       (refine pl_done ?_)
       ((try simp only [Int.not_lt,Int.not_le] at*);revert H;refine W0ede ?_ <;>unhygienic intros)
       go_roundw
       case rel=>exact ⟨.inr rfl,H.arr (by repeat (first | exact Pm.nil _ | (apply Pm.cons;· (repeat first | exact Rm.here _ | apply Rm.there))))⟩
       case measure=>(simp [intOf];try omega)
      ·((try simp only [Int.not_lt,Int.not_le] at*);revert H;refine Wae42 ?_ <;>unhygienic intros)
       go_roundw
       case rel=>exact ⟨.inr rfl,H.arr (by repeat (first | exact Pm.nil _ | (apply Pm.cons;· (repeat first | exact Rm.here _ | apply Rm.there))))⟩
       case measure=>(simp [intOf];try omega)
    ·((try simp only [Int.not_lt,Int.not_le] at*);revert H;refine W0ede ?_ <;>unhygienic intros)
     (refine x_c H (rfinite1_any _ (HM.out.fr H.fr) hfz) ?_;clear H;rintro e w1 ⟨rfl,hF⟩ H;clear hF)
     cases z
     all_goals
      ((try simp only [Int.not_lt,Int.not_le] at*);revert H;refine W0ede ?_ <;>unhygienic intros)
      go_ret
      exact ⟨rfl,H.fr⟩
end Go.Proofs.YtoiebebjgnpkmaaGreatDoor
