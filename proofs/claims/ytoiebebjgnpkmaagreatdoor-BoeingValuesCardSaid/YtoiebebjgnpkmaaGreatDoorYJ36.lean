import Derived.Test.YtoiebebjgnpkmaaGreatDoorYJ0
import Derived.Test.YtoiebebjgnpkmaaGreatDoorYJ29
import Derived.Test.YtoiebebjgnpkmaaGreatDoorYJ32
import Derived.Test.YtoiebebjgnpkmaaGreatDoorYJ33
import Derived.Test.YtoiebebjgnpkmaaGreatDoorYJ35
import Derived.Test.YtoiebebjgnpkmaaGreatDoorYJ34
import Derived.Test.YtoiebebjgnpkmaaGreatDoorYJ14
namespace Go.Proofs.YtoiebebjgnpkmaaGreatDoor
open Go.RowKit
set_option linter.unusedSimpArgs false
set_option linter.unusedVariables false
set_option maxHeartbeats 8000000
set_option maxRecDepth 100000
set_option maxHeartbeats 16000000 in
theorem quoF_any {w:World} {va vb:Value} {x e y f:Int} (mode:Int) (ha:Dn w va x e) (hb:Dn w vb y f) (hx:x≠0) (hy:y≠0) (hbx:bl x.natAbs≤30000) (hby:bl y.natAbs≤30000) (he: -30000≤e∧e≤30000) (hf: -30000≤f∧f≤30000) (hT:La w):
 Calls Tryz.prog 144 #[va,vb, .int .i64 mode] w fun r w'=>r= .returned (.int .u64 (rndF (!(decide (x<0)==decide (y<0))) mode x.natAbs y.natAbs (e - f):Nat))∧Fr [] w w':=by
 have HDA:=hid ha
 have HDB:=hid hb
 have HT:=hid hT
 have HX:=hid (sign_zero_iff hx)
 have HY:=hid (sign_zero_iff hy)
 have hX:=hid hx
 have hY:=hid hy
 obtain ⟨m1,e1,b1,p1,n1,c1,rfl,_,_⟩:=ha
 obtain ⟨m2,e2,b2,p2,n2,c2,rfl,_,_⟩:=hb
 clear hT hx hy
 obtain ⟨s1,hs1⟩:∃ s,Int.sign x=s:=⟨_,rfl⟩
 obtain ⟨s2,hs2⟩:∃ s,Int.sign y=s:=⟨_,rfl⟩
 have HS1:=hid hs1
 have HS2:=hid hs2
 have hn1:s1≠0:=by rw [← hs1];exact HX.out
 have hn2:s2≠0:=by rw [← hs2];exact HY.out
 clear hs1 hs2
 have H:=Hp.start [] w
 go_enter Tryz.func144,Tryz.ntmps144
 (revert H;refine W678e ?_ <;>unhygienic intros)
 (revert H;refine w_pF 4 (.st 0 (.st 2 (.ld 1 (.ld 3 (.ldf 4 (.ld 5 .done)))))) ?_;intro w1 hf H;(first | replace hf:=hf.kp | clear hf))
 iterate 2 refine p_q ?_
 ((refine p_c H rfl rfl Tryz.func196 (normD_any (dn HDA) (by omega) (by omega) (by omega) (HT.out.fr H.fr)) ?_;clear H;rintro e w1 ⟨v3,rfl,hF,hD⟩ H;refine p_r ?_;replace hF:=hF.kp);have HD3:=hid hD;obtain ⟨m3,e3,b3,p3,n3,c3,rfl,hN,hB⟩:=hD;have HN3:=hid hN;have HB3:=hid hB;clear hN hB)
 ((refine p_c H rfl rfl Tryz.func196 (normD_any (dn HDB) (by omega) (by omega) (by omega) (HT.out.fr H.fr)) ?_;clear H;rintro e w1 ⟨v4,rfl,hF,hD⟩ H;refine p_r ?_;replace hF:=hF.kp);have HD4:=hid hD;obtain ⟨m4,e4,b4,p4,n4,c4,rfl,hN,hB⟩:=hD;have HN4:=hid hN;have HB4:=hid hB;clear hN hB)
 (revert H;refine p_sFf ?_;intro w1 hf H hk;clear hf;change Kp _ _ at hk)
 (revert H;refine p_sF ?_;intro w1 hf H hk;clear hf;change Kp _ _ at hk)
 (refine pl_done ?_)
 all_goals
  (revert H;refine W678e ?_ <;>unhygienic intros)
  (refine x_c H (signD_any (dn HD4) (by omega) (by omega) (by omega) (HT.out.fr H.fr)) ?_;clear H;rintro e w1 ⟨rfl,hF⟩ H;replace hF:=hF.kp;rw [HS2.out])
  (revert H;refine W678e ?_ <;>unhygienic intros)
  (refine x_c H (signD_any (dn HD3) (by omega) (by omega) (by omega) (HT.out.fr H.fr)) ?_;clear H;rintro e w1 ⟨rfl,hF⟩ H;replace hF:=hF.kp;rw [HS1.out])
  (revert H;refine W678e ?_ <;>unhygienic intros)
  (refine x_c H (ratio_any (dn HD3) (dn HD4) hX.out hY.out hbx hby (by omega) (by omega)) ?_;clear H;rintro e w1 ⟨v6,rfl,hF,N,D,E,hR,hE⟩ H;replace hF:=hF.kp;skip)
  have HE:=hid (hE (!(decide (x<0)==decide (y<0))) mode)
  have HRL:=hid hR
  clear hR hE
  (revert H;refine W678e ?_ <;>unhygienic intros)
  (refine x_c H (rounded_any mode (rl HRL) (HT.out.fr H.fr)) ?_;clear H;rintro e w1 ⟨rfl,hF⟩ H;replace hF:=hF.kp;rw [HE.out])
  (revert H;refine W678e ?_ <;>unhygienic intros)
  go_ret
  exact ⟨rfl,H.fr⟩
end Go.Proofs.YtoiebebjgnpkmaaGreatDoor
namespace Go.Proofs.YtoiebebjgnpkmaaGreatDoor
open Go.RowKit
set_option linter.unusedSimpArgs false
set_option linter.unusedVariables false
set_option maxHeartbeats 8000000
set_option maxRecDepth 100000
theorem pz_digs {l:List UInt8} (h:l.all dig=true) (h0:l≠[]) (hl:l.length≤1024):pz l=((num l:Int),0):=by
 obtain ⟨b,r,rfl⟩:∃ b r,l=b::r:=by
  cases l with
  | nil=>exact absurd rfl h0
  | cons b r=>exact ⟨b,r,rfl⟩
 have hb:dig b=true:=by rw [List.all_cons,Bool.and_eq_true] at h;exact h.1
 have h1:b≠45:=fun e=>by rw [e] at hb;exact absurd hb (by decide)
 have h2:b≠43:=fun e=>by rw [e] at hb;exact absurd hb (by decide)
 have hbody:body (b::r)=b::r:=by
  unfold body
  rw [if_neg]
  rintro (h | h)
  ·simp at h;exact h1 h
  ·simp at h;exact h2 h
 have hs:sgn (b::r)=false:=by unfold sgn;simpa using h1
 unfold pz
 rw [if_neg (by omega),hbody,if_neg (by rintro (h3 | h3);exact h0 h3;rw [h] at h3;cases h3),hs]
 rfl
theorem parseI_any (w:World) {s:List UInt8} {z:Int} (hs:s.length≤2000000) (hz:Hid (pz s=(z,0))):
 Calls Tryz.prog 68 #[strV s] w fun e w'=>∃ v1,e= .returned (.tuple #[v1, .int .i64 0])∧Fr [] w w'∧Bv w' v1 z 1024:=by
 have h:=parse_any w s hs
 rw [hz.out] at h
 exact h
theorem ten_natAbs (n:Nat):((10 ^ n:Nat):Int).natAbs=10 ^ n:=Int.natAbs_natCast _
theorem powerZ_any (w:World) {z:Int} (n:Nat) (hz:z=(n:Int)) (hn:n≤5000):
 Calls Tryz.prog 147 #[.int .i64 z] w fun e w'=>∃ v1,e= .returned v1∧Fr [] w w'∧Bv w' v1 ((10 ^ n:Nat):Int) (bl (10 ^ n)):=by
 subst hz
 exact power_any w n hn
theorem neg_sg {neg:Bool} {N:Nat} (h:0<N):decide (sg neg N<0)=neg:=by
 unfold sg
 cases neg
 ·exact decide_eq_false (by simp)
 ·exact decide_eq_true (by simp;omega)
theorem bl_num {N L:Nat} (h:N<10 ^ L):bl N≤4*L+1:=Nat.le_trans (bl_mono (Nat.le_of_lt h)) (bl_ten L)
set_option maxHeartbeats 16000000 in
theorem parseD_any (w:World) (s:List UInt8) (mode:Int) (hT:La w):
 Calls Tryz.prog 92 #[strV s, .int .i64 mode] w fun r w'=>r= .returned (.tuple #[.int .u64 ((dpz 1024 s mode).1:Nat), .int .i64 (dpz 1024 s mode).2])∧Fr [] w w':=by
 have HT:=hid hT
 clear hT
 have H:=Hp.start [] w
 by_cases hl:1024<s.length
 ·have HZ:Hid (dpz 1024 s mode=(0,2)):=hid (by unfold dpz;rw [if_pos hl])
  go_enter Tryz.func92,Tryz.ntmps92
  go_wp2_with (first | refine x_q H ?_ | refine x_e (ev_strLen rfl rfl) ?_)
  refine bodyPost_ret (results_tmp2 rfl _ _ _) rfl ?_
  exact ⟨by rw [HZ.out];rfl,H.fr⟩
 ·have hsp:=rdS_spec mode (Nat.le_of_not_lt hl)
  have hr:=read_any
  obtain ⟨⟨⟨neg,ds,x⟩,e⟩,hrd⟩:∃ r,rdS s=r:=⟨_,rfl⟩
  rw [hrd] at hsp
  have HRD:=hid hrd
  clear hrd hr
  obtain ⟨V,hV⟩:∃ V,dpz 1024 s mode=V:=⟨_,rfl⟩
  rw [hV] at hsp ⊢
  clear hV
  have hle:s.length≤1024:=by omega
  rcases hsp with ⟨a1,a2,a3,a4⟩ | ⟨a1,a2,a3,a4,a5,a6⟩
  ·have HV:=hid a4
   simp only [] at a1 a2 a3
   clear a4
   go_enter Tryz.func92,Tryz.ntmps92
   go_wp2_with (first | refine x_q H ?_ | refine x_e (ev_strLen rfl rfl) ?_)
   (refine x_c H (read_any _ s hle) ?_;clear H;rintro e w1 ⟨rfl,hF⟩ H;replace hF:=hF.kp;rw [HRD.out])
   go_wp2_with (first | refine x_q H ?_ | (revert H;refine x_sF ?_;intro w1 hf H hk;clear hf;change Kp _ _ at hk) | (revert H;refine x_g ?_;intro g w1 hg hf H;replace hf:=hf.kp))
   refine bodyPost_ret (results_tmp2 rfl _ _ _) rfl ?_
   exact ⟨by rw [HV.out];rfl,H.fr⟩
  ·simp only [] at a1 a2 a3 a4 a5 a6
   subst a1
   have HV:=hid a6
   have hnl:=num_lead ds
   have hla:=lead_all a2
   have hln:=lead_nil a2
   have hll:(lead ds).length≤ds.length:=(List.dropWhile_suffix _).length_le
   have HL:Hid (ds.dropWhile (· ==48)=lead ds):=hid rfl
   obtain ⟨d,hd⟩:∃ d,lead ds=d:=⟨_,rfl⟩
   rw [hd] at hnl hla hln hll HL
   clear hd a6 hl
   by_cases h0:d=[]
   ·have hz:=hln.1 h0
    have HZ:Hid (dval neg mode (num ds) x=sgnF neg 0):=hid (by unfold dval;rw [if_pos hz])
    have HE:Hid ((d==[])=true):=hid (by rw [h0];rfl)
    clear hnl hla hln hz h0
    cases neg
    ·go_enter Tryz.func92,Tryz.ntmps92
     go_wp2_with (first | refine x_q H ?_ | refine x_e (ev_strLen rfl rfl) ?_)
     (refine x_c H (read_any _ s hle) ?_;clear H;rintro e w1 ⟨rfl,hF⟩ H;replace hF:=hF.kp;rw [HRD.out])
     go_wp2_with (first | refine x_q H ?_ | (revert H;refine x_sF ?_;intro w1 hf H hk;clear hf;change Kp _ _ at hk) | (revert H;refine x_g ?_;intro g w1 hg hf H;replace hf:=hf.kp))
     (refine x_c H (trim0_any _ ds) ?_;clear H;rintro e w1 ⟨rfl,hF⟩ H;replace hF:=hF.kp;rw [HL.out])
     go_wp2_with (first | refine x_e (ev_strEq0 rfl rfl rfl (by assumption)) ?_ | refine x_q H ?_)
     refine bodyPost_ret (results_tmp2 rfl _ _ _) rfl ?_
     exact ⟨by rw [HV.out,HZ.out];rfl,H.fr⟩
    ·go_enter Tryz.func92,Tryz.ntmps92
     go_wp2_with (first | refine x_q H ?_ | refine x_e (ev_strLen rfl rfl) ?_)
     (refine x_c H (read_any _ s hle) ?_;clear H;rintro e w1 ⟨rfl,hF⟩ H;replace hF:=hF.kp;rw [HRD.out])
     go_wp2_with (first | refine x_q H ?_ | (revert H;refine x_sF ?_;intro w1 hf H hk;clear hf;change Kp _ _ at hk) | (revert H;refine x_g ?_;intro g w1 hg hf H;replace hf:=hf.kp))
     (refine x_c H (trim0_any _ ds) ?_;clear H;rintro e w1 ⟨rfl,hF⟩ H;replace hF:=hF.kp;rw [HL.out])
     go_wp2_with (first | refine x_e (ev_strEq0 rfl rfl rfl (by assumption)) ?_ | refine x_q H ?_)
     refine bodyPost_ret (results_tmp2 rfl _ _ _) rfl ?_
     exact ⟨by rw [HV.out,HZ.out];rfl,H.fr⟩
   ·have hn0:num ds≠0:=fun h=>h0 (hln.2 h)
    have hpz:=pz_digs hla h0 (by omega)
    have hlt:=num_lt d hla
    rw [hnl] at hpz hlt
    have HE:Hid ((d==[])=false):=hid (by simpa using h0)
    obtain ⟨N,hN⟩:∃ N,num ds=N:=⟨_,rfl⟩
    rw [hN] at hpz hlt hn0 HV
    obtain ⟨X,hX⟩:∃ X,max (min x 2000) (-2000 - (d.length:Int))=X:=⟨_,rfl⟩
    have hXb: -3024≤X∧X≤2000:=by omega
    have HV2:Hid (V=(dvF neg mode N X,0)):=hid (by
     rw [HV.out]
     unfold dval
     rw [if_neg hn0,← dv_clamp neg mode (Nat.pos_of_ne_zero hn0) hlt,hX])
    have HX:=hid hX
    have HPZ:=hid hpz
    have hbn:=bl_num hlt
    have hNp:0<N:=Nat.pos_of_ne_zero hn0
    clear HV hnl hla hln hpz hN hX h0
    go_enter Tryz.func92,Tryz.ntmps92
    go_wp2_with (first | refine x_q H ?_ | refine x_e (ev_strLen rfl rfl) ?_)
    (refine x_c H (read_any _ s hle) ?_;clear H;rintro e w1 ⟨rfl,hF⟩ H;replace hF:=hF.kp;rw [HRD.out])
    go_wp2_with (first | refine x_q H ?_ | (revert H;refine x_sF ?_;intro w1 hf H hk;clear hf;change Kp _ _ at hk) | (revert H;refine x_g ?_;intro g w1 hg hf H;replace hf:=hf.kp))
    (refine x_c H (trim0_any _ ds) ?_;clear H;rintro e w1 ⟨rfl,hF⟩ H;replace hF:=hF.kp;rw [HL.out])
    go_wp2_with (first | refine x_e (ev_strEq0 rfl rfl rfl (by assumption)) ?_ | refine x_q H ?_ | refine x_e (ev_strLen rfl rfl) ?_ | refine x_e (ev_min rfl rfl rfl) ?_ | refine x_e (ev_max (z:=X) rfl rfl rfl HX.out) ?_)
    (refine x_c H (parseI_any _ (by omega) HPZ) ?_;clear H;rintro e w1 ⟨v3,rfl,hF,hB⟩ H;replace hF:=hF.kp;replace hB:=hB.c;rw [Int.natAbs_natCast] at hB;obtain ⟨b3,p3,m3,c3,rfl⟩:=hB.form;have HB3:=hid hB;clear hB)
    have HMZ:Hid (0≤X→∃ j:Nat,X=(j:Int)∧j≤2000∧dvF neg mode N X=rndF neg mode (N*10 ^ j) 1 0):=hid (fun h=>by
     obtain ⟨j,rfl⟩:=Int.eq_ofNat_of_zero_le h
     exact ⟨j,rfl,by omega,dvF_pos neg mode N j⟩)
    have HMN:Hid (X<0→∃ j:Nat, -X=(j:Int)∧j≤3024∧dvF neg mode N X=rndF neg mode N (10 ^ j) 0):=hid (fun h=>by
     obtain ⟨j,hj⟩:=Int.eq_ofNat_of_zero_le (show 0≤ -X by omega)
     exact ⟨j,hj,by omega,by rw [show X= -(j:Int) by omega];exact dvF_neg neg mode N j⟩)
    cases neg
    ·go_wp2_with (first | refine x_q H ?_ | (revert H;refine x_sF ?_;intro w1 hf H hk;clear hf;change Kp _ _ at hk) | (revert H;refine x_g ?_;intro g w1 hg hf H;replace hf:=hf.kp))
     (refine x_c H (fromIntD_any _ 1 (by simp only [inr];omega) (HT.out.fr H.fr)) ?_;clear H;rintro e w1 ⟨v5,rfl,hF,hD⟩ H;replace hF:=hF.kp;have HD5:=hid hD;obtain ⟨m5,e5,b5,p5,n5,c5,rfl,hN,hB⟩:=hD;have HN5:=hid hN;have HB5:=hid hB;clear hN hB)
     by_cases hX0:0≤X
     ·obtain ⟨j,rfl,hj,hdv⟩:=HMZ.out hX0
      have HDV:=hid hdv
      have hbj:=bl_ten j
      have hbp:=bl_prod N (10 ^ j)
      have hp:=ten_pos j
      have HY:Hid (((N:Int)*((10 ^ j:Nat):Int)).natAbs=N*10 ^ j∧(!(decide ((N:Int)*((10 ^ j:Nat):Int)<0)==decide ((1:Int)<0)))=false∧(N:Int)*((10 ^ j:Nat):Int)≠0):=hid (by
       have h1:(N:Int)*((10 ^ j:Nat):Int)=sg false (N*10 ^ j):=by unfold sg;simp [Int.natCast_mul,Int.neg_mul]
       have h2:0<N*10 ^ j:=Nat.mul_pos hNp hp
       rw [h1,neg_sg h2]
       refine ⟨sg_abs _ _,rfl,fun h=> ?_⟩
       rw [sg_eq_zero] at h
       omega)
      clear HMZ HMN hdv
      go_wp2_with (first | refine x_q H ?_ | (revert H;refine x_sF ?_;intro w1 hf H hk;clear hf;change Kp _ _ at hk) | (revert H;refine x_g ?_;intro g w1 hg hf H;replace hf:=hf.kp))
      (revert H;refine w_pF 10 (.st 0 (.st 1 (.st 5 (.st 6 (.ld 2 (.ld 3 (.ld 4 (.ld 7 (.st 8 (.st 9 .done)))))))))) ?_;intro w1 hf H;(first | replace hf:=hf.kp | clear hf))
      iterate 4 refine p_q ?_
      ((refine p_c H rfl rfl Tryz.func147 (power_any _ j (by omega)) ?_;clear H;rintro e w1 ⟨v6,rfl,hF,hB⟩ H;refine p_r ?_;replace hF:=hF.kp);obtain ⟨b6,p6,m6,c6,rfl⟩:=hB.form;have HB6:=hid hB;clear hB)
      ((refine p_c H rfl rfl Tryz.func146 (mul_ar (bv HB3).ar (bv HB6).ar (by omega) (by omega)) ?_;clear H;rintro e w1 ⟨v7,rfl,hF,hB⟩ H;refine p_r ?_;replace hF:=hF.kp);replace hB:=hB.c;obtain ⟨b7,p7,m7,c7,rfl⟩:=hB.form;have HB7:=hid hB;clear hB)
      ((refine p_c H rfl rfl Tryz.func145 (fromBig_any (bv HB7).ar (by first | omega | (rw [HY.out.1];omega)) (by first | omega | (rw [HY.out.1];omega)) (HT.out.fr H.fr)) ?_;clear H;rintro e w1 ⟨v8,rfl,hF,hD⟩ H;refine p_r ?_;replace hF:=hF.kp);have HD8:=hid hD;clear hD)
      ((refine p_c H rfl rfl Tryz.func144 (quoF_any mode (dn HD8) (dn HD5) HY.out.2.2 (by decide) (by first | omega | (rw [HY.out.1];omega)) (by decide) (by omega) (by omega) (HT.out.fr H.fr)) ?_;clear H;rintro e w1 ⟨rfl,hF⟩ H;refine p_r ?_;replace hF:=hF.kp);rw [HY.out.1,HY.out.2.1])
      iterate 2 refine p_q ?_
      (refine pl_done ?_)
      all_goals
       go_wp2_with fail
       refine bodyPost_ret (results_tmp2 rfl _ _ _) rfl ?_
       exact ⟨by rw [HV2.out,HDV.out];rfl,H.fr⟩
     ·obtain ⟨j,hj1,hj,hdv⟩:=HMN.out (by omega)
      have HDV:=hid hdv
      have HJ:=hid hj1
      have hbj:=bl_ten j
      have hp:=ten_pos j
      have HY:Hid (((N:Int)).natAbs=N∧(!(decide ((N:Int)<0)==decide (((10 ^ j:Nat):Int)<0)))=false∧(N:Int)≠0∧((10 ^ j:Nat):Int)≠0):=hid (by
       have h1:(N:Int)=sg false N:=rfl
       rw [h1,neg_sg hNp,show decide (((10 ^ j:Nat):Int)<0)=false from decide_eq_false (by omega)]
       refine ⟨sg_abs _ _,rfl,fun h=> ?_,by omega⟩
       rw [sg_eq_zero] at h
       omega)
      clear HMZ HMN hdv hj1
      go_wp2_with (first | refine x_q H ?_ | (revert H;refine x_sF ?_;intro w1 hf H hk;clear hf;change Kp _ _ at hk) | (revert H;refine x_g ?_;intro g w1 hg hf H;replace hf:=hf.kp))
      (refine x_c H (fromBig_any (bv HB3).ar (by first | omega | (rw [HY.out.1];omega)) (by first | omega | (rw [HY.out.1];omega)) (HT.out.fr H.fr)) ?_;clear H;rintro e w1 ⟨v8,rfl,hF,hD⟩ H;replace hF:=hF.kp;have HD8:=hid hD;clear hD)
      go_wp2_with fail
      (refine x_c H (powerZ_any _ j HJ.out (by omega)) ?_;clear H;rintro e w1 ⟨v6,rfl,hF,hB⟩ H;replace hF:=hF.kp;obtain ⟨b6,p6,m6,c6,rfl⟩:=hB.form;have HB6:=hid hB;clear hB)
      go_wp2_with fail
      (refine x_c H (fromBig_any (bv HB6).ar (by first | omega | (rw [ten_natAbs];omega)) (by first | omega | (rw [ten_natAbs];omega)) (HT.out.fr H.fr)) ?_;clear H;rintro e w1 ⟨v7,rfl,hF,hD⟩ H;replace hF:=hF.kp;have HD7:=hid hD;clear hD)
      go_wp2_with fail
      (refine x_c H (quoF_any mode (dn HD8) (dn HD7) HY.out.2.2.1 HY.out.2.2.2 (by first | omega | (rw [HY.out.1];omega)) (by first | omega | (rw [ten_natAbs];omega)) (by omega) (by omega) (HT.out.fr H.fr)) ?_;clear H;rintro e w1 ⟨rfl,hF⟩ H;replace hF:=hF.kp;rw [HY.out.1,HY.out.2.1,ten_natAbs])
      go_wp2_with fail
      refine bodyPost_ret (results_tmp2 rfl _ _ _) rfl ?_
      exact ⟨by rw [HV2.out,HDV.out];rfl,H.fr⟩
    ·go_wp2_with (first | refine x_q H ?_ | (revert H;refine x_sF ?_;intro w1 hf H hk;clear hf;change Kp _ _ at hk) | (revert H;refine x_g ?_;intro g w1 hg hf H;replace hf:=hf.kp))
     (refine x_c H (neg_ar (bv HB3).ar (by omega)) ?_;clear H;rintro e w1 ⟨v4,rfl,hF,hB⟩ H;replace hF:=hF.kp;replace hB:=hB.c;rw [Int.natAbs_neg,Int.natAbs_natCast] at hB;obtain ⟨b4,p4,m4,c4,rfl⟩:=hB.form;have HB4:=hid hB;clear hB)
     go_wp2_with (revert H;refine x_sF ?_;intro w1 hf H hk;clear hf;change Kp _ _ at hk)
     (refine x_c H (fromIntD_any _ 1 (by simp only [inr];omega) (HT.out.fr H.fr)) ?_;clear H;rintro e w1 ⟨v5,rfl,hF,hD⟩ H;replace hF:=hF.kp;have HD5:=hid hD;obtain ⟨m5,e5,b5,p5,n5,c5,rfl,hN,hB⟩:=hD;have HN5:=hid hN;have HB5:=hid hB;clear hN hB)
     by_cases hX0:0≤X
     ·obtain ⟨j,rfl,hj,hdv⟩:=HMZ.out hX0
      have HDV:=hid hdv
      have hbj:=bl_ten j
      have hbp:=bl_prod N (10 ^ j)
      have hp:=ten_pos j
      have HY:Hid ((-(N:Int)*((10 ^ j:Nat):Int)).natAbs=N*10 ^ j∧(!(decide (-(N:Int)*((10 ^ j:Nat):Int)<0)==decide ((1:Int)<0)))=true∧ -(N:Int)*((10 ^ j:Nat):Int)≠0):=hid (by
       have h1: -(N:Int)*((10 ^ j:Nat):Int)=sg true (N*10 ^ j):=by unfold sg;simp [Int.natCast_mul,Int.neg_mul]
       have h2:0<N*10 ^ j:=Nat.mul_pos hNp hp
       rw [h1,neg_sg h2]
       refine ⟨sg_abs _ _,rfl,fun h=> ?_⟩
       rw [sg_eq_zero] at h
       omega)
      clear HMZ HMN hdv
      go_wp2_with (first | refine x_q H ?_ | (revert H;refine x_sF ?_;intro w1 hf H hk;clear hf;change Kp _ _ at hk) | (revert H;refine x_g ?_;intro g w1 hg hf H;replace hf:=hf.kp))
      (revert H;refine w_pF 10 (.st 0 (.st 1 (.st 5 (.st 6 (.ld 2 (.ld 3 (.ld 4 (.ld 7 (.st 8 (.st 9 .done)))))))))) ?_;intro w1 hf H;(first | replace hf:=hf.kp | clear hf))
      iterate 4 refine p_q ?_
      ((refine p_c H rfl rfl Tryz.func147 (power_any _ j (by omega)) ?_;clear H;rintro e w1 ⟨v6,rfl,hF,hB⟩ H;refine p_r ?_;replace hF:=hF.kp);obtain ⟨b6,p6,m6,c6,rfl⟩:=hB.form;have HB6:=hid hB;clear hB)
      ((refine p_c H rfl rfl Tryz.func146 (mul_ar (bv HB4).ar (bv HB6).ar (by omega) (by omega)) ?_;clear H;rintro e w1 ⟨v7,rfl,hF,hB⟩ H;refine p_r ?_;replace hF:=hF.kp);replace hB:=hB.c;obtain ⟨b7,p7,m7,c7,rfl⟩:=hB.form;have HB7:=hid hB;clear hB)
      ((refine p_c H rfl rfl Tryz.func145 (fromBig_any (bv HB7).ar (by first | omega | (rw [HY.out.1];omega)) (by first | omega | (rw [HY.out.1];omega)) (HT.out.fr H.fr)) ?_;clear H;rintro e w1 ⟨v8,rfl,hF,hD⟩ H;refine p_r ?_;replace hF:=hF.kp);have HD8:=hid hD;clear hD)
      ((refine p_c H rfl rfl Tryz.func144 (quoF_any mode (dn HD8) (dn HD5) HY.out.2.2 (by decide) (by first | omega | (rw [HY.out.1];omega)) (by decide) (by omega) (by omega) (HT.out.fr H.fr)) ?_;clear H;rintro e w1 ⟨rfl,hF⟩ H;refine p_r ?_;replace hF:=hF.kp);rw [HY.out.1,HY.out.2.1])
      iterate 2 refine p_q ?_
      (refine pl_done ?_)
      all_goals
       go_wp2_with fail
       refine bodyPost_ret (results_tmp2 rfl _ _ _) rfl ?_
       exact ⟨by rw [HV2.out,HDV.out];rfl,H.fr⟩
     ·obtain ⟨j,hj1,hj,hdv⟩:=HMN.out (by omega)
      have HDV:=hid hdv
      have HJ:=hid hj1
      have hbj:=bl_ten j
      have hp:=ten_pos j
      have HY:Hid ((-(N:Int)).natAbs=N∧(!(decide (-(N:Int)<0)==decide (((10 ^ j:Nat):Int)<0)))=true∧ -(N:Int)≠0∧((10 ^ j:Nat):Int)≠0):=hid (by
       have h1: -(N:Int)=sg true N:=rfl
       rw [h1,neg_sg hNp,show decide (((10 ^ j:Nat):Int)<0)=false from decide_eq_false (by omega)]
       refine ⟨sg_abs _ _,rfl,fun h=> ?_,by omega⟩
       rw [sg_eq_zero] at h
       omega)
      clear HMZ HMN hdv hj1
      go_wp2_with (first | refine x_q H ?_ | (revert H;refine x_sF ?_;intro w1 hf H hk;clear hf;change Kp _ _ at hk) | (revert H;refine x_g ?_;intro g w1 hg hf H;replace hf:=hf.kp))
      (refine x_c H (fromBig_any (bv HB4).ar (by first | omega | (rw [HY.out.1];omega)) (by first | omega | (rw [HY.out.1];omega)) (HT.out.fr H.fr)) ?_;clear H;rintro e w1 ⟨v8,rfl,hF,hD⟩ H;replace hF:=hF.kp;have HD8:=hid hD;clear hD)
      go_wp2_with fail
      (refine x_c H (powerZ_any _ j HJ.out (by omega)) ?_;clear H;rintro e w1 ⟨v6,rfl,hF,hB⟩ H;replace hF:=hF.kp;obtain ⟨b6,p6,m6,c6,rfl⟩:=hB.form;have HB6:=hid hB;clear hB)
      go_wp2_with fail
      (refine x_c H (fromBig_any (bv HB6).ar (by first | omega | (rw [ten_natAbs];omega)) (by first | omega | (rw [ten_natAbs];omega)) (HT.out.fr H.fr)) ?_;clear H;rintro e w1 ⟨v7,rfl,hF,hD⟩ H;replace hF:=hF.kp;have HD7:=hid hD;clear hD)
      go_wp2_with fail
      (refine x_c H (quoF_any mode (dn HD8) (dn HD7) HY.out.2.2.1 HY.out.2.2.2 (by first | omega | (rw [HY.out.1];omega)) (by first | omega | (rw [ten_natAbs];omega)) (by omega) (by omega) (HT.out.fr H.fr)) ?_;clear H;rintro e w1 ⟨rfl,hF⟩ H;replace hF:=hF.kp;rw [HY.out.1,HY.out.2.1,ten_natAbs])
      go_wp2_with fail
      refine bodyPost_ret (results_tmp2 rfl _ _ _) rfl ?_
      exact ⟨by rw [HV2.out,HDV.out];rfl,H.fr⟩
end Go.Proofs.YtoiebebjgnpkmaaGreatDoor
