import Derived.Test.YtoiebebjgnpkmaaGreatDoorYJ26
import Derived.Deep.DeepCutAuto
import Derived.Deep.CutBlock
namespace Go.Proofs.YtoiebebjgnpkmaaGreatDoor
open Go.RowKit
set_option linter.unusedSimpArgs false
set_option linter.unusedVariables false
set_option maxHeartbeats 8000000
set_option maxRecDepth 100000
theorem log2R_any {w:World} {neg b more:Bool} {p:Option Addr} {k c n:Nat} {m:Nat} {ex:Int} (h:Av w (.agg #[.bool b, .slice p k c]) (m:Int) n) (hn:n≤200000) (hb:bl m≤200000) (he: -1000000≤ex∧ex≤1000000):
 Calls Tryz.prog 232 #[.agg #[.bool neg, .bool b, .slice p k c, .int .i64 ex, .bool more]] w fun r w'=>r= .returned (.int .i64 (ex+bl m - 1))∧Fr [] w w':=by
 have HA1:=hid h
 clear h
 have H:=Hp.start [] w
 go_enter Tryz.func232,Tryz.ntmps232
 go_wp2_with (first | refine x_q H ?_ | refine x_cm (fun h=> ?_) (fun h=> ?_) | refine x_l H ?_ | refine x_e (ev_dyad rfl rfl rfl) ?_ | (revert H;refine x_sF ?_;intro w1 hf H hk;clear hf;change Kp _ _ at hk) | (revert H;refine x_g ?_;intro g w1 hg hf H;replace hf:=hf.kp) | (revert H;refine x_s ?_;intro w1 hf H;clear hf))
 (revert H;refine w_pF 8 (.st 0 (.st 1 (.st 2 (.st 3 (.ld 4 (.st 5 (.st 6 (.st 7 .done)))))))) ?_;intro w1 hf H;(first | replace hf:=hf.kp | clear hf))
 iterate 3 refine p_q ?_
 (refine p_l ?_)
 ((refine p_c H rfl rfl Tryz.func182 (bitLen_ar (HA1.out.fr H.fr) hn) ?_;clear H;rintro e w1 ⟨rfl,hF⟩ H;refine p_r ?_;replace hF:=hF.kp);rw [Int.natAbs_natCast])
 iterate 3 refine p_q ?_
 (refine pl_done ?_)
 all_goals
  go_wp2_with (first | refine x_q H ?_ | refine x_cm (fun h=> ?_) (fun h=> ?_) | refine x_l H ?_ | refine x_e (ev_dyad rfl rfl rfl) ?_ | (revert H;refine x_sF ?_;intro w1 hf H hk;clear hf;change Kp _ _ at hk) | (revert H;refine x_g ?_;intro g w1 hg hf H;replace hf:=hf.kp) | (revert H;refine x_s ?_;intro w1 hf H;clear hf))
  go_ret
  exact ⟨rfl,H.fr⟩
theorem rightN_any {w:World} {u:Value} {m:Nat} {z:Int} {n:Nat} (k:Nat) (hz:z=(k:Int)) (h:Av w u (m:Int) n) (hn:n≤200000) (hk:k≤1048576):
 Calls Tryz.prog 242 #[u, .int .i64 z] w fun e w'=>∃ v1,e= .returned v1∧Fr [] w w'∧Bv w' v1 ((m / 2 ^ k:Nat):Int) (bl (m / 2 ^ k)):=by
 subst hz
 refine Calls.mono (right_any k h hn hk) ?_
 rintro e w' ⟨v1,rfl,hF,hB⟩
 have e1:(m:Int) / 2 ^ k=((m / 2 ^ k:Nat):Int):=by rw [Int.natCast_ediv,Int.natCast_pow];rfl
 rw [e1,Int.natAbs_natCast] at hB
 exact ⟨v1,rfl,hF,hB⟩
theorem leftN_any {w:World} {u:Value} {m:Nat} {z:Int} {n:Nat} (k:Nat) (hz:z=(k:Int)) (h:Av w u (m:Int) n) (hn:n≤200000) (hk:k≤1048576):
 Calls Tryz.prog 221 #[u, .int .i64 z] w fun e w'=>∃ v1,e= .returned v1∧Fr [] w w'∧Bv w' v1 ((m*2 ^ k:Nat):Int) (bl (m*2 ^ k)):=by
 subst hz
 refine Calls.mono (left_any k h hn hk) ?_
 rintro e w' ⟨v1,rfl,hF,hB⟩
 have e1:(m:Int)*2 ^ k=((m*2 ^ k:Nat):Int):=by rw [Int.natCast_mul,Int.natCast_pow];rfl
 rw [e1,Int.natAbs_natCast] at hB
 exact ⟨v1,rfl,hF,hB⟩
theorem cut_cases {r P:Nat} {more:Bool} {h:Int} (hh:h=if r<P then -1 else if r=P∧more=false then 0 else 1) (hP:0<P):
 (r=0∧cmpZ (r:Int) (P:Int)= -1∧h= -1∧decide (r=0∧more=false)= !more)∨(r≠0∧cmpZ (r:Int) (P:Int)= -1∧h= -1∧decide (r=0∧more=false)=false)∨(r≠0∧more=false∧cmpZ (r:Int) (P:Int)=0∧h=0∧decide (r=0∧more=false)=false)∨(r≠0∧more=true∧cmpZ (r:Int) (P:Int)=0∧h=1∧decide (r=0∧more=false)=false)∨(r≠0∧cmpZ (r:Int) (P:Int)=1∧h=1∧decide (r=0∧more=false)=false):=by
 by_cases r0:r=0
 ·subst r0
  exact .inl ⟨rfl,cmpZ_lt (by omega),by rw [hh,if_pos hP],by cases more<;>rfl⟩
 ·have he:decide (r=0∧more=false)=false:=decide_eq_false (fun h=>r0 h.1)
  rcases Nat.lt_trichotomy r P with h1 | h1 | h1
  ·exact .inr (.inl ⟨r0,cmpZ_lt (by omega),by rw [hh,if_pos h1],he⟩)
  ·have hc:cmpZ (r:Int) (P:Int)=0:=by rw [h1];exact cmpZ_eq _
   cases hm:more
   ·rw [hm] at he hh
    exact .inr (.inr (.inl ⟨r0,rfl,hc,by rw [hh,if_neg (by omega),if_pos ⟨h1,rfl⟩],he⟩))
   ·rw [hm] at he hh
    exact .inr (.inr (.inr (.inl ⟨r0,rfl,hc,by rw [hh,if_neg (by omega),if_neg (by simp)],he⟩)))
  ·exact .inr (.inr (.inr (.inr ⟨r0,cmpZ_gt (by omega),by rw [hh,if_neg (by omega),if_neg (by omega)],he⟩)))
theorem cutR_any {w:World} {neg b more:Bool} {p:Option Addr} {kk c n:Nat} {m k:Nat} {ex:Int} (h:Av w (.agg #[.bool b, .slice p kk c]) (m:Int) n) (hn:n≤200000) (hm:m≠0) (hb:bl m≤200000) (hk0:1≤k) (hkU:k≤1048576):
 Calls Tryz.prog 249 #[.agg #[.bool neg, .bool b, .slice p kk c, .int .i64 ex, .bool more], .int .i64 (k:Int)] w fun r w'=>∃ v1,r= .returned (.tuple #[v1, .int .i64 (half m k more), .bool (decide (m % 2 ^ k=0∧more=false))])∧Fr [] w w'∧Bv w' v1 ((m / 2 ^ k:Nat):Int) (bl (m / 2 ^ k)):=by
 have HA1:=hid h
 have HM:=hid hm
 clear h
 have H:=Hp.start [] w
 by_cases hl:bl m<k
 ·obtain ⟨e1,e2,e3⟩:=half_small (more:=more) hl
  have E1:=hid e1
  have E2:=hid e2
  have E3:=hid e3
  clear e1 e2 e3
  go_enter Tryz.func249,Tryz.ntmps249
  go_wp2_with (first | refine x_q H ?_ | refine x_cm (fun h=> ?_) (fun h=> ?_) | refine x_l H ?_ | refine x_e (ev_dyad rfl rfl rfl) ?_ | (revert H;refine x_sF ?_;intro w1 hf H hk;clear hf;change Kp _ _ at hk) | (revert H;refine x_g ?_;intro g w1 hg hf H;replace hf:=hf.kp) | (revert H;refine x_s ?_;intro w1 hf H;clear hf))
  (refine x_c H (bitLen_ar (HA1.out.fr H.fr) hn) ?_;clear H;rintro e w1 ⟨rfl,hF⟩ H;replace hF:=hF.kp;rw [Int.natAbs_natCast])
  go_wp2_with (first | refine x_q H ?_ | refine x_cm (fun h=> ?_) (fun h=> ?_) | refine x_l H ?_ | refine x_e (ev_dyad rfl rfl rfl) ?_ | (revert H;refine x_sF ?_;intro w1 hf H hk;clear hf;change Kp _ _ at hk) | (revert H;refine x_g ?_;intro g w1 hg hf H;replace hf:=hf.kp) | (revert H;refine x_s ?_;intro w1 hf H;clear hf))
  refine c_postCTT H rfl rfl rfl rfl rfl ?_
  exact ⟨_,by rw [E1.out,decide_eq_false (by rw [E3.out];exact fun h=>HM.out h.1)],H.fr,by rw [E2.out];exact bv_zero _⟩
 ·have hn1:bl (m / 2 ^ k)≤bl m:=bl_mono (Nat.div_le_self _ _)
  have hn2:bl (m / 2 ^ k*2 ^ k)≤bl m:=bl_mono (Nat.div_mul_le_self _ _)
  have hn3:bl (m % 2 ^ k)≤bl m:=bl_mono (Nat.mod_le _ _)
  have hn4:bl (2 ^ (k - 1))=k - 1+1:=bl_two _
  have HS:Hid ((m:Int) - ((m / 2 ^ k*2 ^ k:Nat):Int)=((m % 2 ^ k:Nat):Int)):=hid (by have:=Nat.div_add_mod m (2 ^ k);rw [Nat.mul_comm] at this;omega)
  have HP:Hid (0<2 ^ (k - 1)):=hid (Nat.two_pow_pos _)
  obtain ⟨q,hq⟩:∃ q,m / 2 ^ k=q:=⟨_,rfl⟩
  obtain ⟨qp,hqp⟩:∃ q,m / 2 ^ k*2 ^ k=q:=⟨_,rfl⟩
  obtain ⟨r,hr⟩:∃ q,m % 2 ^ k=q:=⟨_,rfl⟩
  obtain ⟨P,hP⟩:∃ q,2 ^ (k - 1)=q:=⟨_,rfl⟩
  have HQP:Hid (q*2 ^ k=qp):=hid (by rw [← hq,hqp])
  have HPP:Hid (1*2 ^ (k - 1)=P):=hid (by rw [hP];omega)
  have HH:Hid (half m k more=if r<P then -1 else if r=P∧more=false then 0 else 1):=hid (by unfold half;rw [hr,hP])
  rw [hqp] at hn2
  rw [hq] at hn1 ⊢
  rw [hr] at hn3 ⊢
  rw [hP] at hn4 HP
  rw [hqp,hr] at HS
  have HQ:=hid hq
  clear hq hqp hr hP
  have HALL:Hid ((r=0∧cmpZ (r:Int) (P:Int)= -1∧half m k more= -1∧decide (r=0∧more=false)= !more)∨(r≠0∧cmpZ (r:Int) (P:Int)= -1∧half m k more= -1∧decide (r=0∧more=false)=false)∨(r≠0∧more=false∧cmpZ (r:Int) (P:Int)=0∧half m k more=0∧decide (r=0∧more=false)=false)∨(r≠0∧more=true∧cmpZ (r:Int) (P:Int)=0∧half m k more=1∧decide (r=0∧more=false)=false)∨(r≠0∧cmpZ (r:Int) (P:Int)=1∧half m k more=1∧decide (r=0∧more=false)=false)):=hid (cut_cases HH.out HP.out)
  go_enter Tryz.func249,Tryz.ntmps249
  go_wp2_with (first | refine x_q H ?_ | refine x_cm (fun h=> ?_) (fun h=> ?_) | refine x_l H ?_ | refine x_e (ev_dyad rfl rfl rfl) ?_ | (revert H;refine x_sF ?_;intro w1 hf H hk;clear hf;change Kp _ _ at hk) | (revert H;refine x_g ?_;intro g w1 hg hf H;replace hf:=hf.kp) | (revert H;refine x_s ?_;intro w1 hf H;clear hf))
  (refine x_c H (bitLen_ar (HA1.out.fr H.fr) hn) ?_;clear H;rintro e w1 ⟨rfl,hF⟩ H;replace hF:=hF.kp;rw [Int.natAbs_natCast])
  go_wp2_with (first | refine x_q H ?_ | refine x_cm (fun h=> ?_) (fun h=> ?_) | refine x_l H ?_ | refine x_e (ev_dyad rfl rfl rfl) ?_ | (revert H;refine x_sF ?_;intro w1 hf H hk;clear hf;change Kp _ _ at hk) | (revert H;refine x_g ?_;intro g w1 hg hf H;replace hf:=hf.kp) | (revert H;refine x_s ?_;intro w1 hf H;clear hf))
  (refine x_c H (rightN_any k rfl (HA1.out.fr H.fr) hn hkU) ?_;clear H;rintro e w1 ⟨v3,rfl,hF,hB⟩ H;replace hF:=hF.kp;rw [HQ.out] at hB;obtain ⟨b3,p3,m3,c3,rfl⟩:=hB.form;have HB3:=hid hB;clear hB)
  go_wp2_with (first | refine x_q H ?_ | refine x_cm (fun h=> ?_) (fun h=> ?_) | refine x_l H ?_ | refine x_e (ev_dyad rfl rfl rfl) ?_ | (revert H;refine x_sF ?_;intro w1 hf H hk;clear hf;change Kp _ _ at hk) | (revert H;refine x_g ?_;intro g w1 hg hf H;replace hf:=hf.kp) | (revert H;refine x_s ?_;intro w1 hf H;clear hf))
  go_cut [1,2,4,8] (fun s1 s2 s4 s8 wx=>∃ (g2 g4 g8:Nat) (b5:Bool) (p5:Option Addr) (m5 c5:Nat),s1= .int .i64 (k:Int)∧s2= .pointer (some ⟨g2,0,none⟩)∧s4= .pointer (some ⟨g4,0,none⟩)∧s8= .pointer (some ⟨g8,0,none⟩)∧Hp [] w wx [.blk g8 [.bool b5, .slice p5 m5 c5] 112, .blk g4 [.bool b3, .slice p3 m3 c3] 112, .blk g2 [.bool neg, .bool b, .slice p kk c, .int .i64 ex, .bool more] 231]∧Hid (Bv wx (.agg #[.bool b5, .slice p5 m5 c5]) (r:Int) (bl r))∧Hid (Bv wx (.agg #[.bool b3, .slice p3 m3 c3]) (q:Int) (bl q)))
  case first=>
   (revert H;refine w_pF 7 (.st 0 (.st 1 (.st 2 (.st 3 (.ld2 4 (.ld2 5 (.ld 6 (.ld 7 .done)) 6 (.ld 5 (.ld 7 .done))) 6 (.ld 4 (.ld 5 (.ld 7 .done)))))))) ?_;intro w1 hf H;(first | replace hf:=hf.kp | clear hf))
   refine p_q ?_
   (refine p_l ?_)
   iterate 2 refine p_q ?_
   (refine pl_ld2 ?_ ?_)
   ((refine p_c H rfl rfl Tryz.func221 (leftN_any k rfl (bv HB3).ar (by omega) hkU) ?_;clear H;rintro e w1 ⟨v4,rfl,hF,hB⟩ H;refine p_r ?_;replace hF:=hF.kp);rw [HQP.out] at hB;obtain ⟨b4,p4,m4,c4,rfl⟩:=hB.form;have HB4:=hid hB;clear hB)
   (refine pl_ld2 ?_ ?_)
   ((refine p_c H rfl rfl Tryz.func256 (sub_ar (HA1.out.fr H.fr) (bv HB4).ar hn (by omega)) ?_;clear H;rintro e w1 ⟨v5,rfl,hF,hB⟩ H;refine p_r ?_;replace hF:=hF.kp);replace hB:=hB.c;rw [HS.out,Int.natAbs_natCast] at hB;obtain ⟨b5,p5,m5,c5,rfl⟩:=hB.form;have HB5:=hid hB;clear hB)
   (revert H;refine p_g ?_;intro g w1 hg hf H;(first | replace hf:=hf.kp | clear hf))
   (revert H;refine p_sF ?_;intro w1 hf H hk;clear hf;change Kp _ _ at hk)
   (refine pl_done ?_)
   rotate_left
   (revert H;refine p_g ?_;intro g w1 hg hf H;(first | replace hf:=hf.kp | clear hf))
   ((refine p_c H rfl rfl Tryz.func256 (sub_ar (HA1.out.fr H.fr) (bv HB4).ar hn (by omega)) ?_;clear H;rintro e w1 ⟨v5,rfl,hF,hB⟩ H;refine p_r ?_;replace hF:=hF.kp);replace hB:=hB.c;rw [HS.out,Int.natAbs_natCast] at hB;obtain ⟨b5,p5,m5,c5,rfl⟩:=hB.form;have HB5:=hid hB;clear hB)
   (revert H;refine p_sF ?_;intro w1 hf H hk;clear hf;change Kp _ _ at hk)
   (refine pl_done ?_)
   rotate_left
   (revert H;refine p_g ?_;intro g w1 hg hf H;(first | replace hf:=hf.kp | clear hf))
   ((refine p_c H rfl rfl Tryz.func221 (leftN_any k rfl (bv HB3).ar (by omega) hkU) ?_;clear H;rintro e w1 ⟨v4,rfl,hF,hB⟩ H;refine p_r ?_;replace hF:=hF.kp);rw [HQP.out] at hB;obtain ⟨b4,p4,m4,c4,rfl⟩:=hB.form;have HB4:=hid hB;clear hB)
   ((refine p_c H rfl rfl Tryz.func256 (sub_ar (HA1.out.fr H.fr) (bv HB4).ar hn (by omega)) ?_;clear H;rintro e w1 ⟨v5,rfl,hF,hB⟩ H;refine p_r ?_;replace hF:=hF.kp);replace hB:=hB.c;rw [HS.out,Int.natAbs_natCast] at hB;obtain ⟨b5,p5,m5,c5,rfl⟩:=hB.form;have HB5:=hid hB;clear hB)
   (revert H;refine p_sF ?_;intro w1 hf H hk;clear hf;change Kp _ _ at hk)
   (refine pl_done ?_)
   rotate_left
   all_goals
    go_wp2_with (first | refine x_q H ?_ | refine x_cm (fun h=> ?_) (fun h=> ?_) | refine x_l H ?_ | refine x_e (ev_dyad rfl rfl rfl) ?_ | (revert H;refine x_sF ?_;intro w1 hf H hk;clear hf;change Kp _ _ at hk) | (revert H;refine x_g ?_;intro g w1 hg hf H;replace hf:=hf.kp) | (revert H;refine x_s ?_;intro w1 hf H;clear hf))
    go_meet
    case rel=>exact ⟨_,_,_,_,_,_,_,rfl,rfl,rfl,rfl,by (refine Hp.arr H ?_;repeat (first | exact Pm.nil _ | (apply Pm.cons;· (repeat first | exact Rm.here _ | apply Rm.there)))),hid (bv HB5),hid (bv HB3)⟩
  case rest=>
   clear H HB3
   obtain ⟨g2,g4,g8,b5,p5,m5,c5,rfl,rfl,rfl,rfl,H,HB5,HB3⟩:=hcut
   go_wp2_with (first | refine x_q H ?_ | refine x_cm (fun h=> ?_) (fun h=> ?_) | refine x_l H ?_ | refine x_e (ev_dyad rfl rfl rfl) ?_ | (revert H;refine x_sF ?_;intro w1 hf H hk;clear hf;change Kp _ _ at hk) | (revert H;refine x_g ?_;intro g w1 hg hf H;replace hf:=hf.kp) | (revert H;refine x_s ?_;intro w1 hf H;clear hf))
   (revert H;refine w_pF 7 (.st 0 (.st 2 (.st 3 (.ld 1 (.ld 4 (.ld 5 (.st 6 .done))))))) ?_;intro w1 hf H;(first | replace hf:=hf.kp | clear hf))
   iterate 3 refine p_q ?_
   ((refine p_c H rfl rfl Tryz.func180 (fromInt_ar _ 1 (by simp only [inr];omega)) ?_;clear H;rintro e w1 ⟨v7,rfl,hF,hB⟩ H;refine p_r ?_;replace hF:=hF.kp);obtain ⟨b7,p7,m7,c7,rfl⟩:=hB.form;have HB7:=hid hB;clear hB)
   ((refine p_c H rfl rfl Tryz.func221 (leftN_any (m:=1) (k - 1) (by omega) (bv HB7).ar (by omega) (by omega)) ?_;clear H;rintro e w1 ⟨v8,rfl,hF,hB⟩ H;refine p_r ?_;replace hF:=hF.kp);rw [HPP.out] at hB;obtain ⟨b8,p8,m8,c8,rfl⟩:=hB.form;have HB8:=hid hB;clear hB)
   ((refine p_c H rfl rfl Tryz.func183 (cmp_ar (bv HB5).ar (bv HB8).ar (by omega) (by omega)) ?_;clear H;rintro e w1 ⟨rfl,hF⟩ H;refine p_r ?_;replace hF:=hF.kp);skip)
   refine p_q ?_
   (refine pl_done ?_)
   all_goals
    rcases HALL.out with ⟨r0,hc,hh,he⟩ | ⟨r0,hc,hh,he⟩ | ⟨r0,hm0,hc,hh,he⟩ | ⟨r0,hm0,hc,hh,he⟩ | ⟨r0,hc,hh,he⟩
    ·rw [hc]
     have HHV:=hid hh
     have HEV:=hid he
     have hs0:=hid (show (r:Int)=0 by omega)
     clear r0 hc hh he HALL
     go_wp2_with (first | refine x_q H ?_ | refine x_cm (fun h=> ?_) (fun h=> ?_) | refine x_l H ?_ | refine x_e (ev_dyad rfl rfl rfl) ?_ | (revert H;refine x_sF ?_;intro w1 hf H hk;clear hf;change Kp _ _ at hk) | (revert H;refine x_g ?_;intro g w1 hg hf H;replace hf:=hf.kp) | (revert H;refine x_s ?_;intro w1 hf H;clear hf))
     (revert H;refine w_pF 13 (.st 0 (.st 1 (.st 2 (.ld 3 (.st 4 (.st 5 (.st 6 (.st 7 (.st 8 (.st 9 (.ld 10 (.st 11 (.st 12 .done))))))))))))) ?_;intro w1 hf H;(first | replace hf:=hf.kp | clear hf))
     iterate 3 refine p_q ?_
     ((refine p_c H rfl rfl Tryz.func189 (sign_is0 (bv HB5).ar (by omega) hs0.out) ?_;clear H;rintro e w1 ⟨rfl,hF⟩ H;refine p_r ?_;replace hF:=hF.kp);skip)
     iterate 2 refine p_q ?_
     iterate 3 (first | refine p_q ?_ | refine p_n ?_)
     refine p_q ?_
     (revert H;refine p_sF ?_;intro w1 hf H hk;clear hf;change Kp _ _ at hk)
     iterate 2 refine p_q ?_
     (refine pl_done ?_)
     all_goals
      go_wp2_with (first | refine x_q H ?_ | refine x_cm (fun h=> ?_) (fun h=> ?_) | refine x_l H ?_ | refine x_e (ev_dyad rfl rfl rfl) ?_ | (revert H;refine x_sF ?_;intro w1 hf H hk;clear hf;change Kp _ _ at hk) | (revert H;refine x_g ?_;intro g w1 hg hf H;replace hf:=hf.kp) | (revert H;refine x_s ?_;intro w1 hf H;clear hf))
      refine c_postCTT H rfl rfl rfl rfl rfl ?_
      exact ⟨_,by first | (rw [HHV.out,HEV.out];done) | (rw [HHV.out,HEV.out];rfl) | (rw [HHV.out];simp [show ¬ r=0 from fun h=>hs0.out (by rw [h];rfl)]),H.fr,bv HB3⟩
    ·rw [hc]
     have HHV:=hid hh
     have HEV:=hid he
     have hs0:=hid (show (r:Int)≠0 by omega)
     clear r0 hc hh he HALL
     go_wp2_with (first | refine x_q H ?_ | refine x_cm (fun h=> ?_) (fun h=> ?_) | refine x_l H ?_ | refine x_e (ev_dyad rfl rfl rfl) ?_ | (revert H;refine x_sF ?_;intro w1 hf H hk;clear hf;change Kp _ _ at hk) | (revert H;refine x_g ?_;intro g w1 hg hf H;replace hf:=hf.kp) | (revert H;refine x_s ?_;intro w1 hf H;clear hf))
     (revert H;refine w_pF 13 (.st 0 (.st 1 (.st 2 (.ld 3 (.st 4 (.st 5 (.st 6 (.st 7 (.st 8 (.st 9 (.ld 10 (.st 11 (.st 12 .done))))))))))))) ?_;intro w1 hf H;(first | replace hf:=hf.kp | clear hf))
     iterate 3 refine p_q ?_
     ((refine p_c H rfl rfl Tryz.func189 (sign_nz (bv HB5).ar (by omega) hs0.out) ?_;clear H;rintro e w1 ⟨s6,rfl,hs6,hF⟩ H;refine p_r ?_;replace hF:=hF.kp);skip)
     iterate 2 refine p_q ?_
     iterate 3 (first | refine p_q ?_ | refine p_n ?_)
     refine p_q ?_
     (revert H;refine p_sF ?_;intro w1 hf H hk;clear hf;change Kp _ _ at hk)
     iterate 2 refine p_q ?_
     (refine pl_done ?_)
     all_goals
      go_wp2_with (first | refine x_q H ?_ | refine x_cm (fun h=> ?_) (fun h=> ?_) | refine x_l H ?_ | refine x_e (ev_dyad rfl rfl rfl) ?_ | (revert H;refine x_sF ?_;intro w1 hf H hk;clear hf;change Kp _ _ at hk) | (revert H;refine x_g ?_;intro g w1 hg hf H;replace hf:=hf.kp) | (revert H;refine x_s ?_;intro w1 hf H;clear hf))
      refine c_postCTT H rfl rfl rfl rfl rfl ?_
      exact ⟨_,by first | (rw [HHV.out,HEV.out];done) | (rw [HHV.out,HEV.out];rfl) | (rw [HHV.out];simp [show ¬ r=0 from fun h=>hs0.out (by rw [h];rfl)]),H.fr,bv HB3⟩
    ·rw [hc]
     have HHV:=hid hh
     have HEV:=hid he
     have hs0:=hid (show (r:Int)≠0 by omega)
     clear r0 hc hh he HALL HH
     subst hm0
     go_wp2_with (first | refine x_q H ?_ | refine x_cm (fun h=> ?_) (fun h=> ?_) | refine x_l H ?_ | refine x_e (ev_dyad rfl rfl rfl) ?_ | (revert H;refine x_sF ?_;intro w1 hf H hk;clear hf;change Kp _ _ at hk) | (revert H;refine x_g ?_;intro g w1 hg hf H;replace hf:=hf.kp) | (revert H;refine x_s ?_;intro w1 hf H;clear hf))
     (revert H;refine w_pF 13 (.st 0 (.st 1 (.st 2 (.ld 3 (.st 4 (.st 5 (.st 6 (.st 7 (.st 8 (.st 9 (.ld 10 (.st 11 (.st 12 .done))))))))))))) ?_;intro w1 hf H;(first | replace hf:=hf.kp | clear hf))
     iterate 3 refine p_q ?_
     ((refine p_c H rfl rfl Tryz.func189 (sign_nz (bv HB5).ar (by omega) hs0.out) ?_;clear H;rintro e w1 ⟨s6,rfl,hs6,hF⟩ H;refine p_r ?_;replace hF:=hF.kp);skip)
     iterate 2 refine p_q ?_
     iterate 3 (first | refine p_q ?_ | refine p_n ?_)
     refine p_q ?_
     (revert H;refine p_sF ?_;intro w1 hf H hk;clear hf;change Kp _ _ at hk)
     iterate 2 refine p_q ?_
     (refine pl_done ?_)
     all_goals
      go_wp2_with (first | refine x_q H ?_ | refine x_cm (fun h=> ?_) (fun h=> ?_) | refine x_l H ?_ | refine x_e (ev_dyad rfl rfl rfl) ?_ | (revert H;refine x_sF ?_;intro w1 hf H hk;clear hf;change Kp _ _ at hk) | (revert H;refine x_g ?_;intro g w1 hg hf H;replace hf:=hf.kp) | (revert H;refine x_s ?_;intro w1 hf H;clear hf))
      refine c_postCTT H rfl rfl rfl rfl rfl ?_
      exact ⟨_,by first | (rw [HHV.out,HEV.out];done) | (rw [HHV.out,HEV.out];rfl) | (rw [HHV.out];simp [show ¬ r=0 from fun h=>hs0.out (by rw [h];rfl)]),H.fr,bv HB3⟩
    ·rw [hc]
     have HHV:=hid hh
     have HEV:=hid he
     have hs0:=hid (show (r:Int)≠0 by omega)
     clear r0 hc hh he HALL HH
     subst hm0
     go_wp2_with (first | refine x_q H ?_ | refine x_cm (fun h=> ?_) (fun h=> ?_) | refine x_l H ?_ | refine x_e (ev_dyad rfl rfl rfl) ?_ | (revert H;refine x_sF ?_;intro w1 hf H hk;clear hf;change Kp _ _ at hk) | (revert H;refine x_g ?_;intro g w1 hg hf H;replace hf:=hf.kp) | (revert H;refine x_s ?_;intro w1 hf H;clear hf))
     (revert H;refine w_pF 13 (.st 0 (.st 1 (.st 2 (.ld 3 (.st 4 (.st 5 (.st 6 (.st 7 (.st 8 (.st 9 (.ld 10 (.st 11 (.st 12 .done))))))))))))) ?_;intro w1 hf H;(first | replace hf:=hf.kp | clear hf))
     iterate 3 refine p_q ?_
     ((refine p_c H rfl rfl Tryz.func189 (sign_nz (bv HB5).ar (by omega) hs0.out) ?_;clear H;rintro e w1 ⟨s6,rfl,hs6,hF⟩ H;refine p_r ?_;replace hF:=hF.kp);skip)
     iterate 2 refine p_q ?_
     iterate 3 (first | refine p_q ?_ | refine p_n ?_)
     refine p_q ?_
     (revert H;refine p_sF ?_;intro w1 hf H hk;clear hf;change Kp _ _ at hk)
     iterate 2 refine p_q ?_
     (refine pl_done ?_)
     all_goals
      go_wp2_with (first | refine x_q H ?_ | refine x_cm (fun h=> ?_) (fun h=> ?_) | refine x_l H ?_ | refine x_e (ev_dyad rfl rfl rfl) ?_ | (revert H;refine x_sF ?_;intro w1 hf H hk;clear hf;change Kp _ _ at hk) | (revert H;refine x_g ?_;intro g w1 hg hf H;replace hf:=hf.kp) | (revert H;refine x_s ?_;intro w1 hf H;clear hf))
      refine c_postCTT H rfl rfl rfl rfl rfl ?_
      exact ⟨_,by first | (rw [HHV.out,HEV.out];done) | (rw [HHV.out,HEV.out];rfl) | (rw [HHV.out];simp [show ¬ r=0 from fun h=>hs0.out (by rw [h];rfl)]),H.fr,bv HB3⟩
    ·rw [hc]
     have HHV:=hid hh
     have HEV:=hid he
     have hs0:=hid (show (r:Int)≠0 by omega)
     clear r0 hc hh he HALL
     go_wp2_with (first | refine x_q H ?_ | refine x_cm (fun h=> ?_) (fun h=> ?_) | refine x_l H ?_ | refine x_e (ev_dyad rfl rfl rfl) ?_ | (revert H;refine x_sF ?_;intro w1 hf H hk;clear hf;change Kp _ _ at hk) | (revert H;refine x_g ?_;intro g w1 hg hf H;replace hf:=hf.kp) | (revert H;refine x_s ?_;intro w1 hf H;clear hf))
     (revert H;refine w_pF 13 (.st 0 (.st 1 (.st 2 (.ld 3 (.st 4 (.st 5 (.st 6 (.st 7 (.st 8 (.st 9 (.ld 10 (.st 11 (.st 12 .done))))))))))))) ?_;intro w1 hf H;(first | replace hf:=hf.kp | clear hf))
     iterate 3 refine p_q ?_
     ((refine p_c H rfl rfl Tryz.func189 (sign_nz (bv HB5).ar (by omega) hs0.out) ?_;clear H;rintro e w1 ⟨s6,rfl,hs6,hF⟩ H;refine p_r ?_;replace hF:=hF.kp);skip)
     iterate 2 refine p_q ?_
     iterate 3 (first | refine p_q ?_ | refine p_n ?_)
     refine p_q ?_
     (revert H;refine p_sF ?_;intro w1 hf H hk;clear hf;change Kp _ _ at hk)
     iterate 2 refine p_q ?_
     (refine pl_done ?_)
     all_goals
      go_wp2_with (first | refine x_q H ?_ | refine x_cm (fun h=> ?_) (fun h=> ?_) | refine x_l H ?_ | refine x_e (ev_dyad rfl rfl rfl) ?_ | (revert H;refine x_sF ?_;intro w1 hf H hk;clear hf;change Kp _ _ at hk) | (revert H;refine x_g ?_;intro g w1 hg hf H;replace hf:=hf.kp) | (revert H;refine x_s ?_;intro w1 hf H;clear hf))
      refine c_postCTT H rfl rfl rfl rfl rfl ?_
      exact ⟨_,by first | (rw [HHV.out,HEV.out];done) | (rw [HHV.out,HEV.out];rfl) | (rw [HHV.out];simp [show ¬ r=0 from fun h=>hs0.out (by rw [h];rfl)]),H.fr,bv HB3⟩
end Go.Proofs.YtoiebebjgnpkmaaGreatDoor
