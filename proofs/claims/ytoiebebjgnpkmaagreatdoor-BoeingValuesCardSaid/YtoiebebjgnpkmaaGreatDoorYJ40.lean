import Derived.Test.YtoiebebjgnpkmaaGreatDoorYJ0
import Derived.Test.YtoiebebjgnpkmaaGreatDoorYJ39
import Derived.Test.YtoiebebjgnpkmaaGreatDoorYJ49
namespace Go.Proofs.YtoiebebjgnpkmaaGreatDoor
open Go.RowKit
set_option linter.unusedSimpArgs false
set_option linter.unusedVariables false
set_option maxHeartbeats 8000000
set_option maxRecDepth 100000
attribute [local irreducible] wpList Code.wp Plan.wp
set_option maxHeartbeats 64000000 in
theorem assemble1_any (w:World) {gp c:Nat} (v:Nat) (hfi:finF v=true) (h64:v<18446744073709551616) (hc:∀ j u,([.int .i64 0, .int .i64 0, .int .u64 (v:Int)]:List Value)[j]? =some u→w.cell? ⟨gp,0+j,none⟩=some u) (hT:La w):
 Calls Tryz.prog 79 #[.int .i64 1, .int .i64 1, .slice (some ⟨gp,0,none⟩) 1 c] w (MatR 1 1 [0,1] [0] [v] w):=by
 have hb:gp<w.heap.size:=block_lt_of_cell (hc 0 _ rfl)
 have HC:=hid hc
 have H:=(Hp.start [] w).pushRng (b:=gp) (off:=0) hb (by simp) hc
 have hpre:([.int .i64 0, .int .i64 0, .int .u64 (v:Int)]:List Value)<+:([.int .i64 0, .int .i64 0, .int .u64 (v:Int)]:List Value).drop 0:=List.prefix_rfl
 clear hb hc
 go_enter Tryz.func79,Tryz.ntmps79
 go_wp2_with (first | refine x_q H ?_ | refine x_cm (fun h=> ?_) (fun h=> ?_) | refine x_l H ?_ | (revert H;(first | (refine x_g ?_;(first | (have hh:=g3;clear hh;intro g4 w1 hg hf H) | (have hh:=g2;clear hh;intro g3 w1 hg hf H) | (have hh:=g1;clear hh;intro g2 w1 hg hf H) | (have hh:=g0;clear hh;intro g1 w1 hg hf H) | intro g0 w1 hg hf H);(first | replace hf:=hf.kp | clear hf)) | (refine x_s ?_;intro w1 hf H;(first | replace hf:=hf.kp | clear hf)) | (refine x_sF ?_;intro w1 hf H hk;clear hf hk))))
 refine Calls.mono (fromEntries1_any _ v hfi h64 (fun j u hj=>H.rngCell (b:=gp) (off:=0) (cs:=[.int .i64 0, .int .i64 0, .int .u64 (v:Int)]) (.tail _ (.head _)) hj) (hT.fr H.fr)) ?_
 rintro e w1 ⟨v1,v2,v3,B,rfl,hF,hM,hB⟩
 obtain ⟨S1,S2,S3,H1⟩:=H.mat 1 2 3 hF hM hB
 clear H hF hM hB hfi hT HC
 have H:=H1
 clear H1
 obtain ⟨gs,c1,hv1,rfl⟩:=(H.rowo 1).some (by decide)
 obtain ⟨gi,c2,hv2,rfl⟩:=(H.rowo 2).some (by decide)
 obtain ⟨gv,c3,hv3,rfl⟩:=(H.rowo 3).some (by simp)
 subst hv1 hv2 hv3
 go_wp2_with (first | refine x_q H ?_ | refine x_cm (fun h=> ?_) (fun h=> ?_) | refine x_l H ?_ | (revert H;(first | (refine x_g ?_;(first | (have hh:=g3;clear hh;intro g4 w1 hg hf H) | (have hh:=g2;clear hh;intro g3 w1 hg hf H) | (have hh:=g1;clear hh;intro g2 w1 hg hf H) | (have hh:=g0;clear hh;intro g1 w1 hg hf H) | intro g0 w1 hg hf H);(first | replace hf:=hf.kp | clear hf)) | (refine x_s ?_;intro w1 hf H;(first | replace hf:=hf.kp | clear hf)) | (refine x_sF ?_;intro w1 hf H hk;clear hf hk))))
 go_loopw [22] (fun s22 wr=>(s22= .int .i64 0∧Hp [] w wr [.obj 3 [gv] (RowAt 23 1 (.slice (some ⟨gv,0,none⟩) 1 c3) 1 (([cleanF v]:List Nat).map uV) [gv]), .obj 1 [gs] (RowAt 3 1 (.slice (some ⟨gs,0,none⟩) 2 c1) 2 (([0,1]:List Nat).map iV) [gs]), .obj 2 [gi] (RowAt 3 1 (.slice (some ⟨gi,0,none⟩) 1 c2) 1 (([0]:List Nat).map iV) [gi]), .blk g1 [.int .i64 1, .int .i64 1, .slice (some ⟨gs,0,none⟩) 2 c1, .slice (some ⟨gi,0,none⟩) 1 c2, .slice (some ⟨gv,0,none⟩) 1 c3] 27, .blk g0 [.int .i64 0, .int .i64 0, .slice none 0 0, .slice none 0 0, .slice none 0 0] 27, .rng gp 0 [.int .i64 0, .int .i64 0, .int .u64 (v:Int)]])∨(s22= .int .i64 1∧Hp [] w wr [.obj 3 [gv] (RowAt 23 1 (.slice (some ⟨gv,0,none⟩) 1 c3) 1 (([v]:List Nat).map uV) [gv]), .obj 1 [gs] (RowAt 3 1 (.slice (some ⟨gs,0,none⟩) 2 c1) 2 (([0,1]:List Nat).map iV) [gs]), .obj 2 [gi] (RowAt 3 1 (.slice (some ⟨gi,0,none⟩) 1 c2) 1 (([0]:List Nat).map iV) [gi]), .blk g1 [.int .i64 1, .int .i64 1, .slice (some ⟨gs,0,none⟩) 2 c1, .slice (some ⟨gi,0,none⟩) 1 c2, .slice (some ⟨gv,0,none⟩) 1 c3] 27, .blk g0 [.int .i64 0, .int .i64 0, .slice none 0 0, .slice none 0 0, .slice none 0 0] 27])) (fun x _ =>1 - (intOf x).toNat)
 case atStart=>exact .inl ⟨rfl,H.arr (by repeat (first | exact Pm.nil _ | (apply Pm.cons;· (repeat first | exact Rm.here _ | apply Rm.there))))⟩
 case round=>
  clear H
  rcases hrel with ⟨rfl,H⟩ | ⟨rfl,H⟩
  ·by_cases hz:v=9223372036854775808
   ·subst hz
    have hs1:(([0,1]:List Nat).map iV)[0]? =some (.int .i64 0):=rfl
    have hs2:(([0,1]:List Nat).map iV)[1]? =some (.int .i64 1):=rfl
    have HCOL:=hid (fun wr (h:RowAt 3 1 (.slice (some ⟨gi,0,none⟩) 1 c2) 1 (([0]:List Nat).map iV) [gi] wr) (j u:Nat) (hj:([0]:List Nat)[j]? =some u)=>show wr.cell? ⟨gi,0+j,none⟩=some (iV u) by rw [Nat.zero_add];exact h.cell (by rw [List.getElem?_map,hj];rfl))
    have hc2:1≤c2:=by
     obtain ⟨_,⟨_,h2,_⟩ | ⟨_,_,_,_,h1,h2,_⟩⟩:=H.rowo 2
     ·cases h2
     ·cases h1;exact h2
    obtain ⟨g3',c3'',pad,he3,hS3,hn3,hm3,hl3,H1⟩:=H.rowOpen 3 (by decide)
    cases he3
    cases hS3
    clear H
    have H:=H1
    clear H1
    have hqlen:0<(([cleanF 9223372036854775808]:List Nat).map uV++pad).length:=by simp
    have HP3:=hid (And.intro hn3 (And.intro hm3 hl3))
    clear hn3 hm3 hl3
    go_wp2_with (first | refine x_q H ?_ | refine x_cm (fun h=> ?_) (fun h=> ?_) | refine x_l H ?_ | (revert H;(first | (refine x_g ?_;(first | (have hh:=g3;clear hh;intro g4 w1 hg hf H) | (have hh:=g2;clear hh;intro g3 w1 hg hf H) | (have hh:=g1;clear hh;intro g2 w1 hg hf H) | (have hh:=g0;clear hh;intro g1 w1 hg hf H) | intro g0 w1 hg hf H);(first | replace hf:=hf.kp | clear hf)) | (refine x_s ?_;intro w1 hf H;(first | replace hf:=hf.kp | clear hf)) | (refine x_sF ?_;intro w1 hf H hk;clear hf hk))))
    (revert H;refine w_p 24 (.st 0 (.st 1 (.st 2 (.st 3 (.st 4 (.st 5 (.st 6 (.st 7 (.st 8 (.st 9 (.st 10 (.st 11 (.st 12 (.st 13 (.st 14 (.st 15 (.st 16 (.st 17 (.ld 18 (.st 19 (.st 20 (.st 21 (.st 22 (.st 23 .done)))))))))))))))))))))))) ?_;intro w1 H)
    iterate 6 refine p_q ?_
    (refine p_e rfl (fun w H=>ev_ixE 0 0 rfl rfl rfl (hid rfl)) ?_)
    (refine p_e (v:= .int .i64 0) rfl (fun w H=>c_l1O rfl rfl (H.rowo 1) hs1) ?_)
    iterate 5 refine p_q ?_
    (refine p_e rfl (fun w H=>ev_ixE 1 1 rfl rfl rfl (hid rfl)) ?_)
    (refine p_e (v:= .int .i64 1) rfl (fun w H=>c_l1O rfl rfl (H.rowo 1) hs2) ?_)
    (refine p_e rfl (fun w H=>ev_cut (i:=0) (j:=1) rfl rfl rfl rfl 1 rfl hc2 (by omega)) ?_)
    iterate 2 refine p_q ?_
    (refine p_c H rfl rfl Tryz.func42 (bsearch_hit (t:=0) (k:=0) _ [0] rfl (by decide) (List.pairwise_singleton _ _) (HCOL.out _ (H.rowo 2)) rfl) ?_;clear H;rintro e w1 ⟨rfl,hF⟩ H;refine p_r ?_;clear hF)
    iterate 5 refine p_q ?_
    (refine pl_done ?_)
    go_wp2_with (first | refine x_q H ?_ | refine x_cm (fun h=> ?_) (fun h=> ?_) | refine x_l H ?_ | (revert H;(first | (refine x_g ?_;(first | (have hh:=g3;clear hh;intro g4 w1 hg hf H) | (have hh:=g2;clear hh;intro g3 w1 hg hf H) | (have hh:=g1;clear hh;intro g2 w1 hg hf H) | (have hh:=g0;clear hh;intro g1 w1 hg hf H) | intro g0 w1 hg hf H);(first | replace hf:=hf.kp | clear hf)) | (refine x_s ?_;intro w1 hf H;(first | replace hf:=hf.kp | clear hf)) | (refine x_sF ?_;intro w1 hf H hk;clear hf hk))))
    (revert H;refine w_p 11 (.st 0 (.st 1 (.st 2 (.st 3 (.st 4 (.st 5 (.st 6 (.st 7 (.st 8 (.st 9 (.st 10 (.ld 11 .done)))))))))))) ?_;intro w1 H)
    iterate 6 refine p_q ?_
    (refine p_e rfl (fun w H=>ev_ixE 0 0 rfl rfl rfl (hid rfl)) ?_)
    (refine p_e (v:= .int .i64 0) rfl (fun w H=>c_l1O rfl rfl (H.rowo 1) hs1) ?_)
    iterate 2 refine p_q ?_
    (refine p_e rfl (fun w H=>ev_ixE 0 0 rfl rfl rfl (hid rfl)) ?_)
    (revert H;refine p_s ?_;intro w1 hf H;(first | replace hf:=hf.kp | clear hf))
    (refine pl_done ?_)
    go_wp2_with (first | refine x_q H ?_ | refine x_cm (fun h=> ?_) (fun h=> ?_) | refine x_l H ?_ | (revert H;(first | (refine x_g ?_;(first | (have hh:=g3;clear hh;intro g4 w1 hg hf H) | (have hh:=g2;clear hh;intro g3 w1 hg hf H) | (have hh:=g1;clear hh;intro g2 w1 hg hf H) | (have hh:=g0;clear hh;intro g1 w1 hg hf H) | intro g0 w1 hg hf H);(first | replace hf:=hf.kp | clear hf)) | (refine x_s ?_;intro w1 hf H;(first | replace hf:=hf.kp | clear hf)) | (refine x_sF ?_;intro w1 hf H hk;clear hf hk))))
    go_roundw
    case rel=>
     have H1:=H.rowShut (g:=gv) 3 (sz:=1) (n:=1) (cap:=c3) (xs:=([9223372036854775808]:List Nat).map uV) (pad:=pad) rfl (by simp) HP3.out.1 HP3.out.2.1 (by have h:=HP3.out.2.2;rw [List.length_append] at h ⊢;simpa using h) (.tail _ (.head _))
     exact .inr ⟨rfl,H1.arr (by repeat (first | exact Pm.nil _ | (apply Pm.cons;· (repeat first | exact Rm.here _ | apply Rm.there))))⟩
    case measure=>(simp [intOf];try omega)
   ·have hz':¬ (v:Int)=9223372036854775808:=by omega
    have e1:cleanF v=v:=by unfold cleanF;exact if_neg hz
    rw [e1] at H
    clear hz e1
    go_wp2_with (first | refine x_q H ?_ | refine x_cm (fun h=> ?_) (fun h=> ?_) | refine x_l H ?_ | (revert H;(first | (refine x_g ?_;(first | (have hh:=g3;clear hh;intro g4 w1 hg hf H) | (have hh:=g2;clear hh;intro g3 w1 hg hf H) | (have hh:=g1;clear hh;intro g2 w1 hg hf H) | (have hh:=g0;clear hh;intro g1 w1 hg hf H) | intro g0 w1 hg hf H);(first | replace hf:=hf.kp | clear hf)) | (refine x_s ?_;intro w1 hf H;(first | replace hf:=hf.kp | clear hf)) | (refine x_sF ?_;intro w1 hf H hk;clear hf hk))))
    go_roundw
    case rel=>exact .inr ⟨rfl,H.arr (by repeat (first | exact Pm.nil _ | (apply Pm.cons;· (repeat first | exact Rm.here _ | apply Rm.there))))⟩
    case measure=>(simp [intOf];try omega)
  ·go_wp2_with (first | refine x_q H ?_ | refine x_cm (fun h=> ?_) (fun h=> ?_) | refine x_l H ?_ | (revert H;(first | (refine x_g ?_;(first | (have hh:=g3;clear hh;intro g4 w1 hg hf H) | (have hh:=g2;clear hh;intro g3 w1 hg hf H) | (have hh:=g1;clear hh;intro g2 w1 hg hf H) | (have hh:=g0;clear hh;intro g1 w1 hg hf H) | intro g0 w1 hg hf H);(first | replace hf:=hf.kp | clear hf)) | (refine x_s ?_;intro w1 hf H;(first | replace hf:=hf.kp | clear hf)) | (refine x_sF ?_;intro w1 hf H hk;clear hf hk))))
   refine c_post H rfl rfl rfl ?_
   have H3:Hp [] w w1 [.obj 1 [gs] (RowAt 3 1 (.slice (some ⟨gs,0,none⟩) 2 c1) 2 (([0,1]:List Nat).map iV) [gs]), .obj 2 [gi] (RowAt 3 1 (.slice (some ⟨gi,0,none⟩) 1 c2) 1 (([0]:List Nat).map iV) [gi]), .obj 3 [gv] (RowAt 23 1 (.slice (some ⟨gv,0,none⟩) 1 c3) 1 (([v]:List Nat).map uV) [gv])]:=H.arr (by repeat (first | exact Pm.nil _ | (apply Pm.cons;· (repeat first | exact Rm.here _ | apply Rm.there))))
   exact ⟨_,_,_,[gs]++([gi]++[gv]),rfl,H.fr,mat_mk (by simpa [Ent.own] using H3.nodup) (H3.rowo 1) (H3.rowo 2) (H3.rowo 3) rfl rfl rfl rfl rfl rfl,fun x hx=>H3.fresh x (by simpa [Ent.own] using hx)⟩
theorem mirrorE_any (w:World) {gp c:Nat} (v:Nat) (hfi:finF v=true) (h64:v<18446744073709551616) (hc:∀ j u,([.int .i64 0, .int .i64 0, .int .u64 (v:Int)]:List Value)[j]? =some u→w.cell? ⟨gp,0+j,none⟩=some u) (hT:La w):
 Calls Tryz.prog 34 #[.int .i64 1, .int .i64 1, .slice (some ⟨gp,0,none⟩) 1 c, .int .i64 0] w (MatR 1 1 [0,1] [0] [v] w):=by
 have hb:gp<w.heap.size:=block_lt_of_cell (hc 0 _ rfl)
 have H:=(Hp.start [] w).pushRng (b:=gp) (off:=0) hb (by simp) hc
 have hpre:([.int .i64 0, .int .i64 0, .int .u64 (v:Int)]:List Value)<+:(eC (0,0,v)).drop 0:=List.prefix_rfl
 have HC:=hid hc
 clear hb hc
 go_enter Tryz.func34,Tryz.ntmps34
 (revert H;refine W73c2 ?_ <;>unhygienic intros)
 refine Calls.mono (clone1_any _ (0,0,v) (.inr ⟨_,_,rfl,fun j u hj=>by rw [add_mk];exact H.rngCell (b:=gp) (off:=0) (cs:=[.int .i64 0, .int .i64 0, .int .u64 (v:Int)]) (.tail _ (.head _)) hj⟩)) ?_
 rintro e w1 ⟨vs,rfl,hF,hown⟩
 obtain ⟨S,H1⟩:=H.rowNew 1 hF hown
 clear H hF hown
 have H:=H1
 clear H1
 obtain ⟨gq,cq,hvv,rfl⟩:=(H.rowo 1).some (by decide)
 subst hvv
 (revert H;refine W73c2 ?_ <;>unhygienic intros)
 go_loopw [2,15] (fun s2 s15 wr=>s2= .slice (some ⟨gp,0,none⟩) 1 c∧(s15= .int .i64 0∨s15= .int .i64 1)∧Hp [] w wr [.obj 1 [gq] (RowAt 46 3 (.slice (some ⟨gq,0,none⟩) 1 cq) 1 (eC (0,0,v)) [gq]), .blk g0 [.int .i64 0, .int .i64 0, .slice none 0 0, .slice none 0 0, .slice none 0 0] 27]) (fun _ x _ =>1 - (intOf x).toNat)
 case atStart=>exact ⟨rfl, .inl rfl,H.arr (by repeat (first | exact Pm.nil _ | (apply Pm.cons;· (repeat first | exact Rm.here _ | apply Rm.there))))⟩
 case round=>
  clear H
  obtain ⟨rfl,hj,H⟩:=hrel
  rcases hj with rfl | rfl
  ·(revert H;refine W6d98 ?_ <;>unhygienic intros)
   go_roundw
   case rel=>exact ⟨rfl, .inr rfl,H.arr (by repeat (first | exact Pm.nil _ | (apply Pm.cons;· (repeat first | exact Rm.here _ | apply Rm.there))))⟩
   case measure=>(simp [intOf];try omega)
  ·(revert H;refine W73c2 ?_ <;>unhygienic intros)
   refine Calls.mono (assemble1_any _ v hfi h64 (fun j u hj=>H.fr.cell (HC.out j u hj) (by simp)) (hT.fr H.fr)) ?_
   rintro e w1 ⟨v1,v2,v3,B,rfl,hF,hM,hB⟩
   obtain ⟨S1,S2,S3,H1⟩:=H.mat 11 12 13 hF hM hB
   clear H hF hM hB
   have H:=H1
   clear H1
   obtain ⟨q1,d1,rfl,_⟩:=(H.rowo 11).form
   obtain ⟨q2,d2,rfl,_⟩:=(H.rowo 12).form
   obtain ⟨q3,d3,rfl,_⟩:=(H.rowo 13).form
   (revert H;refine W73c2 ?_ <;>unhygienic intros)
   have H3:=H.sub (.cons_cons _ (.cons_cons _ (.cons_cons _ (List.nil_sublist _))))
   refine c_post H rfl rfl rfl ?_
   exact ⟨_,_,_,S1++(S2++S3),rfl,H.fr,mat_mk (by simpa [Ent.own] using H3.nodup) (H3.rowo 11) (H3.rowo 12) (H3.rowo 13) rfl rfl rfl rfl rfl rfl,fun x hx=>H3.fresh x (by simpa [Ent.own] using hx)⟩
end Go.Proofs.YtoiebebjgnpkmaaGreatDoor
