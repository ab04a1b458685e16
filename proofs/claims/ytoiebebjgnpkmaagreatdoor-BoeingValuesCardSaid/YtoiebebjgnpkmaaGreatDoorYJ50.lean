import Derived.Test.YtoiebebjgnpkmaaGreatDoorYJ0
import Derived.Test.YtoiebebjgnpkmaaGreatDoorYJ49
import Derived.Test.YtoiebebjgnpkmaaGreatDoorYJ42
namespace Go.Proofs.YtoiebebjgnpkmaaGreatDoor
open Go.RowKit
set_option linter.unusedSimpArgs false
set_option linter.unusedVariables false
set_option maxHeartbeats 8000000
set_option maxRecDepth 100000
attribute [local irreducible] wpList Code.wp Plan.wp
theorem nat_at {cs:List Value} {l:List Nat} (h:cs=l.map iV) {k f:Nat} (hk:l[k]? =some f):cs[k]? =some (.int .i64 (f:Int)):=by rw [h,List.getElem?_map,hk];rfl
theorem fmt_d (x:Nat) (h:x≤9):fmt (x:Int)=[UInt8.ofNat (48+x)]:=by
 unfold fmt
 rw [if_neg (by omega),Int.natAbs_natCast]
 exact dec_small (by omega)
theorem format_bad (w:World) {b ga gb gc k1 k2 k3:Nat} (h:M1 b ga gb gc k1 k2 k3 w) (hfz:Hid (finF b=false)):
 Calls Tryz.prog 4 #[.agg ([strV [],strV [], .int .i64 1, .int .i64 1, .slice (some ⟨ga,0,none⟩) 2 k1, .slice (some ⟨gb,0,none⟩) 1 k2, .slice (some ⟨gc,0,none⟩) 1 k3, .bool false, .int .i64 0]).toArray] w fun e w'=>e= .returned (.tuple #[.slice none 0 0, .int .i64 4])∧Fr [] w w':=by
 have HM:=hid h
 clear h
 have H:=Hp.start [] w
 go_enter Tryz.func4,Tryz.ntmps4
 (revert H;refine Wa4be ?_ <;>unhygienic intros)
 (refine x_c H (check1_any _ (HM.out.fr H.fr) hfz) ?_;clear H;rintro e w1 ⟨rfl,hF⟩ H;clear hF)
 (revert H;refine Wa4be ?_ <;>unhygienic intros)
 go_ret2
 exact ⟨rfl,H.fr⟩
set_option maxHeartbeats 64000000 in
theorem format_one (w:World) {b ga gb gc k1 k2 k3:Nat} (h:M1 b ga gb gc k1 k2 k3 w) (hfz:Hid (finF b=true)) (hT:La w):
 Calls Tryz.prog 4 #[.agg ([strV [],strV [], .int .i64 1, .int .i64 1, .slice (some ⟨ga,0,none⟩) 2 k1, .slice (some ⟨gb,0,none⟩) 1 k2, .slice (some ⟨gc,0,none⟩) 1 k3, .bool false, .int .i64 0]).toArray] w fun e w'=>∃ l p c,e= .returned (.tuple #[.slice p (vFile (textP l)).length c, .int .i64 0])∧Fr [] w w'∧Rd w' (.slice p (vFile (textP l)).length c) (vFile (textP l)).length (bytesV (vFile (textP l)))∧FmA b l:=by
 have HM:=hid h
 have HT:=hid hT
 have hb:=h.hb
 clear h hT
 have H:=(((Hp.start [] w).newRow 2 (e:=9) (sz:=1)).newRow 3 (e:=9) (sz:=1)).newRow 4 (e:=9) (sz:=1)
 go_enter Tryz.func4,Tryz.ntmps4
 go_wp2_with (first | refine x_q H ?_ | refine x_cm (fun h=> ?_) (fun h=> ?_) | refine x_l H ?_ | (revert H;(first | (refine x_g ?_;(first | (have hh:=g4;clear hh;intro g5 w1 hg hf H) | (have hh:=g3;clear hh;intro g4 w1 hg hf H) | (have hh:=g2;clear hh;intro g3 w1 hg hf H) | (have hh:=g1;clear hh;intro g2 w1 hg hf H) | (have hh:=g0;clear hh;intro g1 w1 hg hf H) | intro g0 w1 hg hf H);(first | replace hf:=hf.kp | clear hf)) | (refine x_s ?_;intro w1 hf H;(first | replace hf:=hf.kp | clear hf)) | (refine x_sF ?_;intro w1 hf H hk;clear hf hk) | (refine x_s (he:=fun H K hK=>c_stA H rfl rfl rfl (h:=hK)) ?_;intro w1 hf H;clear hf))))
 (refine x_c H (check1_any _ (HM.out.fr H.fr) hfz) ?_;clear H;rintro e w1 ⟨rfl,hF⟩ H;clear hF)
 go_wp2_with (first | refine x_q H ?_ | refine x_cm (fun h=> ?_) (fun h=> ?_) | refine x_l H ?_ | (revert H;(first | (refine x_g ?_;(first | (have hh:=g4;clear hh;intro g5 w1 hg hf H) | (have hh:=g3;clear hh;intro g4 w1 hg hf H) | (have hh:=g2;clear hh;intro g3 w1 hg hf H) | (have hh:=g1;clear hh;intro g2 w1 hg hf H) | (have hh:=g0;clear hh;intro g1 w1 hg hf H) | intro g0 w1 hg hf H);(first | replace hf:=hf.kp | clear hf)) | (refine x_s ?_;intro w1 hf H;(first | replace hf:=hf.kp | clear hf)) | (refine x_sF ?_;intro w1 hf H hk;clear hf hk) | (refine x_s (he:=fun H K hK=>c_stA H rfl rfl rfl (h:=hK)) ?_;intro w1 hf H;clear hf))))
 (refine x_c H (permitted_nil _ _ _ _) ?_;clear H;rintro e w1 ⟨rfl,hF⟩ H;clear hF)
 go_wp2_with (first | refine x_q H ?_ | refine x_cm (fun h=> ?_) (fun h=> ?_) | refine x_l H ?_ | (revert H;(first | (refine x_g ?_;(first | (have hh:=g4;clear hh;intro g5 w1 hg hf H) | (have hh:=g3;clear hh;intro g4 w1 hg hf H) | (have hh:=g2;clear hh;intro g3 w1 hg hf H) | (have hh:=g1;clear hh;intro g2 w1 hg hf H) | (have hh:=g0;clear hh;intro g1 w1 hg hf H) | intro g0 w1 hg hf H);(first | replace hf:=hf.kp | clear hf)) | (refine x_s ?_;intro w1 hf H;(first | replace hf:=hf.kp | clear hf)) | (refine x_sF ?_;intro w1 hf H hk;clear hf hk) | (refine x_s (he:=fun H K hK=>c_stA H rfl rfl rfl (h:=hK)) ?_;intro w1 hf H;clear hf))))
 (refine Calls.mono (written1_any _ (HM.out.fr H.fr) hfz) ?_;rintro e w1 ⟨v,rfl,hF,hown⟩;obtain ⟨S,H1⟩:=H.rowNew 1 hF hown;clear H hF hown;have H:=H1;clear H1)
 obtain ⟨gl,cl,hvv,rfl⟩:=(H.rowo 1).some (by decide)
 subst hvv
 go_wp2_with (first | refine x_q H ?_ | (revert H;refine x_g (he:=fun H K hK=>c_mkN 2 H rfl rfl (hid rfl) (h:=hK)) ?_;(first | (have hh:=g4;clear hh;intro g5 w1 hg hf H) | (have hh:=g3;clear hh;intro g4 w1 hg hf H) | (have hh:=g2;clear hh;intro g3 w1 hg hf H) | (have hh:=g1;clear hh;intro g2 w1 hg hf H) | (have hh:=g0;clear hh;intro g1 w1 hg hf H) | intro g0 w1 hg hf H);(first | replace hf:=hf.kp | clear hf)) | refine x_cm (fun h=> ?_) (fun h=> ?_) | refine x_l H ?_ | (revert H;(first | (refine x_g ?_;(first | (have hh:=g4;clear hh;intro g5 w1 hg hf H) | (have hh:=g3;clear hh;intro g4 w1 hg hf H) | (have hh:=g2;clear hh;intro g3 w1 hg hf H) | (have hh:=g1;clear hh;intro g2 w1 hg hf H) | (have hh:=g0;clear hh;intro g1 w1 hg hf H) | intro g0 w1 hg hf H);(first | replace hf:=hf.kp | clear hf)) | (refine x_s ?_;intro w1 hf H;(first | replace hf:=hf.kp | clear hf)) | (refine x_sF ?_;intro w1 hf H hk;clear hf hk) | (refine x_s (he:=fun H K hK=>c_stA H rfl rfl rfl (h:=hK)) ?_;intro w1 hf H;clear hf))))
 have e0:(List.replicate 2 [Value.int .i64 0]).flatten=[.int .i64 0, .int .i64 0]:=rfl
 rw [e0] at H
 clear e0
 have hpre:[.int .i64 0, .int .i64 0, .int .u64 (b:Int)]<+:(eC (0,0,b)).drop 0:=List.prefix_rfl
 have I0:=hid (show fmt (1+0)=[49] from fmt_d 1 (by decide))
 have I1:=hid (show fmt (0+1)=[49] from fmt_d 1 (by decide))
 have I2:=hid (show fmt (1+1)=[50] from fmt_d 2 (by decide))
 go_loopw [9,10,70] (fun s9 s10 s70 wr=>(s9= .slice none 0 0∧s10= .slice none 0 0∧s70= .int .i64 0∧Hp [] w wr [.blk g2 [.int .i64 0, .int .i64 0] 3, .obj 1 [gl] (RowAt 46 3 (.slice (some ⟨gl,0,none⟩) 1 cl) 1 (eC (0,0,b)) [gl]), .blk g1 [.int .i64 1, .int .i64 1, .slice (some ⟨ga,0,none⟩) 2 k1, .slice (some ⟨gb,0,none⟩) 1 k2, .slice (some ⟨gc,0,none⟩) 1 k3] 27, .blk g0 [strV [],strV [], .int .i64 1, .int .i64 1, .slice (some ⟨ga,0,none⟩) 2 k1, .slice (some ⟨gb,0,none⟩) 1 k2, .slice (some ⟨gc,0,none⟩) 1 k3, .bool false, .int .i64 0] 33, .obj 4 [] (RowAt 9 1 (.slice none 0 0) 0 [] []), .obj 3 [] (RowAt 9 1 (.slice none 0 0) 0 [] []), .obj 2 [] (RowAt 9 1 (.slice none 0 0) 0 [] [])])
  ∨(∃ p2 q2 S2 p3 q3 S3 l,s9= .slice p2 1 q2∧s10= .slice p3 1 q3∧s70= .int .i64 1∧Hid (FmA b l)∧Hp [] w wr [.blk g2 [.int .i64 0, .int .i64 1] 3, .obj 1 [gl] (RowAt 46 3 (.slice (some ⟨gl,0,none⟩) 1 cl) 1 (eC (0,0,b)) [gl]), .blk g1 [.int .i64 1, .int .i64 1, .slice (some ⟨ga,0,none⟩) 2 k1, .slice (some ⟨gb,0,none⟩) 1 k2, .slice (some ⟨gc,0,none⟩) 1 k3] 27, .blk g0 [strV [],strV [], .int .i64 1, .int .i64 1, .slice (some ⟨ga,0,none⟩) 2 k1, .slice (some ⟨gb,0,none⟩) 1 k2, .slice (some ⟨gc,0,none⟩) 1 k3, .bool false, .int .i64 0] 33, .obj 4 [] (RowAt 9 1 (.slice none 0 0) 0 [] []), .obj 3 S3 (RowAt 9 1 (.slice p3 1 q3) 1 [strV (textP l)] S3), .obj 2 S2 (RowAt 9 1 (.slice p2 1 q2) 1 [strV [49]] S2)])) (fun _ _ v _ =>1 - (intOf v).toNat)
 case atStart=>exact .inl ⟨rfl,rfl,rfl,H.arr (by repeat (first | exact Pm.nil _ | (apply Pm.cons;· (repeat first | exact Rm.here _ | apply Rm.there))))⟩
 case round=>
  clear H
  rcases hrel with ⟨rfl,rfl,rfl,H⟩ | ⟨p2,q2,S2,p3,q3,S3,l,rfl,rfl,rfl,HL,H⟩
  ·go_wp2_with (first | refine x_q H ?_ | refine x_e (c_lnO rfl rfl (H.rowo 1) hpre rfl) ?_ | refine x_cm (fun h=> ?_) (fun h=> ?_) | refine x_l H ?_ | (revert H;(first | (refine x_g ?_;(first | (have hh:=g4;clear hh;intro g5 w1 hg hf H) | (have hh:=g3;clear hh;intro g4 w1 hg hf H) | (have hh:=g2;clear hh;intro g3 w1 hg hf H) | (have hh:=g1;clear hh;intro g2 w1 hg hf H) | (have hh:=g0;clear hh;intro g1 w1 hg hf H) | intro g0 w1 hg hf H);(first | replace hf:=hf.kp | clear hf)) | (refine x_s ?_;intro w1 hf H;(first | replace hf:=hf.kp | clear hf)) | (refine x_sF ?_;intro w1 hf H hk;clear hf hk) | (refine x_s (he:=fun H K hK=>c_stA H rfl rfl rfl (h:=hK)) ?_;intro w1 hf H;clear hf))))
   (refine x_c H (itoaZ_any _ (by omega) _ (HT.out.fr H.fr) I1) ?_;clear H;rintro e w1 ⟨rfl,hF⟩ H;clear hF)
   go_wp2_with (first | refine x_q H ?_ | (refine is_blt (b:= .append) rfl ?_;go_loud (refine wl_rw rfl (fun K hK=>c_aprS H rfl rfl rfl 2 (H.rd (b:=g4) (off:=0) (vs:=[strV [49]]) List.prefix_rfl) rfl (by intro u hu;simp only [List.mem_singleton] at hu;subst hu;rfl) (by omega) (by unfold maxLen;omega) (fun p2 q2 w1 S2 hf H1=>hK _ _ ?_)));(clear hK K);(clear H;have H:=H1;clear H1;(try dsimp only at H);(first | replace hf:=hf.kp | clear hf));(simp only [nrm,↓reduceIte,Nat.reduceAdd])) | refine x_cm (fun h=> ?_) (fun h=> ?_) | refine x_l H ?_ | (revert H;(first | (refine x_g ?_;(first | (have hh:=g4;clear hh;intro g5 w1 hg hf H) | (have hh:=g3;clear hh;intro g4 w1 hg hf H) | (have hh:=g2;clear hh;intro g3 w1 hg hf H) | (have hh:=g1;clear hh;intro g2 w1 hg hf H) | (have hh:=g0;clear hh;intro g1 w1 hg hf H) | intro g0 w1 hg hf H);(first | replace hf:=hf.kp | clear hf)) | (refine x_s ?_;intro w1 hf H;(first | replace hf:=hf.kp | clear hf)) | (refine x_sF ?_;intro w1 hf H hk;clear hf hk) | (refine x_s (he:=fun H K hK=>c_stA H rfl rfl rfl (h:=hK)) ?_;intro w1 hf H;clear hf))))
   (refine x_c H (vtext_any _ hb hfz.out (HT.out.fr H.fr)) ?_;clear H;rintro e w1 ⟨l,rfl,hF,hl⟩ H;clear hF)
   have HL:=hid hl
   clear hl
   go_wp2_with (first | refine x_q H ?_ | (refine is_blt (b:= .append) rfl ?_;go_loud (refine wl_rw rfl (fun K hK=>c_aprS H rfl rfl rfl 3 (H.rd (b:=g5) (off:=0) (vs:=[strV (textP l)]) List.prefix_rfl) rfl (by intro u hu;simp only [List.mem_singleton] at hu;subst hu;rfl) (by omega) (by unfold maxLen;omega) (fun p3 q3 w1 S3 hf H1=>hK _ _ ?_)));(clear hK K);(clear H;have H:=H1;clear H1;(try dsimp only at H);(first | replace hf:=hf.kp | clear hf));(simp only [nrm,↓reduceIte,Nat.reduceAdd])) | refine x_cm (fun h=> ?_) (fun h=> ?_) | refine x_l H ?_ | (revert H;(first | (refine x_g ?_;(first | (have hh:=g4;clear hh;intro g5 w1 hg hf H) | (have hh:=g3;clear hh;intro g4 w1 hg hf H) | (have hh:=g2;clear hh;intro g3 w1 hg hf H) | (have hh:=g1;clear hh;intro g2 w1 hg hf H) | (have hh:=g0;clear hh;intro g1 w1 hg hf H) | intro g0 w1 hg hf H);(first | replace hf:=hf.kp | clear hf)) | (refine x_s ?_;intro w1 hf H;(first | replace hf:=hf.kp | clear hf)) | (refine x_sF ?_;intro w1 hf H hk;clear hf hk) | (refine x_s (he:=fun H K hK=>c_stA H rfl rfl rfl (h:=hK)) ?_;intro w1 hf H;clear hf))))
   go_roundw
   case rel=>exact .inr ⟨p2,q2,S2,p3,q3,S3,l,rfl,rfl,rfl,HL,H.arr (by repeat (first | exact Pm.nil _ | (apply Pm.cons;· (repeat first | exact Rm.here _ | apply Rm.there))))⟩
   case measure=>(simp [intOf];try omega)
  ·go_wp2_with (first | refine x_q H ?_ | refine x_cm (fun h=> ?_) (fun h=> ?_) | refine x_l H ?_ | (revert H;(first | (refine x_g ?_;(first | (have hh:=g4;clear hh;intro g5 w1 hg hf H) | (have hh:=g3;clear hh;intro g4 w1 hg hf H) | (have hh:=g2;clear hh;intro g3 w1 hg hf H) | (have hh:=g1;clear hh;intro g2 w1 hg hf H) | (have hh:=g0;clear hh;intro g1 w1 hg hf H) | intro g0 w1 hg hf H);(first | replace hf:=hf.kp | clear hf)) | (refine x_s ?_;intro w1 hf H;(first | replace hf:=hf.kp | clear hf)) | (refine x_sF ?_;intro w1 hf H hk;clear hf hk) | (refine x_s (he:=fun H K hK=>c_stA H rfl rfl rfl (h:=hK)) ?_;intro w1 hf H;clear hf))))
   go_loopw [13,14,101] (fun s13 s14 s101 wr=>(s13= .slice none 0 0∧s14= .int .i64 1∧s101= .int .i64 0∧Hp [] w wr [.blk g2 [.int .i64 0, .int .i64 1] 3, .obj 1 [gl] (RowAt 46 3 (.slice (some ⟨gl,0,none⟩) 1 cl) 1 (eC (0,0,b)) [gl]), .blk g1 [.int .i64 1, .int .i64 1, .slice (some ⟨ga,0,none⟩) 2 k1, .slice (some ⟨gb,0,none⟩) 1 k2, .slice (some ⟨gc,0,none⟩) 1 k3] 27, .blk g0 [strV [],strV [], .int .i64 1, .int .i64 1, .slice (some ⟨ga,0,none⟩) 2 k1, .slice (some ⟨gb,0,none⟩) 1 k2, .slice (some ⟨gc,0,none⟩) 1 k3, .bool false, .int .i64 0] 33, .obj 4 [] (RowAt 9 1 (.slice none 0 0) 0 [] []), .obj 3 S3 (RowAt 9 1 (.slice p3 1 q3) 1 [strV (textP l)] S3), .obj 2 S2 (RowAt 9 1 (.slice p2 1 q2) 1 [strV [49]] S2)])
    ∨(∃ p4 q4 S4,s13= .slice p4 1 q4∧s14= .int .i64 1∧s101= .int .i64 1∧Hp [] w wr [.blk g2 [.int .i64 0, .int .i64 1] 3, .obj 1 [gl] (RowAt 46 3 (.slice (some ⟨gl,0,none⟩) 1 cl) 1 (eC (0,0,b)) [gl]), .blk g1 [.int .i64 1, .int .i64 1, .slice (some ⟨ga,0,none⟩) 2 k1, .slice (some ⟨gb,0,none⟩) 1 k2, .slice (some ⟨gc,0,none⟩) 1 k3] 27, .blk g0 [strV [],strV [], .int .i64 1, .int .i64 1, .slice (some ⟨ga,0,none⟩) 2 k1, .slice (some ⟨gb,0,none⟩) 1 k2, .slice (some ⟨gc,0,none⟩) 1 k3, .bool false, .int .i64 0] 33, .obj 4 S4 (RowAt 9 1 (.slice p4 1 q4) 1 [strV [49]] S4), .obj 3 S3 (RowAt 9 1 (.slice p3 1 q3) 1 [strV (textP l)] S3), .obj 2 S2 (RowAt 9 1 (.slice p2 1 q2) 1 [strV [49]] S2)])
    ∨(∃ p4 q4 S4,s13= .slice p4 2 q4∧s14= .int .i64 2∧s101= .int .i64 2∧Hp [] w wr [.blk g2 [.int .i64 0, .int .i64 1] 3, .obj 1 [gl] (RowAt 46 3 (.slice (some ⟨gl,0,none⟩) 1 cl) 1 (eC (0,0,b)) [gl]), .blk g1 [.int .i64 1, .int .i64 1, .slice (some ⟨ga,0,none⟩) 2 k1, .slice (some ⟨gb,0,none⟩) 1 k2, .slice (some ⟨gc,0,none⟩) 1 k3] 27, .blk g0 [strV [],strV [], .int .i64 1, .int .i64 1, .slice (some ⟨ga,0,none⟩) 2 k1, .slice (some ⟨gb,0,none⟩) 1 k2, .slice (some ⟨gc,0,none⟩) 1 k3, .bool false, .int .i64 0] 33, .obj 4 S4 (RowAt 9 1 (.slice p4 2 q4) 2 [strV [49],strV [50]] S4), .obj 3 S3 (RowAt 9 1 (.slice p3 1 q3) 1 [strV (textP l)] S3), .obj 2 S2 (RowAt 9 1 (.slice p2 1 q2) 1 [strV [49]] S2)])) (fun _ _ v _ =>2 - (intOf v).toNat)
   case atStart=>exact .inl ⟨rfl,rfl,rfl,H.arr (by repeat (first | exact Pm.nil _ | (apply Pm.cons;· (repeat first | exact Rm.here _ | apply Rm.there))))⟩
   case round=>
    clear H
    rcases hrel with ⟨rfl,rfl,rfl,H⟩ | ⟨p4,q4,S4,rfl,rfl,rfl,H⟩ | ⟨p4,q4,S4,rfl,rfl,rfl,H⟩
    ·go_wp2_with (first | refine x_q H ?_ | refine x_cm (fun h=> ?_) (fun h=> ?_) | refine x_l H ?_ | (revert H;(first | (refine x_g ?_;(first | (have hh:=g4;clear hh;intro g5 w1 hg hf H) | (have hh:=g3;clear hh;intro g4 w1 hg hf H) | (have hh:=g2;clear hh;intro g3 w1 hg hf H) | (have hh:=g1;clear hh;intro g2 w1 hg hf H) | (have hh:=g0;clear hh;intro g1 w1 hg hf H) | intro g0 w1 hg hf H);(first | replace hf:=hf.kp | clear hf)) | (refine x_s ?_;intro w1 hf H;(first | replace hf:=hf.kp | clear hf)) | (refine x_sF ?_;intro w1 hf H hk;clear hf hk) | (refine x_s (he:=fun H K hK=>c_stA H rfl rfl rfl (h:=hK)) ?_;intro w1 hf H;clear hf))))
     (refine x_c H (itoaZ_any _ (by omega) _ (HT.out.fr H.fr) I0) ?_;clear H;rintro e w1 ⟨rfl,hF⟩ H;clear hF)
     go_wp2_with (first | refine x_q H ?_ | (refine is_blt (b:= .append) rfl ?_;go_loud (refine wl_rw rfl (fun K hK=>c_aprS H rfl rfl rfl 4 (H.rd (b:=g3) (off:=0) (vs:=[strV [49]]) List.prefix_rfl) rfl (by intro u hu;simp only [List.mem_singleton] at hu;subst hu;rfl) (by omega) (by unfold maxLen;omega) (fun p4 q4 w1 S4 hf H1=>hK _ _ ?_)));(clear hK K);(clear H;have H:=H1;clear H1;(try dsimp only at H);(first | replace hf:=hf.kp | clear hf));(simp only [nrm,↓reduceIte,Nat.reduceAdd])) | refine x_cm (fun h=> ?_) (fun h=> ?_) | refine x_l H ?_ | (revert H;(first | (refine x_g ?_;(first | (have hh:=g4;clear hh;intro g5 w1 hg hf H) | (have hh:=g3;clear hh;intro g4 w1 hg hf H) | (have hh:=g2;clear hh;intro g3 w1 hg hf H) | (have hh:=g1;clear hh;intro g2 w1 hg hf H) | (have hh:=g0;clear hh;intro g1 w1 hg hf H) | intro g0 w1 hg hf H);(first | replace hf:=hf.kp | clear hf)) | (refine x_s ?_;intro w1 hf H;(first | replace hf:=hf.kp | clear hf)) | (refine x_sF ?_;intro w1 hf H hk;clear hf hk) | (refine x_s (he:=fun H K hK=>c_stA H rfl rfl rfl (h:=hK)) ?_;intro w1 hf H;clear hf))))
     go_roundw
     case rel=>exact .inr (.inl ⟨p4,q4,S4,rfl,rfl,rfl,H.arr (by repeat (first | exact Pm.nil _ | (apply Pm.cons;· (repeat first | exact Rm.here _ | apply Rm.there))))⟩)
     case measure=>(simp [intOf];try omega)
    ·go_wp2_with (first | refine x_q H ?_ | refine x_cm (fun h=> ?_) (fun h=> ?_) | refine x_l H ?_ | (revert H;(first | (refine x_g ?_;(first | (have hh:=g4;clear hh;intro g5 w1 hg hf H) | (have hh:=g3;clear hh;intro g4 w1 hg hf H) | (have hh:=g2;clear hh;intro g3 w1 hg hf H) | (have hh:=g1;clear hh;intro g2 w1 hg hf H) | (have hh:=g0;clear hh;intro g1 w1 hg hf H) | intro g0 w1 hg hf H);(first | replace hf:=hf.kp | clear hf)) | (refine x_s ?_;intro w1 hf H;(first | replace hf:=hf.kp | clear hf)) | (refine x_sF ?_;intro w1 hf H hk;clear hf hk) | (refine x_s (he:=fun H K hK=>c_stA H rfl rfl rfl (h:=hK)) ?_;intro w1 hf H;clear hf))))
     (refine x_c H (itoaZ_any _ (by omega) _ (HT.out.fr H.fr) I2) ?_;clear H;rintro e w1 ⟨rfl,hF⟩ H;clear hF)
     go_wp2_with (first | refine x_q H ?_ | (refine is_blt (b:= .append) rfl ?_;go_loud (refine wl_rw rfl (fun K hK=>c_aprS H rfl rfl rfl 4 (H.rd (b:=g3) (off:=0) (vs:=[strV [50]]) List.prefix_rfl) rfl (by intro u hu;simp only [List.mem_singleton] at hu;subst hu;rfl) (by omega) (by unfold maxLen;omega) (fun p4 q4 w1 S4 hf H1=>hK _ _ ?_)));(clear hK K);(clear H;have H:=H1;clear H1;(try dsimp only at H);(first | replace hf:=hf.kp | clear hf));(simp only [nrm,↓reduceIte,Nat.reduceAdd])) | refine x_cm (fun h=> ?_) (fun h=> ?_) | refine x_l H ?_ | (revert H;(first | (refine x_g ?_;(first | (have hh:=g4;clear hh;intro g5 w1 hg hf H) | (have hh:=g3;clear hh;intro g4 w1 hg hf H) | (have hh:=g2;clear hh;intro g3 w1 hg hf H) | (have hh:=g1;clear hh;intro g2 w1 hg hf H) | (have hh:=g0;clear hh;intro g1 w1 hg hf H) | intro g0 w1 hg hf H);(first | replace hf:=hf.kp | clear hf)) | (refine x_s ?_;intro w1 hf H;(first | replace hf:=hf.kp | clear hf)) | (refine x_sF ?_;intro w1 hf H hk;clear hf hk) | (refine x_s (he:=fun H K hK=>c_stA H rfl rfl rfl (h:=hK)) ?_;intro w1 hf H;clear hf))))
     go_roundw
     case rel=>exact .inr (.inr ⟨p4,q4,S4,rfl,rfl,rfl,H.arr (by repeat (first | exact Pm.nil _ | (apply Pm.cons;· (repeat first | exact Rm.here _ | apply Rm.there))))⟩)
     case measure=>(simp [intOf];try omega)
    ·go_upto_region 33 with (first | refine x_q H ?_ | refine x_cm (fun h=> ?_) (fun h=> ?_) | refine x_l H ?_ | (revert H;(first | (refine x_g ?_;(first | (have hh:=g4;clear hh;intro g5 w1 hg hf H) | (have hh:=g3;clear hh;intro g4 w1 hg hf H) | (have hh:=g2;clear hh;intro g3 w1 hg hf H) | (have hh:=g1;clear hh;intro g2 w1 hg hf H) | (have hh:=g0;clear hh;intro g1 w1 hg hf H) | intro g0 w1 hg hf H);(first | replace hf:=hf.kp | clear hf)) | (refine x_s ?_;intro w1 hf H;(first | replace hf:=hf.kp | clear hf)) | (refine x_sF ?_;intro w1 hf H hk;clear hf hk) | (refine x_s (he:=fun H K hK=>c_stA H rfl rfl rfl (h:=hK)) ?_;intro w1 hf H;clear hf))))
     obtain ⟨g7,q7,hvv,rfl⟩:=(H.rowo 4).some (by decide)
     cases hvv
     obtain ⟨g8,q8,hvv,rfl⟩:=(H.rowo 3).some (by decide)
     cases hvv
     obtain ⟨g9,q9,hvv,rfl⟩:=(H.rowo 2).some (by decide)
     cases hvv
     obtain ⟨_,_,hvv,hq4,_⟩:=(H.rowo 4).form
     cases hvv
     obtain ⟨_,_,hvv,hq3,_⟩:=(H.rowo 3).form
     cases hvv
     obtain ⟨_,_,hvv,hq2,_⟩:=(H.rowo 2).form
     cases hvv
     have htl:=(text_value HL.out hfz.out).2.1
     obtain ⟨tx,htx⟩:∃ tx,textP l=tx:=⟨_,rfl⟩
     rw [htx] at htl
     have HTX:=hid htx
     rw [htx] at H
     clear htx
     (revert H;refine w_p 12 (.st 0 (.st 1 (.st 3 (.st 4 (.st 6 (.st 7 (.ld 2 (.ld 5 (.ld 8 (.st 9 (.st 10 (.st 11 .done)))))))))))) ?_;intro w1 H)
     refine p_q ?_
     (refine p_l ?_)
     refine p_q ?_
     (refine p_l ?_)
     refine p_q ?_
     (refine p_l ?_)
     ((refine pl_rw rfl rfl (fun K hK=>rw_call rfl Tryz.func15 (by kernel_rfl) rfl (sectionF_any _ [[49],[50]] rfl (by decide) 8 10 0 0 (by decide) (by decide) (by decide) hq4 (fun j u hj=>(H.rowo 4).cell hj) (by decide) (hid line_l4)) (fun e w1 hpost=> ?_)));obtain ⟨va,rfl,hF,hown⟩:=hpost;refine ⟨_,rfl, ?_⟩;obtain ⟨Sa,H1⟩:=H.rowNew 5 hF hown;refine hK _ _ (fun hne=>by first | exact absurd rfl hne | exact H1.sub (by repeat first | exact List.Sublist.refl _ | exact List.nil_sublist _ | apply List.Sublist.cons_cons | apply List.Sublist.cons)) ?_;clear hK K hF hown;(clear H;have H:=H1;clear H1);(simp only [nrm,↓reduceIte,Nat.reduceAdd]))
     ((refine pl_rw rfl rfl (fun K hK=>rw_call rfl Tryz.func15 (by kernel_rfl) rfl (sectionF_any _ [[49]] rfl (by decide) 8 10 0 0 (by decide) (by decide) (by decide) hq2 (fun j u hj=>(H.rowo 2).cell hj) (by decide) (hid line_l5)) (fun e w1 hpost=> ?_)));obtain ⟨vb,rfl,hF,hown⟩:=hpost;refine ⟨_,rfl, ?_⟩;obtain ⟨Sb,H1⟩:=H.rowNew 6 hF hown;refine hK _ _ (fun hne=>by first | exact absurd rfl hne | exact H1.sub (by repeat first | exact List.Sublist.refl _ | exact List.nil_sublist _ | apply List.Sublist.cons_cons | apply List.Sublist.cons)) ?_;clear hK K hF hown;(clear H;have H:=H1;clear H1);(simp only [nrm,↓reduceIte,Nat.reduceAdd]))
     ((refine pl_rw rfl rfl (fun K hK=>rw_call rfl Tryz.func15 (by kernel_rfl) rfl (sectionF_any _ (n:=1) [tx] rfl (by decide) 3 26 0 0 (by decide) (by decide) (by decide) hq3 (fun j u hj=>(H.rowo 3).cell hj) (by intro u hu;simp only [List.mem_singleton] at hu;subst hu;omega) (hid (line_l6 tx))) (fun e w1 hpost=> ?_)));obtain ⟨vc,rfl,hF,hown⟩:=hpost;refine ⟨_,rfl, ?_⟩;obtain ⟨Sc,H1⟩:=H.rowNew 7 hF hown;refine hK _ _ (fun hne=>by first | exact absurd rfl hne | exact H1.sub (by repeat first | exact List.Sublist.refl _ | exact List.nil_sublist _ | apply List.Sublist.cons_cons | apply List.Sublist.cons)) ?_;clear hK K hF hown;(clear H;have H:=H1;clear H1);(simp only [nrm,↓reduceIte,Nat.reduceAdd]))
     iterate 3 refine p_q ?_
     (refine pl_done ?_)
     obtain ⟨a5,b5,hvv,rfl⟩:=(H.rowo 5).some (by decide)
     subst hvv
     obtain ⟨a6,b6,hvv,rfl⟩:=(H.rowo 6).some (by decide)
     subst hvv
     obtain ⟨a7,b7,hvv,rfl⟩:=(H.rowo 7).some (by decide)
     subst hvv
     obtain ⟨f1,hf1⟩:∃ f,spR 16 [40,56,73,49,48,41]=f:=⟨_,rfl⟩
     obtain ⟨f2,hf2⟩:∃ f,f1++f1=f:=⟨_,rfl⟩
     have hl1:f1.length≤20:=by rw [← hf1];decide
     have hl2:f2.length≤40:=by rw [← hf2,List.length_append];omega
     have F3:=hid (show f2++[40,51,69,50,54,46,49,56,41]=vL3 by rw [← hf2,← hf1];exact fmts_l3)
     have F1:=hid hf1;have F2:=hid hf2
     obtain ⟨d1,hd1⟩:∃ d,spR 14 [82,85,65]=d:=⟨_,rfl⟩
     obtain ⟨d2,hd2⟩:∃ d,rowP [1,1,1,0]=d:=⟨_,rfl⟩
     have hl3:d1.length≤20:=by rw [← hd1];decide
     have hl4:d2.length≤100:=by rw [← hd2];decide+kernel
     have D3:=hid (show d1++d2=bL2 by rw [← hd1,← hd2];exact row_l2)
     have D1:=hid hd1;have D2:=hid hd2
     obtain ⟨e1,he1⟩:∃ e,spR 72 []=e:=⟨_,rfl⟩
     have hl5:e1.length≤100:=by rw [← he1];decide+kernel
     have E1:=hid he1
     have E2:=hid (show e1++[]=List.replicate 72 32 by rw [← he1];decide+kernel)
     clear hf1 hf2 hd1 hd2 he1
     go_wp2_with (first | refine x_q H ?_ | refine x_cm (fun h=> ?_) (fun h=> ?_) | refine x_l H ?_ | (revert H;(first | (refine x_g ?_;(first | (have hh:=g4;clear hh;intro g5 w1 hg hf H) | (have hh:=g3;clear hh;intro g4 w1 hg hf H) | (have hh:=g2;clear hh;intro g3 w1 hg hf H) | (have hh:=g1;clear hh;intro g2 w1 hg hf H) | (have hh:=g0;clear hh;intro g1 w1 hg hf H) | intro g0 w1 hg hf H);(first | replace hf:=hf.kp | clear hf)) | (refine x_s ?_;intro w1 hf H;(first | replace hf:=hf.kp | clear hf)) | (refine x_sF ?_;intro w1 hf H hk;clear hf hk) | (refine x_s (he:=fun H K hK=>c_stA H rfl rfl rfl (h:=hK)) ?_;intro w1 hf H;clear hf))))
     (refine x_c H (leftF_any _ [40,56,73,49,48,41] 16 (by decide) (by decide) F1) ?_;clear H;rintro e w1 ⟨rfl,hF⟩ H;clear hF)
     go_wp2_with (first | refine x_q H ?_ | refine x_cm (fun h=> ?_) (fun h=> ?_) | refine x_l H ?_ | (revert H;(first | (refine x_g ?_;(first | (have hh:=g4;clear hh;intro g5 w1 hg hf H) | (have hh:=g3;clear hh;intro g4 w1 hg hf H) | (have hh:=g2;clear hh;intro g3 w1 hg hf H) | (have hh:=g1;clear hh;intro g2 w1 hg hf H) | (have hh:=g0;clear hh;intro g1 w1 hg hf H) | intro g0 w1 hg hf H);(first | replace hf:=hf.kp | clear hf)) | (refine x_s ?_;intro w1 hf H;(first | replace hf:=hf.kp | clear hf)) | (refine x_sF ?_;intro w1 hf H hk;clear hf hk) | (refine x_s (he:=fun H K hK=>c_stA H rfl rfl rfl (h:=hK)) ?_;intro w1 hf H;clear hf))))
     (refine x_c H (leftF_any _ [40,56,73,49,48,41] 16 (by decide) (by decide) F1) ?_;clear H;rintro e w1 ⟨rfl,hF⟩ H;clear hF)
     go_upto_region 37 with (first | refine x_q H ?_ | refine x_e (ev_strCat (s:=f1) (r:=f1) rfl rfl rfl F2 (by omega)) ?_ | refine x_e (ev_strCat (s:=f2) (r:=[40,51,69,50,54,46,49,56,41]) rfl rfl rfl F3 (by simp only [List.length_cons,List.length_nil];omega)) ?_ | refine x_cm (fun h=> ?_) (fun h=> ?_) | refine x_l H ?_ | (revert H;(first | (refine x_g ?_;(first | (have hh:=g4;clear hh;intro g5 w1 hg hf H) | (have hh:=g3;clear hh;intro g4 w1 hg hf H) | (have hh:=g2;clear hh;intro g3 w1 hg hf H) | (have hh:=g1;clear hh;intro g2 w1 hg hf H) | (have hh:=g0;clear hh;intro g1 w1 hg hf H) | intro g0 w1 hg hf H);(first | replace hf:=hf.kp | clear hf)) | (refine x_s ?_;intro w1 hf H;(first | replace hf:=hf.kp | clear hf)) | (refine x_sF ?_;intro w1 hf H hk;clear hf hk) | (refine x_s (he:=fun H K hK=>c_stA H rfl rfl rfl (h:=hK)) ?_;intro w1 hf H;clear hf))))
     go_cut [23] (fun s23 wx=>∃ r3,s23= .slice (some ⟨r3,0,none⟩) 4 4∧Hp [] w wx [.blk r3 [strV (List.replicate 72 32),strV bL1,strV bL2,strV vL3] 9, .obj 7 [a7] (RowAt 9 1 (.slice (some ⟨a7,0,none⟩) 1 b7) 1 [strV (sp 26 tx)] [a7]), .obj 6 [a6] (RowAt 9 1 (.slice (some ⟨a6,0,none⟩) 1 b6) 1 [strV vL5] [a6]), .obj 5 [a5] (RowAt 9 1 (.slice (some ⟨a5,0,none⟩) 1 b5) 1 [strV vL4] [a5])])
     case first=>
      (revert H;refine w_p 37 (.st 0 (.st 1 (.st 3 (.st 4 (.st 6 (.st 7 (.st 8 (.st 9 (.st 10 (.st 11 (.st 12 (.st 13 (.st 14 (.st 15 (.st 16 (.st 17 (.st 18 (.st 19 (.st 22 (.st 25 (.st 26 (.st 27 (.st 28 (.st 29 (.st 30 (.st 34 (.ld3 2 (.st 5 (.ld2 20 (.ld2 21 (.ld2 23 (.ld2 24 (.ld 31 (.ld 32 (.st 33 (.ld 35 (.st 36 .done))))) 31 (.ld 24 (.ld 32 (.st 33 (.ld 35 (.st 36 .done)))))) 31 (.ld 23 (.ld 24 (.ld 32 (.st 33 (.ld 35 (.st 36 .done))))))) 31 (.ld 21 (.ld 23 (.ld 24 (.ld 32 (.st 33 (.ld 35 (.st 36 .done)))))))) 31 (.ld 20 (.ld 21 (.ld 23 (.ld 24 (.ld 32 (.st 33 (.ld 35 (.st 36 .done)))))))))) 20 (.ld2 2 (.st 5 (.ld2 21 (.ld2 23 (.ld2 24 (.ld 31 (.ld 32 (.st 33 (.ld 35 (.st 36 .done))))) 31 (.ld 24 (.ld 32 (.st 33 (.ld 35 (.st 36 .done)))))) 31 (.ld 23 (.ld 24 (.ld 32 (.st 33 (.ld 35 (.st 36 .done))))))) 31 (.ld 21 (.ld 23 (.ld 24 (.ld 32 (.st 33 (.ld 35 (.st 36 .done))))))))) 31 (.ld 2 (.st 5 (.ld 21 (.ld 23 (.ld 24 (.ld 32 (.st 33 (.ld 35 (.st 36 .done)))))))))) 31 (.ld2 2 (.st 5 (.ld 20 (.ld 21 (.ld 23 (.ld 24 (.ld 32 (.st 33 (.ld 35 (.st 36 .done))))))))) 20 (.ld 2 (.st 5 (.ld 21 (.ld 23 (.ld 24 (.ld 32 (.st 33 (.ld 35 (.st 36 .done))))))))))))))))))))))))))))))))))))) ?_;intro w1 H)
      iterate 18 refine p_q ?_
      (refine p_l ?_)
      iterate 7 refine p_q ?_
      (refine pl_ld3 ?_ ?_ ?_)
      (refine p_c H rfl rfl Tryz.func16 (leftF_any _ [] 72 (by decide) (by decide) E1) ?_;clear H;rintro e w1 ⟨rfl,hF⟩ H;refine p_r ?_;clear hF)
      (refine p_e rfl (fun w H=>ev_strCat (s:=e1) (r:=[]) rfl rfl rfl E2 (by simp only [List.length_nil];omega)) ?_)
      (refine pl_ld2 ?_ ?_)
      (go_loud (refine pl_rw rfl rfl (fun K hK=>c_sN H rfl (by repeat first | exact .nil _ | apply Parts.tmp (by rfl) (by rfl) | apply Parts.con (by rfl)) rfl (by intro c hc;simp only [List.mem_cons,List.not_mem_nil,or_false] at hc;(try (rcases hc with rfl | rfl | rfl | rfl | rfl<;>rfl))) (by decide) (by decide) (fun r1 w1 hg hf H1=>hK _ _ (fun hne=>by first | exact absurd rfl hne | exact trivial | exact H1.sub (by repeat first | exact List.Sublist.refl _ | exact List.nil_sublist _ | apply List.Sublist.cons_cons | apply List.Sublist.cons)) ?_)));(clear hK K);(clear H;have H:=H1;clear H1;(try dsimp only at H);(first | replace hf:=hf.kp | clear hf));(simp only [nrm,↓reduceIte,Nat.reduceAdd]))
      (refine pl_ld2 ?_ ?_)
      (refine p_c H rfl rfl Tryz.func17 (brow_any _ [3,1,1,1,0] rfl (by decide) (by decide) (by decide) (fun j u hj=>H.cell (b:=r1) (p:=j) (nat_at rfl hj)) (HT.out.fr H.fr) (hid row_l1)) ?_;clear H;rintro e w1 ⟨rfl,hF⟩ H;refine p_r ?_;clear hF)
      (refine pl_ld2 ?_ ?_)
      (refine p_c H rfl rfl Tryz.func18 (kindF_any' _ _ _ _) ?_;clear H;rintro e w1 ⟨rfl,hF⟩ H;refine p_r ?_;clear hF)
      (refine pl_ld2 ?_ ?_)
      (refine p_c H rfl rfl Tryz.func16 (leftF_any _ [82,85,65] 14 (by decide) (by decide) D1) ?_;clear H;rintro e w1 ⟨rfl,hF⟩ H;refine p_r ?_;clear hF)
      (go_loud (refine pl_rw rfl rfl (fun K hK=>c_sN H rfl (by repeat first | exact .nil _ | apply Parts.tmp (by rfl) (by rfl) | apply Parts.con (by rfl)) rfl (by intro c hc;simp only [List.mem_cons,List.not_mem_nil,or_false] at hc;(try (rcases hc with rfl | rfl | rfl | rfl | rfl<;>rfl))) (by decide) (by decide) (fun r2 w1 hg hf H1=>hK _ _ (fun hne=>by first | exact absurd rfl hne | exact trivial | exact H1.sub (by repeat first | exact List.Sublist.refl _ | exact List.nil_sublist _ | apply List.Sublist.cons_cons | apply List.Sublist.cons)) ?_)));(clear hK K);(clear H;have H:=H1;clear H1;(try dsimp only at H);(first | replace hf:=hf.kp | clear hf));(simp only [nrm,↓reduceIte,Nat.reduceAdd]))
      (refine p_c H rfl rfl Tryz.func17 (brow_any _ [1,1,1,0] rfl (by decide) (by decide) (by decide) (fun j u hj=>H.cell (b:=r2) (p:=j) (nat_at rfl hj)) (HT.out.fr H.fr) D2) ?_;clear H;rintro e w1 ⟨rfl,hF⟩ H;refine p_r ?_;clear hF)
      (refine p_e rfl (fun w H=>ev_strCat (s:=d1) (r:=d2) rfl rfl rfl D3 (by omega)) ?_)
      (go_loud (refine pl_rw rfl rfl (fun K hK=>c_sN H rfl (by repeat first | exact .nil _ | apply Parts.tmp (by rfl) (by rfl) | apply Parts.con (by rfl)) rfl (by intro c hc;simp only [List.mem_cons,List.not_mem_nil,or_false] at hc;(try (rcases hc with rfl | rfl | rfl | rfl | rfl<;>rfl))) (by decide) (by decide) (fun r3 w1 hg hf H1=>hK _ _ (fun hne=>by first | exact absurd rfl hne | exact trivial | exact H1.sub (by repeat first | exact List.Sublist.refl _ | exact List.nil_sublist _ | apply List.Sublist.cons_cons | apply List.Sublist.cons)) ?_)));(clear hK K);(clear H;have H:=H1;clear H1;(try dsimp only at H);(first | replace hf:=hf.kp | clear hf));(simp only [nrm,↓reduceIte,Nat.reduceAdd]))
      refine p_q ?_
      (refine pl_done ?_)
      rotate_left
      (go_loud (refine pl_rw rfl rfl (fun K hK=>c_sN H rfl (by repeat first | exact .nil _ | apply Parts.tmp (by rfl) (by rfl) | apply Parts.con (by rfl)) rfl (by intro c hc;simp only [List.mem_cons,List.not_mem_nil,or_false] at hc;(try (rcases hc with rfl | rfl | rfl | rfl | rfl<;>rfl))) (by decide) (by decide) (fun r2 w1 hg hf H1=>hK _ _ (fun hne=>by first | exact absurd rfl hne | exact trivial | exact H1.sub (by repeat first | exact List.Sublist.refl _ | exact List.nil_sublist _ | apply List.Sublist.cons_cons | apply List.Sublist.cons)) ?_)));(clear hK K);(clear H;have H:=H1;clear H1;(try dsimp only at H);(first | replace hf:=hf.kp | clear hf));(simp only [nrm,↓reduceIte,Nat.reduceAdd]))
      (refine p_c H rfl rfl Tryz.func16 (leftF_any _ [82,85,65] 14 (by decide) (by decide) D1) ?_;clear H;rintro e w1 ⟨rfl,hF⟩ H;refine p_r ?_;clear hF)
      (refine p_c H rfl rfl Tryz.func17 (brow_any _ [1,1,1,0] rfl (by decide) (by decide) (by decide) (fun j u hj=>H.cell (b:=r2) (p:=j) (nat_at rfl hj)) (HT.out.fr H.fr) D2) ?_;clear H;rintro e w1 ⟨rfl,hF⟩ H;refine p_r ?_;clear hF)
      (refine p_e rfl (fun w H=>ev_strCat (s:=d1) (r:=d2) rfl rfl rfl D3 (by omega)) ?_)
      (go_loud (refine pl_rw rfl rfl (fun K hK=>c_sN H rfl (by repeat first | exact .nil _ | apply Parts.tmp (by rfl) (by rfl) | apply Parts.con (by rfl)) rfl (by intro c hc;simp only [List.mem_cons,List.not_mem_nil,or_false] at hc;(try (rcases hc with rfl | rfl | rfl | rfl | rfl<;>rfl))) (by decide) (by decide) (fun r3 w1 hg hf H1=>hK _ _ (fun hne=>by first | exact absurd rfl hne | exact trivial | exact H1.sub (by repeat first | exact List.Sublist.refl _ | exact List.nil_sublist _ | apply List.Sublist.cons_cons | apply List.Sublist.cons)) ?_)));(clear hK K);(clear H;have H:=H1;clear H1;(try dsimp only at H);(first | replace hf:=hf.kp | clear hf));(simp only [nrm,↓reduceIte,Nat.reduceAdd]))
      refine p_q ?_
      (refine pl_done ?_)
      rotate_left
      (go_loud (refine pl_rw rfl rfl (fun K hK=>c_sN H rfl (by repeat first | exact .nil _ | apply Parts.tmp (by rfl) (by rfl) | apply Parts.con (by rfl)) rfl (by intro c hc;simp only [List.mem_cons,List.not_mem_nil,or_false] at hc;(try (rcases hc with rfl | rfl | rfl | rfl | rfl<;>rfl))) (by decide) (by decide) (fun r2 w1 hg hf H1=>hK _ _ (fun hne=>by first | exact absurd rfl hne | exact trivial | exact H1.sub (by repeat first | exact List.Sublist.refl _ | exact List.nil_sublist _ | apply List.Sublist.cons_cons | apply List.Sublist.cons)) ?_)));(clear hK K);(clear H;have H:=H1;clear H1;(try dsimp only at H);(first | replace hf:=hf.kp | clear hf));(simp only [nrm,↓reduceIte,Nat.reduceAdd]))
      (refine p_c H rfl rfl Tryz.func18 (kindF_any' _ _ _ _) ?_;clear H;rintro e w1 ⟨rfl,hF⟩ H;refine p_r ?_;clear hF)
      (refine p_c H rfl rfl Tryz.func16 (leftF_any _ [82,85,65] 14 (by decide) (by decide) D1) ?_;clear H;rintro e w1 ⟨rfl,hF⟩ H;refine p_r ?_;clear hF)
      (refine p_c H rfl rfl Tryz.func17 (brow_any _ [1,1,1,0] rfl (by decide) (by decide) (by decide) (fun j u hj=>H.cell (b:=r2) (p:=j) (nat_at rfl hj)) (HT.out.fr H.fr) D2) ?_;clear H;rintro e w1 ⟨rfl,hF⟩ H;refine p_r ?_;clear hF)
      (refine p_e rfl (fun w H=>ev_strCat (s:=d1) (r:=d2) rfl rfl rfl D3 (by omega)) ?_)
      (go_loud (refine pl_rw rfl rfl (fun K hK=>c_sN H rfl (by repeat first | exact .nil _ | apply Parts.tmp (by rfl) (by rfl) | apply Parts.con (by rfl)) rfl (by intro c hc;simp only [List.mem_cons,List.not_mem_nil,or_false] at hc;(try (rcases hc with rfl | rfl | rfl | rfl | rfl<;>rfl))) (by decide) (by decide) (fun r3 w1 hg hf H1=>hK _ _ (fun hne=>by first | exact absurd rfl hne | exact trivial | exact H1.sub (by repeat first | exact List.Sublist.refl _ | exact List.nil_sublist _ | apply List.Sublist.cons_cons | apply List.Sublist.cons)) ?_)));(clear hK K);(clear H;have H:=H1;clear H1;(try dsimp only at H);(first | replace hf:=hf.kp | clear hf));(simp only [nrm,↓reduceIte,Nat.reduceAdd]))
      refine p_q ?_
      (refine pl_done ?_)
      rotate_left
      (go_loud (refine pl_rw rfl rfl (fun K hK=>c_sN H rfl (by repeat first | exact .nil _ | apply Parts.tmp (by rfl) (by rfl) | apply Parts.con (by rfl)) rfl (by intro c hc;simp only [List.mem_cons,List.not_mem_nil,or_false] at hc;(try (rcases hc with rfl | rfl | rfl | rfl | rfl<;>rfl))) (by decide) (by decide) (fun r2 w1 hg hf H1=>hK _ _ (fun hne=>by first | exact absurd rfl hne | exact trivial | exact H1.sub (by repeat first | exact List.Sublist.refl _ | exact List.nil_sublist _ | apply List.Sublist.cons_cons | apply List.Sublist.cons)) ?_)));(clear hK K);(clear H;have H:=H1;clear H1;(try dsimp only at H);(first | replace hf:=hf.kp | clear hf));(simp only [nrm,↓reduceIte,Nat.reduceAdd]))
      (refine p_c H rfl rfl Tryz.func17 (brow_any _ [3,1,1,1,0] rfl (by decide) (by decide) (by decide) (fun j u hj=>H.cell (b:=r1) (p:=j) (nat_at rfl hj)) (HT.out.fr H.fr) (hid row_l1)) ?_;clear H;rintro e w1 ⟨rfl,hF⟩ H;refine p_r ?_;clear hF)
      (refine p_c H rfl rfl Tryz.func18 (kindF_any' _ _ _ _) ?_;clear H;rintro e w1 ⟨rfl,hF⟩ H;refine p_r ?_;clear hF)
      (refine p_c H rfl rfl Tryz.func16 (leftF_any _ [82,85,65] 14 (by decide) (by decide) D1) ?_;clear H;rintro e w1 ⟨rfl,hF⟩ H;refine p_r ?_;clear hF)
      (refine p_c H rfl rfl Tryz.func17 (brow_any _ [1,1,1,0] rfl (by decide) (by decide) (by decide) (fun j u hj=>H.cell (b:=r2) (p:=j) (nat_at rfl hj)) (HT.out.fr H.fr) D2) ?_;clear H;rintro e w1 ⟨rfl,hF⟩ H;refine p_r ?_;clear hF)
      (refine p_e rfl (fun w H=>ev_strCat (s:=d1) (r:=d2) rfl rfl rfl D3 (by omega)) ?_)
      (go_loud (refine pl_rw rfl rfl (fun K hK=>c_sN H rfl (by repeat first | exact .nil _ | apply Parts.tmp (by rfl) (by rfl) | apply Parts.con (by rfl)) rfl (by intro c hc;simp only [List.mem_cons,List.not_mem_nil,or_false] at hc;(try (rcases hc with rfl | rfl | rfl | rfl | rfl<;>rfl))) (by decide) (by decide) (fun r3 w1 hg hf H1=>hK _ _ (fun hne=>by first | exact absurd rfl hne | exact trivial | exact H1.sub (by repeat first | exact List.Sublist.refl _ | exact List.nil_sublist _ | apply List.Sublist.cons_cons | apply List.Sublist.cons)) ?_)));(clear hK K);(clear H;have H:=H1;clear H1;(try dsimp only at H);(first | replace hf:=hf.kp | clear hf));(simp only [nrm,↓reduceIte,Nat.reduceAdd]))
      refine p_q ?_
      (refine pl_done ?_)
      rotate_left
      (go_loud (refine pl_rw rfl rfl (fun K hK=>c_sN H rfl (by repeat first | exact .nil _ | apply Parts.tmp (by rfl) (by rfl) | apply Parts.con (by rfl)) rfl (by intro c hc;simp only [List.mem_cons,List.not_mem_nil,or_false] at hc;(try (rcases hc with rfl | rfl | rfl | rfl | rfl<;>rfl))) (by decide) (by decide) (fun r2 w1 hg hf H1=>hK _ _ (fun hne=>by first | exact absurd rfl hne | exact trivial | exact H1.sub (by repeat first | exact List.Sublist.refl _ | exact List.nil_sublist _ | apply List.Sublist.cons_cons | apply List.Sublist.cons)) ?_)));(clear hK K);(clear H;have H:=H1;clear H1;(try dsimp only at H);(first | replace hf:=hf.kp | clear hf));(simp only [nrm,↓reduceIte,Nat.reduceAdd]))
      (go_loud (refine pl_rw rfl rfl (fun K hK=>c_sN H rfl (by repeat first | exact .nil _ | apply Parts.tmp (by rfl) (by rfl) | apply Parts.con (by rfl)) rfl (by intro c hc;simp only [List.mem_cons,List.not_mem_nil,or_false] at hc;(try (rcases hc with rfl | rfl | rfl | rfl | rfl<;>rfl))) (by decide) (by decide) (fun r1 w1 hg hf H1=>hK _ _ (fun hne=>by first | exact absurd rfl hne | exact trivial | exact H1.sub (by repeat first | exact List.Sublist.refl _ | exact List.nil_sublist _ | apply List.Sublist.cons_cons | apply List.Sublist.cons)) ?_)));(clear hK K);(clear H;have H:=H1;clear H1;(try dsimp only at H);(first | replace hf:=hf.kp | clear hf));(simp only [nrm,↓reduceIte,Nat.reduceAdd]))
      (refine p_c H rfl rfl Tryz.func17 (brow_any _ [3,1,1,1,0] rfl (by decide) (by decide) (by decide) (fun j u hj=>H.cell (b:=r1) (p:=j) (nat_at rfl hj)) (HT.out.fr H.fr) (hid row_l1)) ?_;clear H;rintro e w1 ⟨rfl,hF⟩ H;refine p_r ?_;clear hF)
      (refine p_c H rfl rfl Tryz.func18 (kindF_any' _ _ _ _) ?_;clear H;rintro e w1 ⟨rfl,hF⟩ H;refine p_r ?_;clear hF)
      (refine p_c H rfl rfl Tryz.func16 (leftF_any _ [82,85,65] 14 (by decide) (by decide) D1) ?_;clear H;rintro e w1 ⟨rfl,hF⟩ H;refine p_r ?_;clear hF)
      (refine p_c H rfl rfl Tryz.func17 (brow_any _ [1,1,1,0] rfl (by decide) (by decide) (by decide) (fun j u hj=>H.cell (b:=r2) (p:=j) (nat_at rfl hj)) (HT.out.fr H.fr) D2) ?_;clear H;rintro e w1 ⟨rfl,hF⟩ H;refine p_r ?_;clear hF)
      (refine p_e rfl (fun w H=>ev_strCat (s:=d1) (r:=d2) rfl rfl rfl D3 (by omega)) ?_)
      (go_loud (refine pl_rw rfl rfl (fun K hK=>c_sN H rfl (by repeat first | exact .nil _ | apply Parts.tmp (by rfl) (by rfl) | apply Parts.con (by rfl)) rfl (by intro c hc;simp only [List.mem_cons,List.not_mem_nil,or_false] at hc;(try (rcases hc with rfl | rfl | rfl | rfl | rfl<;>rfl))) (by decide) (by decide) (fun r3 w1 hg hf H1=>hK _ _ (fun hne=>by first | exact absurd rfl hne | exact trivial | exact H1.sub (by repeat first | exact List.Sublist.refl _ | exact List.nil_sublist _ | apply List.Sublist.cons_cons | apply List.Sublist.cons)) ?_)));(clear hK K);(clear H;have H:=H1;clear H1;(try dsimp only at H);(first | replace hf:=hf.kp | clear hf));(simp only [nrm,↓reduceIte,Nat.reduceAdd]))
      refine p_q ?_
      (refine pl_done ?_)
      rotate_left
      (go_loud (refine pl_rw rfl rfl (fun K hK=>c_sN H rfl (by repeat first | exact .nil _ | apply Parts.tmp (by rfl) (by rfl) | apply Parts.con (by rfl)) rfl (by intro c hc;simp only [List.mem_cons,List.not_mem_nil,or_false] at hc;(try (rcases hc with rfl | rfl | rfl | rfl | rfl<;>rfl))) (by decide) (by decide) (fun r1 w1 hg hf H1=>hK _ _ (fun hne=>by first | exact absurd rfl hne | exact trivial | exact H1.sub (by repeat first | exact List.Sublist.refl _ | exact List.nil_sublist _ | apply List.Sublist.cons_cons | apply List.Sublist.cons)) ?_)));(clear hK K);(clear H;have H:=H1;clear H1;(try dsimp only at H);(first | replace hf:=hf.kp | clear hf));(simp only [nrm,↓reduceIte,Nat.reduceAdd]))
      (refine pl_ld2 ?_ ?_)
      (refine p_c H rfl rfl Tryz.func16 (leftF_any _ [] 72 (by decide) (by decide) E1) ?_;clear H;rintro e w1 ⟨rfl,hF⟩ H;refine p_r ?_;clear hF)
      (refine p_e rfl (fun w H=>ev_strCat (s:=e1) (r:=[]) rfl rfl rfl E2 (by simp only [List.length_nil];omega)) ?_)
      (refine pl_ld2 ?_ ?_)
      (refine p_c H rfl rfl Tryz.func17 (brow_any _ [3,1,1,1,0] rfl (by decide) (by decide) (by decide) (fun j u hj=>H.cell (b:=r1) (p:=j) (nat_at rfl hj)) (HT.out.fr H.fr) (hid row_l1)) ?_;clear H;rintro e w1 ⟨rfl,hF⟩ H;refine p_r ?_;clear hF)
      (refine pl_ld2 ?_ ?_)
      (refine p_c H rfl rfl Tryz.func18 (kindF_any' _ _ _ _) ?_;clear H;rintro e w1 ⟨rfl,hF⟩ H;refine p_r ?_;clear hF)
      (refine pl_ld2 ?_ ?_)
      (refine p_c H rfl rfl Tryz.func16 (leftF_any _ [82,85,65] 14 (by decide) (by decide) D1) ?_;clear H;rintro e w1 ⟨rfl,hF⟩ H;refine p_r ?_;clear hF)
      (go_loud (refine pl_rw rfl rfl (fun K hK=>c_sN H rfl (by repeat first | exact .nil _ | apply Parts.tmp (by rfl) (by rfl) | apply Parts.con (by rfl)) rfl (by intro c hc;simp only [List.mem_cons,List.not_mem_nil,or_false] at hc;(try (rcases hc with rfl | rfl | rfl | rfl | rfl<;>rfl))) (by decide) (by decide) (fun r2 w1 hg hf H1=>hK _ _ (fun hne=>by first | exact absurd rfl hne | exact trivial | exact H1.sub (by repeat first | exact List.Sublist.refl _ | exact List.nil_sublist _ | apply List.Sublist.cons_cons | apply List.Sublist.cons)) ?_)));(clear hK K);(clear H;have H:=H1;clear H1;(try dsimp only at H);(first | replace hf:=hf.kp | clear hf));(simp only [nrm,↓reduceIte,Nat.reduceAdd]))
      (refine p_c H rfl rfl Tryz.func17 (brow_any _ [1,1,1,0] rfl (by decide) (by decide) (by decide) (fun j u hj=>H.cell (b:=r2) (p:=j) (nat_at rfl hj)) (HT.out.fr H.fr) D2) ?_;clear H;rintro e w1 ⟨rfl,hF⟩ H;refine p_r ?_;clear hF)
      (refine p_e rfl (fun w H=>ev_strCat (s:=d1) (r:=d2) rfl rfl rfl D3 (by omega)) ?_)
      (go_loud (refine pl_rw rfl rfl (fun K hK=>c_sN H rfl (by repeat first | exact .nil _ | apply Parts.tmp (by rfl) (by rfl) | apply Parts.con (by rfl)) rfl (by intro c hc;simp only [List.mem_cons,List.not_mem_nil,or_false] at hc;(try (rcases hc with rfl | rfl | rfl | rfl | rfl<;>rfl))) (by decide) (by decide) (fun r3 w1 hg hf H1=>hK _ _ (fun hne=>by first | exact absurd rfl hne | exact trivial | exact H1.sub (by repeat first | exact List.Sublist.refl _ | exact List.nil_sublist _ | apply List.Sublist.cons_cons | apply List.Sublist.cons)) ?_)));(clear hK K);(clear H;have H:=H1;clear H1;(try dsimp only at H);(first | replace hf:=hf.kp | clear hf));(simp only [nrm,↓reduceIte,Nat.reduceAdd]))
      refine p_q ?_
      (refine pl_done ?_)
      rotate_left
      (go_loud (refine pl_rw rfl rfl (fun K hK=>c_sN H rfl (by repeat first | exact .nil _ | apply Parts.tmp (by rfl) (by rfl) | apply Parts.con (by rfl)) rfl (by intro c hc;simp only [List.mem_cons,List.not_mem_nil,or_false] at hc;(try (rcases hc with rfl | rfl | rfl | rfl | rfl<;>rfl))) (by decide) (by decide) (fun r2 w1 hg hf H1=>hK _ _ (fun hne=>by first | exact absurd rfl hne | exact trivial | exact H1.sub (by repeat first | exact List.Sublist.refl _ | exact List.nil_sublist _ | apply List.Sublist.cons_cons | apply List.Sublist.cons)) ?_)));(clear hK K);(clear H;have H:=H1;clear H1;(try dsimp only at H);(first | replace hf:=hf.kp | clear hf));(simp only [nrm,↓reduceIte,Nat.reduceAdd]))
      (refine p_c H rfl rfl Tryz.func16 (leftF_any _ [82,85,65] 14 (by decide) (by decide) D1) ?_;clear H;rintro e w1 ⟨rfl,hF⟩ H;refine p_r ?_;clear hF)
      (refine p_c H rfl rfl Tryz.func17 (brow_any _ [1,1,1,0] rfl (by decide) (by decide) (by decide) (fun j u hj=>H.cell (b:=r2) (p:=j) (nat_at rfl hj)) (HT.out.fr H.fr) D2) ?_;clear H;rintro e w1 ⟨rfl,hF⟩ H;refine p_r ?_;clear hF)
      (refine p_e rfl (fun w H=>ev_strCat (s:=d1) (r:=d2) rfl rfl rfl D3 (by omega)) ?_)
      (go_loud (refine pl_rw rfl rfl (fun K hK=>c_sN H rfl (by repeat first | exact .nil _ | apply Parts.tmp (by rfl) (by rfl) | apply Parts.con (by rfl)) rfl (by intro c hc;simp only [List.mem_cons,List.not_mem_nil,or_false] at hc;(try (rcases hc with rfl | rfl | rfl | rfl | rfl<;>rfl))) (by decide) (by decide) (fun r3 w1 hg hf H1=>hK _ _ (fun hne=>by first | exact absurd rfl hne | exact trivial | exact H1.sub (by repeat first | exact List.Sublist.refl _ | exact List.nil_sublist _ | apply List.Sublist.cons_cons | apply List.Sublist.cons)) ?_)));(clear hK K);(clear H;have H:=H1;clear H1;(try dsimp only at H);(first | replace hf:=hf.kp | clear hf));(simp only [nrm,↓reduceIte,Nat.reduceAdd]))
      refine p_q ?_
      (refine pl_done ?_)
      rotate_left
      (go_loud (refine pl_rw rfl rfl (fun K hK=>c_sN H rfl (by repeat first | exact .nil _ | apply Parts.tmp (by rfl) (by rfl) | apply Parts.con (by rfl)) rfl (by intro c hc;simp only [List.mem_cons,List.not_mem_nil,or_false] at hc;(try (rcases hc with rfl | rfl | rfl | rfl | rfl<;>rfl))) (by decide) (by decide) (fun r2 w1 hg hf H1=>hK _ _ (fun hne=>by first | exact absurd rfl hne | exact trivial | exact H1.sub (by repeat first | exact List.Sublist.refl _ | exact List.nil_sublist _ | apply List.Sublist.cons_cons | apply List.Sublist.cons)) ?_)));(clear hK K);(clear H;have H:=H1;clear H1;(try dsimp only at H);(first | replace hf:=hf.kp | clear hf));(simp only [nrm,↓reduceIte,Nat.reduceAdd]))
      (refine p_c H rfl rfl Tryz.func18 (kindF_any' _ _ _ _) ?_;clear H;rintro e w1 ⟨rfl,hF⟩ H;refine p_r ?_;clear hF)
      (refine p_c H rfl rfl Tryz.func16 (leftF_any _ [82,85,65] 14 (by decide) (by decide) D1) ?_;clear H;rintro e w1 ⟨rfl,hF⟩ H;refine p_r ?_;clear hF)
      (refine p_c H rfl rfl Tryz.func17 (brow_any _ [1,1,1,0] rfl (by decide) (by decide) (by decide) (fun j u hj=>H.cell (b:=r2) (p:=j) (nat_at rfl hj)) (HT.out.fr H.fr) D2) ?_;clear H;rintro e w1 ⟨rfl,hF⟩ H;refine p_r ?_;clear hF)
      (refine p_e rfl (fun w H=>ev_strCat (s:=d1) (r:=d2) rfl rfl rfl D3 (by omega)) ?_)
      (go_loud (refine pl_rw rfl rfl (fun K hK=>c_sN H rfl (by repeat first | exact .nil _ | apply Parts.tmp (by rfl) (by rfl) | apply Parts.con (by rfl)) rfl (by intro c hc;simp only [List.mem_cons,List.not_mem_nil,or_false] at hc;(try (rcases hc with rfl | rfl | rfl | rfl | rfl<;>rfl))) (by decide) (by decide) (fun r3 w1 hg hf H1=>hK _ _ (fun hne=>by first | exact absurd rfl hne | exact trivial | exact H1.sub (by repeat first | exact List.Sublist.refl _ | exact List.nil_sublist _ | apply List.Sublist.cons_cons | apply List.Sublist.cons)) ?_)));(clear hK K);(clear H;have H:=H1;clear H1;(try dsimp only at H);(first | replace hf:=hf.kp | clear hf));(simp only [nrm,↓reduceIte,Nat.reduceAdd]))
      refine p_q ?_
      (refine pl_done ?_)
      rotate_left
      (go_loud (refine pl_rw rfl rfl (fun K hK=>c_sN H rfl (by repeat first | exact .nil _ | apply Parts.tmp (by rfl) (by rfl) | apply Parts.con (by rfl)) rfl (by intro c hc;simp only [List.mem_cons,List.not_mem_nil,or_false] at hc;(try (rcases hc with rfl | rfl | rfl | rfl | rfl<;>rfl))) (by decide) (by decide) (fun r2 w1 hg hf H1=>hK _ _ (fun hne=>by first | exact absurd rfl hne | exact trivial | exact H1.sub (by repeat first | exact List.Sublist.refl _ | exact List.nil_sublist _ | apply List.Sublist.cons_cons | apply List.Sublist.cons)) ?_)));(clear hK K);(clear H;have H:=H1;clear H1;(try dsimp only at H);(first | replace hf:=hf.kp | clear hf));(simp only [nrm,↓reduceIte,Nat.reduceAdd]))
      (refine p_c H rfl rfl Tryz.func17 (brow_any _ [3,1,1,1,0] rfl (by decide) (by decide) (by decide) (fun j u hj=>H.cell (b:=r1) (p:=j) (nat_at rfl hj)) (HT.out.fr H.fr) (hid row_l1)) ?_;clear H;rintro e w1 ⟨rfl,hF⟩ H;refine p_r ?_;clear hF)
      (refine p_c H rfl rfl Tryz.func18 (kindF_any' _ _ _ _) ?_;clear H;rintro e w1 ⟨rfl,hF⟩ H;refine p_r ?_;clear hF)
      (refine p_c H rfl rfl Tryz.func16 (leftF_any _ [82,85,65] 14 (by decide) (by decide) D1) ?_;clear H;rintro e w1 ⟨rfl,hF⟩ H;refine p_r ?_;clear hF)
      (refine p_c H rfl rfl Tryz.func17 (brow_any _ [1,1,1,0] rfl (by decide) (by decide) (by decide) (fun j u hj=>H.cell (b:=r2) (p:=j) (nat_at rfl hj)) (HT.out.fr H.fr) D2) ?_;clear H;rintro e w1 ⟨rfl,hF⟩ H;refine p_r ?_;clear hF)
      (refine p_e rfl (fun w H=>ev_strCat (s:=d1) (r:=d2) rfl rfl rfl D3 (by omega)) ?_)
      (go_loud (refine pl_rw rfl rfl (fun K hK=>c_sN H rfl (by repeat first | exact .nil _ | apply Parts.tmp (by rfl) (by rfl) | apply Parts.con (by rfl)) rfl (by intro c hc;simp only [List.mem_cons,List.not_mem_nil,or_false] at hc;(try (rcases hc with rfl | rfl | rfl | rfl | rfl<;>rfl))) (by decide) (by decide) (fun r3 w1 hg hf H1=>hK _ _ (fun hne=>by first | exact absurd rfl hne | exact trivial | exact H1.sub (by repeat first | exact List.Sublist.refl _ | exact List.nil_sublist _ | apply List.Sublist.cons_cons | apply List.Sublist.cons)) ?_)));(clear hK K);(clear H;have H:=H1;clear H1;(try dsimp only at H);(first | replace hf:=hf.kp | clear hf));(simp only [nrm,↓reduceIte,Nat.reduceAdd]))
      refine p_q ?_
      (refine pl_done ?_)
      rotate_left
      (go_loud (refine pl_rw rfl rfl (fun K hK=>c_sN H rfl (by repeat first | exact .nil _ | apply Parts.tmp (by rfl) (by rfl) | apply Parts.con (by rfl)) rfl (by intro c hc;simp only [List.mem_cons,List.not_mem_nil,or_false] at hc;(try (rcases hc with rfl | rfl | rfl | rfl | rfl<;>rfl))) (by decide) (by decide) (fun r2 w1 hg hf H1=>hK _ _ (fun hne=>by first | exact absurd rfl hne | exact trivial | exact H1.sub (by repeat first | exact List.Sublist.refl _ | exact List.nil_sublist _ | apply List.Sublist.cons_cons | apply List.Sublist.cons)) ?_)));(clear hK K);(clear H;have H:=H1;clear H1;(try dsimp only at H);(first | replace hf:=hf.kp | clear hf));(simp only [nrm,↓reduceIte,Nat.reduceAdd]))
      (refine p_c H rfl rfl Tryz.func16 (leftF_any _ [] 72 (by decide) (by decide) E1) ?_;clear H;rintro e w1 ⟨rfl,hF⟩ H;refine p_r ?_;clear hF)
      (refine p_e rfl (fun w H=>ev_strCat (s:=e1) (r:=[]) rfl rfl rfl E2 (by simp only [List.length_nil];omega)) ?_)
      (refine p_c H rfl rfl Tryz.func17 (brow_any _ [3,1,1,1,0] rfl (by decide) (by decide) (by decide) (fun j u hj=>H.cell (b:=r1) (p:=j) (nat_at rfl hj)) (HT.out.fr H.fr) (hid row_l1)) ?_;clear H;rintro e w1 ⟨rfl,hF⟩ H;refine p_r ?_;clear hF)
      (refine p_c H rfl rfl Tryz.func18 (kindF_any' _ _ _ _) ?_;clear H;rintro e w1 ⟨rfl,hF⟩ H;refine p_r ?_;clear hF)
      (refine p_c H rfl rfl Tryz.func16 (leftF_any _ [82,85,65] 14 (by decide) (by decide) D1) ?_;clear H;rintro e w1 ⟨rfl,hF⟩ H;refine p_r ?_;clear hF)
      (refine p_c H rfl rfl Tryz.func17 (brow_any _ [1,1,1,0] rfl (by decide) (by decide) (by decide) (fun j u hj=>H.cell (b:=r2) (p:=j) (nat_at rfl hj)) (HT.out.fr H.fr) D2) ?_;clear H;rintro e w1 ⟨rfl,hF⟩ H;refine p_r ?_;clear hF)
      (refine p_e rfl (fun w H=>ev_strCat (s:=d1) (r:=d2) rfl rfl rfl D3 (by omega)) ?_)
      (go_loud (refine pl_rw rfl rfl (fun K hK=>c_sN H rfl (by repeat first | exact .nil _ | apply Parts.tmp (by rfl) (by rfl) | apply Parts.con (by rfl)) rfl (by intro c hc;simp only [List.mem_cons,List.not_mem_nil,or_false] at hc;(try (rcases hc with rfl | rfl | rfl | rfl | rfl<;>rfl))) (by decide) (by decide) (fun r3 w1 hg hf H1=>hK _ _ (fun hne=>by first | exact absurd rfl hne | exact trivial | exact H1.sub (by repeat first | exact List.Sublist.refl _ | exact List.nil_sublist _ | apply List.Sublist.cons_cons | apply List.Sublist.cons)) ?_)));(clear hK K);(clear H;have H:=H1;clear H1;(try dsimp only at H);(first | replace hf:=hf.kp | clear hf));(simp only [nrm,↓reduceIte,Nat.reduceAdd]))
      refine p_q ?_
      (refine pl_done ?_)
      rotate_left
      (go_loud (refine pl_rw rfl rfl (fun K hK=>c_sN H rfl (by repeat first | exact .nil _ | apply Parts.tmp (by rfl) (by rfl) | apply Parts.con (by rfl)) rfl (by intro c hc;simp only [List.mem_cons,List.not_mem_nil,or_false] at hc;(try (rcases hc with rfl | rfl | rfl | rfl | rfl<;>rfl))) (by decide) (by decide) (fun r2 w1 hg hf H1=>hK _ _ (fun hne=>by first | exact absurd rfl hne | exact trivial | exact H1.sub (by repeat first | exact List.Sublist.refl _ | exact List.nil_sublist _ | apply List.Sublist.cons_cons | apply List.Sublist.cons)) ?_)));(clear hK K);(clear H;have H:=H1;clear H1;(try dsimp only at H);(first | replace hf:=hf.kp | clear hf));(simp only [nrm,↓reduceIte,Nat.reduceAdd]))
      (refine pl_ld2 ?_ ?_)
      (refine p_c H rfl rfl Tryz.func16 (leftF_any _ [] 72 (by decide) (by decide) E1) ?_;clear H;rintro e w1 ⟨rfl,hF⟩ H;refine p_r ?_;clear hF)
      (refine p_e rfl (fun w H=>ev_strCat (s:=e1) (r:=[]) rfl rfl rfl E2 (by simp only [List.length_nil];omega)) ?_)
      (go_loud (refine pl_rw rfl rfl (fun K hK=>c_sN H rfl (by repeat first | exact .nil _ | apply Parts.tmp (by rfl) (by rfl) | apply Parts.con (by rfl)) rfl (by intro c hc;simp only [List.mem_cons,List.not_mem_nil,or_false] at hc;(try (rcases hc with rfl | rfl | rfl | rfl | rfl<;>rfl))) (by decide) (by decide) (fun r1 w1 hg hf H1=>hK _ _ (fun hne=>by first | exact absurd rfl hne | exact trivial | exact H1.sub (by repeat first | exact List.Sublist.refl _ | exact List.nil_sublist _ | apply List.Sublist.cons_cons | apply List.Sublist.cons)) ?_)));(clear hK K);(clear H;have H:=H1;clear H1;(try dsimp only at H);(first | replace hf:=hf.kp | clear hf));(simp only [nrm,↓reduceIte,Nat.reduceAdd]))
      (refine p_c H rfl rfl Tryz.func17 (brow_any _ [3,1,1,1,0] rfl (by decide) (by decide) (by decide) (fun j u hj=>H.cell (b:=r1) (p:=j) (nat_at rfl hj)) (HT.out.fr H.fr) (hid row_l1)) ?_;clear H;rintro e w1 ⟨rfl,hF⟩ H;refine p_r ?_;clear hF)
      (refine p_c H rfl rfl Tryz.func18 (kindF_any' _ _ _ _) ?_;clear H;rintro e w1 ⟨rfl,hF⟩ H;refine p_r ?_;clear hF)
      (refine p_c H rfl rfl Tryz.func16 (leftF_any _ [82,85,65] 14 (by decide) (by decide) D1) ?_;clear H;rintro e w1 ⟨rfl,hF⟩ H;refine p_r ?_;clear hF)
      (refine p_c H rfl rfl Tryz.func17 (brow_any _ [1,1,1,0] rfl (by decide) (by decide) (by decide) (fun j u hj=>H.cell (b:=r2) (p:=j) (nat_at rfl hj)) (HT.out.fr H.fr) D2) ?_;clear H;rintro e w1 ⟨rfl,hF⟩ H;refine p_r ?_;clear hF)
      (refine p_e rfl (fun w H=>ev_strCat (s:=d1) (r:=d2) rfl rfl rfl D3 (by omega)) ?_)
      (go_loud (refine pl_rw rfl rfl (fun K hK=>c_sN H rfl (by repeat first | exact .nil _ | apply Parts.tmp (by rfl) (by rfl) | apply Parts.con (by rfl)) rfl (by intro c hc;simp only [List.mem_cons,List.not_mem_nil,or_false] at hc;(try (rcases hc with rfl | rfl | rfl | rfl | rfl<;>rfl))) (by decide) (by decide) (fun r3 w1 hg hf H1=>hK _ _ (fun hne=>by first | exact absurd rfl hne | exact trivial | exact H1.sub (by repeat first | exact List.Sublist.refl _ | exact List.nil_sublist _ | apply List.Sublist.cons_cons | apply List.Sublist.cons)) ?_)));(clear hK K);(clear H;have H:=H1;clear H1;(try dsimp only at H);(first | replace hf:=hf.kp | clear hf));(simp only [nrm,↓reduceIte,Nat.reduceAdd]))
      refine p_q ?_
      (refine pl_done ?_)
      rotate_left
      (go_loud (refine pl_rw rfl rfl (fun K hK=>c_sN H rfl (by repeat first | exact .nil _ | apply Parts.tmp (by rfl) (by rfl) | apply Parts.con (by rfl)) rfl (by intro c hc;simp only [List.mem_cons,List.not_mem_nil,or_false] at hc;(try (rcases hc with rfl | rfl | rfl | rfl | rfl<;>rfl))) (by decide) (by decide) (fun r1 w1 hg hf H1=>hK _ _ (fun hne=>by first | exact absurd rfl hne | exact trivial | exact H1.sub (by repeat first | exact List.Sublist.refl _ | exact List.nil_sublist _ | apply List.Sublist.cons_cons | apply List.Sublist.cons)) ?_)));(clear hK K);(clear H;have H:=H1;clear H1;(try dsimp only at H);(first | replace hf:=hf.kp | clear hf));(simp only [nrm,↓reduceIte,Nat.reduceAdd]))
      (refine p_c H rfl rfl Tryz.func16 (leftF_any _ [] 72 (by decide) (by decide) E1) ?_;clear H;rintro e w1 ⟨rfl,hF⟩ H;refine p_r ?_;clear hF)
      (refine p_e rfl (fun w H=>ev_strCat (s:=e1) (r:=[]) rfl rfl rfl E2 (by simp only [List.length_nil];omega)) ?_)
      (refine p_c H rfl rfl Tryz.func17 (brow_any _ [3,1,1,1,0] rfl (by decide) (by decide) (by decide) (fun j u hj=>H.cell (b:=r1) (p:=j) (nat_at rfl hj)) (HT.out.fr H.fr) (hid row_l1)) ?_;clear H;rintro e w1 ⟨rfl,hF⟩ H;refine p_r ?_;clear hF)
      (refine p_c H rfl rfl Tryz.func18 (kindF_any' _ _ _ _) ?_;clear H;rintro e w1 ⟨rfl,hF⟩ H;refine p_r ?_;clear hF)
      (refine p_c H rfl rfl Tryz.func16 (leftF_any _ [82,85,65] 14 (by decide) (by decide) D1) ?_;clear H;rintro e w1 ⟨rfl,hF⟩ H;refine p_r ?_;clear hF)
      (refine p_c H rfl rfl Tryz.func17 (brow_any _ [1,1,1,0] rfl (by decide) (by decide) (by decide) (fun j u hj=>H.cell (b:=r2) (p:=j) (nat_at rfl hj)) (HT.out.fr H.fr) D2) ?_;clear H;rintro e w1 ⟨rfl,hF⟩ H;refine p_r ?_;clear hF)
      (refine p_e rfl (fun w H=>ev_strCat (s:=d1) (r:=d2) rfl rfl rfl D3 (by omega)) ?_)
      (go_loud (refine pl_rw rfl rfl (fun K hK=>c_sN H rfl (by repeat first | exact .nil _ | apply Parts.tmp (by rfl) (by rfl) | apply Parts.con (by rfl)) rfl (by intro c hc;simp only [List.mem_cons,List.not_mem_nil,or_false] at hc;(try (rcases hc with rfl | rfl | rfl | rfl | rfl<;>rfl))) (by decide) (by decide) (fun r3 w1 hg hf H1=>hK _ _ (fun hne=>by first | exact absurd rfl hne | exact trivial | exact H1.sub (by repeat first | exact List.Sublist.refl _ | exact List.nil_sublist _ | apply List.Sublist.cons_cons | apply List.Sublist.cons)) ?_)));(clear hK K);(clear H;have H:=H1;clear H1;(try dsimp only at H);(first | replace hf:=hf.kp | clear hf));(simp only [nrm,↓reduceIte,Nat.reduceAdd]))
      refine p_q ?_
      (refine pl_done ?_)
      rotate_left
      all_goals
       go_wp2_with (first | refine x_q H ?_ | refine x_cm (fun h=> ?_) (fun h=> ?_) | refine x_l H ?_ | (revert H;(first | (refine x_g ?_;(first | (have hh:=g4;clear hh;intro g5 w1 hg hf H) | (have hh:=g3;clear hh;intro g4 w1 hg hf H) | (have hh:=g2;clear hh;intro g3 w1 hg hf H) | (have hh:=g1;clear hh;intro g2 w1 hg hf H) | (have hh:=g0;clear hh;intro g1 w1 hg hf H) | intro g0 w1 hg hf H);(first | replace hf:=hf.kp | clear hf)) | (refine x_s ?_;intro w1 hf H;(first | replace hf:=hf.kp | clear hf)) | (refine x_sF ?_;intro w1 hf H hk;clear hf hk) | (refine x_s (he:=fun H K hK=>c_stA H rfl rfl rfl (h:=hK)) ?_;intro w1 hf H;clear hf))))
       go_meet
       case rel=>exact ⟨r3,rfl,H.arr (by repeat (first | exact Pm.nil _ | (apply Pm.cons;· (repeat first | exact Rm.here _ | apply Rm.there))))⟩
     case rest=>
      clear H
      obtain ⟨r3,rfl,H⟩:=hcut
      go_wp2_with (first | refine x_q H ?_ | (refine is_buildSlice rfl ?_;refine wl_rw rfl (fun K hK=>c_sN H rfl (by repeat first | exact .nil _ | apply Parts.tmp (by rfl) (by rfl) | apply Parts.con (by rfl)) rfl (by intro c hc;simp only [List.mem_cons,List.not_mem_nil,or_false] at hc;(try (rcases hc with rfl | rfl | rfl | rfl<;>rfl))) (by decide) (by decide) (fun r4 w1 hg hf H1=>hK _ _ ?_));(clear hK K);(clear H;have H:=H1;clear H1;(try dsimp only at H);(first | replace hf:=hf.kp | clear hf));(simp only [nrm,↓reduceIte,Nat.reduceAdd])) | refine x_cm (fun h=> ?_) (fun h=> ?_) | refine x_l H ?_ | (revert H;(first | (refine x_g ?_;(first | (have hh:=g4;clear hh;intro g5 w1 hg hf H) | (have hh:=g3;clear hh;intro g4 w1 hg hf H) | (have hh:=g2;clear hh;intro g3 w1 hg hf H) | (have hh:=g1;clear hh;intro g2 w1 hg hf H) | (have hh:=g0;clear hh;intro g1 w1 hg hf H) | intro g0 w1 hg hf H);(first | replace hf:=hf.kp | clear hf)) | (refine x_s ?_;intro w1 hf H;(first | replace hf:=hf.kp | clear hf)) | (refine x_sF ?_;intro w1 hf H hk;clear hf hk) | (refine x_s (he:=fun H K hK=>c_stA H rfl rfl rfl (h:=hK)) ?_;intro w1 hf H;clear hf))))
      (refine Calls.mono (concat_any _ (A:=[List.replicate 72 32,bL1,bL2,vL3]) (x:=vL4) (y:=vL5) (z:=sp 26 tx) rfl (H.cell (b:=r4) (p:=0) rfl) (H.cell (b:=r4) (p:=1) rfl) (H.cell (b:=r4) (p:=2) rfl) (H.cell (b:=r4) (p:=3) rfl) (fun j u hj=>H.cell (b:=r3) (p:=j) hj) (fun j u hj=>(H.rowo 5).cell hj) (fun j u hj=>(H.rowo 6).cell hj) (fun j u hj=>(H.rowo 7).cell hj)) ?_;rintro e w1 ⟨v8,rfl,hF,hown⟩;obtain ⟨S8,H1⟩:=H.rowNew 8 hF hown;clear H hF hown;have H:=H1;clear H1)
      obtain ⟨a8,b8,hvv,rfl⟩:=(H.rowo 8).some (by decide)
      subst hvv
      obtain ⟨_,_,hvv,hq8,_⟩:=(H.rowo 8).form
      cases hvv
      obtain ⟨jf,hjf⟩:∃ j,Lib.join [List.replicate 72 32,bL1,bL2,vL3,vL4,vL5,sp 26 tx] [10]=j:=⟨_,rfl⟩
      obtain ⟨vf,hvf⟩:∃ v,vFile tx=v:=⟨_,rfl⟩
      have J1:=hid hjf
      have J2:=hid (show jf++[10]=vf by rw [← hjf,← hvf];exact join_file tx)
      have hvl:vf.length≤100000:=by rw [← hvf];exact v_file_len (by omega)
      have hjl:jf.length≤100000:=by
       have:=congrArg List.length J2.out
       rw [List.length_append] at this
       simp only [List.length_cons,List.length_nil] at this
       omega
      have J3:=hid hvf
      clear hjf hvf
      go_wp2_with (first | refine x_q H ?_ | refine x_cm (fun h=> ?_) (fun h=> ?_) | refine x_l H ?_ | (revert H;(first | (refine x_g ?_;(first | (have hh:=g4;clear hh;intro g5 w1 hg hf H) | (have hh:=g3;clear hh;intro g4 w1 hg hf H) | (have hh:=g2;clear hh;intro g3 w1 hg hf H) | (have hh:=g1;clear hh;intro g2 w1 hg hf H) | (have hh:=g0;clear hh;intro g1 w1 hg hf H) | intro g0 w1 hg hf H);(first | replace hf:=hf.kp | clear hf)) | (refine x_s ?_;intro w1 hf H;(first | replace hf:=hf.kp | clear hf)) | (refine x_sF ?_;intro w1 hf H hk;clear hf hk) | (refine x_s (he:=fun H K hK=>c_stA H rfl rfl rfl (h:=hK)) ?_;intro w1 hf H;clear hf))))
      (refine x_c H (joinF_any (n:=7) [List.replicate 72 32,bL1,bL2,vL3,vL4,vL5,sp 26 tx] rfl (fun j u hj=>(H.rowo 8).cell hj) (block_lt_of_cell ((H.rowo 8).cell (p:=0) rfl)) (by decide) hq8 (by omega) J1) ?_;clear H;rintro e w1 ⟨rfl,hF⟩ H;clear hF)
      go_wp2_with (first | refine x_q H ?_ | refine x_e (ev_strCat (s:=jf) (r:=[10]) rfl rfl rfl J2 (by simp only [List.length_cons,List.length_nil];omega)) ?_ | (revert H;intro H;refine wl_rw rfl (fun K hK=>c_sbM H rfl (s:=vf) rfl Tryz.underlying28 Tryz.underlying5 9 (fun g w1 cap hf H1=>hK _ _ ?_));clear hK K;clear H;have H:=H1;clear H1;clear hf;(simp only [nrm,↓reduceIte,Nat.reduceAdd])) | refine x_cm (fun h=> ?_) (fun h=> ?_) | refine x_l H ?_ | (revert H;(first | (refine x_g ?_;(first | (have hh:=g4;clear hh;intro g5 w1 hg hf H) | (have hh:=g3;clear hh;intro g4 w1 hg hf H) | (have hh:=g2;clear hh;intro g3 w1 hg hf H) | (have hh:=g1;clear hh;intro g2 w1 hg hf H) | (have hh:=g0;clear hh;intro g1 w1 hg hf H) | intro g0 w1 hg hf H);(first | replace hf:=hf.kp | clear hf)) | (refine x_s ?_;intro w1 hf H;(first | replace hf:=hf.kp | clear hf)) | (refine x_sF ?_;intro w1 hf H hk;clear hf hk) | (refine x_s (he:=fun H K hK=>c_stA H rfl rfl rfl (h:=hK)) ?_;intro w1 hf H;clear hf))))
      go_ret2
      refine ⟨l,some ⟨g,0,none⟩,cap, ?_,H.fr, ?_,HL.out⟩
      ·rw [HTX.out,J3.out];first | rfl | skip
      ·rw [HTX.out,J3.out]
       exact (H.ob 9).rd
end Go.Proofs.YtoiebebjgnpkmaaGreatDoor
