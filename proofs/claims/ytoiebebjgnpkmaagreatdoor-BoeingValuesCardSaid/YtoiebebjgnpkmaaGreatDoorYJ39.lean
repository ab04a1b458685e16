import Derived.Test.YtoiebebjgnpkmaaGreatDoorYJ0
import Derived.Test.YtoiebebjgnpkmaaGreatDoorYJ38
namespace Go.Proofs.YtoiebebjgnpkmaaGreatDoor
open Go.RowKit
set_option linter.unusedSimpArgs false
set_option linter.unusedVariables false
set_option maxHeartbeats 8000000
set_option maxRecDepth 100000
attribute [local irreducible] wpList Code.wp Plan.wp
theorem clone1_any (w:World) {p:Option Addr} {c:Nat} (x:En) (hr:Rd w (.slice p 1 c) 1 (eC x)):
 Calls Tryz.prog 78 #[.slice p 1 c] w fun e w'=>∃ v,e= .returned v∧Fr [] w w'∧w'.ownsRow w.heap.size 46 3 v 1 (eC x):=by
 have h:=cloneE_any w [x] (p:=p) (c:=c) (by rw [List.flatMap_cons,List.flatMap_nil,List.append_nil];exact hr) (by simp)
 rw [List.flatMap_cons,List.flatMap_nil,List.append_nil] at h
 exact h
theorem insort_one {w:World} {p:Option Addr} {cap:Nat}:
 Calls Tryz.prog 252 #[.slice p 1 cap, .int .i64 (0:Int), .int .i64 (1:Int), .func (.func 214) #[] #[]] w fun e w'=>e= .returned (.tuple #[])∧Fr [] w w':=by
 have H:=Hp.start [] w
 go_enter Tryz.func252,Tryz.ntmps252
 (revert H;refine W55ee ?_ <;>unhygienic intros)
 go_loopw [8] (fun s8 wr=>s8= .int .i64 1∧Hp [] w wr []) (fun _ _ =>0)
 case atStart=>exact ⟨rfl,H⟩
 case round=>
  clear H
  obtain ⟨rfl,H⟩:=hrel
  (revert H;refine W55ee ?_ <;>unhygienic intros)
  go_end0
  exact ⟨rfl,H.fr⟩
theorem stable_one {w:World} {p:Option Addr} {cap:Nat}:
 Calls Tryz.prog 240 #[.slice p 1 cap, .int .i64 (1:Int), .func (.func 214) #[] #[]] w fun e w'=>e= .returned (.tuple #[])∧Fr [] w w':=by
 have H:=Hp.start [] w
 go_enter Tryz.func240,Tryz.ntmps240
 (revert H;refine W55ee ?_ <;>unhygienic intros)
 go_loopw [7,8] (fun s7 s8 wr=>s7= .int .i64 0∧s8= .int .i64 20∧Hp [] w wr []) (fun _ _ _ =>0)
 case atStart=>exact ⟨rfl,rfl,H⟩
 case round=>
  clear H
  obtain ⟨rfl,rfl,H⟩:=hrel
  (revert H;refine W55ee ?_ <;>unhygienic intros)
  (refine x_c H insort_one ?_;clear H;rintro e w1 ⟨rfl,hF⟩ H;clear hF)
  (revert H;refine W55ee ?_ <;>unhygienic intros)
  go_loopw [6] (fun s6 wr=>s6= .int .i64 20∧Hp [] w wr []) (fun _ _ =>0)
  case atStart=>exact ⟨rfl,H⟩
  case round=>
   clear H
   obtain ⟨rfl,H⟩:=hrel
   (revert H;refine W55ee ?_ <;>unhygienic intros)
   go_end0
   exact ⟨rfl,H.fr⟩
theorem sortS_one {w:World} {p:Option Addr} {cap:Nat}:
 Calls Tryz.prog 213 #[.slice p 1 cap, .func (.func 214) #[] #[]] w fun e w'=>e= .returned (.tuple #[])∧Fr [] w w':=by
 have H:=Hp.start [] w
 go_enter Tryz.func213,Tryz.ntmps213
 (revert H;refine W55ee ?_ <;>unhygienic intros)
 (refine x_c H stable_one ?_;clear H;rintro e w1 ⟨rfl,hF⟩ H;clear hF)
 (revert H;refine W55ee ?_ <;>unhygienic intros)
 go_end0
 exact ⟨rfl,H.fr⟩
theorem sorted1_any (w:World) {p:Option Addr} {c:Nat} (x:En) (hr:Rd w (.slice p 1 c) 1 (eC x)):
 Calls Tryz.prog 166 #[.slice p 1 c] w fun e w'=>∃ v,e= .returned v∧Fr [] w w'∧w'.ownsRow w.heap.size 46 3 v 1 (eC x):=by
 have H:=Hp.start [] w
 go_enter Tryz.func166,Tryz.ntmps166
 (revert H;refine W55ee ?_ <;>unhygienic intros)
 refine Calls.mono (clone1_any _ x hr) ?_
 rintro e w1 ⟨v,rfl,hF,hown⟩
 obtain ⟨S,H1⟩:=H.rowNew 1 hF hown
 clear H hF hown hr
 have H:=H1
 clear H1
 obtain ⟨g,cp,hvv,rfl⟩:=(H.rowo 1).some (by decide)
 subst hvv
 (revert H;refine W55ee ?_ <;>unhygienic intros)
 (refine x_c H sortS_one ?_;clear H;rintro e w1 ⟨rfl,hF⟩ H;clear hF)
 (revert H;refine W55ee ?_ <;>unhygienic intros)
 go_ret
 exact ⟨_,rfl,H.fr,(H.rowo 1).owns (fun x hx=>(H.home 1 x hx).resolve_left (by simp))⟩
set_option maxHeartbeats 32000000 in
theorem build1_any (w:World) {p:Option Addr} {c:Nat} (v:Nat) (hr:Rd w (.slice p 1 c) 1 (eC (0,0,v))):
 Calls Tryz.prog 170 #[.int .i64 1, .int .i64 1, .slice p 1 c] w (MatR 1 1 [0,1] [0] [v] w):=by
 have HR:=hid hr
 clear hr
 have H:=((Hp.start [] w).newRow 3 (e:=23) (sz:=1)).newRow 2 (e:=3) (sz:=1)
 go_enter Tryz.func170,Tryz.ntmps170
 (revert H;refine W4bfe ?_ <;>unhygienic intros)
 refine Calls.mono (sorted1_any _ (0,0,v) (HR.out.fr H.fr (by simp))) ?_
 rintro e w1 ⟨vs,rfl,hF,hown⟩
 obtain ⟨Ss,H1⟩:=H.rowNew 1 hF hown
 clear H hF hown HR
 have H:=H1
 clear H1
 obtain ⟨g5,c5,hvv,rfl⟩:=(H.rowo 1).some (by decide)
 subst hvv
 have e0:(List.replicate 2 [Value.int .i64 0]).flatten=[.int .i64 0, .int .i64 0]:=rfl
 rw [e0] at H
 clear e0
 (revert H;refine W55ee ?_ <;>unhygienic intros)
 go_loopw [20] (fun s20 wr=>(s20= .int .i64 0∧Hp [] w wr [.blk g2 [.int .i64 1, .int .i64 1, .slice (some ⟨g1,0,none⟩) 2 2, .slice none 0 0, .slice none 0 0] 27, .blk g1 [.int .i64 0, .int .i64 0] 3, .obj 2 [] (RowAt 3 1 (.slice none 0 0) 0 [] []), .obj 3 [] (RowAt 23 1 (.slice none 0 0) 0 [] []), .obj 1 [g5] (RowAt 46 3 (.slice (some ⟨g5,0,none⟩) 1 c5) 1 (eC (0,0,v)) [g5]), .blk g0 [.int .i64 0, .int .i64 0, .slice none 0 0, .slice none 0 0, .slice none 0 0] 27])
  ∨(∃ p2 c2 S2 p3 c3 S3,s20= .int .i64 1∧Hp [] w wr [.blk g2 [.int .i64 1, .int .i64 1, .slice (some ⟨g1,0,none⟩) 2 2, .slice p2 1 c2, .slice p3 1 c3] 27, .blk g1 [.int .i64 0, .int .i64 1] 3, .obj 2 S2 (RowAt 3 1 (.slice p2 1 c2) 1 [iV 0] S2), .obj 3 S3 (RowAt 23 1 (.slice p3 1 c3) 1 [uV v] S3), .blk g0 [.int .i64 0, .int .i64 0, .slice none 0 0, .slice none 0 0, .slice none 0 0] 27])) (fun x _ =>1 - (intOf x).toNat)
 case atStart=>exact .inl ⟨rfl,H.arr (by repeat (first | exact Pm.nil _ | (apply Pm.cons;· (repeat first | exact Rm.here _ | apply Rm.there))))⟩
 case round=>
  clear H
  rcases hrel with ⟨rfl,H⟩ | ⟨p2,c2,S2,p3,c3,S3,rfl,H⟩
  ·have hpre:[.int .i64 0, .int .i64 0, .int .u64 (v:Int)]<+:(eC (0,0,v)).drop 0:=List.prefix_rfl
   (revert H;refine Wb10d ?_ <;>unhygienic intros)
   (revert H;refine w_p 13 (.st 0 (.st 1 (.st 2 (.st 3 (.st 6 (.st 7 (.st 8 (.st 9 (.ld2 4 (.ld2 5 (.st 12 (.ld 10 (.ld 11 (.ldf 13 (.st 14 (.ld 15 .done)))))) 10 (.ld 5 (.st 12 (.ld 11 (.ldf 13 (.st 14 (.ld 15 .done))))))) 10 (.ld 4 (.ld 5 (.st 12 (.ld 11 (.ldf 13 (.st 14 (.ld 15 .done)))))))))))))))) ?_ (hs:=(.cons_cons _ (.cons_cons _ (.cons_cons _ (List.nil_sublist _)))));intro w1 H)
   iterate 8 refine p_q ?_
   (refine pl_ld2 ?_ ?_)
   (revert H;refine p_g ?_;intro gi w1 hg hf H;(first | replace hf:=hf.kp | clear hf))
   (refine pl_ld2 ?_ ?_)
   (go_loud (refine pl_rw rfl rfl (fun K hK=>c_aprS H rfl rfl rfl 2 (H.rd (b:=gi) (off:=0) (vs:=[.int .i64 0]) List.prefix_rfl) rfl (by simp [Value.oneCell']) (by omega) (by unfold maxLen;omega) (fun p2' c2' w1 S2' hf H1=>hK _ _ (fun hne=>by first | exact absurd rfl hne | exact trivial | exact H1.sub (by repeat first | exact List.Sublist.refl _ | exact List.nil_sublist _ | apply List.Sublist.cons_cons | apply List.Sublist.cons)) ?_)));(clear hK K);(clear H;have H:=H1;clear H1;(try dsimp only at H);(first | replace hf:=hf.kp | clear hf));(simp only [nrm,↓reduceIte,Nat.reduceAdd]))
   refine p_q ?_
   (revert H;refine p_g ?_;intro gv w1 hg hf H;(first | replace hf:=hf.kp | clear hf))
   (go_loud (refine pl_rw rfl rfl (fun K hK=>c_aprS H rfl rfl rfl 3 (H.rd (b:=gv) (off:=0) (vs:=[.int .u64 (v:Int)]) List.prefix_rfl) rfl (by simp [Value.oneCell']) (by omega) (by unfold maxLen;omega) (fun p3' c3' w1 S3' hf H1=>hK _ _ (fun hne=>by first | exact absurd rfl hne | exact trivial | exact H1.sub (by repeat first | exact List.Sublist.refl _ | exact List.nil_sublist _ | apply List.Sublist.cons_cons | apply List.Sublist.cons)) ?_)));(clear hK K);(clear H;have H:=H1;clear H1;(try dsimp only at H);(first | replace hf:=hf.kp | clear hf));(simp only [nrm,↓reduceIte,Nat.reduceAdd]))
   (revert H;refine p_sf ?_;intro w1 hf H;(first | replace hf:=hf.kp | clear hf))
   refine p_q ?_
   (revert H;refine p_s ?_;intro w1 hf H;(first | replace hf:=hf.kp | clear hf))
   (refine pl_done ?_)
   rotate_left
   (revert H;refine p_g ?_;intro gv w1 hg hf H;(first | replace hf:=hf.kp | clear hf))
   (go_loud (refine pl_rw rfl rfl (fun K hK=>c_aprS H rfl rfl rfl 2 (H.rd (b:=gi) (off:=0) (vs:=[.int .i64 0]) List.prefix_rfl) rfl (by simp [Value.oneCell']) (by omega) (by unfold maxLen;omega) (fun p2' c2' w1 S2' hf H1=>hK _ _ (fun hne=>by first | exact absurd rfl hne | exact trivial | exact H1.sub (by repeat first | exact List.Sublist.refl _ | exact List.nil_sublist _ | apply List.Sublist.cons_cons | apply List.Sublist.cons)) ?_)));(clear hK K);(clear H;have H:=H1;clear H1;(try dsimp only at H);(first | replace hf:=hf.kp | clear hf));(simp only [nrm,↓reduceIte,Nat.reduceAdd]))
   refine p_q ?_
   (go_loud (refine pl_rw rfl rfl (fun K hK=>c_aprS H rfl rfl rfl 3 (H.rd (b:=gv) (off:=0) (vs:=[.int .u64 (v:Int)]) List.prefix_rfl) rfl (by simp [Value.oneCell']) (by omega) (by unfold maxLen;omega) (fun p3' c3' w1 S3' hf H1=>hK _ _ (fun hne=>by first | exact absurd rfl hne | exact trivial | exact H1.sub (by repeat first | exact List.Sublist.refl _ | exact List.nil_sublist _ | apply List.Sublist.cons_cons | apply List.Sublist.cons)) ?_)));(clear hK K);(clear H;have H:=H1;clear H1;(try dsimp only at H);(first | replace hf:=hf.kp | clear hf));(simp only [nrm,↓reduceIte,Nat.reduceAdd]))
   (revert H;refine p_sf ?_;intro w1 hf H;(first | replace hf:=hf.kp | clear hf))
   refine p_q ?_
   (revert H;refine p_s ?_;intro w1 hf H;(first | replace hf:=hf.kp | clear hf))
   (refine pl_done ?_)
   rotate_left
   (revert H;refine p_g ?_;intro gv w1 hg hf H;(first | replace hf:=hf.kp | clear hf))
   (revert H;refine p_g ?_;intro gi w1 hg hf H;(first | replace hf:=hf.kp | clear hf))
   (go_loud (refine pl_rw rfl rfl (fun K hK=>c_aprS H rfl rfl rfl 2 (H.rd (b:=gi) (off:=0) (vs:=[.int .i64 0]) List.prefix_rfl) rfl (by simp [Value.oneCell']) (by omega) (by unfold maxLen;omega) (fun p2' c2' w1 S2' hf H1=>hK _ _ (fun hne=>by first | exact absurd rfl hne | exact trivial | exact H1.sub (by repeat first | exact List.Sublist.refl _ | exact List.nil_sublist _ | apply List.Sublist.cons_cons | apply List.Sublist.cons)) ?_)));(clear hK K);(clear H;have H:=H1;clear H1;(try dsimp only at H);(first | replace hf:=hf.kp | clear hf));(simp only [nrm,↓reduceIte,Nat.reduceAdd]))
   refine p_q ?_
   (go_loud (refine pl_rw rfl rfl (fun K hK=>c_aprS H rfl rfl rfl 3 (H.rd (b:=gv) (off:=0) (vs:=[.int .u64 (v:Int)]) List.prefix_rfl) rfl (by simp [Value.oneCell']) (by omega) (by unfold maxLen;omega) (fun p3' c3' w1 S3' hf H1=>hK _ _ (fun hne=>by first | exact absurd rfl hne | exact trivial | exact H1.sub (by repeat first | exact List.Sublist.refl _ | exact List.nil_sublist _ | apply List.Sublist.cons_cons | apply List.Sublist.cons)) ?_)));(clear hK K);(clear H;have H:=H1;clear H1;(try dsimp only at H);(first | replace hf:=hf.kp | clear hf));(simp only [nrm,↓reduceIte,Nat.reduceAdd]))
   (revert H;refine p_sf ?_;intro w1 hf H;(first | replace hf:=hf.kp | clear hf))
   refine p_q ?_
   (revert H;refine p_s ?_;intro w1 hf H;(first | replace hf:=hf.kp | clear hf))
   (refine pl_done ?_)
   rotate_left
   all_goals
    (revert H;refine W55ee ?_ <;>unhygienic intros)
    go_roundw
    case rel=>exact .inr ⟨p2',c2',S2',p3',c3',S3',rfl,H.arr (by repeat (first | exact Pm.nil _ | (apply Pm.cons;· (repeat first | exact Rm.here _ | apply Rm.there))))⟩
    case measure=>(simp [intOf];try omega)
  ·(revert H;refine W55ee ?_ <;>unhygienic intros)
   go_loopw [49] (fun s49 wr=>((s49= .int .i64 0)∨(s49= .int .i64 1))∧Hp [] w wr [.blk g2 [.int .i64 1, .int .i64 1, .slice (some ⟨g1,0,none⟩) 2 2, .slice p2 1 c2, .slice p3 1 c3] 27, .blk g1 [.int .i64 0, .int .i64 1] 3, .obj 2 S2 (RowAt 3 1 (.slice p2 1 c2) 1 [iV 0] S2), .obj 3 S3 (RowAt 23 1 (.slice p3 1 c3) 1 [uV v] S3), .blk g0 [.int .i64 0, .int .i64 0, .slice none 0 0, .slice none 0 0, .slice none 0 0] 27]) (fun x _ =>1 - (intOf x).toNat)
   case atStart=>exact ⟨.inl rfl,H.arr (by repeat (first | exact Pm.nil _ | (apply Pm.cons;· (repeat first | exact Rm.here _ | apply Rm.there))))⟩
   case round=>
    clear H
    obtain ⟨hj,H⟩:=hrel
    rcases hj with rfl | rfl
    ·(revert H;refine W55ee ?_ <;>unhygienic intros)
     (revert H;refine w_p 13 (.st 0 (.st 1 (.st 2 (.st 3 (.st 4 (.st 5 (.st 6 (.st 7 (.st 8 (.st 9 (.st 10 (.st 11 (.st 12 (.ld 13 .done)))))))))))))) ?_;intro w1 H)
     iterate 13 refine p_q ?_
     (revert H;refine p_s ?_;intro w1 hf H;(first | replace hf:=hf.kp | clear hf))
     (refine pl_done ?_)
     (revert H;refine W55ee ?_ <;>unhygienic intros)
     go_roundw
     case rel=>exact ⟨.inr rfl,H.arr (by repeat (first | exact Pm.nil _ | (apply Pm.cons;· (repeat first | exact Rm.here _ | apply Rm.there))))⟩
     case measure=>(simp [intOf];try omega)
    ·(revert H;refine W55ee ?_ <;>unhygienic intros)
     refine c_post H rfl rfl rfl ?_
     have H3:Hp [] w _ [.blk g1 [.int .i64 0, .int .i64 1] 3, .obj 2 S2 (RowAt 3 1 (.slice p2 1 c2) 1 [iV 0] S2), .obj 3 S3 (RowAt 23 1 (.slice p3 1 c3) 1 [uV v] S3)]:=H.arr (by repeat (first | exact Pm.nil _ | (apply Pm.cons;· (repeat first | exact Rm.here _ | apply Rm.there))))
     refine ⟨_,_,_,[g1]++(S2++S3),rfl,H.fr,mat_mk (by simpa [Ent.own] using H3.nodup) ⟨by simp, .inr ⟨g1,2,[],rfl,rfl,Nat.le_refl _,by unfold maxLen;omega,by simp,H3.at g1⟩⟩ (H3.rowo 2) (H3.rowo 3) rfl rfl rfl rfl rfl rfl, ?_⟩
     intro x hx
     exact H3.fresh x (by simpa [Ent.own] using hx)
end Go.Proofs.YtoiebebjgnpkmaaGreatDoor
namespace Go.Proofs.YtoiebebjgnpkmaaGreatDoor
open Go.RowKit
set_option linter.unusedSimpArgs false
set_option linter.unusedVariables false
set_option maxHeartbeats 8000000
set_option maxRecDepth 100000
attribute [local irreducible] wpList Code.wp Plan.wp
set_option maxHeartbeats 64000000 in
theorem fromEntries1_any (w:World) {gp c:Nat} (v:Nat) (hf:finF v=true) (h64:v<18446744073709551616) (hc:∀ j u,([.int .i64 0, .int .i64 0, .int .u64 (v:Int)]:List Value)[j]? =some u→w.cell? ⟨gp,0+j,none⟩=some u) (hT:La w):
 Calls Tryz.prog 126 #[.int .i64 1, .int .i64 1, .slice (some ⟨gp,0,none⟩) 1 c] w (MatF 1 1 [0,1] [0] [cleanF v] w):=by
 have hb:gp<w.heap.size:=block_lt_of_cell (hc 0 _ rfl)
 have HT:=hid hT
 have HFN:=hid hf
 have hexp:=fin_ne hf
 obtain ⟨z,hz0⟩:∃ z,cleanF v=z:=⟨_,rfl⟩
 have hz64:z<18446744073709551616:=by rw [← hz0];exact cleanF_lt h64
 have HZF:=hid (show finF z=true by rw [← hz0];exact cleanF_fin hf)
 have HZ0:=hid hz0
 rw [hz0]
 have H:=((Hp.start [] w).pushRng (b:=gp) (off:=0) hb (by simp) hc).newRow 3 (e:=46) (sz:=3)
 have hb1:=hid (show decide ((0:Int)≤(1:Int)∧(1:Int)≤200)=true by decide)
 have hb0:=hid (show decide ((0:Int)≤(0:Int)∧(0:Int)≤(1:Int) - 1)=true by decide)
 have hpre:([.int .i64 0, .int .i64 0, .int .u64 (v:Int)]:List Value)<+:([.int .i64 0, .int .i64 0, .int .u64 (v:Int)]:List Value).drop 0:=List.prefix_rfl
 clear hT hf hb hc hz0
 go_enter Tryz.func126,Tryz.ntmps126
 go_wp2_with (first | refine x_q H ?_ | refine x_cm (fun h=> ?_) (fun h=> ?_) | refine x_l H ?_ | (revert H;(first | (refine x_g ?_;(first | (have hh:=g5;clear hh;intro g6 w1 hg hf H) | (have hh:=g4;clear hh;intro g5 w1 hg hf H) | (have hh:=g3;clear hh;intro g4 w1 hg hf H) | (have hh:=g2;clear hh;intro g3 w1 hg hf H) | (have hh:=g1;clear hh;intro g2 w1 hg hf H) | (have hh:=g0;clear hh;intro g1 w1 hg hf H) | intro g0 w1 hg hf H);(first | replace hf:=hf.kp | clear hf)) | (refine x_s ?_;intro w1 hf H;(first | replace hf:=hf.kp | clear hf)) | (refine x_sF ?_;intro w1 hf H hk;clear hf;change Kp _ _ at hk))))
 (refine x_c H (within_any _ 1 0 200 hb1) ?_;clear H;rintro e w1 ⟨rfl,hF⟩ H;replace hF:=hF.kp)
 go_wp2_with (first | refine x_q H ?_ | refine x_cm (fun h=> ?_) (fun h=> ?_) | refine x_l H ?_ | (revert H;(first | (refine x_g ?_;(first | (have hh:=g5;clear hh;intro g6 w1 hg hf H) | (have hh:=g4;clear hh;intro g5 w1 hg hf H) | (have hh:=g3;clear hh;intro g4 w1 hg hf H) | (have hh:=g2;clear hh;intro g3 w1 hg hf H) | (have hh:=g1;clear hh;intro g2 w1 hg hf H) | (have hh:=g0;clear hh;intro g1 w1 hg hf H) | intro g0 w1 hg hf H);(first | replace hf:=hf.kp | clear hf)) | (refine x_s ?_;intro w1 hf H;(first | replace hf:=hf.kp | clear hf)) | (refine x_sF ?_;intro w1 hf H hk;clear hf;change Kp _ _ at hk))))
 (refine x_c H (within_any _ 1 0 200 hb1) ?_;clear H;rintro e w1 ⟨rfl,hF⟩ H;replace hF:=hF.kp)
 go_wp2_with (first | refine x_q H ?_ | refine x_cm (fun h=> ?_) (fun h=> ?_) | refine x_l H ?_ | (revert H;(first | (refine x_g ?_;(first | (have hh:=g5;clear hh;intro g6 w1 hg hf H) | (have hh:=g4;clear hh;intro g5 w1 hg hf H) | (have hh:=g3;clear hh;intro g4 w1 hg hf H) | (have hh:=g2;clear hh;intro g3 w1 hg hf H) | (have hh:=g1;clear hh;intro g2 w1 hg hf H) | (have hh:=g0;clear hh;intro g1 w1 hg hf H) | intro g0 w1 hg hf H);(first | replace hf:=hf.kp | clear hf)) | (refine x_s ?_;intro w1 hf H;(first | replace hf:=hf.kp | clear hf)) | (refine x_sF ?_;intro w1 hf H hk;clear hf;change Kp _ _ at hk))))
 go_loopw [31] (fun s31 wr=>(s31= .int .i64 0∨s31= .int .i64 1)∧Hp [] w wr [.blk g0 [.int .i64 0, .int .i64 0, .slice none 0 0, .slice none 0 0, .slice none 0 0] 27, .obj 3 [] (RowAt 46 3 (.slice none 0 0) 0 [] []), .rng gp 0 [.int .i64 0, .int .i64 0, .int .u64 (v:Int)]]) (fun x _ =>1 - (intOf x).toNat)
 case atStart=>exact ⟨.inl rfl,H.arr (by repeat (first | exact Pm.nil _ | (apply Pm.cons;· (repeat first | exact Rm.here _ | apply Rm.there))))⟩
 case round=>
  clear H
  obtain ⟨hj,H⟩:=hrel
  rcases hj with rfl | rfl
  ·go_wp2_with (first | refine x_q H ?_ | refine x_cm (fun h=> ?_) (fun h=> ?_) | refine x_l H ?_ | (revert H;(first | (refine x_g ?_;(first | (have hh:=g5;clear hh;intro g6 w1 hg hf H) | (have hh:=g4;clear hh;intro g5 w1 hg hf H) | (have hh:=g3;clear hh;intro g4 w1 hg hf H) | (have hh:=g2;clear hh;intro g3 w1 hg hf H) | (have hh:=g1;clear hh;intro g2 w1 hg hf H) | (have hh:=g0;clear hh;intro g1 w1 hg hf H) | intro g0 w1 hg hf H);(first | replace hf:=hf.kp | clear hf)) | (refine x_s ?_;intro w1 hf H;(first | replace hf:=hf.kp | clear hf)) | (refine x_sF ?_;intro w1 hf H hk;clear hf;change Kp _ _ at hk))))
   (refine x_c H (within_any _ 0 0 _ hb0) ?_;clear H;rintro e w1 ⟨rfl,hF⟩ H;replace hF:=hF.kp)
   go_wp2_with (first | refine x_q H ?_ | refine x_cm (fun h=> ?_) (fun h=> ?_) | refine x_l H ?_ | (revert H;(first | (refine x_g ?_;(first | (have hh:=g5;clear hh;intro g6 w1 hg hf H) | (have hh:=g4;clear hh;intro g5 w1 hg hf H) | (have hh:=g3;clear hh;intro g4 w1 hg hf H) | (have hh:=g2;clear hh;intro g3 w1 hg hf H) | (have hh:=g1;clear hh;intro g2 w1 hg hf H) | (have hh:=g0;clear hh;intro g1 w1 hg hf H) | intro g0 w1 hg hf H);(first | replace hf:=hf.kp | clear hf)) | (refine x_s ?_;intro w1 hf H;(first | replace hf:=hf.kp | clear hf)) | (refine x_sF ?_;intro w1 hf H hk;clear hf;change Kp _ _ at hk))))
   (refine x_c H (within_any _ 0 0 _ hb0) ?_;clear H;rintro e w1 ⟨rfl,hF⟩ H;replace hF:=hF.kp)
   go_wp2_with (first | refine x_q H ?_ | refine x_cm (fun h=> ?_) (fun h=> ?_) | refine x_l H ?_ | (revert H;(first | (refine x_g ?_;(first | (have hh:=g5;clear hh;intro g6 w1 hg hf H) | (have hh:=g4;clear hh;intro g5 w1 hg hf H) | (have hh:=g3;clear hh;intro g4 w1 hg hf H) | (have hh:=g2;clear hh;intro g3 w1 hg hf H) | (have hh:=g1;clear hh;intro g2 w1 hg hf H) | (have hh:=g0;clear hh;intro g1 w1 hg hf H) | intro g0 w1 hg hf H);(first | replace hf:=hf.kp | clear hf)) | (refine x_s ?_;intro w1 hf H;(first | replace hf:=hf.kp | clear hf)) | (refine x_sF ?_;intro w1 hf H hk;clear hf;change Kp _ _ at hk))))
   go_roundw
   case rel=>exact ⟨.inr rfl,H.arr (by repeat (first | exact Pm.nil _ | (apply Pm.cons;· (repeat first | exact Rm.here _ | apply Rm.there))))⟩
   case measure=>(simp [intOf];try omega)
  ·go_wp2_with (first | refine x_q H ?_ | refine x_cm (fun h=> ?_) (fun h=> ?_) | refine x_l H ?_ | (revert H;(first | (refine x_g ?_;(first | (have hh:=g5;clear hh;intro g6 w1 hg hf H) | (have hh:=g4;clear hh;intro g5 w1 hg hf H) | (have hh:=g3;clear hh;intro g4 w1 hg hf H) | (have hh:=g2;clear hh;intro g3 w1 hg hf H) | (have hh:=g1;clear hh;intro g2 w1 hg hf H) | (have hh:=g0;clear hh;intro g1 w1 hg hf H) | intro g0 w1 hg hf H);(first | replace hf:=hf.kp | clear hf)) | (refine x_s ?_;intro w1 hf H;(first | replace hf:=hf.kp | clear hf)) | (refine x_sF ?_;intro w1 hf H hk;clear hf;change Kp _ _ at hk))))
   go_loopw [53] (fun s53 wr=>(s53= .int .i64 0∨s53= .int .i64 1)∧Hp [] w wr [.blk g0 [.int .i64 0, .int .i64 0, .slice none 0 0, .slice none 0 0, .slice none 0 0] 27, .obj 3 [] (RowAt 46 3 (.slice none 0 0) 0 [] []), .rng gp 0 [.int .i64 0, .int .i64 0, .int .u64 (v:Int)]]) (fun x _ =>1 - (intOf x).toNat)
   case atStart=>exact ⟨.inl rfl,H.arr (by repeat (first | exact Pm.nil _ | (apply Pm.cons;· (repeat first | exact Rm.here _ | apply Rm.there))))⟩
   case round=>
    clear H
    obtain ⟨hj,H⟩:=hrel
    rcases hj with rfl | rfl
    ·go_wp2_with (first | refine x_q H ?_ | refine x_cm (fun h=> ?_) (fun h=> ?_) | refine x_l H ?_ | (revert H;(first | (refine x_g ?_;(first | (have hh:=g5;clear hh;intro g6 w1 hg hf H) | (have hh:=g4;clear hh;intro g5 w1 hg hf H) | (have hh:=g3;clear hh;intro g4 w1 hg hf H) | (have hh:=g2;clear hh;intro g3 w1 hg hf H) | (have hh:=g1;clear hh;intro g2 w1 hg hf H) | (have hh:=g0;clear hh;intro g1 w1 hg hf H) | intro g0 w1 hg hf H);(first | replace hf:=hf.kp | clear hf)) | (refine x_s ?_;intro w1 hf H;(first | replace hf:=hf.kp | clear hf)) | (refine x_sF ?_;intro w1 hf H hk;clear hf;change Kp _ _ at hk))))
     (refine x_c H (isFin_any _ h64 HFN) ?_;clear H;rintro e w1 ⟨rfl,hF⟩ H;replace hF:=hF.kp)
     go_wp2_with (first | refine x_q H ?_ | refine x_cm (fun h=> ?_) (fun h=> ?_) | refine x_l H ?_ | (revert H;(first | (refine x_g ?_;(first | (have hh:=g5;clear hh;intro g6 w1 hg hf H) | (have hh:=g4;clear hh;intro g5 w1 hg hf H) | (have hh:=g3;clear hh;intro g4 w1 hg hf H) | (have hh:=g2;clear hh;intro g3 w1 hg hf H) | (have hh:=g1;clear hh;intro g2 w1 hg hf H) | (have hh:=g0;clear hh;intro g1 w1 hg hf H) | intro g0 w1 hg hf H);(first | replace hf:=hf.kp | clear hf)) | (refine x_s ?_;intro w1 hf H;(first | replace hf:=hf.kp | clear hf)) | (refine x_sF ?_;intro w1 hf H hk;clear hf;change Kp _ _ at hk))))
     go_roundw
     case rel=>exact ⟨.inr rfl,H.arr (by repeat (first | exact Pm.nil _ | (apply Pm.cons;· (repeat first | exact Rm.here _ | apply Rm.there))))⟩
     case measure=>(simp [intOf];try omega)
    ·go_wp2_with (first | refine x_q H ?_ | refine x_cm (fun h=> ?_) (fun h=> ?_) | refine x_l H ?_ | (revert H;(first | (refine x_g ?_;(first | (have hh:=g5;clear hh;intro g6 w1 hg hf H) | (have hh:=g4;clear hh;intro g5 w1 hg hf H) | (have hh:=g3;clear hh;intro g4 w1 hg hf H) | (have hh:=g2;clear hh;intro g3 w1 hg hf H) | (have hh:=g1;clear hh;intro g2 w1 hg hf H) | (have hh:=g0;clear hh;intro g1 w1 hg hf H) | intro g0 w1 hg hf H);(first | replace hf:=hf.kp | clear hf)) | (refine x_s ?_;intro w1 hf H;(first | replace hf:=hf.kp | clear hf)) | (refine x_sF ?_;intro w1 hf H hk;clear hf;change Kp _ _ at hk))))
     refine Calls.mono (sorted1_any _ (0,0,v) (.inr ⟨_,_,rfl,fun j u hj=>by rw [add_mk];exact H.rngCell (b:=gp) (off:=0) (cs:=[.int .i64 0, .int .i64 0, .int .u64 (v:Int)]) (.tail _ (.tail _ (.head _))) hj⟩)) ?_
     rintro e w1 ⟨vs,rfl,hF,hown⟩
     obtain ⟨Ss,H1⟩:=H.rowNew 1 hF hown
     clear H hF hown
     have H:=H1
     clear H1
     obtain ⟨gq,c5,hvv,rfl⟩:=(H.rowo 1).some (by decide)
     subst hvv
     have hx0:(eC (0,0,v))[0]? =some (.int .i64 0):=rfl
     have hx1:(eC (0,0,v))[0+1]? =some (.int .i64 0):=rfl
     have hx2:(eC (0,0,v))[0+2]? =some (.int .u64 (v:Int)):=rfl
     go_wp2_with (first | refine x_q H ?_ | refine x_cm (fun h=> ?_) (fun h=> ?_) | refine x_l H ?_ | (revert H;(first | (refine x_g ?_;(first | (have hh:=g5;clear hh;intro g6 w1 hg hf H) | (have hh:=g4;clear hh;intro g5 w1 hg hf H) | (have hh:=g3;clear hh;intro g4 w1 hg hf H) | (have hh:=g2;clear hh;intro g3 w1 hg hf H) | (have hh:=g1;clear hh;intro g2 w1 hg hf H) | (have hh:=g0;clear hh;intro g1 w1 hg hf H) | intro g0 w1 hg hf H);(first | replace hf:=hf.kp | clear hf)) | (refine x_s ?_;intro w1 hf H;(first | replace hf:=hf.kp | clear hf)) | (refine x_sF ?_;intro w1 hf H hk;clear hf;change Kp _ _ at hk))))
     go_loopw [2,12] (fun s2 s12 wr=>(s2= .slice (some ⟨gq,0,none⟩) 1 c5∧s12= .slice none 0 0∧Hp [] w wr [.obj 3 [] (RowAt 46 3 (.slice none 0 0) 0 [] []), .obj 1 [gq] (RowAt 46 3 (.slice (some ⟨gq,0,none⟩) 1 c5) 1 [.int .i64 0, .int .i64 0, .int .u64 (v:Int)] [gq]), .blk g0 [.int .i64 0, .int .i64 0, .slice none 0 0, .slice none 0 0, .slice none 0 0] 27])
      ∨(∃ pl cl pO cO SO,s2= .slice pl 0 cl∧s12= .slice pO 1 cO∧Hp [] w wr [.obj 3 SO (RowAt 46 3 (.slice pO 1 cO) 1 (eC (0,0,z)) SO), .blk g0 [.int .i64 0, .int .i64 0, .slice none 0 0, .slice none 0 0, .slice none 0 0] 27])) (fun x _ _ =>sliceLen x)
     case atStart=>exact .inl ⟨rfl,rfl,H.arr (by repeat (first | exact Pm.nil _ | (apply Pm.cons;· (repeat first | exact Rm.here _ | apply Rm.there))))⟩
     case round=>
      clear H
      rcases hrel with ⟨rfl,rfl,H⟩ | ⟨pl,cl,pO,cO,SO,rfl,rfl,H⟩
      ·go_wp2_with (first | refine x_e (c_lnO rfl rfl (H.rowo 1) hpre rfl) ?_ | refine x_q H ?_ | refine x_cm (fun h=> ?_) (fun h=> ?_) | refine x_l H ?_ | (revert H;(first | (refine x_g ?_;(first | (have hh:=g5;clear hh;intro g6 w1 hg hf H) | (have hh:=g4;clear hh;intro g5 w1 hg hf H) | (have hh:=g3;clear hh;intro g4 w1 hg hf H) | (have hh:=g2;clear hh;intro g3 w1 hg hf H) | (have hh:=g1;clear hh;intro g2 w1 hg hf H) | (have hh:=g0;clear hh;intro g1 w1 hg hf H) | intro g0 w1 hg hf H);(first | replace hf:=hf.kp | clear hf)) | (refine x_s ?_;intro w1 hf H;(first | replace hf:=hf.kp | clear hf)) | (refine x_sF ?_;intro w1 hf H hk;clear hf;change Kp _ _ at hk))))
       have H1:=H.newRow 4 (e:=188) (sz:=4)
       clear H
       have H:=H1
       clear H1
       go_loopw [2,14] (fun s2 s14 wr=>(s2= .slice (some ⟨gq,0,none⟩) 1 c5∧s14= .slice none 0 0∧Hp [] w wr [.obj 4 [] (RowAt 188 4 (.slice none 0 0) 0 [] []), .blk g1 [.int .i64 0, .int .i64 0, .int .u64 (v:Int)] 46, .obj 3 [] (RowAt 46 3 (.slice none 0 0) 0 [] []), .obj 1 [gq] (RowAt 46 3 (.slice (some ⟨gq,0,none⟩) 1 c5) 1 [.int .i64 0, .int .i64 0, .int .u64 (v:Int)] [gq]), .blk g0 [.int .i64 0, .int .i64 0, .slice none 0 0, .slice none 0 0, .slice none 0 0] 27])
        ∨(∃ (cl1:Nat) (pl1:Option Addr) (gd cd:Nat) (m9 e9:Int) (b9:Bool) (p9:Option Addr) (n9 c9:Nat),s2= .slice pl1 0 cl1∧s14= .slice (some ⟨gd,0,none⟩) 1 cd∧Hid (Nm (sg (decide (9223372036854775808≤v)) (manF (v % 9223372036854775808))) (expoF (v % 9223372036854775808)) m9 e9)∧Hid (Bv wr (.agg #[.bool b9, .slice p9 n9 c9]) m9 (bl m9.natAbs))∧Hp [] w wr [.obj 4 [gd] (RowAt 188 4 (.slice (some ⟨gd,0,none⟩) 1 cd) 1 [.bool false, .bool b9, .slice p9 n9 c9, .int .i64 e9] [gd]), .blk g1 [.int .i64 0, .int .i64 0, .int .u64 (v:Int)] 46, .obj 3 [] (RowAt 46 3 (.slice none 0 0) 0 [] []), .obj 1 [gq] (RowAt 46 3 (.slice (some ⟨gq,0,none⟩) 1 c5) 1 [.int .i64 0, .int .i64 0, .int .u64 (v:Int)] [gq]), .blk g0 [.int .i64 0, .int .i64 0, .slice none 0 0, .slice none 0 0, .slice none 0 0] 27])) (fun x _ _ =>sliceLen x)
       case atStart=>exact .inl ⟨rfl,rfl,H.arr (by repeat (first | exact Pm.nil _ | (apply Pm.cons;· (repeat first | exact Rm.here _ | apply Rm.there))))⟩
       case round=>
        clear H
        rcases hrel with ⟨rfl,rfl,H⟩ | ⟨cl1,pl1,gd,cd,m9,e9,b9,p9,n9,c9,rfl,rfl,HN9,HB9,H⟩
        ·have hFk:=H.fr.kp
         go_wp2_with (first | refine x_q H ?_ | refine x_cm (fun h=> ?_) (fun h=> ?_) | refine x_l H ?_ | (revert H;(first | (refine x_g ?_;(first | (have hh:=g5;clear hh;intro g6 w1 hg hf H) | (have hh:=g4;clear hh;intro g5 w1 hg hf H) | (have hh:=g3;clear hh;intro g4 w1 hg hf H) | (have hh:=g2;clear hh;intro g3 w1 hg hf H) | (have hh:=g1;clear hh;intro g2 w1 hg hf H) | (have hh:=g0;clear hh;intro g1 w1 hg hf H) | intro g0 w1 hg hf H);(first | replace hf:=hf.kp | clear hf)) | (refine x_s ?_;intro w1 hf H;(first | replace hf:=hf.kp | clear hf)) | (refine x_sF ?_;intro w1 hf H hk;clear hf;change Kp _ _ at hk))))
         (revert H;refine w_pF 21 (.st 0 (.st 1 (.st 2 (.st 3 (.st 4 (.st 5 (.st 6 (.st 7 (.st 8 (.st 9 (.st 10 (.st 11 (.st 12 (.st 13 (.st 14 (.st 15 (.st 16 (.st 17 (.st 18 (.st 19 (.st 20 .done))))))))))))))))))))) ?_;intro w1 hf H;(first | replace hf:=hf.kp | clear hf))
         iterate 4 refine p_q ?_
         iterate 3 (first | refine p_q ?_ | refine p_n ?_)
         (first | refine p_e rfl (fun w H=>c_l1O rfl rfl (H.rowo 1) hx0) ?_ | refine p_n ?_)
         iterate 3 (first | refine p_q ?_ | refine p_n ?_)
         iterate 2 refine p_q ?_
         iterate 3 (first | refine p_q ?_ | refine p_n ?_)
         (first | refine p_e rfl (fun w H=>c_l1O rfl rfl (H.rowo 1) hx1) ?_ | refine p_n ?_)
         iterate 3 (first | refine p_q ?_ | refine p_n ?_)
         refine p_q ?_
         (refine pl_done ?_)
         go_wp2_with (first | refine x_q H ?_ | refine x_cm (fun h=> ?_) (fun h=> ?_) | refine x_l H ?_ | (revert H;(first | (refine x_g ?_;(first | (have hh:=g5;clear hh;intro g6 w1 hg hf H) | (have hh:=g4;clear hh;intro g5 w1 hg hf H) | (have hh:=g3;clear hh;intro g4 w1 hg hf H) | (have hh:=g2;clear hh;intro g3 w1 hg hf H) | (have hh:=g1;clear hh;intro g2 w1 hg hf H) | (have hh:=g0;clear hh;intro g1 w1 hg hf H) | intro g0 w1 hg hf H);(first | replace hf:=hf.kp | clear hf)) | (refine x_s ?_;intro w1 hf H;(first | replace hf:=hf.kp | clear hf)) | (refine x_sF ?_;intro w1 hf H hk;clear hf;change Kp _ _ at hk))))
         (revert H;refine w_pF 12 (.st 0 (.st 1 (.st 2 (.st 3 (.st 4 (.st 8 (.st 9 (.ld 5 (.ld 6 (.ld 7 (.st 10 (.st 11 .done)))))))))))) ?_ (hs:=(.cons _ (List.Sublist.refl _)));intro w1 hf H;(first | replace hf:=hf.kp | clear hf))
         iterate 4 refine p_q ?_
         (refine p_e rfl (fun w H=>c_l1O rfl rfl (H.rowo 1) hx2) ?_)
         iterate 2 refine p_q ?_
         (refine p_c H rfl rfl Tryz.func167 (ofF_any _ h64 hexp (HT.out.fr H.fr)) ?_;clear H;rintro e w1 ⟨v9,rfl,hF,hD⟩ H;refine p_r ?_;replace hF:=hF.kp);obtain ⟨m9,e9,b9,p9,n9,c9,rfl,hN,hB⟩:=hD;have HN9:=hid hN;have HB9:=hid hB;clear hN hB
         (revert H;refine p_g ?_;intro gt w1 hg hf H;(first | replace hf:=hf.kp | clear hf))
         (go_loud (refine pl_rw rfl rfl (fun K hK=>c_aprS H rfl rfl rfl 4 (H.rd (b:=gt) (off:=0) (vs:=[.bool false, .bool b9, .slice p9 n9 c9, .int .i64 e9]) List.prefix_rfl) rfl (by intro u hu;simp only [List.mem_cons,List.not_mem_nil,or_false] at hu;rcases hu with rfl | rfl | rfl | rfl<;>rfl) (by omega) (by unfold maxLen;omega) (fun pd cd w1 Sd hf H1=>hK _ _ (fun hne=>by first | exact absurd rfl hne | exact trivial | exact H1.sub (by repeat first | exact List.Sublist.refl _ | exact List.nil_sublist _ | apply List.Sublist.cons_cons | apply List.Sublist.cons)) ?_)));(clear hK K);(clear H;have H:=H1;clear H1;(try dsimp only at H);(first | replace hf:=hf.kp | clear hf));(simp only [nrm,↓reduceIte,Nat.reduceAdd]))
         iterate 2 refine p_q ?_
         (refine pl_done ?_)
         all_goals
          go_wp2_with (first | refine x_q H ?_ | refine x_cm (fun h=> ?_) (fun h=> ?_) | refine x_l H ?_ | (revert H;(first | (refine x_g ?_;(first | (have hh:=g5;clear hh;intro g6 w1 hg hf H) | (have hh:=g4;clear hh;intro g5 w1 hg hf H) | (have hh:=g3;clear hh;intro g4 w1 hg hf H) | (have hh:=g2;clear hh;intro g3 w1 hg hf H) | (have hh:=g1;clear hh;intro g2 w1 hg hf H) | (have hh:=g0;clear hh;intro g1 w1 hg hf H) | intro g0 w1 hg hf H);(first | replace hf:=hf.kp | clear hf)) | (refine x_s ?_;intro w1 hf H;(first | replace hf:=hf.kp | clear hf)) | (refine x_sF ?_;intro w1 hf H hk;clear hf;change Kp _ _ at hk))))
          go_roundw
          case rel=>
           obtain ⟨gd,cd',hpd,rfl⟩:=(H.rowo 4).some (by omega)
           cases hpd
           exact .inr ⟨_,_,gd,_,m9,e9,b9,p9,n9,c9,rfl,rfl,HN9,hid (bv HB9),H.arr (by repeat (first | exact Pm.nil _ | (apply Pm.cons;· (repeat first | exact Rm.here _ | apply Rm.there))))⟩
          case measure=>(simp only [sliceLen];omega)
        ·have hFk:=H.fr.kp
         go_wp2_with (first | refine x_q H ?_ | refine x_cm (fun h=> ?_) (fun h=> ?_) | refine x_l H ?_ | (revert H;(first | (refine x_g ?_;(first | (have hh:=g5;clear hh;intro g6 w1 hg hf H) | (have hh:=g4;clear hh;intro g5 w1 hg hf H) | (have hh:=g3;clear hh;intro g4 w1 hg hf H) | (have hh:=g2;clear hh;intro g3 w1 hg hf H) | (have hh:=g1;clear hh;intro g2 w1 hg hf H) | (have hh:=g0;clear hh;intro g1 w1 hg hf H) | intro g0 w1 hg hf H);(first | replace hf:=hf.kp | clear hf)) | (refine x_s ?_;intro w1 hf H;(first | replace hf:=hf.kp | clear hf)) | (refine x_sF ?_;intro w1 hf H hk;clear hf;change Kp _ _ at hk))))
         (revert H;refine w_pF 21 (.st 0 (.st 1 (.st 2 (.st 3 (.st 4 (.st 5 (.st 6 (.st 7 (.st 8 (.st 9 (.st 10 (.st 11 (.st 12 (.st 13 (.st 14 (.st 15 (.st 16 (.st 17 (.st 18 (.st 19 (.st 20 .done))))))))))))))))))))) ?_;intro w1 hf H;(first | replace hf:=hf.kp | clear hf))
         iterate 4 refine p_q ?_
         iterate 3 (first | refine p_q ?_ | refine p_n ?_)
         (first | refine p_e rfl (fun w H=>c_l1O rfl rfl (H.rowo 1) hx0) ?_ | refine p_n ?_)
         iterate 3 (first | refine p_q ?_ | refine p_n ?_)
         iterate 2 refine p_q ?_
         iterate 3 (first | refine p_q ?_ | refine p_n ?_)
         (first | refine p_e rfl (fun w H=>c_l1O rfl rfl (H.rowo 1) hx1) ?_ | refine p_n ?_)
         iterate 3 (first | refine p_q ?_ | refine p_n ?_)
         refine p_q ?_
         (refine pl_done ?_)
         go_wp2_with (first | refine x_q H ?_ | refine x_cm (fun h=> ?_) (fun h=> ?_) | refine x_l H ?_ | (revert H;(first | (refine x_g ?_;(first | (have hh:=g5;clear hh;intro g6 w1 hg hf H) | (have hh:=g4;clear hh;intro g5 w1 hg hf H) | (have hh:=g3;clear hh;intro g4 w1 hg hf H) | (have hh:=g2;clear hh;intro g3 w1 hg hf H) | (have hh:=g1;clear hh;intro g2 w1 hg hf H) | (have hh:=g0;clear hh;intro g1 w1 hg hf H) | intro g0 w1 hg hf H);(first | replace hf:=hf.kp | clear hf)) | (refine x_s ?_;intro w1 hf H;(first | replace hf:=hf.kp | clear hf)) | (refine x_sF ?_;intro w1 hf H hk;clear hf;change Kp _ _ at hk))))
         (refine x_c H (sum1_any (RowAt.firm.lt _ (H.rowo 4) gd (by simp)) (fun j u hj=>by rw [Nat.zero_add];exact (H.rowo 4).cell hj) ⟨_,_,_,_,_,_,rfl,HN9.out,bv HB9⟩ man_bl exp_in (HT.out.fr H.fr)) ?_;clear H;rintro e w1 ⟨v10,x2,e2,mm,ee,rfl,hF,hD,hN1,hN2,hb2,he2⟩ H;replace hF:=hF.kp;skip)
         have HX2:=hid (HZ0.out.symm.trans (round_clean h64 HFN.out hN1 hN2))
         have HD2:=hid hD
         clear hN1 hN2 hD
         go_wp2_with (first | refine x_q H ?_ | refine x_cm (fun h=> ?_) (fun h=> ?_) | refine x_l H ?_ | (revert H;(first | (refine x_g ?_;(first | (have hh:=g5;clear hh;intro g6 w1 hg hf H) | (have hh:=g4;clear hh;intro g5 w1 hg hf H) | (have hh:=g3;clear hh;intro g4 w1 hg hf H) | (have hh:=g2;clear hh;intro g3 w1 hg hf H) | (have hh:=g1;clear hh;intro g2 w1 hg hf H) | (have hh:=g0;clear hh;intro g1 w1 hg hf H) | intro g0 w1 hg hf H);(first | replace hf:=hf.kp | clear hf)) | (refine x_s ?_;intro w1 hf H;(first | replace hf:=hf.kp | clear hf)) | (refine x_sF ?_;intro w1 hf H hk;clear hf;change Kp _ _ at hk))))
         (refine x_c H (roundF_any 0 (dn HD2) (by omega) (by omega) (HT.out.fr H.fr) HX2) ?_;clear H;rintro e w1 ⟨rfl,hF⟩ H;replace hF:=hF.kp;skip)
         go_wp2_with (first | refine x_q H ?_ | refine x_cm (fun h=> ?_) (fun h=> ?_) | refine x_l H ?_ | (revert H;(first | (refine x_g ?_;(first | (have hh:=g5;clear hh;intro g6 w1 hg hf H) | (have hh:=g4;clear hh;intro g5 w1 hg hf H) | (have hh:=g3;clear hh;intro g4 w1 hg hf H) | (have hh:=g2;clear hh;intro g3 w1 hg hf H) | (have hh:=g1;clear hh;intro g2 w1 hg hf H) | (have hh:=g0;clear hh;intro g1 w1 hg hf H) | intro g0 w1 hg hf H);(first | replace hf:=hf.kp | clear hf)) | (refine x_s ?_;intro w1 hf H;(first | replace hf:=hf.kp | clear hf)) | (refine x_sF ?_;intro w1 hf H hk;clear hf;change Kp _ _ at hk))))
         (refine x_c H (isFin_any _ hz64 HZF) ?_;clear H;rintro e w1 ⟨rfl,hF⟩ H;replace hF:=hF.kp)
         go_wp2_with (first | (refine is_blt (b:= .append) rfl ?_;go_loud (refine wl_rw rfl (fun K hK=>c_aprS H rfl rfl rfl 3 (H.rd (b:=g2) (off:=0) (vs:=eC (0,0,z)) List.prefix_rfl) rfl (eC_one _) (by omega) (by unfold maxLen;omega) (fun p1 c1 w1 S' hf H1=>hK _ _ ?_)));(clear hK K);(clear H;have H:=H1;clear H1;(try dsimp only at H);(first | replace hf:=hf.kp | clear hf));(simp only [nrm,↓reduceIte,Nat.reduceAdd])) | refine x_q H ?_ | refine x_cm (fun h=> ?_) (fun h=> ?_) | refine x_l H ?_ | (revert H;(first | (refine x_g ?_;(first | (have hh:=g5;clear hh;intro g6 w1 hg hf H) | (have hh:=g4;clear hh;intro g5 w1 hg hf H) | (have hh:=g3;clear hh;intro g4 w1 hg hf H) | (have hh:=g2;clear hh;intro g3 w1 hg hf H) | (have hh:=g1;clear hh;intro g2 w1 hg hf H) | (have hh:=g0;clear hh;intro g1 w1 hg hf H) | intro g0 w1 hg hf H);(first | replace hf:=hf.kp | clear hf)) | (refine x_s ?_;intro w1 hf H;(first | replace hf:=hf.kp | clear hf)) | (refine x_sF ?_;intro w1 hf H hk;clear hf;change Kp _ _ at hk))))
         go_roundw
         case rel=>exact .inr ⟨_,_,_,_,S',rfl,rfl,H.arr (by repeat (first | exact Pm.nil _ | (apply Pm.cons;· (repeat first | exact Rm.here _ | apply Rm.there))))⟩
         case measure=>(simp only [sliceLen];omega)
      ·obtain ⟨gO,cO',hvv,rfl⟩:=(H.rowo 3).some (by decide)
       cases hvv
       go_wp2_with (first | refine x_q H ?_ | refine x_cm (fun h=> ?_) (fun h=> ?_) | refine x_l H ?_ | (revert H;(first | (refine x_g ?_;(first | (have hh:=g5;clear hh;intro g6 w1 hg hf H) | (have hh:=g4;clear hh;intro g5 w1 hg hf H) | (have hh:=g3;clear hh;intro g4 w1 hg hf H) | (have hh:=g2;clear hh;intro g3 w1 hg hf H) | (have hh:=g1;clear hh;intro g2 w1 hg hf H) | (have hh:=g0;clear hh;intro g1 w1 hg hf H) | intro g0 w1 hg hf H);(first | replace hf:=hf.kp | clear hf)) | (refine x_s ?_;intro w1 hf H;(first | replace hf:=hf.kp | clear hf)) | (refine x_sF ?_;intro w1 hf H hk;clear hf;change Kp _ _ at hk))))
       refine Calls.mono (build1_any _ z (.inr ⟨_,_,rfl,fun j u hj=>by rw [add_mk,Nat.zero_add];exact (H.rowo 3).cell hj⟩)) ?_
       rintro e w1 ⟨v1,v2,v3,B,rfl,hF,hM,hB⟩
       obtain ⟨S1,S2,S3,H1⟩:=H.mat 5 6 7 hF hM hB
       clear H hF hM hB
       have H:=H1
       clear H1
       obtain ⟨q1,d1,rfl,_⟩:=(H.rowo 5).form
       obtain ⟨q2,d2,rfl,_⟩:=(H.rowo 6).form
       obtain ⟨q3,d3,rfl,_⟩:=(H.rowo 7).form
       go_wp2_with (first | refine x_q H ?_ | refine x_cm (fun h=> ?_) (fun h=> ?_) | refine x_l H ?_ | (revert H;(first | (refine x_g ?_;(first | (have hh:=g5;clear hh;intro g6 w1 hg hf H) | (have hh:=g4;clear hh;intro g5 w1 hg hf H) | (have hh:=g3;clear hh;intro g4 w1 hg hf H) | (have hh:=g2;clear hh;intro g3 w1 hg hf H) | (have hh:=g1;clear hh;intro g2 w1 hg hf H) | (have hh:=g0;clear hh;intro g1 w1 hg hf H) | intro g0 w1 hg hf H);(first | replace hf:=hf.kp | clear hf)) | (refine x_s ?_;intro w1 hf H;(first | replace hf:=hf.kp | clear hf)) | (refine x_sF ?_;intro w1 hf H hk;clear hf;change Kp _ _ at hk))))
       refine c_postCT H rfl rfl rfl rfl ?_
       have H3:Hp [] w w1 [.obj 5 S1 (RowAt 3 1 (.slice q1 2 d1) 2 (([0,1]:List Nat).map iV) S1), .obj 6 S2 (RowAt 3 1 (.slice q2 1 d2) 1 (([0]:List Nat).map iV) S2), .obj 7 S3 (RowAt 23 1 (.slice q3 1 d3) 1 (([z]:List Nat).map uV) S3)]:=H.arr (by repeat (first | exact Pm.nil _ | (apply Pm.cons;· (repeat first | exact Rm.here _ | apply Rm.there))))
       exact ⟨_,_,_,S1++(S2++S3),rfl,H.fr,mat_mk (by simpa [Ent.own] using H3.nodup) (H3.rowo 5) (H3.rowo 6) (H3.rowo 7) rfl rfl rfl rfl rfl rfl,fun x hx=>H3.fresh x (by simpa [Ent.own] using hx)⟩
end Go.Proofs.YtoiebebjgnpkmaaGreatDoor
