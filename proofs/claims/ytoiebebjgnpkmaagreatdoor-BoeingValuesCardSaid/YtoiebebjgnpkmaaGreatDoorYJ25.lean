import Derived.Test.YtoiebebjgnpkmaaGreatDoorYJ0
import Derived.Test.YtoiebebjgnpkmaaGreatDoorYJ34
import Derived.Test.YtoiebebjgnpkmaaGreatDoorYJ24
namespace Go.Proofs.YtoiebebjgnpkmaaGreatDoor
open Go.RowKit
set_option linter.unusedSimpArgs false
set_option linter.unusedVariables false
set_option maxHeartbeats 8000000
set_option maxRecDepth 100000
attribute [local irreducible] wpList Code.wp Plan.wp
section
variable {P:Program} {Q:Exit→Act→World→Prop} {a:Act} {w w0:World} {o:Oper} {K:Act→World→Prop} {T:List Nat} {l:List Ent}
theorem c_stA (H:Hp T w0 w l) {t:TypeId} {x y:Operand} (ho:o.op= .store t x y) {b:Nat} {vs:List Value} (hx:a.eval x= .pointer (some ⟨b,0,none⟩)) (hy:a.eval y= .agg vs.toArray) {n:Nat} [hs:Ro P t n] {cs:List Value} {t':TypeId} {f:Nat→List Value→List Ent} [hm:In b cs t' l f] (hn:vs.length=n:=by rfl) (hc:cs.length=n:=by rfl) (h1:vs.all (fun v=>v.oneCell')=true:=by rfl)
 (h:∀ w',Fr [b] w w'→Hp T w0 w' (f b vs)→K (a.put o.dst undef) w'):o.wp P a w K Q:=
 c_stn H ho hx (vs:=vs) hy hn (List.all_eq_true.1 h1) (by omega) (fun w' hf H1=>h w' hf (by rw [over_all (by omega)] at H1;exact H1))
theorem c_st4i (H:Hp T w0 w l) {t:TypeId} {x y:Operand} (ho:o.op= .store t x y) {b p:Nat} (hx:a.eval x= .pointer (some ⟨b,p,none⟩)) {v0 v1 v2 v3:Int} (hy:a.eval y= .agg #[.int .i64 v0, .int .i64 v1, .int .i64 v2, .int .i64 v3]) [hs:Ro P t 4] {cs:List Value} {t':TypeId} {f:Nat→List Value→List Ent} [hm:In b cs t' l f]
 (hp:p+4≤cs.length:=by simp only [List.length_cons,List.length_nil];omega)
 (h:∀ w',Fr [b] w w'→Hp T w0 w' (f b (over cs p [.int .i64 v0, .int .i64 v1, .int .i64 v2, .int .i64 v3]))→K (a.put o.dst undef) w'):o.wp P a w K Q:=
 c_stn H ho hx (vs:=[.int .i64 v0, .int .i64 v1, .int .i64 v2, .int .i64 v3]) hy rfl (by
  intro v hv
  simp only [List.mem_cons,List.not_mem_nil,or_false] at hv
  rcases hv with rfl | rfl | rfl | rfl<;>rfl) hp h
end
def ReadR (ca wa cb wb:Nat) (o:Option Lay) (w:World) (e:Ending) (w':World):Prop:=
 Fr [] w w'∧match o with
  | none=>e= .returned (.tuple #[.agg zl_61.toArray, .int .i64 4, .int .i64 111])
  | some f=>e= .returned (.tuple #[.agg (headC ca wa cb wb f.count f.width f.point f.scale).toArray, .int .i64 0, .int .i64 0])
structure HeadOK (ca wa cb wb:Nat) (l1 l2 l3:List UInt8) (o:Option Lay):Prop where
 n1:l1.length≤100000
 n2:l2.length≤100000
 n3:l3.length≤100000
 a3:asc l3=true
 c1:cntsP l1 [(0,14),(14,28),(28,42),(42,56),(56,70)]=some [3,1,1,1,0]
 k2:ups (part 0 3 l2)=sRUA
 c2:cntsP l2 [(14,28),(28,42),(42,56),(56,70)]=some [1,1,1,0]
 w1:wholeP (blank (part 0 16 l3))=some ⟨ca,wa,0,0⟩
 w2:wholeP (blank (part 16 32 l3))=some ⟨cb,wb,0,0⟩
 d:decP (blank (part 32 52 l3))=o
 za:2≤ca∧ca≤999
 zb:1≤cb∧cb≤999
set_option maxHeartbeats 64000000 in
theorem readH_any (w:World) {b n c:Nat} (hn:4≤n) {l0 l1 l2 l3:List UInt8} {o:Option Lay} {ca wa cb wb:Nat} (ho:HeadOK ca wa cb wb l1 l2 l3 o) (hc:∀ j u,([strV l0,strV l1,strV l2,strV l3]:List Value)[j]? =some u→w.cell? ⟨b,0+j,none⟩=some u):
 Calls Tryz.prog 24 #[.slice (some ⟨b,0,none⟩) n c] w (ReadR ca wa cb wb o w):=by
 obtain ⟨n1,n2,n3,a3,c1,k2,c2,w1',w2',d',hza,hzb⟩:=ho
 have C1:=hid c1;have C2:=hid c2;have A3:=hid a3
 obtain ⟨p1,hp1⟩:∃ p,part 0 3 l2=p:=⟨_,rfl⟩
 obtain ⟨p2,hp2⟩:∃ p,part 0 16 l3=p:=⟨_,rfl⟩
 obtain ⟨p3,hp3⟩:∃ p,part 16 32 l3=p:=⟨_,rfl⟩
 obtain ⟨p4,hp4⟩:∃ p,part 32 52 l3=p:=⟨_,rfl⟩
 obtain ⟨q2,hq2⟩:∃ p,blank p2=p:=⟨_,rfl⟩
 obtain ⟨q3,hq3⟩:∃ p,blank p3=p:=⟨_,rfl⟩
 obtain ⟨q4,hq4⟩:∃ p,blank p4=p:=⟨_,rfl⟩
 have m1:p1.length≤100000:=hp1 ▸ Nat.le_trans (part_len _ _ _) n2
 have m2:p2.length≤100000:=hp2 ▸ Nat.le_trans (part_len _ _ _) n3
 have m3:p3.length≤100000:=hp3 ▸ Nat.le_trans (part_len _ _ _) n3
 have m4:p4.length≤100000:=hp4 ▸ Nat.le_trans (part_len _ _ _) n3
 have r2:q2.length≤100000:=hq2 ▸ Nat.le_trans (blank_len _) m2
 have r3:q3.length≤100000:=hq3 ▸ Nat.le_trans (blank_len _) m3
 have r4:q4.length≤100000:=hq4 ▸ Nat.le_trans (blank_len _) m4
 have B2:=hid (show asc q2=true by rw [← hq2,← hp2];exact asc_blank (asc_part a3 _ _))
 have B3:=hid (show asc q3=true by rw [← hq3,← hp3];exact asc_blank (asc_part a3 _ _))
 have B4:=hid (show asc q4=true by rw [← hq4,← hp4];exact asc_blank (asc_part a3 _ _))
 have K2:=hid (show ups p1=sRUA by rw [← hp1];exact k2)
 have W2:=hid (show wholeP q2=some ⟨ca,wa,0,0⟩ by rw [← hq2,← hp2];exact w1')
 have W3:=hid (show wholeP q3=some ⟨cb,wb,0,0⟩ by rw [← hq3,← hp3];exact w2')
 have D4:=hid (show decP q4=o by rw [← hq4,← hp4];exact d')
 have P1:=hid hp1;have P2:=hid hp2;have P3:=hid hp3;have P4:=hid hp4
 have Q2:=hid hq2;have Q3:=hid hq3;have Q4:=hid hq4
 clear c1 k2 c2 w1' w2' d' a3 hp1 hp2 hp3 hp4 hq2 hq3 hq4
 have hb:b<w.heap.size:=block_lt_of_cell (hc 0 _ rfl)
 have H:=(Hp.start [] w).pushRng (b:=b) (off:=0) hb (by simp) hc
 clear hc hb
 go_enter Tryz.func24,Tryz.ntmps24
 (revert H;refine W7046 ?_ <;>unhygienic intros)
 unfold zl_61 at H
 (refine Calls.mono (counts_any _ l1 (by omega) [(0,14),(14,28),(28,42),(42,56),(56,70)] (b:=gs) rfl (by decide) (by decide) (H.lt (.head _)) (fun j u hj=>by rw [Nat.zero_add];exact H.cell (b:=gs) hj) C1) ?_;rintro e w1 ⟨v,rfl,hF,hown⟩;obtain ⟨S,H1⟩:=H.rowNew 1 hF hown;clear H hF hown;have H:=H1;clear H1;obtain ⟨gc,c5,hvv,rfl⟩:=(H.rowo 1).some (by decide);subst hvv)
 go_upto_region 4 with (first | refine x_q H ?_ | refine x_cm (fun h=> ?_) (fun h=> ?_) | refine x_l H ?_ | (revert H;(first | (refine x_g ?_;(first | (have hh:=g3;clear hh;intro g4 w1 hg hf H) | (have hh:=g2;clear hh;intro g3 w1 hg hf H) | (have hh:=g1;clear hh;intro g2 w1 hg hf H) | (have hh:=g0;clear hh;intro g1 w1 hg hf H) | intro g0 w1 hg hf H);(first | replace hf:=hf.kp | clear hf)) | (refine x_s ?_;intro w1 hf H;(first | replace hf:=hf.kp | clear hf)) | (refine x_sF ?_;intro w1 hf H hk;clear hf hk))))
 (revert H;refine w_p 24 (.st 0 (.st 1 (.st 2 (.st 3 (.st 4 (.st 5 (.st 6 (.st 7 (.st 8 (.st 9 (.st 10 (.st 11 (.st 12 (.st 13 (.st 14 (.st 15 (.ld 16 (.st 17 (.ld 18 (.st 19 (.ld 20 (.st 21 (.ld 22 (.st 23 (.ld 24 .done))))))))))))))))))))))))) ?_ (hs:=(.cons_cons _ (List.nil_sublist _)));intro w1 H)
 iterate 2 refine p_q ?_
 (refine p_e (v:= .int .i64 3) rfl (fun w H=>c_l1O rfl rfl (H.rowo 1) rfl) ?_)
 iterate 2 refine p_q ?_
 (refine p_e (v:= .int .i64 1) rfl (fun w H=>c_l1O rfl rfl (H.rowo 1) rfl) ?_)
 iterate 2 refine p_q ?_
 (refine p_e (v:= .int .i64 1) rfl (fun w H=>c_l1O rfl rfl (H.rowo 1) rfl) ?_)
 iterate 2 refine p_q ?_
 (refine p_e (v:= .int .i64 1) rfl (fun w H=>c_l1O rfl rfl (H.rowo 1) rfl) ?_)
 iterate 2 refine p_q ?_
 (refine p_e (v:= .int .i64 0) rfl (fun w H=>c_l1O rfl rfl (H.rowo 1) rfl) ?_)
 refine p_q ?_
 (revert H;refine p_s ?_;intro w1 hf H;(first | replace hf:=hf.kp | clear hf))
 refine p_q ?_
 (revert H;refine p_s ?_;intro w1 hf H;(first | replace hf:=hf.kp | clear hf))
 refine p_q ?_
 (revert H;refine p_s ?_;intro w1 hf H;(first | replace hf:=hf.kp | clear hf))
 refine p_q ?_
 (revert H;refine p_s ?_;intro w1 hf H;(first | replace hf:=hf.kp | clear hf))
 refine p_q ?_
 (revert H;refine p_s ?_;intro w1 hf H;(first | replace hf:=hf.kp | clear hf))
 (refine pl_done ?_)
 (try simp only [over,List.set_cons_zero,List.set_cons_succ,List.length_cons,List.length_nil,Nat.reduceAdd,List.take_succ_cons,List.take_zero,List.drop_succ_cons,List.drop_zero,List.cons_append,List.nil_append] at H)
 (revert H;refine Wc1e9 ?_ <;>unhygienic intros)
 (refine x_c H (part_any _ l2 (by omega) 0 3 (by decide) P1) ?_;clear H;rintro e w1 ⟨rfl,hF⟩ H;clear hF)
 (revert H;refine Wc1e9 ?_ <;>unhygienic intros)
 (refine x_c H (upper_any _ p1 (by omega)) ?_;clear H;rintro e w1 ⟨rfl,hF⟩ H;clear hF)
 rw [K2.out]
 (revert H;refine Wc1e9 ?_ <;>unhygienic intros)
 (try simp only [over,List.set_cons_zero,List.set_cons_succ,List.length_cons,List.length_nil,Nat.reduceAdd,List.take_succ_cons,List.take_zero,List.drop_succ_cons,List.drop_zero,List.cons_append,List.nil_append] at H)
 (refine x_c H (supported_any _) ?_;clear H;rintro e w1 ⟨rfl,hF⟩ H;clear hF)
 (revert H;refine W6613 ?_ <;>unhygienic intros)
 (refine Calls.mono (counts_any _ l2 (by omega) [(14,28),(28,42),(42,56),(56,70)] (b:=gt) rfl (by decide) (by decide) (H.lt (.head _)) (fun j u hj=>by rw [Nat.zero_add];exact H.cell (b:=gt) hj) C2) ?_;rintro e w1 ⟨v,rfl,hF,hown⟩;obtain ⟨S,H1⟩:=H.rowNew 2 hF hown;clear H hF hown;have H:=H1;clear H1;obtain ⟨gd,c5,hvv,rfl⟩:=(H.rowo 2).some (by decide);subst hvv)
 go_upto_region 11 with (first | refine x_q H ?_ | refine x_cm (fun h=> ?_) (fun h=> ?_) | refine x_l H ?_ | (revert H;(first | (refine x_g ?_;(first | (have hh:=g3;clear hh;intro g4 w1 hg hf H) | (have hh:=g2;clear hh;intro g3 w1 hg hf H) | (have hh:=g1;clear hh;intro g2 w1 hg hf H) | (have hh:=g0;clear hh;intro g1 w1 hg hf H) | intro g0 w1 hg hf H);(first | replace hf:=hf.kp | clear hf)) | (refine x_s ?_;intro w1 hf H;(first | replace hf:=hf.kp | clear hf)) | (refine x_sF ?_;intro w1 hf H hk;clear hf hk))))
 (revert H;refine w_p 14 (.st 0 (.st 1 (.st 2 (.st 3 (.st 4 (.st 5 (.st 6 (.st 7 (.st 8 (.st 9 (.ld 10 (.st 11 (.ld 12 (.st 13 (.ld 14 .done))))))))))))))) ?_ (hs:=(.cons_cons _ (List.nil_sublist _)));intro w1 H)
 iterate 2 refine p_q ?_
 (refine p_e (v:= .int .i64 1) rfl (fun w H=>c_l1O rfl rfl (H.rowo 2) rfl) ?_)
 iterate 2 refine p_q ?_
 (refine p_e (v:= .int .i64 1) rfl (fun w H=>c_l1O rfl rfl (H.rowo 2) rfl) ?_)
 iterate 2 refine p_q ?_
 (refine p_e (v:= .int .i64 1) rfl (fun w H=>c_l1O rfl rfl (H.rowo 2) rfl) ?_)
 refine p_q ?_
 (revert H;refine p_s ?_;intro w1 hf H;(first | replace hf:=hf.kp | clear hf))
 refine p_q ?_
 (revert H;refine p_s ?_;intro w1 hf H;(first | replace hf:=hf.kp | clear hf))
 refine p_q ?_
 (revert H;refine p_s ?_;intro w1 hf H;(first | replace hf:=hf.kp | clear hf))
 (refine pl_done ?_)
 (try simp only [over,List.set_cons_zero,List.set_cons_succ,List.length_cons,List.length_nil,Nat.reduceAdd,List.take_succ_cons,List.take_zero,List.drop_succ_cons,List.drop_zero,List.cons_append,List.nil_append] at H)
 replace H:=H.sub (.cons _ (.cons _ (.cons _ (.cons _ (List.Sublist.refl _)))))
 (revert H;refine Wc1e9 ?_ <;>unhygienic intros)
 (refine x_c H (symmetry_any _ _ rfl rfl) ?_;clear H;rintro e w1 ⟨rfl,hF⟩ H;clear hF)
 (revert H;refine Wc1e9 ?_ <;>unhygienic intros)
 (refine x_c H (part_any _ l3 (by omega) 0 16 (by decide) P2) ?_;clear H;rintro e w1 ⟨rfl,hF⟩ H;clear hF)
 (revert H;refine Wc1e9 ?_ <;>unhygienic intros)
 (refine x_c H (blank_any _ p2 (by omega) Q2) ?_;clear H;rintro e w1 ⟨rfl,hF⟩ H;clear hF)
 (revert H;refine Wc1e9 ?_ <;>unhygienic intros)
 (refine x_c H (whole_any _ q2 (by omega) B2.out W2) ?_;clear H;rintro e w1 ⟨rfl,hF⟩ H;clear hF)
 (revert H;refine W2443 ?_ <;>unhygienic intros)
 (try simp only [over,List.set_cons_zero,List.set_cons_succ,List.length_cons,List.length_nil,Nat.reduceAdd,List.take_succ_cons,List.take_zero,List.drop_succ_cons,List.drop_zero,List.cons_append,List.nil_append] at H)
 (refine x_c H (part_any _ l3 (by omega) 16 32 (by decide) P3) ?_;clear H;rintro e w1 ⟨rfl,hF⟩ H;clear hF)
 (revert H;refine Wc1e9 ?_ <;>unhygienic intros)
 (refine x_c H (blank_any _ p3 (by omega) Q3) ?_;clear H;rintro e w1 ⟨rfl,hF⟩ H;clear hF)
 (revert H;refine Wc1e9 ?_ <;>unhygienic intros)
 (refine x_c H (whole_any _ q3 (by omega) B3.out W3) ?_;clear H;rintro e w1 ⟨rfl,hF⟩ H;clear hF)
 (revert H;refine W2443 ?_ <;>unhygienic intros)
 (try simp only [over,List.set_cons_zero,List.set_cons_succ,List.length_cons,List.length_nil,Nat.reduceAdd,List.take_succ_cons,List.take_zero,List.drop_succ_cons,List.drop_zero,List.cons_append,List.nil_append] at H)
 (refine x_c H (part_any _ l3 (by omega) 32 52 (by decide) P4) ?_;clear H;rintro e w1 ⟨rfl,hF⟩ H;clear hF)
 (revert H;refine Wc1e9 ?_ <;>unhygienic intros)
 (refine x_c H (blank_any _ p4 (by omega) Q4) ?_;clear H;rintro e w1 ⟨rfl,hF⟩ H;clear hF)
 (revert H;refine Wc1e9 ?_ <;>unhygienic intros)
 refine x_c H (decimals_any _ q4 (by omega) B4.out D4) ?_ (fun _ _ h=>h.1)
 clear H
 rintro e w1 ⟨hF,f,bb,rfl,hso,hno⟩ H
 clear hF
 have HSO:=hid hso
 have HNO:=hid hno
 have HSD:=hid (fun g (h:o=some g)=>dec_sound (D4.out.trans h))
 clear hso hno
 cases o with
 | none=>
  obtain rfl:bb=false:=HNO.out rfl
  clear HSO HNO HSD D4
  (revert H;refine W2443 ?_ <;>unhygienic intros)
  (try simp only [over,List.set_cons_zero,List.set_cons_succ,List.length_cons,List.length_nil,Nat.reduceAdd,List.take_succ_cons,List.take_zero,List.drop_succ_cons,List.drop_zero,List.cons_append,List.nil_append] at H)
  (refine x_c H (pattern_any _ _ rfl rfl) ?_;clear H;rintro e w1 ⟨rfl,hF⟩ H;clear hF)
  (revert H;refine Wc1e9 ?_ <;>unhygienic intros)
  refine c_postCTT H rfl rfl rfl rfl rfl ?_
  exact ⟨H.fr,rfl⟩
 | some g=>
  obtain ⟨rfl,rfl⟩:=HSO.out g rfl
  obtain ⟨hs1,hs2,hs3⟩:=HSD.out f rfl
  obtain ⟨hc1,hc2,hw1,hw2⟩:=sound_le hs1
  clear HSO HNO HSD D4 hs1
  (revert H;refine W2443 ?_ <;>unhygienic intros)
  (try simp only [over,List.set_cons_zero,List.set_cons_succ,List.length_cons,List.length_nil,Nat.reduceAdd,List.take_succ_cons,List.take_zero,List.drop_succ_cons,List.drop_zero,List.cons_append,List.nil_append] at H)
  (refine x_c H (sums_any _ ca wa cb wb f.count f.width f.point f.scale (by omega) (by omega) (by omega) (by omega) hc1 (by omega)) ?_;clear H;rintro e w1 ⟨rfl,hF⟩ H;clear hF)
  (revert H;refine Wc1e9 ?_ <;>unhygienic intros)
  refine c_postCTT H rfl rfl rfl rfl rfl ?_
  exact ⟨H.fr,rfl⟩
end Go.Proofs.YtoiebebjgnpkmaaGreatDoor
