import Derived.Test.YtoiebebjgnpkmaaGreatDoorYJ16
namespace Go.Proofs.YtoiebebjgnpkmaaGreatDoor
open Go.RowKit
set_option linter.unusedSimpArgs false
set_option linter.unusedVariables false
set_option maxHeartbeats 4000000
set_option maxRecDepth 100000
theorem sg_pow (neg:Bool) (A k:Nat):sg neg (A*2 ^ k)=sg neg A*2 ^ k:=by
 have e:((2 ^ k:Nat):Int)=(2:Int) ^ k:=by rw [Int.natCast_pow];rfl
 unfold sg
 cases neg
 ·simp [Int.natCast_mul,e]
 ·simp [Int.natCast_mul,e,Int.neg_mul]
theorem pow_cast (k:Nat):sg false (2 ^ k)=(2:Int) ^ k:=by
 show (((2 ^ k:Nat):Int))=_
 rw [Int.natCast_pow];rfl
set_option maxHeartbeats 8000000 in
theorem shift_up {w:World} {p:Option Addr} {n c:Nat} (k:Nat) (neg:Bool) (l:List Nat) (hl:l.length=n) (hn:n≤400000) (hk:k≤1048576) (h:LR w p c l):
 Calls Tryz.prog 181 #[.agg #[.bool neg, .slice p n c], .int .i64 (k:Int)] w fun e w'=>∃ v1,e= .returned (.tuple #[v1, .int .i64 0])∧Fr [] w w'∧BigV w' v1 (zv neg l*2 ^ k):=by
 subst hl
 have Hh:=hid h
 have hA:=hid (h.trim)
 have hlen:=digs_len_le h.lim
 have H:=Hp.start [] w
 clear h
 go_enter Tryz.func181,Tryz.ntmps181
 go_wp2_with (first | refine x_q H ?_ | refine x_cm (fun h=> ?_) (fun h=> ?_) | (revert H;refine x_g ?_;intro g w1 hg hf H;(try (have hfk:=hid hf;clear hf))) | (revert H;refine x_s ?_;intro w1 hf H;(try (have hfk:=hid hf;clear hf))))
 (refine x_c H (trim_any l rfl (Hh.out.fr H.fr)) ?_;clear H;rintro e w1 ⟨rfl,hF⟩ H;skip)
 go_wp2_with (first | refine x_q H ?_ | refine x_cm (fun h=> ?_) (fun h=> ?_) | (revert H;refine x_g ?_;intro g w1 hg hf H;(try (have hfk:=hid hf;clear hf))) | (revert H;refine x_s ?_;intro w1 hf H;(try (have hfk:=hid hf;clear hf))))
 (revert H;refine w_p 6 (.st 0 (.st 1 (.st 2 (.st 3 (.ld 4 (.ld 5 (.ldf 6 (.st 7 .done)))))))) ?_;intro w1 H)
 iterate 4 refine p_q ?_
 ((refine p_c H rfl rfl Tryz.func226 (up_any (digs (val l)) k rfl (by omega) (by omega) (hA.out.fr H.fr)) ?_;clear H;rintro e w1 ⟨p5,c5,rfl,hF,hL⟩ H;refine p_r ?_);have HL5:=hid hL;clear hL)
 ((refine p_c H rfl rfl Tryz.func118 (big_any neg (digs (val (digs (val l))*2 ^ k)) rfl HL5.out) ?_;clear H;rintro e w1 ⟨p6,c6,rfl,hF,hL⟩ H;refine p_r ?_);have HL6:=hid hL;clear hL)
 (refine pl_rwf rfl rfl (fun K hK=>c_st2 H rfl rfl rfl (h:=fun w1 hf H1 hk=>hK _ _ ?_));have hk2:=hid hk;clear hk;(clear hK K);(clear H;have H:=H1;clear H1;(try dsimp only at H);(try (have hfk:=hid hf;clear hf)));(simp only [nrm,↓reduceIte,Nat.reduceAdd]))
 refine p_q ?_
 (refine pl_done ?_)
 all_goals
  go_wp2_with (first | refine x_q H ?_ | refine x_cm (fun h=> ?_) (fun h=> ?_) | (revert H;refine x_g ?_;intro g w1 hg hf H;(try (have hfk:=hid hf;clear hf))) | (revert H;refine x_s ?_;intro w1 hf H;(try (have hfk:=hid hf;clear hf))))
  refine c_postCT H rfl rfl rfl rfl ?_
  have e:zv neg (digs (val (digs (val l))*2 ^ k))=zv neg l*2 ^ k:=by rw [zv_sg,val_digs,val_digs,sg_pow];rfl
  rw [e] at HL6
  exact ⟨_,rfl,H.fr,p6,c6,by rw [e],hk2.out _ _ _ HL6.out⟩
set_option maxHeartbeats 8000000 in
theorem shift_down {w:World} {p:Option Addr} {n c:Nat} (k:Nat) (neg:Bool) (l:List Nat) (hl:l.length=n) (hn:n≤400000) (hk0:0<k) (hk:k≤1048576) (h:LR w p c l):
 Calls Tryz.prog 181 #[.agg #[.bool neg, .slice p n c], .int .i64 (-(k:Int))] w fun e w'=>∃ v1,e= .returned (.tuple #[v1, .int .i64 0])∧Fr [] w w'∧BigV w' v1 (zv neg l / 2 ^ k):=by
 subst hl
 have Hh:=hid h
 have hA:=hid (h.trim)
 have hlen:=digs_len_le h.lim
 have H:=Hp.start [] w
 clear h
 have h2:(2:Nat) ^ k≠0:=Nat.pos_iff_ne_zero.1 (Nat.two_pow_pos k)
 have h2:=hid h2
 go_enter Tryz.func181,Tryz.ntmps181
 go_wp2_with (first | refine x_q H ?_ | refine x_cm (fun h=> ?_) (fun h=> ?_) | (revert H;refine x_g ?_;intro g w1 hg hf H;(try (have hfk:=hid hf;clear hf))) | (revert H;refine x_s ?_;intro w1 hf H;(try (have hfk:=hid hf;clear hf))))
 (refine x_c H (trim_any l rfl (Hh.out.fr H.fr)) ?_;clear H;rintro e w1 ⟨rfl,hF⟩ H;skip)
 go_wp2_with (first | refine x_q H ?_ | refine x_cm (fun h=> ?_) (fun h=> ?_) | (revert H;refine x_g ?_;intro g w1 hg hf H;(try (have hfk:=hid hf;clear hf))) | (revert H;refine x_s ?_;intro w1 hf H;(try (have hfk:=hid hf;clear hf))))
 (refine x_c H (down_any (val l) k rfl (by omega) (by omega) (hA.out.fr H.fr)) ?_;clear H;rintro e w1 ⟨p5,c5,rfl,hF,hL⟩ H;have HL5:=hid hL;clear hL)
 have hql:=digs_mono (Nat.div_le_self (val l) (2 ^ k))
 cases neg
 ·generalize decide (val l % 2 ^ k≠0)=lost
  go_wp2_with (first | refine x_q H ?_ | refine x_cm (fun h=> ?_) (fun h=> ?_) | (revert H;refine x_g ?_;intro g w1 hg hf H;(try (have hfk:=hid hf;clear hf))) | (revert H;refine x_s ?_;intro w1 hf H;(try (have hfk:=hid hf;clear hf))))
  (refine x_c H (big_any false (digs (val l / 2 ^ k)) rfl HL5.out) ?_;clear H;rintro e w1 ⟨p6,c6,rfl,hF,hL⟩ H;have HL6:=hid hL;clear hL)
  go_wp2_with (first | refine x_q H ?_ | refine x_cm (fun h=> ?_) (fun h=> ?_) | (revert H;refine x_s2 ?_;intro w1 hf H hk;have hk2:=hid hk;clear hk;(try (have hfk:=hid hf;clear hf))) | (revert H;refine x_g ?_;intro g w1 hg hf H;(try (have hfk:=hid hf;clear hf))) | (revert H;refine x_s ?_;intro w1 hf H;(try (have hfk:=hid hf;clear hf))))
  refine c_postCT H rfl rfl rfl rfl ?_
  have e:zv false (digs (val l / 2 ^ k))=zv false l / 2 ^ k:=(by rw [zv_sg,zv_sg,val_digs,← pow_cast];exact (dm_plain (na:=false) (nb:=false) (A:=val l) h2.out (.inl rfl)).1.symm)
  rw [e] at HL6
  exact ⟨_,rfl,H.fr,p6,c6,by rw [e],hk2.out _ _ _ HL6.out⟩
 ·by_cases hr:val l % 2 ^ k=0
  ·have Hr:=hid hr
   rw [show decide (val l % 2 ^ k≠0)=false by simp [hr]]
   clear hr
   go_wp2_with (first | refine x_q H ?_ | refine x_cm (fun h=> ?_) (fun h=> ?_) | (revert H;refine x_g ?_;intro g w1 hg hf H;(try (have hfk:=hid hf;clear hf))) | (revert H;refine x_s ?_;intro w1 hf H;(try (have hfk:=hid hf;clear hf))))
   (refine x_c H (big_any true (digs (val l / 2 ^ k)) rfl HL5.out) ?_;clear H;rintro e w1 ⟨p6,c6,rfl,hF,hL⟩ H;have HL6:=hid hL;clear hL)
   go_wp2_with (first | refine x_q H ?_ | refine x_cm (fun h=> ?_) (fun h=> ?_) | (revert H;refine x_s2 ?_;intro w1 hf H hk;have hk2:=hid hk;clear hk;(try (have hfk:=hid hf;clear hf))) | (revert H;refine x_g ?_;intro g w1 hg hf H;(try (have hfk:=hid hf;clear hf))) | (revert H;refine x_s ?_;intro w1 hf H;(try (have hfk:=hid hf;clear hf))))
   refine c_postCT H rfl rfl rfl rfl ?_
   have e:zv true (digs (val l / 2 ^ k))=zv true l / 2 ^ k:=(by rw [zv_sg,zv_sg,val_digs,← pow_cast];exact (dm_plain (na:=true) (nb:=false) (A:=val l) h2.out (.inr Hr.out)).1.symm)
   rw [e] at HL6
   exact ⟨_,rfl,H.fr,p6,c6,by rw [e],hk2.out _ _ _ HL6.out⟩
  ·have Hr:=hid hr
   rw [show decide (val l % 2 ^ k≠0)=true by simp [hr]]
   clear hr
   go_wp2_with (first | refine x_q H ?_ | refine x_cm (fun h=> ?_) (fun h=> ?_) | (refine is_buildSlice rfl ?_;refine wl_rw rfl (fun K hK=>c_sN H rfl (by repeat first | exact .nil _ | apply Parts.tmp (by rfl) (by rfl) | apply Parts.con (by rfl)) rfl (by intro c hc;simp only [List.mem_cons,List.not_mem_nil,or_false] at hc;(try (rcases hc with rfl | rfl | rfl | rfl | rfl | rfl | rfl | rfl<;>rfl))) (by decide) (by decide) (fun g w1 hg hf H1=>hK _ _ ?_));(clear hK K);(clear H;have H:=H1;clear H1;(try dsimp only at H);(try (have hfk:=hid hf;clear hf)));(simp only [nrm,↓reduceIte,Nat.reduceAdd])) | (revert H;refine x_g ?_;intro g w1 hg hf H;(try (have hfk:=hid hf;clear hf))) | (revert H;refine x_s ?_;intro w1 hf H;(try (have hfk:=hid hf;clear hf))))
   have HO:=hid (LR.of_blk (l:=[1]) (c:=1) (pad:=[]) (by have:=H.at g;simpa [limbs] using this) (Lim.cons (by decide) Lim.nil) (by simp) (by unfold maxLen;omega))
   (refine x_c H (plus_any (digs (val l / 2 ^ k)) [1] rfl rfl (by omega) (by simp) (HL5.out.fr hfk.out) HO.out) ?_;clear H;rintro e w1 ⟨p3,c3,rfl,hF,hL⟩ H;have HL3:=hid hL;clear hL)
   rw [val_digs,val_one] at HL3 ⊢
   go_wp2_with (first | refine x_q H ?_ | refine x_cm (fun h=> ?_) (fun h=> ?_) | (revert H;refine x_g ?_;intro g w1 hg hf H;(try (have hfk:=hid hf;clear hf))) | (revert H;refine x_s ?_;intro w1 hf H;(try (have hfk:=hid hf;clear hf))))
   (refine x_c H (big_any true (digs (val l / 2 ^ k+1)) rfl HL3.out) ?_;clear H;rintro e w1 ⟨p6,c6,rfl,hF,hL⟩ H;have HL6:=hid hL;clear hL)
   go_wp2_with (first | refine x_q H ?_ | refine x_cm (fun h=> ?_) (fun h=> ?_) | (revert H;refine x_s2 ?_;intro w1 hf H hk;have hk2:=hid hk;clear hk;(try (have hfk:=hid hf;clear hf))) | (revert H;refine x_g ?_;intro g w1 hg hf H;(try (have hfk:=hid hf;clear hf))) | (revert H;refine x_s ?_;intro w1 hf H;(try (have hfk:=hid hf;clear hf))))
   refine c_postCT H rfl rfl rfl rfl ?_
   have e:zv true (digs (val l / 2 ^ k+1))=zv true l / 2 ^ k:=(by rw [zv_sg,zv_sg,val_digs,← pow_cast];exact (dm_down (nb:=false) (A:=val l) h2.out Hr.out).1.symm)
   rw [e] at HL6
   exact ⟨_,rfl,H.fr,p6,c6,by rw [e],hk2.out _ _ _ HL6.out⟩
end Go.Proofs.YtoiebebjgnpkmaaGreatDoor
