import Derived.Test.YtoiebebjgnpkmaaGreatDoorYJ0
import Derived.Test.YtoiebebjgnpkmaaGreatDoorYJ17
import Derived.Deep.DeepCutAuto
import Derived.Deep.CutBlock
namespace Go.Proofs.YtoiebebjgnpkmaaGreatDoor
open Go.RowKit
set_option linter.unusedSimpArgs false
set_option linter.unusedVariables false
set_option maxHeartbeats 4000000
set_option maxRecDepth 100000
theorem over_zeros {U:List Nat} {n ul:Nat} (h:ul≤n+1) (hu:U.length=ul):over (limbs (List.replicate (n+1) 0)) 0 (limbs U)=limbs (U++List.replicate (n+1 - ul) 0):=by
 subst hu
 unfold over limbs
 simp
 try omega
set_option maxHeartbeats 8000000 in
theorem divide_long {w:World} {p q:Option Addr} {n m c d:Nat} (A B:Nat) (hn:(digs A).length=n) (hm:(digs B).length=m) (hn0:n≤400000) (hle:B≤A) (hm1:2≤m) (h:LR w p c (digs A)) (k:LR w q d (digs B)):
 Calls Tryz.prog 230 #[.slice p n c, .slice q m d] w fun e w'=>∃ p1 c1 p2 c2,e= .returned (.tuple #[.slice p1 (digs (A / B)).length c1, .slice p2 (digs (A % B)).length c2])∧Fr [] w w'∧LR w' p1 c1 (digs (A / B))∧LR w' p2 c2 (digs (A % B)):=by
 have hmn:m≤n:=by have:=digs_mono hle;omega
 obtain ⟨mm,hmm⟩:∃ mm,m=mm+1:=⟨m - 1,by omega⟩
 obtain ⟨x,hx⟩:∃ x,(digs B)[mm]? =some x:=⟨_,List.getElem?_eq_getElem (by omega)⟩
 have hxB:=k.lim.at hx
 have hx0:=digs_last B x (by rw [hm,hmm,Nat.add_sub_cancel];exact hx)
 have hb32:=bl_32 hxB
 have HNL:=hid (norm_len (by rw [hm,hmm]) hx)
 have HGE:=hid (norm_ge (by rw [hm,hmm]) hx)
 have hxv:=limbs_at hx
 rw [show mm=((m:Int) - 1).toNat by omega] at hxv
 obtain ⟨b0,off,rfl,hb0,hcell⟩:=k.rd.rng (limbs_ne (i:=0) (by omega))
 have Hh:=hid h
 have Hk:=hid k
 have Hn:=hid hn
 have Hm:=hid hm
 have Hmm:=hid hmm
 have hmm2:mm+1≤n:=by omega
 have hmm1:1≤mm:=by omega
 have hc:=cmpZ_nonneg hle
 obtain ⟨hlc,hcc⟩:=k.clen
 rw [hm] at hlc
 have H:=(Hp.start [] w).pushRng (b:=b0) (off:=off) hb0 (by simp) hcell
 obtain ⟨s,hs⟩:∃ s,32 - bl x=s:=⟨_,rfl⟩
 rw [hs] at HNL HGE
 have hs32:s≤32:=by omega
 have Hs:=hid hs
 clear h k hn hm hle hx hcell hmm hs hx0 hb32
 go_enter Tryz.func230,Tryz.ntmps230
 (revert H;refine Wcade ?_ <;>unhygienic intros)
 (refine x_c H (compare_any A B Hn.out Hm.out (Hh.out.fr H.fr) (Hk.out.fr H.fr)) ?_;clear H;rintro e w1 ⟨rfl,hF⟩ H)
 generalize cmpZ A B=z at hc ⊢
 (revert H;refine Wcade ?_ <;>unhygienic intros)
 (refine x_c H (lead32_any _ hxB) ?_;clear H;rintro e w1 ⟨rfl,hF⟩ H)
 rw [Hs.out]
 (revert H;refine Wcade ?_ <;>unhygienic intros)
 refine Calls.mono (up_any (digs B) s Hm.out (by omega) (by omega) (Hk.out.fr H.fr)) ?_
 rintro e wb ⟨pv,cv,rfl,hF,hL⟩
 rw [val_digs] at hL ⊢
 have HLV:=hid hL
 have Hf0:=hid (H.step hF (by simp)).fr
 have Hh2:=hid (Hh.out.fr Hf0.out)
 obtain ⟨hlv,hcv⟩:=hL.clen
 rw [HNL.out] at hlv
 rw [HNL.out]
 clear H hF hL Hh Hk hb0
 have H:=Hp.start [] wb
 (revert H;refine Wcade ?_ <;>unhygienic intros)
 rw [show ((n:Int)+1).toNat=n+1 by omega,zeros_limbs] at H
 obtain ⟨g0,rfl⟩:∃ g0,g0=g:=⟨g,rfl⟩
 have hg0:=hg.1
 refine Calls.mono (up_any (digs A) s Hn.out (by omega) (by omega) (Hh2.out.fr H.fr)) ?_
 rintro e w2 ⟨pu,cu,rfl,hF,hL⟩
 rw [val_digs] at hL ⊢
 have HLU:=hid hL
 have H1:=H.step hF (by simp)
 clear H hF hL
 have H:=H1
 clear H1
 have HUL:Hid ((digs (A*2 ^ s)).length≤n+1):=hid (by
  apply digs_len_of
  have h1:=digs_lt A
  rw [Hn.out] at h1
  have h2:2 ^ s≤2 ^ 32:=Nat.pow_le_pow_right (by decide) hs32
  rw [Nat.pow_succ]
  exact Nat.lt_of_lt_of_le (Nat.mul_lt_mul_of_pos_right h1 (Nat.two_pow_pos s)) (Nat.mul_le_mul_left _ h2))
 obtain ⟨ul,hul⟩:∃ ul,(digs (A*2 ^ s)).length=ul:=⟨_,rfl⟩
 have hul2:ul≤n+1:=by rw [← hul];exact HUL.out
 have Hul:=hid hul
 rw [hul]
 clear hul
 (revert H;refine W47bb ?_ <;>unhygienic intros)
 rw [show ((n:Int)+1 - ((mm:Int)+1)).toNat=n - mm by omega] at H ⊢
 rw [zeros_limbs,over_zeros hul2 Hul.out] at H
 have hgg:=hg.1
 clear HLU HUL
 have HB:Hid (0<B):=hid (by
  rcases Nat.eq_zero_or_pos B with e | e
  ·have:=Hm.out;rw [e,digs_zero] at this;simp at this;omega
  ·exact e)
 have HVB:Hid (B*2 ^ s≤4294967296 ^ (mm+1)):=hid (by have:=digs_lt (B*2 ^ s);rw [HNL.out] at this;exact Nat.le_of_lt this)
 have Hne:Hid (∀ b off,pv=some ⟨b,off,none⟩→b≠g0):=hid (by
  intro b off hb
  obtain ⟨b',off',e1,e2,_⟩:=HLV.out.rd.rng (limbs_ne (i:=0) (by rw [HNL.out];omega))
  rw [hb] at e1
  cases e1
  omega)
 have hlong:=long_first (s:=s) (ul:=ul) (mm:=mm) (B:=B) (by have h1:=digs_lt A;rwa [Hn.out] at h1) hul2 Hul.out hmm2 HGE.out
 go_loopw [12] (fun s12 wr=>∃ (i:Nat) (l o:List Nat),i≤n - mm∧s12= .int .i64 ((i:Int) - 1)∧Long (B*2 ^ s) (mm+1) n (digs (A*2 ^ s)++List.replicate (n+1 - ul) 0) i l o∧Hp [] wb wr [.blk g (limbs o) 162, .blk g0 (limbs l) 162]) (fun v _ =>(intOf v+1).toNat)
 case atStart=>exact ⟨n - mm,_,_,Nat.le_refl _,by go_num,hlong,H⟩
 case round=>
  clear H
  obtain ⟨i,l,o,hi,rfl,HLo,H⟩:=hrel
  by_cases h0:i=0
  ·have h0':(i:Int) - 1<0:=by omega
   (revert H;refine Wcade ?_ <;>unhygienic intros)
   have hll:=HLo.hl
   have hol:=HLo.ol
   rw [h0] at HLo
   obtain ⟨hq,hr⟩:=HLo.whole HB.out hmm2
   have htl:(l.take (mm+1)).length=mm+1:=by rw [List.length_take];omega
   have hL:=LR.of_blk (w:=wr) (g:=g0) (c:=n+1) (l:=l.take (mm+1)) (pad:=limbs (l.drop (mm+1))) (by rw [limbs_app,List.take_append_drop];exact H.at g0) (HLo.lim.take _) (by omega) (by unfold maxLen;omega)
   have hL2:=LR.of_blk (w:=wr) (g:=g) (c:=n - mm) (l:=o) (pad:=[]) (by rw [List.append_nil];exact H.at g) HLo.olim (by omega) (by unfold maxLen;omega)
   have HL:=hid hL
   have HL2:=hid hL2
   have Hq:=hid hq
   have Hr:=hid hr
   have Hol:=hid (show o.length=n - mm by omega)
   clear hL hL2 hq hr hol hll
   refine Calls.mono (trim_any _ htl HL.out) ?_
   rintro e w1 ⟨rfl,hF⟩
   have HL3:=hid (HL.out.fr hF).trim
   replace HL2:=hid (HL2.out.fr hF)
   have H1:=H.step hF (by simp)
   clear H hF htl
   have H:=H1
   clear H1
   have hdl:(digs (val (l.take (mm+1)))).length≤2000000:=by
    have h1:=digs_len_le (HLo.lim.take (mm+1))
    have h2:=HLo.hl
    rw [List.length_take] at h1
    omega
   (revert H;refine Wcade ?_ <;>unhygienic intros)
   refine Calls.mono (down_any _ s rfl hdl (by omega) HL3.out) ?_
   rintro e w1 ⟨p5,c5,rfl,hF,hL⟩
   have HL5:=hid hL
   replace HL2:=hid (HL2.out.fr hF)
   have H1:=H.step hF (by simp)
   clear H hF hL
   have H:=H1
   clear H1
   rw [Hr.out] at HL5 ⊢
   (revert H;refine Wcade ?_ <;>unhygienic intros)
   refine Calls.mono (trim_any o Hol.out HL2.out) ?_
   rintro e w1 ⟨rfl,hF⟩
   replace HL5:=hid (HL5.out.fr hF)
   replace HL2:=hid (HL2.out.fr hF).trim
   have H1:=H.step hF (by simp)
   clear H hF
   have H:=H1
   clear H1
   rw [Hq.out] at HL2 ⊢
   (revert H;refine Wcade ?_ <;>unhygienic intros)
   refine bodyPost_ret (results_tmp2 rfl _ _ _) rfl ?_
   exact ⟨_,_,p5,c5,rfl,Hf0.out.trans H.fr,HL2.out,HL5.out⟩
  ·obtain ⟨j,rfl⟩:∃ j,i=j+1:=⟨i - 1,by omega⟩
   have e1:(((j+1:Nat):Int) - 1)=(j:Int):=by omega
   rw [e1]
   clear e1 h0
   have hjm:j+(mm+1)≤n:=by omega
   obtain ⟨hcut,c1,c2,c3,c4,c5⟩:=HLo.cut hjm
   have Hcut:=hid hcut
   have C1:=hid c1
   have C2:=hid c2
   have C4:=hid c4
   clear hcut c1 c2 c4
   (revert H;refine Wcade ?_ <;>unhygienic intros)
   rw [show j+(mm+1)+1 - j=mm+1+1 by omega]
   refine Calls.mono (digit_any (pre:=l.take j) (seg:=(l.drop j).take (mm+1+1)) (post:=l.drop (j+(mm+1+1))) (v:=digs (B*2 ^ s)) (by rw [← Hcut.out];exact H.at g0) C1.out C2.out HNL.out (by omega) (by omega) (by omega) (by omega) (by omega) c3 (by rw [val_digs];exact c5) (HLV.out.fr H.fr) Hne.out (fun hv=>digs_last (B*2 ^ s) 0 (by rw [HNL.out];exact hv) rfl)) ?_
   rintro e w1 ⟨sg,rfl,hF,k1,k2,k3,hgw⟩
   rw [val_digs] at k3 ⊢
   have HN:=HLo.next hjm HVB.out k1 k2 k3
   generalize val ((l.drop j).take (mm+1+1)) / (B*2 ^ s)=qd at HN ⊢
   have H1:=H.wrote hF hgw
   clear H hF k3 hgw
   have H:=H1
   clear H1
   have hjo:j<o.length:=by have:=HLo.ol;omega
   have K1:=hid k1
   clear k1
   (revert H;refine Wcade ?_ <;>unhygienic intros)
   rw [limbs_set] at H
   go_roundw
   case rel=>exact ⟨j,_,_,by omega,rfl,HN,H⟩
   case measure=>(simp [intOf];try omega)
theorem divide_any {w:World} {p q:Option Addr} {n m c d:Nat} (A B:Nat) (hn:(digs A).length=n) (hm:(digs B).length=m) (hn0:n≤400000) (hB:B≠0) (h:LR w p c (digs A)) (k:LR w q d (digs B)):
 Calls Tryz.prog 230 #[.slice p n c, .slice q m d] w fun e w'=>∃ p1 c1 p2 c2,e= .returned (.tuple #[.slice p1 (digs (A / B)).length c1, .slice p2 (digs (A % B)).length c2])∧Fr [] w w'∧LR w' p1 c1 (digs (A / B))∧LR w' p2 c2 (digs (A % B)):=by
 rcases Nat.lt_or_ge A B with h1 | h1
 ·exact divide_less A B hn hm (by omega) h1 h k
 ·have:=digs_len_pos hB
  by_cases h2:m=1
  ·exact divide_one A B hn hm (by omega) h1 h2 h k
  ·exact divide_long A B hn hm hn0 h1 (by omega) h k
end Go.Proofs.YtoiebebjgnpkmaaGreatDoor
namespace Go.Proofs.YtoiebebjgnpkmaaGreatDoor
open Go.RowKit
set_option linter.unusedSimpArgs false
set_option linter.unusedVariables false
set_option maxHeartbeats 4000000
set_option maxRecDepth 100000
set_option maxHeartbeats 8000000 in
theorem divMod_any {w:World} {p q:Option Addr} {n m c d:Nat} (na nb:Bool) (la lb:List Nat) (hn:la.length=n) (hm:lb.length=m) (hn0:n≤400000) (hm0:m≤400000) (h:LR w p c la) (k:LR w q d lb) (hb:val lb≠0):
 Calls Tryz.prog 187 #[.agg #[.bool na, .slice p n c], .agg #[.bool nb, .slice q m d]] w fun e w'=>∃ v1 v2,e= .returned (.tuple #[v1,v2, .int .i64 0])∧Fr [] w w'∧BigV w' v1 (zv na la / zv nb lb)∧BigV w' v2 (zv na la % zv nb lb):=by
 subst hn hm
 have Hh:=hid h
 have Hk:=hid k
 have hla:=digs_len_le h.lim
 have hlb:=digs_len_le k.lim
 have hy0:0<(digs (val lb)).length:=digs_len_pos hb
 have Hb:=hid hb
 have H:=Hp.start [] w
 have hA:=hid (h.trim)
 have hB:=hid (k.trim)
 clear h k hb
 go_enter Tryz.func187,Tryz.ntmps187
 go_wp2_with (first | refine x_q H ?_ | refine x_cm (fun h=> ?_) (fun h=> ?_) | (revert H;refine x_g ?_;intro g w1 hg hf H;(try (have hfk:=hid hf;clear hf))) | (revert H;refine x_s ?_;intro w1 hf H;(try (have hfk:=hid hf;clear hf))))
 (refine x_c H (trim_any lb rfl (Hk.out.fr H.fr)) ?_;clear H;rintro e w1 ⟨rfl,hF⟩ H)
 go_wp2_with (first | refine x_q H ?_ | refine x_cm (fun h=> ?_) (fun h=> ?_) | (revert H;refine x_g ?_;intro g w1 hg hf H;(try (have hfk:=hid hf;clear hf))) | (revert H;refine x_s ?_;intro w1 hf H;(try (have hfk:=hid hf;clear hf))))
 (refine x_c H (trim_any la rfl (Hh.out.fr H.fr)) ?_;clear H;rintro e w1 ⟨rfl,hF⟩ H)
 go_wp2_with (first | refine x_q H ?_ | refine x_cm (fun h=> ?_) (fun h=> ?_) | (revert H;refine x_g ?_;intro g w1 hg hf H;(try (have hfk:=hid hf;clear hf))) | (revert H;refine x_s ?_;intro w1 hf H;(try (have hfk:=hid hf;clear hf))))
 (refine x_c H (divide_any (val la) (val lb) rfl rfl (by omega) Hb.out (hA.out.fr H.fr) (hB.out.fr H.fr)) ?_;clear H;rintro e w1 ⟨p1,c1,p2,c2,rfl,hF,hL1,hL2⟩ H;have HL1:=hid hL1;have HL2:=hid hL2;clear hL1 hL2)
 cases na
 ·go_wp2_with (first | refine x_q H ?_ | refine x_cm (fun h=> ?_) (fun h=> ?_) | (revert H;refine x_g ?_;intro g w1 hg hf H;(try (have hfk:=hid hf;clear hf))) | (revert H;refine x_s ?_;intro w1 hf H;(try (have hfk:=hid hf;clear hf))))
  go_wp2_with (first | refine x_q H ?_ | refine x_cm (fun h=> ?_) (fun h=> ?_) | (revert H;refine x_g ?_;intro g w1 hg hf H;(try (have hfk:=hid hf;clear hf))) | (revert H;refine x_s ?_;intro w1 hf H;(try (have hfk:=hid hf;clear hf))))
  (refine x_c H (big_any nb (digs (val la / val lb)) rfl HL1.out) ?_;clear H;rintro e w1 ⟨p6,c6,rfl,hF,hL⟩ H;have HL6:=hid hL;clear hL;have HR1:=hid ((HL2.out).fr hF))
  go_wp2_with (first | refine x_q H ?_ | refine x_cm (fun h=> ?_) (fun h=> ?_) | (revert H;refine x_g ?_;intro g w1 hg hf H;(try (have hfk:=hid hf;clear hf))) | (revert H;refine x_s ?_;intro w1 hf H;(try (have hfk:=hid hf;clear hf))))
  (refine x_c H (big_any false (digs (val la % val lb)) rfl HR1.out) ?_;clear H;rintro e w1 ⟨p7,c7,rfl,hF,hL⟩ H;have HL7:=hid hL;clear hL;have HL8:=hid (HL6.out.fr hF))
  go_wp2_with (first | refine x_q H ?_ | refine x_cm (fun h=> ?_) (fun h=> ?_) | (revert H;refine x_s2 ?_;intro w1 hf H hk;(first | (have hk4:=hid (fun p c l h=>hk p c l (hk2.out p c l h));clear hk) | (have hk2:=hid hk;clear hk));(try (have hfk:=hid hf;clear hf))) | (revert H;refine x_g ?_;intro g w1 hg hf H;(try (have hfk:=hid hf;clear hf))) | (revert H;refine x_s ?_;intro w1 hf H;(try (have hfk:=hid hf;clear hf))))
  refine c_postCCT H rfl rfl rfl rfl rfl rfl ?_
  have e1:zv nb (digs (val la / val lb))=zv false la / zv nb lb:=(by rw [zv_sg,zv_sg,zv_sg,val_digs];have e:=(dm_plain (na:=false) (nb:=nb) (A:=val la) Hb.out (.inl rfl)).1.symm;cases nb<;>exact e)
  have e2:zv false (digs (val la % val lb))=zv false la % zv nb lb:=(by rw [zv_sg,zv_sg,zv_sg,val_digs];exact (dm_plain (na:=false) (nb:=nb) (A:=val la) Hb.out (.inl rfl)).2.symm)
  rw [e1] at HL8
  rw [e2] at HL7
  refine ⟨_,_,rfl,H.fr,⟨p6,c6,by rw [e1],hk4.out _ _ _ HL8.out⟩,⟨p7,c7,by rw [e2],hk4.out _ _ _ HL7.out⟩⟩
 ·by_cases hr:val la % val lb=0
  ·have hr0:(digs (val la % val lb)).length≤0:=by rw [hr,digs_zero];exact Nat.le_refl _
   have Hr:=hid hr
   clear hr
   go_wp2_with (first | refine x_q H ?_ | refine x_cm (fun h=> ?_) (fun h=> ?_) | (revert H;refine x_g ?_;intro g w1 hg hf H;(try (have hfk:=hid hf;clear hf))) | (revert H;refine x_s ?_;intro w1 hf H;(try (have hfk:=hid hf;clear hf))))
   go_wp2_with (first | refine x_q H ?_ | refine x_cm (fun h=> ?_) (fun h=> ?_) | (revert H;refine x_g ?_;intro g w1 hg hf H;(try (have hfk:=hid hf;clear hf))) | (revert H;refine x_s ?_;intro w1 hf H;(try (have hfk:=hid hf;clear hf))))
   (refine x_c H (big_any (!nb) (digs (val la / val lb)) rfl HL1.out) ?_;clear H;rintro e w1 ⟨p6,c6,rfl,hF,hL⟩ H;have HL6:=hid hL;clear hL;have HR1:=hid ((HL2.out).fr hF))
   go_wp2_with (first | refine x_q H ?_ | refine x_cm (fun h=> ?_) (fun h=> ?_) | (revert H;refine x_g ?_;intro g w1 hg hf H;(try (have hfk:=hid hf;clear hf))) | (revert H;refine x_s ?_;intro w1 hf H;(try (have hfk:=hid hf;clear hf))))
   (refine x_c H (big_any false (digs (val la % val lb)) rfl HR1.out) ?_;clear H;rintro e w1 ⟨p7,c7,rfl,hF,hL⟩ H;have HL7:=hid hL;clear hL;have HL8:=hid (HL6.out.fr hF))
   go_wp2_with (first | refine x_q H ?_ | refine x_cm (fun h=> ?_) (fun h=> ?_) | (revert H;refine x_s2 ?_;intro w1 hf H hk;(first | (have hk4:=hid (fun p c l h=>hk p c l (hk2.out p c l h));clear hk) | (have hk2:=hid hk;clear hk));(try (have hfk:=hid hf;clear hf))) | (revert H;refine x_g ?_;intro g w1 hg hf H;(try (have hfk:=hid hf;clear hf))) | (revert H;refine x_s ?_;intro w1 hf H;(try (have hfk:=hid hf;clear hf))))
   refine c_postCCT H rfl rfl rfl rfl rfl rfl ?_
   have e1:zv (!nb) (digs (val la / val lb))=zv true la / zv nb lb:=(by rw [zv_sg,zv_sg,zv_sg,val_digs];have e:=(dm_plain (na:=true) (nb:=nb) (A:=val la) Hb.out (.inr Hr.out)).1.symm;cases nb<;>exact e)
   have e2:zv false (digs (val la % val lb))=zv true la % zv nb lb:=(by rw [zv_sg,zv_sg,zv_sg,val_digs];exact (dm_plain (na:=true) (nb:=nb) (A:=val la) Hb.out (.inr Hr.out)).2.symm)
   rw [e1] at HL8
   rw [e2] at HL7
   refine ⟨_,_,rfl,H.fr,⟨p6,c6,by rw [e1],hk4.out _ _ _ HL8.out⟩,⟨p7,c7,by rw [e2],hk4.out _ _ _ HL7.out⟩⟩
  ·have hr0:0<(digs (val la % val lb)).length:=digs_len_pos hr
   have Hr:=hid hr
   have hrl:=digs_mono (Nat.le_of_lt (Nat.mod_lt (val la) (Nat.pos_of_ne_zero Hb.out)))
   have hql:=digs_mono (Nat.div_le_self (val la) (val lb))
   have hrB:=hid (Nat.le_of_lt (Nat.mod_lt (val la) (Nat.pos_of_ne_zero Hb.out)))
   clear hr
   go_wp2_with (first | refine x_q H ?_ | refine x_cm (fun h=> ?_) (fun h=> ?_) | (revert H;refine x_g ?_;intro g w1 hg hf H;(try (have hfk:=hid hf;clear hf))) | (revert H;refine x_s ?_;intro w1 hf H;(try (have hfk:=hid hf;clear hf))))
   have HO:=hid (LR.of_blk (l:=[1]) (c:=1) (pad:=[]) (by have:=H.at g;simpa [limbs] using this) (Lim.cons (by decide) Lim.nil) (by simp) (by unfold maxLen;omega))
   (refine x_c H (plus_any (digs (val la / val lb)) [1] rfl rfl (by omega) (by simp) (HL1.out.fr hfk.out) HO.out) ?_;clear H;rintro e w1 ⟨p3,c3,rfl,hF,hL⟩ H;have HL3:=hid hL;have HR1:=hid ((HL2.out.fr hfk.out).fr hF);clear hL)
   rw [val_digs,val_one] at HL3 ⊢
   go_wp2_with (first | refine x_q H ?_ | refine x_cm (fun h=> ?_) (fun h=> ?_) | (revert H;refine x_g ?_;intro g w1 hg hf H;(try (have hfk:=hid hf;clear hf))) | (revert H;refine x_s ?_;intro w1 hf H;(try (have hfk:=hid hf;clear hf))))
   (refine x_c H (minus_any (digs (val lb)) (digs (val la % val lb)) rfl rfl hrl (by omega) (by rw [val_digs,val_digs];exact hrB.out) (hB.out.fr H.fr) HR1.out) ?_;clear H;rintro e w1 ⟨p4,c4,rfl,hF,hL⟩ H;have HL4:=hid hL;have HL5:=hid (HL3.out.fr hF);clear hL)
   rw [val_digs,val_digs] at HL4 ⊢
   go_wp2_with (first | refine x_q H ?_ | refine x_cm (fun h=> ?_) (fun h=> ?_) | (revert H;refine x_g ?_;intro g w1 hg hf H;(try (have hfk:=hid hf;clear hf))) | (revert H;refine x_s ?_;intro w1 hf H;(try (have hfk:=hid hf;clear hf))))
   go_wp2_with (first | refine x_q H ?_ | refine x_cm (fun h=> ?_) (fun h=> ?_) | (revert H;refine x_g ?_;intro g w1 hg hf H;(try (have hfk:=hid hf;clear hf))) | (revert H;refine x_s ?_;intro w1 hf H;(try (have hfk:=hid hf;clear hf))))
   (refine x_c H (big_any (!nb) (digs (val la / val lb+1)) rfl HL5.out) ?_;clear H;rintro e w1 ⟨p6,c6,rfl,hF,hL⟩ H;have HL6:=hid hL;clear hL;have HR1:=hid ((HL4.out).fr hF))
   go_wp2_with (first | refine x_q H ?_ | refine x_cm (fun h=> ?_) (fun h=> ?_) | (revert H;refine x_g ?_;intro g w1 hg hf H;(try (have hfk:=hid hf;clear hf))) | (revert H;refine x_s ?_;intro w1 hf H;(try (have hfk:=hid hf;clear hf))))
   (refine x_c H (big_any false (digs (val lb - val la % val lb)) rfl HR1.out) ?_;clear H;rintro e w1 ⟨p7,c7,rfl,hF,hL⟩ H;have HL7:=hid hL;clear hL;have HL8:=hid (HL6.out.fr hF))
   go_wp2_with (first | refine x_q H ?_ | refine x_cm (fun h=> ?_) (fun h=> ?_) | (revert H;refine x_s2 ?_;intro w1 hf H hk;(first | (have hk4:=hid (fun p c l h=>hk p c l (hk2.out p c l h));clear hk) | (have hk2:=hid hk;clear hk));(try (have hfk:=hid hf;clear hf))) | (revert H;refine x_g ?_;intro g w1 hg hf H;(try (have hfk:=hid hf;clear hf))) | (revert H;refine x_s ?_;intro w1 hf H;(try (have hfk:=hid hf;clear hf))))
   refine c_postCCT H rfl rfl rfl rfl rfl rfl ?_
   have e1:zv (!nb) (digs (val la / val lb+1))=zv true la / zv nb lb:=(by rw [zv_sg,zv_sg,zv_sg,val_digs];have e:=(dm_down (nb:=nb) (A:=val la) Hb.out Hr.out).1.symm;cases nb<;>exact e)
   have e2:zv false (digs (val lb - val la % val lb))=zv true la % zv nb lb:=(by rw [zv_sg,zv_sg,zv_sg,val_digs];exact (dm_down (nb:=nb) (A:=val la) Hb.out Hr.out).2.symm)
   rw [e1] at HL8
   rw [e2] at HL7
   refine ⟨_,_,rfl,H.fr,⟨p6,c6,by rw [e1],hk4.out _ _ _ HL8.out⟩,⟨p7,c7,by rw [e2],hk4.out _ _ _ HL7.out⟩⟩
end Go.Proofs.YtoiebebjgnpkmaaGreatDoor
