import Derived.Test.YtoiebebjgnpkmaaGreatDoorYJ0
import Derived.Test.YtoiebebjgnpkmaaGreatDoorYJ23
namespace Go.Proofs.YtoiebebjgnpkmaaGreatDoor
open Go.RowKit
set_option linter.unusedSimpArgs false
set_option linter.unusedVariables false
set_option maxHeartbeats 8000000
set_option maxRecDepth 100000
attribute [local irreducible] wpList Code.wp Plan.wp
theorem trimPre_any (w:World) (s:List UInt8):Calls Tryz.prog 110 #[strV s, .string (ByteArray.mk #[44])] w fun e w'=>e= .returned (strV (Lib.trimPrefix s [44]))∧Fr [] w w':=by
 refine Calls.mono (Tryz.strings_TrimPrefix ⟨s.toArray⟩ ⟨#[44]⟩ w) ?_
 rintro e w' ⟨rfl,rfl⟩
 exact ⟨by rw [ba_lst];rfl,Fr.refl _ _⟩
theorem asc_cut {s x y:List UInt8} {b:Bool} (h:Lib.cut s [46]=(x,y,b)):x.length≤s.length∧y.length≤s.length:=by
 unfold Lib.cut at h
 split at h
 ·cases h
  exact ⟨by rw [List.length_take];omega,by rw [List.length_drop];omega⟩
 ·cases h
  exact ⟨Nat.le_refl _,Nat.zero_le _⟩
def DecR (o:Option Lay) (w:World) (e:Ending) (w':World):Prop:=
 Fr [] w w'∧∃ (f:Lay) (b:Bool),e= .returned (.tuple #[.agg #[.int .i64 (f.count:Int), .int .i64 (f.width:Int), .int .i64 (f.point:Int), .int .i64 (f.scale:Int)], .bool b])∧(∀ g,o=some g→f=g∧b=true)∧(o=none→b=false)
theorem decp1_c {sc:Nat} {s:List UInt8} (h:countedP s [69,68,70]=none):decP1 sc s=none:=by unfold decP1;rw [h]
theorem decp1_p {sc c:Nat} {s t x y:List UInt8} (h:countedP s [69,68,70]=some (c,t)) (h2:Lib.cut t [46]=(x,y,false)):decP1 sc s=none:=by unfold decP1;rw [h];simp [h2]
theorem decp1_s {sc c:Nat} {s t x y:List UInt8} (h:countedP s [69,68,70]=some (c,t)) (h2:Lib.cut t [46]=(x,y,true)) (h3:shortP x=none∨shortP y=none):decP1 sc s=none:=by
 unfold decP1
 rw [h]
 simp only [h2,if_true]
 rcases h3 with h3 | h3
 ·rw [h3]
 ·rw [h3];cases shortP x<;>rfl
theorem decp1_e {sc c wd p:Nat} {s t x y:List UInt8} {b:Bool} (h:countedP s [69,68,70]=some (c,t)) (h2:Lib.cut t [46]=(x,y,true)) (h3:shortP x=some wd) (h4:shortP y=some p) (h5:soundP ⟨c,wd,p,sc⟩=b):decP1 sc s=if b then some ⟨c,wd,p,sc⟩ else none:=by
 unfold decP1
 rw [h]
 simp only [h2,if_true,h3,h4,h5]
set_option maxHeartbeats 64000000 in
theorem decimals_any (w:World) (s:List UInt8) (hs:s.length≤4000000) (ha:asc s=true) {o:Option Lay} (ho:Hid (decP s=o)):
 Calls Tryz.prog 65 #[strV s] w (DecR o w):=by
 have H:=Hp.start [] w
 have HA:=hid ha
 clear ha
 go_enter Tryz.func65,Tryz.ntmps65
 (revert H;refine W02cb ?_ <;>unhygienic intros)
 (refine x_c H (inner_any _ s hs) ?_;clear H;rintro e w1 ⟨r,b',rfl,hF,ht,hn,hrl⟩ H;clear hF)
 cases b' with
 | false=>
  have HO:=hid (show o=none by rw [← ho.out];unfold decP;rw [hn rfl])
  clear ht hn
  (revert H;refine W02cb ?_ <;>unhygienic intros)
  (refine c_postCT H rfl rfl rfl rfl ?_;exact ⟨H.fr,⟨0,0,0,0⟩,false,rfl,(fun g h=>by rw [HO.out] at h;cases h),fun _ =>rfl⟩)
 | true=>
  have hI:=ht rfl
  have HAR:=hid (asc_inner HA.out hI)
  have HD:=hid (show o=if 1<r.length∧r[1]? =some 80 then (if (dgts (r.take 1)).2=true then decP1 (dgts (r.take 1)).1 (Lib.trimPrefix (r.drop 2) [44]) else none) else decP1 0 r by
   rw [← ho.out];unfold decP;rw [hI])
  clear ht hn hI
  rcases Nat.lt_or_ge 1 r.length with h1 | h1
  ·obtain ⟨x,hx⟩:∃ x,r[1]? =some x:=⟨_,List.getElem?_eq_getElem h1⟩
   obtain ⟨n,hxn⟩:∃ n,x.toNat=n:=⟨_,rfl⟩
   by_cases h80:n=80
   ·have HX:=hid (show x=80 by apply UInt8.toNat_inj.1;rw [hxn,h80];rfl)
    obtain ⟨d,b2,hd⟩:∃ d b2,dgts (r.take 1)=(d,b2):=⟨_,_,rfl⟩
    have hd9:d≤9:=by have:=dgts_one (s:=r.take 1) (by rw [List.length_take];omega);rw [hd] at this;exact this
    obtain ⟨u,hu⟩:∃ u,Lib.trimPrefix (r.drop 2) [44]=u:=⟨_,rfl⟩
    have hul:u.length≤r.length:=by
     rw [← hu];unfold Lib.trimPrefix
     split
     ·rw [List.length_drop,List.length_drop];omega
     ·rw [List.length_drop];omega
    have HAU:=hid (show asc u=true by rw [← hu];exact asc_trimPrefix (asc_drop HAR.out 2))
    have HD1:=hid (show o=if b2=true then decP1 d u else none by rw [HD.out,if_pos ⟨h1,by rw [hx,HX.out]⟩,hd,hu])
    have HDG:=hid hd
    have HU:=hid hu
    have HR1:=hid (show r.take (1:Int).toNat=r.take 1 from rfl)
    have HR2:=hid (show r.drop (2:Int).toNat=r.drop 2 from rfl)
    subst h80
    clear hd hu HD HX
    (revert H;refine W4f78 ?_ <;>unhygienic intros)
    (refine x_c H (digits_any _ (r.take 1) (by rw [List.length_take];omega) HDG) ?_;clear H;rintro e w1 ⟨rfl,hF⟩ H;clear hF)
    cases b2 with
    | false=>
     have HO:=hid (show o=none by rw [HD1.out];rfl)
     clear HD1
     (revert H;refine W02cb ?_ <;>unhygienic intros)
     (refine c_postCT H rfl rfl rfl rfl ?_;exact ⟨H.fr,⟨0,0,0,0⟩,false,rfl,(fun g h=>by rw [HO.out] at h;cases h),fun _ =>rfl⟩)
    | true=>
     have HDD:=hid (show o=decP1 d u by rw [HD1.out];rfl)
     clear HD1
     (revert H;refine Wcd10 ?_ <;>unhygienic intros)
     (refine x_c H (trimPre_any _ (r.drop 2)) ?_;clear H;rintro e w1 ⟨rfl,hF⟩ H;clear hF)
     rw [HU.out]
     clear hx hxn h1 HR1 HR2 HDG HU
     (revert H;refine W02cb ?_ <;>unhygienic intros)
     (refine x_c H (counted_any _ u [69,68,70] (by omega) (by decide) HAU.out (by decide)) ?_;clear H;rintro e w1 ⟨c,t,b3,rfl,hF,ht,hn,htl,hta⟩ H;clear hF)
     cases b3 with
     | false=>
      have HO:=hid (show o=none by rw [HDD.out];exact decp1_c (hn rfl))
      clear ht hn
      (revert H;refine W02cb ?_ <;>unhygienic intros)
      (refine c_postCT H rfl rfl rfl rfl ?_;exact ⟨H.fr,⟨0,0,0,0⟩,false,rfl,(fun g h=>by rw [HO.out] at h;cases h),fun _ =>rfl⟩)
     | true=>
      have hc:=ht rfl
      have hc9:=counted_le hc
      have HC:=hid hc
      clear ht hn hc
      obtain ⟨x,y,b4,hcut⟩:∃ x y b4,Lib.cut t [46]=(x,y,b4):=⟨_,_,_,rfl⟩
      obtain ⟨hxl,hyl⟩:=asc_cut hcut
      have HCUT:=hid hcut
      clear hcut
      (revert H;refine W02cb ?_ <;>unhygienic intros)
      (refine x_c H (cut_any _ t (by omega) HCUT) ?_;clear H;rintro e w1 ⟨rfl,hF⟩ H;clear hF)
      cases b4 with
      | false=>
       have HO:=hid (show o=none by rw [HDD.out];exact decp1_p HC.out HCUT.out)
       (revert H;refine W02cb ?_ <;>unhygienic intros)
       (refine c_postCT H rfl rfl rfl rfl ?_;exact ⟨H.fr,⟨0,0,0,0⟩,false,rfl,(fun g h=>by rw [HO.out] at h;cases h),fun _ =>rfl⟩)
      | true=>
       (revert H;refine W02cb ?_ <;>unhygienic intros)
       (refine x_c H (shortB_any _ x (by omega)) ?_;clear H;rintro e w1 ⟨wd,b5,rfl,hF,ht5,hn5⟩ H;clear hF)
       have HT5:=hid ht5
       have HN5:=hid hn5
       clear ht5 hn5
       (revert H;refine W02cb ?_ <;>unhygienic intros)
       (refine x_c H (shortB_any _ y (by omega)) ?_;clear H;rintro e w1 ⟨p,b6,rfl,hF,ht6,hn6⟩ H;clear hF)
       have HT6:=hid ht6
       have HN6:=hid hn6
       clear ht6 hn6
       cases b5 with
       | false=>
        have HO:=hid (show o=none by rw [HDD.out];exact decp1_s HC.out HCUT.out (.inl (HN5.out rfl)))
        go_upto_region 19 with (first | refine x_q H ?_ | refine x_cm (fun h=> ?_) (fun h=> ?_) | refine x_l H ?_ | (revert H;(first | (refine x_s ?_;intro w1 hf H;(first | replace hf:=hf.kp | clear hf)) | (refine x_sF ?_;intro w1 hf H hk;clear hf hk))))
        (revert H;refine w_p 11 (.st 0 (.st 1 (.st 2 (.st 3 (.st 4 (.st 5 (.st 6 (.ld 7 (.st 8 (.ld 9 (.st 10 .done))))))))))) ?_ (hs:=(.cons_cons _ (List.nil_sublist _)));intro w1 H)
        iterate 3 refine p_q ?_
        (first | refine p_q ?_ | refine p_n ?_)
        iterate 2 refine p_q ?_
        (first | refine p_q ?_ | refine p_n ?_)
        (refine pl_ldno rfl rfl (fun _ =>H.sub (by repeat first | exact List.Sublist.refl _ | exact List.nil_sublist _ | apply List.Sublist.cons_cons | apply List.Sublist.cons)) ?_;(simp only [nrm,↓reduceIte,Nat.reduceAdd]))
        refine p_q ?_
        (revert H;refine p_sF ?_;intro w1 hf H hk;clear hf hk)
        refine p_q ?_
        (refine pl_done ?_)
        (revert H;refine W02cb ?_ <;>unhygienic intros)
        refine c_postCT H rfl rfl rfl rfl ?_
        exact ⟨H.fr,⟨c,wd,p,d⟩,false,rfl,(fun g h=>by rw [HO.out] at h;cases h),fun _ =>rfl⟩
       | true=>
        cases b6 with
        | false=>
         have HO:=hid (show o=none by rw [HDD.out];exact decp1_s HC.out HCUT.out (.inr (HN6.out rfl)))
         go_upto_region 19 with (first | refine x_q H ?_ | refine x_cm (fun h=> ?_) (fun h=> ?_) | refine x_l H ?_ | (revert H;(first | (refine x_s ?_;intro w1 hf H;(first | replace hf:=hf.kp | clear hf)) | (refine x_sF ?_;intro w1 hf H hk;clear hf hk))))
         (revert H;refine w_p 11 (.st 0 (.st 1 (.st 2 (.st 3 (.st 4 (.st 5 (.st 6 (.ld 7 (.st 8 (.ld 9 (.st 10 .done))))))))))) ?_ (hs:=(.cons_cons _ (List.nil_sublist _)));intro w1 H)
         iterate 3 refine p_q ?_
         (first | refine p_q ?_ | refine p_n ?_)
         iterate 2 refine p_q ?_
         (first | refine p_q ?_ | refine p_n ?_)
         (refine pl_ldno rfl rfl (fun _ =>H.sub (by repeat first | exact List.Sublist.refl _ | exact List.nil_sublist _ | apply List.Sublist.cons_cons | apply List.Sublist.cons)) ?_;(simp only [nrm,↓reduceIte,Nat.reduceAdd]))
         refine p_q ?_
         (revert H;refine p_sF ?_;intro w1 hf H hk;clear hf hk)
         refine p_q ?_
         (refine pl_done ?_)
         (revert H;refine W02cb ?_ <;>unhygienic intros)
         refine c_postCT H rfl rfl rfl rfl ?_
         exact ⟨H.fr,⟨c,wd,p,d⟩,false,rfl,(fun g h=>by rw [HO.out] at h;cases h),fun _ =>rfl⟩
        | true=>
         have hw9:=short_le (HT5.out rfl)
         obtain ⟨b7,hb7⟩:∃ b7,soundP ⟨c,wd,p,d⟩=b7:=⟨_,rfl⟩
         have HO:=hid (show o=if b7 then some ⟨c,wd,p,d⟩ else none by rw [HDD.out];exact decp1_e HC.out HCUT.out (HT5.out rfl) (HT6.out rfl) hb7)
         have HB7:=hid hb7
         clear hb7
         go_upto_region 19 with (first | refine x_q H ?_ | refine x_cm (fun h=> ?_) (fun h=> ?_) | refine x_l H ?_ | (revert H;(first | (refine x_s ?_;intro w1 hf H;(first | replace hf:=hf.kp | clear hf)) | (refine x_sF ?_;intro w1 hf H hk;clear hf hk))))
         (revert H;refine w_p 11 (.st 0 (.st 1 (.st 2 (.st 3 (.st 4 (.st 5 (.st 6 (.ld 7 (.st 8 (.ld 9 (.st 10 .done))))))))))) ?_ (hs:=(.cons_cons _ (List.nil_sublist _)));intro w1 H)
         iterate 3 refine p_q ?_
         (first | refine p_q ?_ | refine p_n ?_)
         iterate 2 refine p_q ?_
         (first | refine p_q ?_ | refine p_n ?_)
         (refine p_c H rfl rfl Tryz.func108 (sound_any _ c wd _ _ hc9 hw9 HB7) ?_;clear H;rintro e w1 ⟨rfl,hF⟩ H;refine p_r ?_;clear hF)
         refine p_q ?_
         (revert H;refine p_sF ?_;intro w1 hf H hk;clear hf hk)
         refine p_q ?_
         (refine pl_done ?_)
         (revert H;refine W02cb ?_ <;>unhygienic intros)
         refine c_postCT H rfl rfl rfl rfl ?_
         refine ⟨H.fr,⟨c,wd,p,d⟩,b7,rfl,fun g h=> ?_,fun h=> ?_⟩
         ·rw [HO.out] at h
          cases b7
          ·cases h
          ·exact ⟨Option.some.inj h,rfl⟩
         ·rw [HO.out] at h
          cases b7
          ·rfl
          ·cases h
   ·have h80':¬ (n:Int)=80:=by omega
    have HAU:=HAR
    have hul:r.length≤r.length:=Nat.le_refl _
    have HDD:=hid (show o=decP1 0 r by rw [HD.out,if_neg];rintro ⟨_,h⟩;rw [hx] at h;cases h;exact h80 hxn.symm)
    clear HD h80
    (revert H;refine Wb103 ?_ <;>unhygienic intros)
    clear hx hxn h1 h80'
    (revert H;refine W02cb ?_ <;>unhygienic intros)
    (refine x_c H (counted_any _ r [69,68,70] (by omega) (by decide) HAU.out (by decide)) ?_;clear H;rintro e w1 ⟨c,t,b3,rfl,hF,ht,hn,htl,hta⟩ H;clear hF)
    cases b3 with
    | false=>
     have HO:=hid (show o=none by rw [HDD.out];exact decp1_c (hn rfl))
     clear ht hn
     (revert H;refine W02cb ?_ <;>unhygienic intros)
     (refine c_postCT H rfl rfl rfl rfl ?_;exact ⟨H.fr,⟨0,0,0,0⟩,false,rfl,(fun g h=>by rw [HO.out] at h;cases h),fun _ =>rfl⟩)
    | true=>
     have hc:=ht rfl
     have hc9:=counted_le hc
     have HC:=hid hc
     clear ht hn hc
     obtain ⟨x,y,b4,hcut⟩:∃ x y b4,Lib.cut t [46]=(x,y,b4):=⟨_,_,_,rfl⟩
     obtain ⟨hxl,hyl⟩:=asc_cut hcut
     have HCUT:=hid hcut
     clear hcut
     (revert H;refine W02cb ?_ <;>unhygienic intros)
     (refine x_c H (cut_any _ t (by omega) HCUT) ?_;clear H;rintro e w1 ⟨rfl,hF⟩ H;clear hF)
     cases b4 with
     | false=>
      have HO:=hid (show o=none by rw [HDD.out];exact decp1_p HC.out HCUT.out)
      (revert H;refine W02cb ?_ <;>unhygienic intros)
      (refine c_postCT H rfl rfl rfl rfl ?_;exact ⟨H.fr,⟨0,0,0,0⟩,false,rfl,(fun g h=>by rw [HO.out] at h;cases h),fun _ =>rfl⟩)
     | true=>
      (revert H;refine W02cb ?_ <;>unhygienic intros)
      (refine x_c H (shortB_any _ x (by omega)) ?_;clear H;rintro e w1 ⟨wd,b5,rfl,hF,ht5,hn5⟩ H;clear hF)
      have HT5:=hid ht5
      have HN5:=hid hn5
      clear ht5 hn5
      (revert H;refine W02cb ?_ <;>unhygienic intros)
      (refine x_c H (shortB_any _ y (by omega)) ?_;clear H;rintro e w1 ⟨p,b6,rfl,hF,ht6,hn6⟩ H;clear hF)
      have HT6:=hid ht6
      have HN6:=hid hn6
      clear ht6 hn6
      cases b5 with
      | false=>
       have HO:=hid (show o=none by rw [HDD.out];exact decp1_s HC.out HCUT.out (.inl (HN5.out rfl)))
       go_upto_region 19 with (first | refine x_q H ?_ | refine x_cm (fun h=> ?_) (fun h=> ?_) | refine x_l H ?_ | (revert H;(first | (refine x_s ?_;intro w1 hf H;(first | replace hf:=hf.kp | clear hf)) | (refine x_sF ?_;intro w1 hf H hk;clear hf hk))))
       (revert H;refine w_p 11 (.st 0 (.st 1 (.st 2 (.st 3 (.st 4 (.st 5 (.st 6 (.ld 7 (.st 8 (.ld 9 (.st 10 .done))))))))))) ?_ (hs:=(.cons_cons _ (List.nil_sublist _)));intro w1 H)
       iterate 3 refine p_q ?_
       (first | refine p_q ?_ | refine p_n ?_)
       iterate 2 refine p_q ?_
       (first | refine p_q ?_ | refine p_n ?_)
       (refine pl_ldno rfl rfl (fun _ =>H.sub (by repeat first | exact List.Sublist.refl _ | exact List.nil_sublist _ | apply List.Sublist.cons_cons | apply List.Sublist.cons)) ?_;(simp only [nrm,↓reduceIte,Nat.reduceAdd]))
       refine p_q ?_
       (revert H;refine p_sF ?_;intro w1 hf H hk;clear hf hk)
       refine p_q ?_
       (refine pl_done ?_)
       (revert H;refine W02cb ?_ <;>unhygienic intros)
       refine c_postCT H rfl rfl rfl rfl ?_
       exact ⟨H.fr,⟨c,wd,p,0⟩,false,rfl,(fun g h=>by rw [HO.out] at h;cases h),fun _ =>rfl⟩
      | true=>
       cases b6 with
       | false=>
        have HO:=hid (show o=none by rw [HDD.out];exact decp1_s HC.out HCUT.out (.inr (HN6.out rfl)))
        go_upto_region 19 with (first | refine x_q H ?_ | refine x_cm (fun h=> ?_) (fun h=> ?_) | refine x_l H ?_ | (revert H;(first | (refine x_s ?_;intro w1 hf H;(first | replace hf:=hf.kp | clear hf)) | (refine x_sF ?_;intro w1 hf H hk;clear hf hk))))
        (revert H;refine w_p 11 (.st 0 (.st 1 (.st 2 (.st 3 (.st 4 (.st 5 (.st 6 (.ld 7 (.st 8 (.ld 9 (.st 10 .done))))))))))) ?_ (hs:=(.cons_cons _ (List.nil_sublist _)));intro w1 H)
        iterate 3 refine p_q ?_
        (first | refine p_q ?_ | refine p_n ?_)
        iterate 2 refine p_q ?_
        (first | refine p_q ?_ | refine p_n ?_)
        (refine pl_ldno rfl rfl (fun _ =>H.sub (by repeat first | exact List.Sublist.refl _ | exact List.nil_sublist _ | apply List.Sublist.cons_cons | apply List.Sublist.cons)) ?_;(simp only [nrm,↓reduceIte,Nat.reduceAdd]))
        refine p_q ?_
        (revert H;refine p_sF ?_;intro w1 hf H hk;clear hf hk)
        refine p_q ?_
        (refine pl_done ?_)
        (revert H;refine W02cb ?_ <;>unhygienic intros)
        refine c_postCT H rfl rfl rfl rfl ?_
        exact ⟨H.fr,⟨c,wd,p,0⟩,false,rfl,(fun g h=>by rw [HO.out] at h;cases h),fun _ =>rfl⟩
       | true=>
        have hw9:=short_le (HT5.out rfl)
        obtain ⟨b7,hb7⟩:∃ b7,soundP ⟨c,wd,p,0⟩=b7:=⟨_,rfl⟩
        have HO:=hid (show o=if b7 then some ⟨c,wd,p,0⟩ else none by rw [HDD.out];exact decp1_e HC.out HCUT.out (HT5.out rfl) (HT6.out rfl) hb7)
        have HB7:=hid hb7
        clear hb7
        go_upto_region 19 with (first | refine x_q H ?_ | refine x_cm (fun h=> ?_) (fun h=> ?_) | refine x_l H ?_ | (revert H;(first | (refine x_s ?_;intro w1 hf H;(first | replace hf:=hf.kp | clear hf)) | (refine x_sF ?_;intro w1 hf H hk;clear hf hk))))
        (revert H;refine w_p 11 (.st 0 (.st 1 (.st 2 (.st 3 (.st 4 (.st 5 (.st 6 (.ld 7 (.st 8 (.ld 9 (.st 10 .done))))))))))) ?_ (hs:=(.cons_cons _ (List.nil_sublist _)));intro w1 H)
        iterate 3 refine p_q ?_
        (first | refine p_q ?_ | refine p_n ?_)
        iterate 2 refine p_q ?_
        (first | refine p_q ?_ | refine p_n ?_)
        (refine p_c H rfl rfl Tryz.func108 (sound_any _ c wd _ _ hc9 hw9 HB7) ?_;clear H;rintro e w1 ⟨rfl,hF⟩ H;refine p_r ?_;clear hF)
        refine p_q ?_
        (revert H;refine p_sF ?_;intro w1 hf H hk;clear hf hk)
        refine p_q ?_
        (refine pl_done ?_)
        (revert H;refine W02cb ?_ <;>unhygienic intros)
        refine c_postCT H rfl rfl rfl rfl ?_
        refine ⟨H.fr,⟨c,wd,p,0⟩,b7,rfl,fun g h=> ?_,fun h=> ?_⟩
        ·rw [HO.out] at h
         cases b7
         ·cases h
         ·exact ⟨Option.some.inj h,rfl⟩
        ·rw [HO.out] at h
         cases b7
         ·rfl
         ·cases h
  ·have HAU:=HAR
   have hul:r.length≤r.length:=Nat.le_refl _
   have HDD:=hid (show o=decP1 0 r by rw [HD.out,if_neg];rintro ⟨h,_⟩;omega)
   clear HD
   (revert H;refine W02cb ?_ <;>unhygienic intros)
   clear h1
   (revert H;refine W02cb ?_ <;>unhygienic intros)
   (refine x_c H (counted_any _ r [69,68,70] (by omega) (by decide) HAU.out (by decide)) ?_;clear H;rintro e w1 ⟨c,t,b3,rfl,hF,ht,hn,htl,hta⟩ H;clear hF)
   cases b3 with
   | false=>
    have HO:=hid (show o=none by rw [HDD.out];exact decp1_c (hn rfl))
    clear ht hn
    (revert H;refine W02cb ?_ <;>unhygienic intros)
    (refine c_postCT H rfl rfl rfl rfl ?_;exact ⟨H.fr,⟨0,0,0,0⟩,false,rfl,(fun g h=>by rw [HO.out] at h;cases h),fun _ =>rfl⟩)
   | true=>
    have hc:=ht rfl
    have hc9:=counted_le hc
    have HC:=hid hc
    clear ht hn hc
    obtain ⟨x,y,b4,hcut⟩:∃ x y b4,Lib.cut t [46]=(x,y,b4):=⟨_,_,_,rfl⟩
    obtain ⟨hxl,hyl⟩:=asc_cut hcut
    have HCUT:=hid hcut
    clear hcut
    (revert H;refine W02cb ?_ <;>unhygienic intros)
    (refine x_c H (cut_any _ t (by omega) HCUT) ?_;clear H;rintro e w1 ⟨rfl,hF⟩ H;clear hF)
    cases b4 with
    | false=>
     have HO:=hid (show o=none by rw [HDD.out];exact decp1_p HC.out HCUT.out)
     (revert H;refine W02cb ?_ <;>unhygienic intros)
     (refine c_postCT H rfl rfl rfl rfl ?_;exact ⟨H.fr,⟨0,0,0,0⟩,false,rfl,(fun g h=>by rw [HO.out] at h;cases h),fun _ =>rfl⟩)
    | true=>
     (revert H;refine W02cb ?_ <;>unhygienic intros)
     (refine x_c H (shortB_any _ x (by omega)) ?_;clear H;rintro e w1 ⟨wd,b5,rfl,hF,ht5,hn5⟩ H;clear hF)
     have HT5:=hid ht5
     have HN5:=hid hn5
     clear ht5 hn5
     (revert H;refine W02cb ?_ <;>unhygienic intros)
     (refine x_c H (shortB_any _ y (by omega)) ?_;clear H;rintro e w1 ⟨p,b6,rfl,hF,ht6,hn6⟩ H;clear hF)
     have HT6:=hid ht6
     have HN6:=hid hn6
     clear ht6 hn6
     cases b5 with
     | false=>
      have HO:=hid (show o=none by rw [HDD.out];exact decp1_s HC.out HCUT.out (.inl (HN5.out rfl)))
      go_upto_region 19 with (first | refine x_q H ?_ | refine x_cm (fun h=> ?_) (fun h=> ?_) | refine x_l H ?_ | (revert H;(first | (refine x_s ?_;intro w1 hf H;(first | replace hf:=hf.kp | clear hf)) | (refine x_sF ?_;intro w1 hf H hk;clear hf hk))))
      (revert H;refine w_p 11 (.st 0 (.st 1 (.st 2 (.st 3 (.st 4 (.st 5 (.st 6 (.ld 7 (.st 8 (.ld 9 (.st 10 .done))))))))))) ?_ (hs:=(.cons_cons _ (List.nil_sublist _)));intro w1 H)
      iterate 3 refine p_q ?_
      (first | refine p_q ?_ | refine p_n ?_)
      iterate 2 refine p_q ?_
      (first | refine p_q ?_ | refine p_n ?_)
      (refine pl_ldno rfl rfl (fun _ =>H.sub (by repeat first | exact List.Sublist.refl _ | exact List.nil_sublist _ | apply List.Sublist.cons_cons | apply List.Sublist.cons)) ?_;(simp only [nrm,↓reduceIte,Nat.reduceAdd]))
      refine p_q ?_
      (revert H;refine p_sF ?_;intro w1 hf H hk;clear hf hk)
      refine p_q ?_
      (refine pl_done ?_)
      (revert H;refine W02cb ?_ <;>unhygienic intros)
      refine c_postCT H rfl rfl rfl rfl ?_
      exact ⟨H.fr,⟨c,wd,p,0⟩,false,rfl,(fun g h=>by rw [HO.out] at h;cases h),fun _ =>rfl⟩
     | true=>
      cases b6 with
      | false=>
       have HO:=hid (show o=none by rw [HDD.out];exact decp1_s HC.out HCUT.out (.inr (HN6.out rfl)))
       go_upto_region 19 with (first | refine x_q H ?_ | refine x_cm (fun h=> ?_) (fun h=> ?_) | refine x_l H ?_ | (revert H;(first | (refine x_s ?_;intro w1 hf H;(first | replace hf:=hf.kp | clear hf)) | (refine x_sF ?_;intro w1 hf H hk;clear hf hk))))
       (revert H;refine w_p 11 (.st 0 (.st 1 (.st 2 (.st 3 (.st 4 (.st 5 (.st 6 (.ld 7 (.st 8 (.ld 9 (.st 10 .done))))))))))) ?_ (hs:=(.cons_cons _ (List.nil_sublist _)));intro w1 H)
       iterate 3 refine p_q ?_
       (first | refine p_q ?_ | refine p_n ?_)
       iterate 2 refine p_q ?_
       (first | refine p_q ?_ | refine p_n ?_)
       (refine pl_ldno rfl rfl (fun _ =>H.sub (by repeat first | exact List.Sublist.refl _ | exact List.nil_sublist _ | apply List.Sublist.cons_cons | apply List.Sublist.cons)) ?_;(simp only [nrm,↓reduceIte,Nat.reduceAdd]))
       refine p_q ?_
       (revert H;refine p_sF ?_;intro w1 hf H hk;clear hf hk)
       refine p_q ?_
       (refine pl_done ?_)
       (revert H;refine W02cb ?_ <;>unhygienic intros)
       refine c_postCT H rfl rfl rfl rfl ?_
       exact ⟨H.fr,⟨c,wd,p,0⟩,false,rfl,(fun g h=>by rw [HO.out] at h;cases h),fun _ =>rfl⟩
      | true=>
       have hw9:=short_le (HT5.out rfl)
       obtain ⟨b7,hb7⟩:∃ b7,soundP ⟨c,wd,p,0⟩=b7:=⟨_,rfl⟩
       have HO:=hid (show o=if b7 then some ⟨c,wd,p,0⟩ else none by rw [HDD.out];exact decp1_e HC.out HCUT.out (HT5.out rfl) (HT6.out rfl) hb7)
       have HB7:=hid hb7
       clear hb7
       go_upto_region 19 with (first | refine x_q H ?_ | refine x_cm (fun h=> ?_) (fun h=> ?_) | refine x_l H ?_ | (revert H;(first | (refine x_s ?_;intro w1 hf H;(first | replace hf:=hf.kp | clear hf)) | (refine x_sF ?_;intro w1 hf H hk;clear hf hk))))
       (revert H;refine w_p 11 (.st 0 (.st 1 (.st 2 (.st 3 (.st 4 (.st 5 (.st 6 (.ld 7 (.st 8 (.ld 9 (.st 10 .done))))))))))) ?_ (hs:=(.cons_cons _ (List.nil_sublist _)));intro w1 H)
       iterate 3 refine p_q ?_
       (first | refine p_q ?_ | refine p_n ?_)
       iterate 2 refine p_q ?_
       (first | refine p_q ?_ | refine p_n ?_)
       (refine p_c H rfl rfl Tryz.func108 (sound_any _ c wd _ _ hc9 hw9 HB7) ?_;clear H;rintro e w1 ⟨rfl,hF⟩ H;refine p_r ?_;clear hF)
       refine p_q ?_
       (revert H;refine p_sF ?_;intro w1 hf H hk;clear hf hk)
       refine p_q ?_
       (refine pl_done ?_)
       (revert H;refine W02cb ?_ <;>unhygienic intros)
       refine c_postCT H rfl rfl rfl rfl ?_
       refine ⟨H.fr,⟨c,wd,p,0⟩,b7,rfl,fun g h=> ?_,fun h=> ?_⟩
       ·rw [HO.out] at h
        cases b7
        ·cases h
        ·exact ⟨Option.some.inj h,rfl⟩
       ·rw [HO.out] at h
        cases b7
        ·rfl
        ·cases h
end Go.Proofs.YtoiebebjgnpkmaaGreatDoor
