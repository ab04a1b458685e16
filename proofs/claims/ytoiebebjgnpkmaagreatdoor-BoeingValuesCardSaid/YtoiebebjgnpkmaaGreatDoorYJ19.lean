import Derived.Test.YtoiebebjgnpkmaaGreatDoorYJ18
import Derived.Test.YtoiebebjgnpkmaaGreatDoorYJ46
import Derived.Test.YtoiebebjgnpkmaaGreatDoorYJ30
namespace Go.Proofs.YtoiebebjgnpkmaaGreatDoor
open Go.RowKit
set_option linter.unusedSimpArgs false
set_option linter.unusedVariables false
set_option maxHeartbeats 8000000
set_option maxRecDepth 100000
theorem ev_strIdx {P:Program} {a:Act} {w:World} {o:Oper} {t:TypeId} {x y:Operand} (ho:o.op= .index t x y) {s:List UInt8} (hx:a.eval x=strV s) {k:IntKind} {i:Int} (hy:a.eval y= .int k i) [h:Sy P t] {b:UInt8} (h0:0≤i) (hb:s[i.toNat]? =some b):(execOp a.eval o).run P w= .ok (.value (.int .u8 b.toNat)) w:=by
 unfold strV at hx
 obtain ⟨hlt,rfl⟩:=List.getElem?_eq_some_iff.1 hb
 have e:(Instr.index t (.string ⟨s.toArray⟩) (.int k i)).run P w= .ok (.int .u8 s[i.toNat].toNat) w:=by
  rw [run_index_string _ _ _ _ _ h.h,dif_pos ⟨h0,by rw [ba_size];omega⟩]
  rfl
 unfold execOp
 simp only [ho,hx,hy,Sem.run_bind,e,Result.andThen_ok,Sem.run_pure]
theorem take_drop_while (s:List UInt8) (p:UInt8→Bool):s.take (s.length - (s.dropWhile p).length)=s.takeWhile p∧s.drop (s.length - (s.dropWhile p).length)=s.dropWhile p:=by
 have h:s.takeWhile p++s.dropWhile p=s:=List.takeWhile_append_dropWhile
 have hl:(s.takeWhile p).length+(s.dropWhile p).length=s.length:=by rw [← List.length_append,h]
 have e:s.length - (s.dropWhile p).length=(s.takeWhile p).length:=by omega
 rw [e]
 generalize s.takeWhile p=a at*
 generalize s.dropWhile p=b at*
 subst h
 simp
theorem containsE_any (w:World) (c:UInt8):
 Calls Tryz.prog 193 #[strV [c], .string (ByteArray.mk #[101,69,100,68])] w fun e w'=>e= .returned (.bool (isE c))∧Fr [] w w':=containsAny_one w c
theorem dsg_len (s:List UInt8):(dsg s).2.length≤s.length:=by
 cases s with
 | nil=>exact Nat.le_refl _
 | cons c r=>
  rw [dsg]
  split
  ·show r.length≤r.length+1;omega
  ·split
   ·show r.length≤r.length+1;omega
   ·exact Nat.le_refl _
theorem cutS_any (w:World) (s:List UInt8) (hs:s.length≤2000000):
 Calls Tryz.prog 192 #[strV s] w fun e w'=>e= .returned (.tuple #[strV (s.takeWhile dig),strV (s.dropWhile dig)])∧Fr [] w w':=by
 obtain ⟨h1,h2⟩:=take_drop_while s dig
 have hl:(s.dropWhile dig).length≤s.length:=(List.dropWhile_suffix dig).length_le
 generalize s.takeWhile dig=a at*
 generalize hb:s.dropWhile dig=b at*
 have HB:=hid hb
 clear hb
 have H1:Hid (s.take ((s.length:Int) - b.length).toNat=a):=hid (by rw [← h1];congr 1;omega)
 have H2:Hid (s.drop ((s.length:Int) - b.length).toNat=b):=hid (by rw [show ((s.length:Int) - b.length).toNat=s.length - b.length by omega];exact h2)
 clear h1 h2
 have H:=Hp.start [] w
 go_enter Tryz.func192,Tryz.ntmps192
 go_wp2_with (first | refine x_e (ev_strEq0 rfl rfl rfl (by assumption)) ?_ | refine x_e (ev_strNe0 rfl rfl rfl (by assumption)) ?_ | refine x_q H ?_ | refine x_cm (fun h=> ?_) (fun h=> ?_) | refine x_l H ?_ | refine x_e (ev_strLen rfl rfl) ?_ | refine x_e (ev_strHead rfl rfl rfl (by assumption)) ?_ | refine x_e (ev_strTail rfl rfl rfl (by assumption)) ?_ | (revert H;refine x_sF ?_;intro w1 hf H hk;clear hf;change Kp _ _ at hk) | (revert H;refine x_g ?_;intro g w1 hg hf H;replace hf:=hf.kp) | (revert H;refine x_s ?_;intro w1 hf H;clear hf))
 (refine x_c H (trimD_any _ s) ?_;clear H;rintro e w1 ⟨rfl,hF⟩ H;replace hF:=hF.kp;rw [HB.out])
 go_wp2_with (first | refine x_e (ev_strEq0 rfl rfl rfl (by assumption)) ?_ | refine x_e (ev_strNe0 rfl rfl rfl (by assumption)) ?_ | refine x_q H ?_ | refine x_cm (fun h=> ?_) (fun h=> ?_) | refine x_l H ?_ | refine x_e (ev_strLen rfl rfl) ?_ | refine x_e (ev_strHead rfl rfl rfl (by assumption)) ?_ | refine x_e (ev_strTail rfl rfl rfl (by assumption)) ?_ | (revert H;refine x_sF ?_;intro w1 hf H hk;clear hf;change Kp _ _ at hk) | (revert H;refine x_g ?_;intro g w1 hg hf H;replace hf:=hf.kp) | (revert H;refine x_s ?_;intro w1 hf H;clear hf))
 (revert H;refine w_pF 8 (.st 0 (.st 1 (.st 2 (.st 3 (.st 4 (.st 5 (.st 6 (.st 7 .done)))))))) ?_;intro w1 hf H;(first | replace hf:=hf.kp | clear hf))
 iterate 2 refine p_q ?_
 (refine p_e rfl (fun w H=>ev_strHead rfl rfl rfl H1) ?_)
 iterate 2 refine p_q ?_
 (refine p_e rfl (fun w H=>ev_strTail rfl rfl rfl H2) ?_)
 iterate 2 refine p_q ?_
 (refine pl_done ?_)
 all_goals
  go_wp2_with (first | refine x_e (ev_strEq0 rfl rfl rfl (by assumption)) ?_ | refine x_e (ev_strNe0 rfl rfl rfl (by assumption)) ?_ | refine x_q H ?_ | refine x_cm (fun h=> ?_) (fun h=> ?_) | refine x_l H ?_ | refine x_e (ev_strLen rfl rfl) ?_ | refine x_e (ev_strHead rfl rfl rfl (by assumption)) ?_ | refine x_e (ev_strTail rfl rfl rfl (by assumption)) ?_ | (revert H;refine x_sF ?_;intro w1 hf H hk;clear hf;change Kp _ _ at hk) | (revert H;refine x_g ?_;intro g w1 hg hf H;replace hf:=hf.kp) | (revert H;refine x_s ?_;intro w1 hf H;clear hf))
  refine bodyPost_ret (results_tmp2 rfl _ _ _) rfl ?_
  exact ⟨rfl,H.fr⟩
theorem signS_any (w:World) (s:List UInt8) (hs:s.length≤2000000):
 Calls Tryz.prog 191 #[strV s] w fun e w'=>e= .returned (.tuple #[.bool (dsg s).1,strV (dsg s).2])∧Fr [] w w':=by
 have H:=Hp.start [] w
 cases s with
 | nil=>
  go_enter Tryz.func191,Tryz.ntmps191
  go_wp2_with (first | refine x_e (ev_strEq0 rfl rfl rfl (by assumption)) ?_ | refine x_e (ev_strNe0 rfl rfl rfl (by assumption)) ?_ | refine x_q H ?_ | refine x_cm (fun h=> ?_) (fun h=> ?_) | refine x_l H ?_ | refine x_e (ev_strLen rfl rfl) ?_ | refine x_e (ev_strHead rfl rfl rfl (by assumption)) ?_ | refine x_e (ev_strTail rfl rfl rfl (by assumption)) ?_ | (revert H;refine x_sF ?_;intro w1 hf H hk;clear hf;change Kp _ _ at hk) | (revert H;refine x_g ?_;intro g w1 hg hf H;replace hf:=hf.kp) | (revert H;refine x_s ?_;intro w1 hf H;clear hf))
  (refine x_c H (prefix_any _ [] 45 (b:=false) (hid rfl)) ?_;clear H;rintro e w1 ⟨rfl,hF⟩ H;replace hF:=hF.kp;skip)
  go_wp2_with (first | refine x_e (ev_strEq0 rfl rfl rfl (by assumption)) ?_ | refine x_e (ev_strNe0 rfl rfl rfl (by assumption)) ?_ | refine x_q H ?_ | refine x_cm (fun h=> ?_) (fun h=> ?_) | refine x_l H ?_ | refine x_e (ev_strLen rfl rfl) ?_ | refine x_e (ev_strHead rfl rfl rfl (by assumption)) ?_ | refine x_e (ev_strTail rfl rfl rfl (by assumption)) ?_ | (revert H;refine x_sF ?_;intro w1 hf H hk;clear hf;change Kp _ _ at hk) | (revert H;refine x_g ?_;intro g w1 hg hf H;replace hf:=hf.kp) | (revert H;refine x_s ?_;intro w1 hf H;clear hf))
  (refine x_c H (prefix_any _ [] 43 (b:=false) (hid rfl)) ?_;clear H;rintro e w1 ⟨rfl,hF⟩ H;replace hF:=hF.kp;skip)
  go_wp2_with (first | refine x_e (ev_strEq0 rfl rfl rfl (by assumption)) ?_ | refine x_e (ev_strNe0 rfl rfl rfl (by assumption)) ?_ | refine x_q H ?_ | refine x_cm (fun h=> ?_) (fun h=> ?_) | refine x_l H ?_ | refine x_e (ev_strLen rfl rfl) ?_ | refine x_e (ev_strHead rfl rfl rfl (by assumption)) ?_ | refine x_e (ev_strTail rfl rfl rfl (by assumption)) ?_ | (revert H;refine x_sF ?_;intro w1 hf H hk;clear hf;change Kp _ _ at hk) | (revert H;refine x_g ?_;intro g w1 hg hf H;replace hf:=hf.kp) | (revert H;refine x_s ?_;intro w1 hf H;clear hf))
  refine bodyPost_ret (results_tmp2 rfl _ _ _) rfl ?_
  exact ⟨rfl,H.fr⟩
 | cons c r=>
  have HT:Hid ((c::r).drop (1:Int).toNat=r):=hid rfl
  have hl:(c::r).length=r.length+1:=rfl
  by_cases h1:c=45
  ·subst h1
   go_enter Tryz.func191,Tryz.ntmps191
   go_wp2_with (first | refine x_e (ev_strEq0 rfl rfl rfl (by assumption)) ?_ | refine x_e (ev_strNe0 rfl rfl rfl (by assumption)) ?_ | refine x_q H ?_ | refine x_cm (fun h=> ?_) (fun h=> ?_) | refine x_l H ?_ | refine x_e (ev_strLen rfl rfl) ?_ | refine x_e (ev_strHead rfl rfl rfl (by assumption)) ?_ | refine x_e (ev_strTail rfl rfl rfl (by assumption)) ?_ | (revert H;refine x_sF ?_;intro w1 hf H hk;clear hf;change Kp _ _ at hk) | (revert H;refine x_g ?_;intro g w1 hg hf H;replace hf:=hf.kp) | (revert H;refine x_s ?_;intro w1 hf H;clear hf))
   (refine x_c H (prefix_any _ (45::r) 45 (b:=true) (hid (by simp))) ?_;clear H;rintro e w1 ⟨rfl,hF⟩ H;replace hF:=hF.kp;skip)
   go_wp2_with (first | refine x_e (ev_strEq0 rfl rfl rfl (by assumption)) ?_ | refine x_e (ev_strNe0 rfl rfl rfl (by assumption)) ?_ | refine x_q H ?_ | refine x_cm (fun h=> ?_) (fun h=> ?_) | refine x_l H ?_ | refine x_e (ev_strLen rfl rfl) ?_ | refine x_e (ev_strHead rfl rfl rfl (by assumption)) ?_ | refine x_e (ev_strTail rfl rfl rfl (by assumption)) ?_ | (revert H;refine x_sF ?_;intro w1 hf H hk;clear hf;change Kp _ _ at hk) | (revert H;refine x_g ?_;intro g w1 hg hf H;replace hf:=hf.kp) | (revert H;refine x_s ?_;intro w1 hf H;clear hf))
   (revert H;refine w_pF 7 (.st 0 (.st 1 (.st 2 (.st 3 (.st 4 (.st 5 (.st 6 .done))))))) ?_;intro w1 hf H;(first | replace hf:=hf.kp | clear hf))
   refine p_q ?_
   (refine p_e rfl (fun w H=>ev_strIdx rfl rfl rfl (by decide) (b:=45) rfl) ?_)
   (refine p_e rfl (fun w H=>ev_cmpT rfl rfl rfl rfl (by show ((45:UInt8).toNat:Int)=45;decide)) ?_)
   refine p_q ?_
   (refine p_e rfl (fun w H=>ev_strTail rfl rfl rfl HT) ?_)
   iterate 2 refine p_q ?_
   (refine pl_done ?_)
   all_goals
    go_wp2_with (first | refine x_e (ev_strEq0 rfl rfl rfl (by assumption)) ?_ | refine x_e (ev_strNe0 rfl rfl rfl (by assumption)) ?_ | refine x_q H ?_ | refine x_cm (fun h=> ?_) (fun h=> ?_) | refine x_l H ?_ | refine x_e (ev_strLen rfl rfl) ?_ | refine x_e (ev_strHead rfl rfl rfl (by assumption)) ?_ | refine x_e (ev_strTail rfl rfl rfl (by assumption)) ?_ | (revert H;refine x_sF ?_;intro w1 hf H hk;clear hf;change Kp _ _ at hk) | (revert H;refine x_g ?_;intro g w1 hg hf H;replace hf:=hf.kp) | (revert H;refine x_s ?_;intro w1 hf H;clear hf))
    refine bodyPost_ret (results_tmp2 rfl _ _ _) rfl ?_
    exact ⟨rfl,H.fr⟩
  ·by_cases h2:c=43
   ·subst h2
    go_enter Tryz.func191,Tryz.ntmps191
    go_wp2_with (first | refine x_e (ev_strEq0 rfl rfl rfl (by assumption)) ?_ | refine x_e (ev_strNe0 rfl rfl rfl (by assumption)) ?_ | refine x_q H ?_ | refine x_cm (fun h=> ?_) (fun h=> ?_) | refine x_l H ?_ | refine x_e (ev_strLen rfl rfl) ?_ | refine x_e (ev_strHead rfl rfl rfl (by assumption)) ?_ | refine x_e (ev_strTail rfl rfl rfl (by assumption)) ?_ | (revert H;refine x_sF ?_;intro w1 hf H hk;clear hf;change Kp _ _ at hk) | (revert H;refine x_g ?_;intro g w1 hg hf H;replace hf:=hf.kp) | (revert H;refine x_s ?_;intro w1 hf H;clear hf))
    (refine x_c H (prefix_any _ (43::r) 45 (b:=false) (hid (by simp))) ?_;clear H;rintro e w1 ⟨rfl,hF⟩ H;replace hF:=hF.kp;skip)
    go_wp2_with (first | refine x_e (ev_strEq0 rfl rfl rfl (by assumption)) ?_ | refine x_e (ev_strNe0 rfl rfl rfl (by assumption)) ?_ | refine x_q H ?_ | refine x_cm (fun h=> ?_) (fun h=> ?_) | refine x_l H ?_ | refine x_e (ev_strLen rfl rfl) ?_ | refine x_e (ev_strHead rfl rfl rfl (by assumption)) ?_ | refine x_e (ev_strTail rfl rfl rfl (by assumption)) ?_ | (revert H;refine x_sF ?_;intro w1 hf H hk;clear hf;change Kp _ _ at hk) | (revert H;refine x_g ?_;intro g w1 hg hf H;replace hf:=hf.kp) | (revert H;refine x_s ?_;intro w1 hf H;clear hf))
    (refine x_c H (prefix_any _ (43::r) 43 (b:=true) (hid (by simp))) ?_;clear H;rintro e w1 ⟨rfl,hF⟩ H;replace hF:=hF.kp;skip)
    go_wp2_with (first | refine x_e (ev_strEq0 rfl rfl rfl (by assumption)) ?_ | refine x_e (ev_strNe0 rfl rfl rfl (by assumption)) ?_ | refine x_q H ?_ | refine x_cm (fun h=> ?_) (fun h=> ?_) | refine x_l H ?_ | refine x_e (ev_strLen rfl rfl) ?_ | refine x_e (ev_strHead rfl rfl rfl (by assumption)) ?_ | refine x_e (ev_strTail rfl rfl rfl (by assumption)) ?_ | (revert H;refine x_sF ?_;intro w1 hf H hk;clear hf;change Kp _ _ at hk) | (revert H;refine x_g ?_;intro g w1 hg hf H;replace hf:=hf.kp) | (revert H;refine x_s ?_;intro w1 hf H;clear hf))
    (revert H;refine w_pF 7 (.st 0 (.st 1 (.st 2 (.st 3 (.st 4 (.st 5 (.st 6 .done))))))) ?_;intro w1 hf H;(first | replace hf:=hf.kp | clear hf))
    refine p_q ?_
    (refine p_e rfl (fun w H=>ev_strIdx rfl rfl rfl (by decide) (b:=43) rfl) ?_)
    (refine p_e rfl (fun w H=>ev_cmpF rfl rfl rfl rfl (by show ¬ ((43:UInt8).toNat:Int)=45;decide)) ?_)
    refine p_q ?_
    (refine p_e rfl (fun w H=>ev_strTail rfl rfl rfl HT) ?_)
    iterate 2 refine p_q ?_
    (refine pl_done ?_)
    all_goals
     go_wp2_with (first | refine x_e (ev_strEq0 rfl rfl rfl (by assumption)) ?_ | refine x_e (ev_strNe0 rfl rfl rfl (by assumption)) ?_ | refine x_q H ?_ | refine x_cm (fun h=> ?_) (fun h=> ?_) | refine x_l H ?_ | refine x_e (ev_strLen rfl rfl) ?_ | refine x_e (ev_strHead rfl rfl rfl (by assumption)) ?_ | refine x_e (ev_strTail rfl rfl rfl (by assumption)) ?_ | (revert H;refine x_sF ?_;intro w1 hf H hk;clear hf;change Kp _ _ at hk) | (revert H;refine x_g ?_;intro g w1 hg hf H;replace hf:=hf.kp) | (revert H;refine x_s ?_;intro w1 hf H;clear hf))
     refine bodyPost_ret (results_tmp2 rfl _ _ _) rfl ?_
     exact ⟨rfl,H.fr⟩
   ·have HD:Hid (dsg (c::r)=(false,c::r)):=hid (by rw [dsg,if_neg h1,if_neg h2])
    have H1:Hid (((c::r).head? ==some 45)=false):=hid (by simpa using h1)
    have H2:Hid (((c::r).head? ==some 43)=false):=hid (by simpa using h2)
    clear h1 h2 HT
    generalize c::r=s at*
    go_enter Tryz.func191,Tryz.ntmps191
    go_wp2_with (first | refine x_e (ev_strEq0 rfl rfl rfl (by assumption)) ?_ | refine x_e (ev_strNe0 rfl rfl rfl (by assumption)) ?_ | refine x_q H ?_ | refine x_cm (fun h=> ?_) (fun h=> ?_) | refine x_l H ?_ | refine x_e (ev_strLen rfl rfl) ?_ | refine x_e (ev_strHead rfl rfl rfl (by assumption)) ?_ | refine x_e (ev_strTail rfl rfl rfl (by assumption)) ?_ | (revert H;refine x_sF ?_;intro w1 hf H hk;clear hf;change Kp _ _ at hk) | (revert H;refine x_g ?_;intro g w1 hg hf H;replace hf:=hf.kp) | (revert H;refine x_s ?_;intro w1 hf H;clear hf))
    (refine x_c H (prefix_any _ s 45 H1) ?_;clear H;rintro e w1 ⟨rfl,hF⟩ H;replace hF:=hF.kp;skip)
    go_wp2_with (first | refine x_e (ev_strEq0 rfl rfl rfl (by assumption)) ?_ | refine x_e (ev_strNe0 rfl rfl rfl (by assumption)) ?_ | refine x_q H ?_ | refine x_cm (fun h=> ?_) (fun h=> ?_) | refine x_l H ?_ | refine x_e (ev_strLen rfl rfl) ?_ | refine x_e (ev_strHead rfl rfl rfl (by assumption)) ?_ | refine x_e (ev_strTail rfl rfl rfl (by assumption)) ?_ | (revert H;refine x_sF ?_;intro w1 hf H hk;clear hf;change Kp _ _ at hk) | (revert H;refine x_g ?_;intro g w1 hg hf H;replace hf:=hf.kp) | (revert H;refine x_s ?_;intro w1 hf H;clear hf))
    (refine x_c H (prefix_any _ s 43 H2) ?_;clear H;rintro e w1 ⟨rfl,hF⟩ H;replace hF:=hF.kp;skip)
    go_wp2_with (first | refine x_e (ev_strEq0 rfl rfl rfl (by assumption)) ?_ | refine x_e (ev_strNe0 rfl rfl rfl (by assumption)) ?_ | refine x_q H ?_ | refine x_cm (fun h=> ?_) (fun h=> ?_) | refine x_l H ?_ | refine x_e (ev_strLen rfl rfl) ?_ | refine x_e (ev_strHead rfl rfl rfl (by assumption)) ?_ | refine x_e (ev_strTail rfl rfl rfl (by assumption)) ?_ | (revert H;refine x_sF ?_;intro w1 hf H hk;clear hf;change Kp _ _ at hk) | (revert H;refine x_g ?_;intro g w1 hg hf H;replace hf:=hf.kp) | (revert H;refine x_s ?_;intro w1 hf H;clear hf))
    refine bodyPost_ret (results_tmp2 rfl _ _ _) rfl ?_
    rw [HD.out]
    exact ⟨rfl,H.fr⟩
theorem small_any (w:World) (l:List UInt8) (hd:l.all dig=true) (hl:l.length≤2000000):
 Calls Tryz.prog 194 #[strV l] w fun e w'=>∃ z:Int,e= .returned (.tuple #[.int .i64 z, .bool (decide (num l≤99999))])∧(num l≤99999→z=num l)∧Fr [] w w':=by
 have hi:=small_iff hd
 have h0:=num_lead l
 have ha:=lead_all hd
 have HE:Hid (l.dropWhile (· ==48)=lead l):=hid rfl
 obtain ⟨b,hb⟩:∃ b,lead l=b:=⟨_,rfl⟩
 rw [hb] at hi h0 ha HE
 clear hb
 have H:=Hp.start [] w
 by_cases h5:5<b.length
 ·have HN:Hid (¬ num l≤99999):=hid (fun h=>by have:=hi.2 h;omega)
  clear hi h0 ha
  go_enter Tryz.func194,Tryz.ntmps194
  go_wp2_with (first | refine x_e (ev_strEq0 rfl rfl rfl (by assumption)) ?_ | refine x_e (ev_strNe0 rfl rfl rfl (by assumption)) ?_ | refine x_q H ?_ | refine x_cm (fun h=> ?_) (fun h=> ?_) | refine x_l H ?_ | refine x_e (ev_strLen rfl rfl) ?_ | refine x_e (ev_strHead rfl rfl rfl (by assumption)) ?_ | refine x_e (ev_strTail rfl rfl rfl (by assumption)) ?_ | (revert H;refine x_sF ?_;intro w1 hf H hk;clear hf;change Kp _ _ at hk) | (revert H;refine x_g ?_;intro g w1 hg hf H;replace hf:=hf.kp) | (revert H;refine x_s ?_;intro w1 hf H;clear hf))
  (refine x_c H (trim0_any _ l) ?_;clear H;rintro e w1 ⟨rfl,hF⟩ H;replace hF:=hF.kp;rw [HE.out])
  go_wp2_with (first | refine x_e (ev_strEq0 rfl rfl rfl (by assumption)) ?_ | refine x_e (ev_strNe0 rfl rfl rfl (by assumption)) ?_ | refine x_q H ?_ | refine x_cm (fun h=> ?_) (fun h=> ?_) | refine x_l H ?_ | refine x_e (ev_strLen rfl rfl) ?_ | refine x_e (ev_strHead rfl rfl rfl (by assumption)) ?_ | refine x_e (ev_strTail rfl rfl rfl (by assumption)) ?_ | (revert H;refine x_sF ?_;intro w1 hf H hk;clear hf;change Kp _ _ at hk) | (revert H;refine x_g ?_;intro g w1 hg hf H;replace hf:=hf.kp) | (revert H;refine x_s ?_;intro w1 hf H;clear hf))
  refine bodyPost_ret (results_tmp2 rfl _ _ _) rfl ?_
  exact ⟨0,by rw [decide_eq_false HN.out];rfl,fun h=>absurd h HN.out,H.fr⟩
 ·have HA:Hid ((48::b).all dig=true):=hid (by rw [List.all_cons,ha];rfl)
  have HV:Hid (num (48::b)=num l):=hid (by rw [← h0];show numF 0 (48::b)=numF 0 b;rw [numF_cons];rfl)
  clear hi h0 ha hd
  obtain ⟨z,hz⟩:∃ z,num l=z:=⟨_,rfl⟩
  rw [hz] at HV ⊢
  clear hz
  have hl5:(48::b).length≤18:=by rw [List.length_cons];omega
  have hl9:([48]:List UInt8).length+b.length≤1000000000:=by rw [List.length_singleton];omega
  go_enter Tryz.func194,Tryz.ntmps194
  go_wp2_with (first | refine x_e (ev_strEq0 rfl rfl rfl (by assumption)) ?_ | refine x_e (ev_strNe0 rfl rfl rfl (by assumption)) ?_ | refine x_q H ?_ | refine x_cm (fun h=> ?_) (fun h=> ?_) | refine x_l H ?_ | refine x_e (ev_strLen rfl rfl) ?_ | refine x_e (ev_strHead rfl rfl rfl (by assumption)) ?_ | refine x_e (ev_strTail rfl rfl rfl (by assumption)) ?_ | (revert H;refine x_sF ?_;intro w1 hf H hk;clear hf;change Kp _ _ at hk) | (revert H;refine x_g ?_;intro g w1 hg hf H;replace hf:=hf.kp) | (revert H;refine x_s ?_;intro w1 hf H;clear hf))
  (refine x_c H (trim0_any _ l) ?_;clear H;rintro e w1 ⟨rfl,hF⟩ H;replace hF:=hF.kp;rw [HE.out])
  go_wp2_with (first | refine x_e (ev_strAdd (s:=[48]) rfl rfl rfl hl9) ?_ | refine x_q H ?_ | refine x_cm (fun h=> ?_) (fun h=> ?_) | refine x_e (ev_strLen rfl rfl) ?_ | refine x_e (ev_strHead rfl rfl rfl (by assumption)) ?_ | refine x_e (ev_strTail rfl rfl rfl (by assumption)) ?_)
  (refine x_c H (atoi_any _ (48::b) HA (hid (List.cons_ne_nil _ _)) hl5) ?_;clear H;rintro e w1 ⟨rfl,hF⟩ H;replace hF:=hF.kp;skip)
  rw [HV.out]
  go_wp2_with (first | refine x_e (ev_strEq0 rfl rfl rfl (by assumption)) ?_ | refine x_e (ev_strNe0 rfl rfl rfl (by assumption)) ?_ | refine x_q H ?_ | refine x_cm (fun h=> ?_) (fun h=> ?_) | refine x_l H ?_ | refine x_e (ev_strLen rfl rfl) ?_ | refine x_e (ev_strHead rfl rfl rfl (by assumption)) ?_ | refine x_e (ev_strTail rfl rfl rfl (by assumption)) ?_ | (revert H;refine x_sF ?_;intro w1 hf H hk;clear hf;change Kp _ _ at hk) | (revert H;refine x_g ?_;intro g w1 hg hf H;replace hf:=hf.kp) | (revert H;refine x_s ?_;intro w1 hf H;clear hf))
  ·refine bodyPost_ret (results_tmp2 rfl _ _ _) rfl ?_
   exact ⟨z,by rw [decide_eq_true (by omega)];rfl,fun _ =>rfl,H.fr⟩
  ·refine bodyPost_ret (results_tmp2 rfl _ _ _) rfl ?_
   exact ⟨z,by rw [decide_eq_false (by omega)];rfl,fun _ =>rfl,H.fr⟩
def rdE (neg:Bool) (ds:List UInt8) (b:Nat) (s2:List UInt8):(Bool×List UInt8×Int)×Int:=
 if ds=[] then ((false,[],0),7) else
 match s2 with
 | []=>((neg,ds,0 - (b:Int)),0)
 | c::t=>if isE c=true then (if (dsg t).2.takeWhile dig=[]∨(dsg t).2.dropWhile dig≠[] then ((false,[],0),7) else
  if num ((dsg t).2.takeWhile dig)≤99999 then ((neg,ds,(if (dsg t).1 then -(num ((dsg t).2.takeWhile dig):Int) else num ((dsg t).2.takeWhile dig)) - b),0) else ((false,[],0),3)) else ((false,[],0),7)
def rdS (s:List UInt8):(Bool×List UInt8×Int)×Int:=
 match (dsg s).2.dropWhile dig with
 | []=>rdE (dsg s).1 ((dsg s).2.takeWhile dig++[]) 0 []
 | c::t=>if c=46 then rdE (dsg s).1 ((dsg s).2.takeWhile dig++t.takeWhile dig) (t.takeWhile dig).length (t.dropWhile dig) else rdE (dsg s).1 ((dsg s).2.takeWhile dig++[]) 0 (c::t)
theorem contE_any (w:World) (c:UInt8) {b:Bool} (hb:Hid (isE c=b)):
 Calls Tryz.prog 193 #[strV [c], .string (ByteArray.mk #[101,69,100,68])] w fun e w'=>e= .returned (.bool b)∧Fr [] w w':=by
 rw [← hb.out]
 exact containsE_any w c
end Go.Proofs.YtoiebebjgnpkmaaGreatDoor
