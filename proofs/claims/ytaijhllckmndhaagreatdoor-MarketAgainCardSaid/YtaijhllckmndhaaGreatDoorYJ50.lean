import Derived.Test.YtaijhllckmndhaaGreatDoorYJ0
import Derived.Test.YtaijhllckmndhaaGreatDoorYJ49
namespace Go.Proofs.YtaijhllckmndhaaGreatDoor
set_option linter.all false
set_option maxHeartbeats 64000000
set_option maxRecDepth 100000
section
open Go.RowKit
attribute [local irreducible] wpList Code.wp Plan.wp zat zal pre zN zq zcy
def znx(w:World){field sym m n N K:Nat}{E W:List En}{p1 p2 p3:Option Addr}{c1 c2 c3:Nat}(hM:MatIn m n N E (E.map (·.2.2)) p1 p2 p3 c2 c3 w)(hm:m≤200)(hn:n≤200)(hfld:field≤2)(hs:sym≤2)(hk:¬(false=true∧field=2))(hsq:sym=0∨m=n)(hsy:zgG sym E)(hW:zaf sym E=W)(hK:W.length=K)(hK2:K≤144)(hfit:∀x∈W,zeA field x.2.2)(hb:∀x∈W,x.1<1000∧x.2.1<1000)(hst:false=true→zV sym m n=K)(hT:La w)(hL:Lh w):
 Calls Tryz.prog 14 #[.agg #[iV m,iV n, .slice p1 (n+1) c1, .slice p2 N c2, .slice p3 N c3, .bool false, .int .i64 (field:Int), .int .i64 (sym:Int)]] w (zfO ⟨false,field,sym⟩ m n W w):=by
 obtain⟨ga,rfl⟩:=hM.hR1.some yg;have HKD:=hid hk;have hsc:sCoo.length≤10∧sArr.length≤10:=by decide
 have hsc1:=hsc.1;have hsc2:=hsc.2;clear hsc hk;have HM:=hid hM;have HSY:=hid hsy;have HW:=hid hW;have HK:=hid hK;have HFIT:=hid hfit;have HB:=hid hb;have HT:=hid hT;obtain⟨fs,hfs⟩:∃s,sFlds[field]? =some s:=⟨_,List.getElem?_eq_getElem (by show field<3;omega)⟩;obtain⟨ss,hss⟩:∃s,sSyms[sym]? =some s:=⟨_,List.getElem?_eq_getElem (by show sym<3;omega)⟩;have HLF:=hid (hL.1 field fs hfs);have HLS:=hid (hL.2 sym ss hss)
 have hfl:fs.length≤20:=by
  have:∀x∈sFlds,x.length≤20:=by decide
  exact this fs (List.mem_of_getElem? hfs)
 have hsl:ss.length≤20:=by
  have:∀x∈sSyms,x.length≤20:=by decide
  exact this ss (List.mem_of_getElem? hss)
 have HHW:=hid (fun(b:Bool)=>show zaX ⟨b,field,sym⟩=[[37,37,77,97,116,114,105,120,77,97,114,107,101,116],zfi,if b then sArr else sCoo,fs,ss]from by
  unfold zaX
  simp only[List.getD_eq_getElem?_getD,hfs,hss,Option.getD_some])
 obtain⟨dm,hdm⟩:∃l,dec m=l:=⟨_,rfl⟩;obtain⟨dn,hdn⟩:∃l,dec n=l:=⟨_,rfl⟩;obtain⟨dk,hdk⟩:∃l,dec K=l:=⟨_,rfl⟩;have hdml:dm.length≤5:=by rw[←hdm];exact zaE yb
 have hdnl:dn.length≤5:=by rw[←hdn];exact zaE yb
 have hdkl:dk.length≤5:=by rw[←hdk];exact zaE yb
 have HDM:=hid hdm;have HDN:=hid hdn;have HDK:=hid hdk;clear hM hsy hW hK hfit hb hT hL hfs hss hdm hdn hdk;have H:=Hp.start [] w;unfold iV at HM ⊢;obtain⟨q1,hq1⟩:∃q,([37,37,77,97,116,114,105,120,77,97,114,107,101,116,32,109,97,116,114,105,120,32]:List UInt8)++sCoo=q:=⟨_,rfl⟩;obtain⟨r3,hr3⟩:∃r,(dm++[32]++dn)++(32::dk)=r:=⟨_,rfl⟩;have hr3l:r3.length≤40:=by rw[←hr3];simp only[List.length_append,List.length_cons,List.length_nil];omega
 have hsz:zq (zaa ⟨false,field,sym⟩ m n K)=r3:=by
  show zq [dec m,dec n,dec K]=_
  rw[HDM.out,HDN.out,HDK.out,zmX,←hr3];rfl
 obtain⟨q2,hq2⟩:∃q,q1++[32]=q:=⟨_,rfl⟩;obtain⟨q3,hq3⟩:∃q,q2++fs=q:=⟨_,rfl⟩;obtain⟨q4,hq4⟩:∃q,q3++[32]=q:=⟨_,rfl⟩;obtain⟨q5,hq5⟩:∃q,q4++ss=q:=⟨_,rfl⟩;obtain⟨r1,hr1⟩:∃r,dm++[32]=r:=⟨_,rfl⟩;obtain⟨r2,hr2⟩:∃r,r1++dn=r:=⟨_,rfl⟩;rw[hr1,hr2]at hr3;have l1:q1.length≤40:=by rw[←hq1];decide
 have l2:q2.length≤41:=by rw[←hq2];simp only[List.length_append,List.length_cons,List.length_nil];omega
 have l3:q3.length≤61:=by rw[←hq3];simp only[List.length_append];omega
 have l4:q4.length≤62:=by rw[←hq4];simp only[List.length_append,List.length_cons,List.length_nil];omega
 have l5:q5.length≤82:=by rw[←hq5];simp only[List.length_append];omega
 have l6:r1.length≤6:=by rw[←hr1];simp only[List.length_append,List.length_cons,List.length_nil];omega
 have l7:r2.length≤11:=by rw[←hr2];simp only[List.length_append];omega
 have HHD:Hid (zq (zaX ⟨false,field,sym⟩)=q5):=hid (by rw[HHW.out,←hq5,←hq4,←hq3,←hq2,←hq1];exact zhZ _ _ _);have HSZ:=hid hsz;have HQ1:=hid hq1;have HQ2:=hid hq2;have HQ3:=hid hq3;have HQ4:=hid hq4;have HQ5:=hid hq5;have HR1:=hid hr1;have HR2:=hid hr2;have HR3:=hid hr3;clear hq1 hq2 hq3 hq4 hq5 hr1 hr2 hr3 hsz;have hpa:([.int .i64 (m:Int), .int .i64 (n:Int), .slice (some ⟨ga,0,none⟩) (n+1) c1, .slice p2 N c2, .slice p3 N c3]:List Value)<+:([.int .i64 (m:Int), .int .i64 (n:Int), .slice (some ⟨ga,0,none⟩) (n+1) c1, .slice p2 N c2, .slice p3 N c3, .bool false, .int .i64 (field:Int), .int .i64 (sym:Int)]:List Value).drop 0:=⟨[.bool false, .int .i64 (field:Int), .int .i64 (sym:Int)],rfl⟩
 go_enter Tryz.func14,Tryz.ntmps14
 revert H;refine W85 ?_;intro g0 _ _ _ g1 _ hg hf w1 H _ _ _ _;clear hpa;(refine xA H (zdM _ (HM.out.fr H.fr)) ?_;clear H;intro w1 H);simp only[Int.not_lt,Int.not_le]at*;revert H;refine W86 ?_;intro H _ _ _ _ _ _;(refine xA H (zii _ _ _ _ _ _ false field sym hfld hs HKD.out) ?_;clear H;intro w1 H);simp only[Int.not_lt,Int.not_le]at*;revert H;refine W86 ?_;intro H _ _ _ _;refine Calls.mono (zfH _ (HM.out.fr H.fr) hs hsq HSY.out) ?_;rintro e w1 ⟨v,rfl,hF,hown⟩;rw[HW.out,HK.out]at hown;obtain⟨Sw,H1⟩:=H.rowNew 2 hF hown;clear H hF hown;have H:=H1;clear H1;obtain⟨pw,cw,rfl,_⟩:=(H.rowo 2).form
 skip
 go_upto_region 12 with(first|refine x_q H ?_|refine zm (fun h=>?_) (fun h=>?_)|refine x_l H ?_|(revert H;(first|(refine x_g ?_;(first|(have hh:=g5;clear hh;intro g6 w1 hg hf H)|(have hh:=g4;clear hh;intro g5 w1 hg hf H)|(have hh:=g3;clear hh;intro g4 w1 hg hf H)|(have hh:=g2;clear hh;intro g3 w1 hg hf H)|(have hh:=g1;clear hh;intro g2 w1 hg hf H)|(have hh:=g0;clear hh;intro g1 w1 hg hf H)|intro g0 w1 hg hf H);(first|replace hf:=hf.kp|clear hf))|(refine x_s (he:=fun H K hK=>zeS H rfl rfl rfl (h:=hK)) ?_;intro w1 hf H;clear hf)|(refine x_s ?_;intro w1 hf H;(first|replace hf:=hf.kp|clear hf))|(refine zau ?_;intro w1 hf H hk;clear hf hk))))
 all_goals
  revert H;refine W86 ?_;intro H _ _;(refine xA H (zeh _ W HK.out yb hfld HFIT.out (EntR.of (H.rowo 2)) (H.cell (b:=g0) (p:=6) rfl) (HT.out.fr H.fr)) ?_;clear H;intro w1 H)
  go_upto_region 14 with(first|refine x_q H ?_|refine zm (fun h=>?_) (fun h=>?_)|refine x_l H ?_|(revert H;(first|(refine x_g ?_;(first|(have hh:=g5;clear hh;intro g6 w1 hg hf H)|(have hh:=g4;clear hh;intro g5 w1 hg hf H)|(have hh:=g3;clear hh;intro g4 w1 hg hf H)|(have hh:=g2;clear hh;intro g3 w1 hg hf H)|(have hh:=g1;clear hh;intro g2 w1 hg hf H)|(have hh:=g0;clear hh;intro g1 w1 hg hf H)|intro g0 w1 hg hf H);(first|replace hf:=hf.kp|clear hf))|(refine x_s (he:=fun H K hK=>zeS H rfl rfl rfl (h:=hK)) ?_;intro w1 hf H;clear hf)|(refine x_s ?_;intro w1 hf H;(first|replace hf:=hf.kp|clear hf))|(refine zau ?_;intro w1 hf H hk;clear hf hk))))
  go_cut [54] (fun s54 wx=>s54= .bool false∧Hp [] w wx [.obj 2 Sw (RowAt 75 3 (.slice pw K cw) K (W.flatMap eC) Sw), .blk g1 [.int .i64 (m:Int), .int .i64 (n:Int), .slice (some ⟨ga,0,none⟩) (n+1) c1, .slice p2 N c2, .slice p3 N c3] 28, .blk g0 [.int .i64 (m:Int), .int .i64 (n:Int), .slice (some ⟨ga,0,none⟩) (n+1) c1, .slice p2 N c2, .slice p3 N c3, .bool false, .int .i64 (field:Int), .int .i64 (sym:Int)] 30])
  case first=>
   go_wp2_with(first|refine x_q H ?_|refine x_l H ?_|refine zm ?_ ?_<;>intro h|(revert H;(first|(refine x_g ?_;(first|(have hh:=g5;clear hh;intro g6 w1 hg hf H)|(have hh:=g4;clear hh;intro g5 w1 hg hf H)|(have hh:=g3;clear hh;intro g4 w1 hg hf H)|(have hh:=g2;clear hh;intro g3 w1 hg hf H)|(have hh:=g1;clear hh;intro g2 w1 hg hf H)|(have hh:=g0;clear hh;intro g1 w1 hg hf H)|intro g0 w1 hg hf H);(first|replace hf:=hf.kp|clear hf))|(refine x_s (he:=fun H K hK=>zeS H rfl rfl rfl (h:=hK)) ?_;intro w1 hf H;clear hf)|(refine x_s ?_;intro w1 hf H;(first|replace hf:=hf.kp|clear hf))|(refine zau ?_;intro w1 hf H hk;clear hf hk))))
   all_goals
    go_meet
    case rel=>exact⟨rfl,H.arr ye⟩
  case rest=>
   clear H;obtain⟨rfl,H⟩:=hcut;revert H;refine W86 ?_;intro H _ _ _ _;(refine xA H (zbP _ K yb (HT.out.fr H.fr) HDK) ?_;clear H;intro w1 H);simp only[Int.not_lt,Int.not_le]at*;revert H;refine W87 ?_;intro H _ _
   (revert H;refine w_p 26 (.st 0 (.st 1 (.st 2 (.st 3 (.st 4 (.st 5 (.st 6 (.st 7 (.st 8 (.st 9 (.st 10 (.st 11 (.st 12 (.st 13 (.st 14 (.st 15 (.st 18 (.st 19 (.st 22 (.ld 16 (.st 17 (.ld 20 (.st 21 (.st 23 (.ld 24 (.st 25 .done)))))))))))))))))))))))))) ?_;intro w1 H)
   refine p_q ?_;(refine p_e rfl (fun w H=>z8 (s:=[37,37,77,97,116,114,105,120,77,97,114,107,101,116,32,109,97,116,114,105,120,32]) (r:=sCoo) rfl rfl rfl HQ1 yj) ?_);(refine p_e rfl (fun w H=>z8 (s:=q1) (r:=[32]) rfl rfl rfl HQ2 yj) ?_)
   iterate 2 refine p_q ?_
   (refine p_e rfl (fun w H=>zgO rfl rfl rfl yb) ?_);(refine p_e rfl (fun w H=>zaz rfl rfl (H.fr.cell HLF.out yg)) ?_);(refine p_e rfl (fun w H=>z8 (s:=q2) (r:=fs) rfl rfl rfl HQ3 yj) ?_);(refine p_e rfl (fun w H=>z8 (s:=q3) (r:=[32]) rfl rfl rfl HQ4 yj) ?_)
   iterate 2 refine p_q ?_
   (refine p_e rfl (fun w H=>zgO rfl rfl rfl yb) ?_);(refine p_e rfl (fun w H=>zaz rfl rfl (H.fr.cell HLS.out yg)) ?_);(refine p_e rfl (fun w H=>z8 (s:=q4) (r:=ss) rfl rfl rfl HQ5 yj) ?_)
   iterate 5 refine p_q ?_
   ((refine p_c H rfl rfl Tryz.func48 (zbP _ m yb (HT.out.fr H.fr) HDM) ?_;clear H;rintro e w1 ⟨rfl,hF⟩ H;refine p_r ?_;clear hF))
   (refine p_e rfl (fun w H=>z8 (s:=dm) (r:=[32]) rfl rfl rfl HR1 yj) ?_)
   ((refine p_c H rfl rfl Tryz.func48 (zbP _ n yb (HT.out.fr H.fr) HDN) ?_;clear H;rintro e w1 ⟨rfl,hF⟩ H;refine p_r ?_;clear hF))
   (refine p_e rfl (fun w H=>z8 (s:=r1) (r:=dn) rfl rfl rfl HR2 yj) ?_);(refine p_e rfl (fun w H=>z8 (s:=r2) (r:=(32::dk)) rfl rfl rfl HR3 yj) ?_)
   (go_loud (refine zag rfl rfl (fun K hK=>zez H rfl ym rfl yu yf yf (fun g2 w1 hg hf H1=>hK _ _ (fun hne=>by first|exact absurd rfl hne|exact trivial|exact H1.sub yd) ?_)));(clear hK K);(clear H;have H:=H1;clear H1;(try dsimp only at H);(first|replace hf:=hf.kp|clear hf));(simp only[nrm,↓reduceIte,Nat.reduceAdd]))
   refine p_q ?_;(refine zf ?_);have H1:=H.rowShut (g:=g2) 5 (e:=9) (sz:=1) (n:=2) (cap:=2) (xs:=[ze q5,ze r3]) (pad:=[]) yg rfl yb yk rfl (.head _);clear H;have H:=H1;clear H1;revert H;refine W86 ?_;intro H _ _;clear HQ1 HQ2 HQ3 HQ4 HQ5 HR1 HR2 HR3 l1 l2 l3 l4 l5 l6 l7 hr3l hdml hdnl hdkl HDM HDN HDK hfl hsl HLF HLS HHW hsc1 hsc2 HM HSY HW
   go_loopw [10,97] (fun s10 s97 wr=>∃(k:Nat) (R:List (En×List UInt8)) (p:Option Addr) (c:Nat) (S0:List Nat) (cs:List Value),s10= .slice p (k+2) c∧s97= .int .i64 (k:Int)∧k≤K∧Hid (R.map (·.1)=W.take k)∧Hid (∀q∈R,q.2.length≤2000∧(field≠2→zai field q.2=some q.1.2.2∧zaT q.2))∧Hid (cs=(q5::r3::R.map fun q=>zq (zy ⟨false,field,sym⟩ q)).map ze)∧Hp [] w wr [.obj 5 S0 (RowAt 9 1 (.slice p (k+2) c) (k+2) cs S0), .obj 2 Sw (RowAt 75 3 (.slice pw K cw) K (W.flatMap eC) Sw), .blk g1 [.int .i64 (m:Int), .int .i64 (n:Int), .slice (some ⟨ga,0,none⟩) (n+1) c1, .slice p2 N c2, .slice p3 N c3] 28, .blk g0 [.int .i64 (m:Int), .int .i64 (n:Int), .slice (some ⟨ga,0,none⟩) (n+1) c1, .slice p2 N c2, .slice p3 N c3, .bool false, .int .i64 (field:Int), .int .i64 (sym:Int)] 30]) (fun _ v _=>K-(intOf v).toNat)
   case atStart=>exact⟨0,[],some ⟨g2,0,none⟩,2,[g2],_,rfl,rfl,Nat.zero_le _,hid rfl,hid (fun q h=>by cases h),hid rfl,H.arr ye⟩
   case round=>
    clear H;obtain⟨k,R,p,c,S0,cs,rfl,rfl,hkK,HRR,HTX,HC,H⟩:=hrel
    by_cases hlt:k<K
    ·obtain⟨⟨xi,xj,xv⟩,hx⟩:∃x,W[k]? =some x:=⟨_,List.getElem?_eq_getElem (by rw[HK.out];exact hlt)⟩;have hmem:=List.mem_of_getElem? hx;have HFX:=hid (HFIT.out _ hmem);have hbx:=HB.out _ hmem;have hv64:=HFX.out.2.1;simp only at hbx hv64;have hxi:=hbx.1;have hxj:=hbx.2;have hpre:[.int .i64 (xi:Int), .int .i64 (xj:Int), .int .u64 (xv:Int)]<+:(W.flatMap eC).drop (k*3):=zdu hx;have HT1:=hid (zb7 hx);obtain⟨gw,cw',hvs,rfl⟩:=(H.rowo 2).some yb
     cases hvs
     obtain⟨di,hdi⟩:∃l,dec (xi+1)=l:=⟨_,rfl⟩;obtain⟨dj,hdj⟩:∃l,dec (xj+1)=l:=⟨_,rfl⟩;have hdil:di.length≤5:=by rw[←hdi];exact zaE yb
     have hdjl:dj.length≤5:=by rw[←hdj];exact zaE yb
     have HDI:=hid hdi;have HDJ:=hid hdj;have HI1:=hid (show(xi:Int)+1=((xi+1:Nat):Int) by omega);have HJ1:=hid (show(xj:Int)+1=((xj+1:Nat):Int) by omega);have H1:=H.newRow 6 (e:=9) (sz:=1);clear H hx hmem hbx hdi hdj;have H:=H1;clear H1
     by_cases hf2:field=2
     ·have hfa:2≤field:=by omega
      clear hf2;simp only[Int.not_lt,Int.not_le]at*;revert H;refine W88 ?_;intro _ _ _ g3 _ hg hf w1 H _ _;clear hpre
      (revert H;refine w_p 12 (.st 0 (.st 1 (.st 2 (.st 3 (.st 5 (.st 6 (.st 7 (.ld 4 (.ld 8 (.ld 9 (.ld 10 (.st 11 .done)))))))))))) ?_ (hs:=(.cons_cons _ (.cons _ (List.Sublist.refl _))));intro w1 H)
      iterate 7 refine p_q ?_
      ((refine p_c H rfl rfl Tryz.func48 (zdU _ (xi+1) yb HI1 (HT.out.fr H.fr) HDI) ?_;clear H;rintro e w1 ⟨rfl,hF⟩ H;refine p_r ?_;clear hF))
      ((refine p_c H rfl rfl Tryz.func48 (zdU _ (xj+1) yb HJ1 (HT.out.fr H.fr) HDJ) ?_;clear H;rintro e w1 ⟨rfl,hF⟩ H;refine p_r ?_;clear hF))
      (go_loud (refine zag rfl rfl (fun K hK=>zez H rfl ym rfl yu yf yf (fun gb w1 hg hf H1=>hK _ _ (fun hne=>by first|exact absurd rfl hne|exact trivial|exact H1.sub yd) ?_)));(clear hK K);(clear H;have H:=H1;clear H1;(try dsimp only at H);(first|replace hf:=hf.kp|clear hf));(simp only[nrm,↓reduceIte,Nat.reduceAdd]))
      (go_loud (refine zag rfl rfl (fun K hK=>zaN H rfl rfl rfl 6 (H.rd (b:=gb) (off:=0) (vs:=[ze di,ze dj]) List.prefix_rfl) rfl (by intro v hv;simp only[List.mem_cons,List.mem_singleton,List.not_mem_nil,or_false]at hv;(first|subst hv;rfl|(rcases hv with rfl|rfl<;>rfl))) yb yk (fun p1 c1 w1 S' hf H1=>hK _ _ (fun hne=>by first|exact absurd rfl hne|exact trivial|exact H1.sub yd) ?_)));(clear hK K);(clear H;have H:=H1;clear H1;(try dsimp only at H);(first|replace hf:=hf.kp|clear hf));(simp only[nrm,↓reduceIte,Nat.reduceAdd]))
      refine p_q ?_;(refine zf ?_)
      all_goals
       revert H;refine W86 ?_;intro H _ _;obtain⟨gp,cp,hq,rfl⟩:=(H.rowo 6).some yb
       cases hq
       have hcap6:=(H.rowo 6).form;have HC6:Hid (2≤c1):=hid (by obtain⟨p',c',e,h,_⟩:=hcap6;cases e;exact h);have hcells:=(fun(j:Nat) u (hj:(([di,dj]:List (List UInt8)).map ze)[j]? =some u)=>(H.rowo 6).cell hj);have hglt:=block_lt_of_cell (hcells 0 _ rfl);obtain⟨sl,hsl⟩:∃s,Lib.join ([di,dj]) [32]=s:=⟨_,rfl⟩
       have hsll:sl.length≤100000:=by
        rw[←hsl]
        exact ze5 (fun y hy=>by
         simp only[List.mem_cons,List.not_mem_nil,or_false]at hy
         ((first|(rcases hy with rfl|rfl|rfl)|(rcases hy with rfl|rfl)|subst hy)<;>omega)) (by simp only[List.length_cons,List.length_nil];omega)
       have HSL:=hid hsl;have HCE6:=hid hcells;have HGL6:=hid hglt;clear hcap6 hcells hglt hsl;(refine xA H (zc2 (n:=2) ([di,dj]) [32] rfl HCE6.out HGL6.out yb HC6.out yb HSL) ?_;clear H;intro w1 H);clear HCE6 HGL6;simp only[Int.not_lt,Int.not_le]at*;revert H;refine W89 ?_;intro g4 _ hg hf p1 c1 w1 S' H
       have hwe:zy ⟨false,field,sym⟩ ((xi,xj,xv),[])=[di,dj]:=by
        show(if false=true then []else [dec (xi+1),dec (xj+1)])++(if field=2 then []else [[]])=_
        rw[HDI.out,HDJ.out]
        (first|rw[if_pos (show field=2 by omega)]|rw[if_neg hf2])
        rfl
       have hl:zq (zy ⟨false,field,sym⟩ ((xi,xj,xv),[]))=sl:=by rw[zgD,hwe,HSL.out]
       have HR2:=hid (show(R++[((xi,xj,xv),([]:List UInt8))]).map (·.1)=W.take (k+1) by rw[List.map_append,HRR.out,HT1.out];rfl)
       have HT2:=hid (show ∀q∈R++[((xi,xj,xv),([]:List UInt8))],q.2.length≤2000∧(field≠2→zai field q.2=some q.1.2.2∧zaT q.2)from fun q hq=>by
        rcases List.mem_append.1 hq with h|h
        ·exact HTX.out q h
        ·simp only[List.mem_singleton]at h;subst h
         exact⟨Nat.zero_le _,fun h=>absurd (show field=2 by omega) h⟩)
       have HC2:=hid (show cs++[ze sl]=(q5::r3::(R++[((xi,xj,xv),([]:List UInt8))]).map fun q=>zq (zy ⟨false,field,sym⟩ q)).map ze by
        rw[HC.out,←hl]
        simp only[List.map_cons,List.map_append,List.map_nil,List.cons_append])
       clear hwe hl HRR HTX HC
       go_roundw
       case rel=>exact⟨k+1,R++[((xi,xj,xv),[])],_,_,_,cs++[ze sl],rfl,congrArg (Value.int .i64) yb,by omega,HR2,HT2,HC2,H.sub yd⟩
       case measure=>(simp[intOf];try omega)
     ·simp only[Int.not_lt,Int.not_le]at*;revert H;refine W88 ?_;intro _ _ _ g3 _ hg hf w1 H _ _;clear hpre
      (revert H;refine w_p 12 (.st 0 (.st 1 (.st 2 (.st 3 (.st 5 (.st 6 (.st 7 (.ld 4 (.ld 8 (.ld 9 (.ld 10 (.st 11 .done)))))))))))) ?_ (hs:=(.cons_cons _ (.cons _ (List.Sublist.refl _))));intro w1 H)
      iterate 7 refine p_q ?_
      ((refine p_c H rfl rfl Tryz.func48 (zdU _ (xi+1) yb HI1 (HT.out.fr H.fr) HDI) ?_;clear H;rintro e w1 ⟨rfl,hF⟩ H;refine p_r ?_;clear hF))
      ((refine p_c H rfl rfl Tryz.func48 (zdU _ (xj+1) yb HJ1 (HT.out.fr H.fr) HDJ) ?_;clear H;rintro e w1 ⟨rfl,hF⟩ H;refine p_r ?_;clear hF))
      (go_loud (refine zag rfl rfl (fun K hK=>zez H rfl ym rfl yu yf yf (fun gb w1 hg hf H1=>hK _ _ (fun hne=>by first|exact absurd rfl hne|exact trivial|exact H1.sub yd) ?_)));(clear hK K);(clear H;have H:=H1;clear H1;(try dsimp only at H);(first|replace hf:=hf.kp|clear hf));(simp only[nrm,↓reduceIte,Nat.reduceAdd]))
      (go_loud (refine zag rfl rfl (fun K hK=>zaN H rfl rfl rfl 6 (H.rd (b:=gb) (off:=0) (vs:=[ze di,ze dj]) List.prefix_rfl) rfl (by intro v hv;simp only[List.mem_cons,List.mem_singleton,List.not_mem_nil,or_false]at hv;(first|subst hv;rfl|(rcases hv with rfl|rfl<;>rfl))) yb yk (fun p1 c1 w1 S' hf H1=>hK _ _ (fun hne=>by first|exact absurd rfl hne|exact trivial|exact H1.sub yd) ?_)));(clear hK K);(clear H;have H:=H1;clear H1;(try dsimp only at H);(first|replace hf:=hf.kp|clear hf));(simp only[nrm,↓reduceIte,Nat.reduceAdd]))
      refine p_q ?_;(refine zf ?_)
      all_goals
       revert H;refine W86 ?_;intro H _ _ _ _;refine x_c H (zkD _ yb HFX.out (HT.out.fr H.fr)) ?_;clear H;rintro e w1 ⟨lt,rfl,hF,htx⟩ H;clear hF;have HTX2:=hid htx;have hltl:=htx.2.1;clear htx;simp only[Int.not_lt,Int.not_le]at*;revert H;refine W90 ?_;intro g4 _ hg hf p1 c1 w1 S' H _ _;obtain⟨gp,cp,hq,rfl⟩:=(H.rowo 6).some yb
       cases hq
       have hcap6:=(H.rowo 6).form;have HC6:Hid (3≤c1):=hid (by obtain⟨p',c',e,h,_⟩:=hcap6;cases e;exact h);have hcells:=(fun(j:Nat) u (hj:(([di,dj,lt]:List (List UInt8)).map ze)[j]? =some u)=>(H.rowo 6).cell hj);have hglt:=block_lt_of_cell (hcells 0 _ rfl);obtain⟨sl,hsl⟩:∃s,Lib.join ([di,dj,lt]) [32]=s:=⟨_,rfl⟩
       have hsll:sl.length≤100000:=by
        rw[←hsl]
        exact ze5 (fun y hy=>by
         simp only[List.mem_cons,List.not_mem_nil,or_false]at hy
         ((first|(rcases hy with rfl|rfl|rfl)|(rcases hy with rfl|rfl)|subst hy)<;>omega)) (by simp only[List.length_cons,List.length_nil];omega)
       have HSL:=hid hsl;have HCE6:=hid hcells;have HGL6:=hid hglt;clear hcap6 hcells hglt hsl;(refine xA H (zc2 (n:=3) ([di,dj,lt]) [32] rfl HCE6.out HGL6.out yb HC6.out yb HSL) ?_;clear H;intro w1 H);clear HCE6 HGL6;simp only[Int.not_lt,Int.not_le]at*;revert H;refine W91 ?_;intro g5 _ hg hf p1 c1 w1 S' H
       have hwe:zy ⟨false,field,sym⟩ ((xi,xj,xv),lt)=[di,dj,lt]:=by
        show(if false=true then []else [dec (xi+1),dec (xj+1)])++(if field=2 then []else [lt])=_
        rw[HDI.out,HDJ.out]
        (first|rw[if_pos (show field=2 by omega)]|rw[if_neg hf2])
        rfl
       have hl:zq (zy ⟨false,field,sym⟩ ((xi,xj,xv),lt))=sl:=by rw[zgD,hwe,HSL.out]
       have HR2:=hid (show(R++[((xi,xj,xv),(lt:List UInt8))]).map (·.1)=W.take (k+1) by rw[List.map_append,HRR.out,HT1.out];rfl)
       have HT2:=hid (show ∀q∈R++[((xi,xj,xv),(lt:List UInt8))],q.2.length≤2000∧(field≠2→zai field q.2=some q.1.2.2∧zaT q.2)from fun q hq=>by
        rcases List.mem_append.1 hq with h|h
        ·exact HTX.out q h
        ·simp only[List.mem_singleton]at h;subst h
         exact⟨hltl,fun _=>⟨HTX2.out.2.2,HTX2.out.1⟩⟩)
       have HC2:=hid (show cs++[ze sl]=(q5::r3::(R++[((xi,xj,xv),(lt:List UInt8))]).map fun q=>zq (zy ⟨false,field,sym⟩ q)).map ze by
        rw[HC.out,←hl]
        simp only[List.map_cons,List.map_append,List.map_nil,List.cons_append])
       clear hwe hl HRR HTX HC
       go_roundw
       case rel=>exact⟨k+1,R++[((xi,xj,xv),lt)],_,_,_,cs++[ze sl],rfl,congrArg (Value.int .i64) yb,by omega,HR2,HT2,HC2,H.sub yd⟩
       case measure=>(simp[intOf];try omega)
    ·obtain rfl:k=K:=by omega
     have HRW:=hid (show R.map (·.1)=W by
      rw[HRR.out,List.take_of_length_le (by rw[HK.out];omega)])
     have hRl:R.length=k:=by rw[←HK.out,←HRW.out,List.length_map]
     obtain⟨gq,cq,hq,rfl⟩:=(H.rowo 5).some yb
     cases hq
     obtain⟨ls,hls⟩:∃ls,(q5::r3::R.map fun q=>zq (zy ⟨false,field,sym⟩ q))=ls:=⟨_,rfl⟩;have HLS2:=hid hls;have hcs:cs=ls.map ze:=by rw[HC.out,hls]
     have hll:ls.length=k+2:=by rw[←hls];simp only[List.length_cons,List.length_map];omega
     obtain⟨B0,hB0⟩:∃B,Lib.join ls [10]=B:=⟨_,rfl⟩;have HB0:=hid hB0
     have HFB:=hid (show za2 ⟨false,field,sym⟩ m n R=B0++[10] by
      unfold za2
      rw[HHD.out,hRl,HSZ.out,←hB0,←hls,zit])
     have hBl:(B0++[10]).length≤1000000:=by
      rw[←HFB.out]
      exact zis hfld hs yb yb yb (fun q hq=>by
       have h1:q.1∈W:=by rw[←HRW.out];exact List.mem_map.2 ⟨q,hq,rfl⟩
       have h2:=HB.out _ h1
       exact⟨h2.1,h2.2,(HTX.out q hq).1⟩)
     have hB0l:B0.length≤1000000:=by rw[List.length_append]at hBl;omega
     have hcap:=(H.rowo 5).form;have HCQ:Hid (k+2≤c):=hid (by obtain⟨p',c',e,h,_⟩:=hcap;cases e;exact h);have hcells:=(fun(j:Nat) u (hj:(ls.map ze)[j]? =some u)=>(H.rowo 5).cell (by rw[hcs];exact hj));have hglt:=block_lt_of_cell (hcells 0 (ze q5) (by rw[←hls];rfl));have HCE:=hid hcells;have HGL:=hid hglt;have HLL:=hid hll;clear hcap hcells hglt hls hB0 hcs hll hRl HC;simp only[Int.not_lt,Int.not_le]at*;revert H;refine W86 ?_;intro H _ _ _ _ _ _ _;(refine xA H (zc2 ls [10] HLL.out HCE.out HGL.out yb HCQ.out yb HB0) ?_;clear H;intro w1 H);clear HCE HGL;simp only[Int.not_lt,Int.not_le]at*;revert H;refine W92 ?_;intro g w1 cap H
     go_ret2
     exact zg0 HRW.out HTX.out HFB.out hBl H.fr (H.ob 7) rfl
end
end Go.Proofs.YtaijhllckmndhaaGreatDoor
