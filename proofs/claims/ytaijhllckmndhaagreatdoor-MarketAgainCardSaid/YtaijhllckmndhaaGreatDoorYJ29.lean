import Derived.Test.YtaijhllckmndhaaGreatDoorYJ0
import Derived.Test.YtaijhllckmndhaaGreatDoorYJ28
import Derived.Test.YtaijhllckmndhaaGreatDoorYJ22
import Derived.Defers
import Derived.Recover
namespace Go.Proofs.YtaijhllckmndhaaGreatDoor
set_option linter.all false
set_option maxHeartbeats 64000000
set_option maxRecDepth 100000
section
open Go.RowKit
attribute [local irreducible] wpList Plan.wp
def fileZ:List Value:=[.int .i64 0, .int .i64 0, .slice none 0 0, .slice none 0 0, .slice none 0 0, .bool false, .int .i64 0, .int .i64 0]
def zoA:∀v∈fileZ,v.oneCell'=true:=by
 unfold fileZ;intro v hv;simp only[List.mem_cons,List.not_mem_nil,or_false]at hv
 rcases hv with rfl|rfl|rfl|rfl|rfl|rfl|rfl|rfl<;>rfl
def zr4(v:Value)(w:World):(Instr.typeAssert (.iface 54 v) 20 54 false).run Tryz.prog w= .ok v w:=by kernel_rfl
section
variable {a:Act} {w:World} {o:Oper}
def zro(ho:o.op= .build 30 #[]):(execOp a.eval o).run Tryz.prog w= .ok (.value (.agg fileZ.toArray)) w:=by
 have hb:Tryz.prog.built 30 []=some fileZ.toArray:=by kernel_rfl
 have e1:((#[]:Array (Nat×Operand)).map fun(i,x)=>(i,a.eval x)).toList=[]:=by simp
 unfold execOp;simp only[ho,Sem.run_bind];rw[run_build w 30 _ _ (by rw[e1];exact hb)]
 rfl
def zvP{x:Operand}(ho:o.op= .typeAssert x 20 54 false){v:Value}(hx:a.eval x= .iface 54 v):(execOp a.eval o).run Tryz.prog w= .ok (.value v) w:=by
 unfold execOp
 simp[ho,hx,zr4]
end
section
variable {P:Program} {Q:Exit→Act→World→Prop} {a:Act} {w w0:World} {o:Oper} {K:Act→World→Prop} {T:List Nat} {l:List Ent}
def zrT(H:Hp T w0 w l){t:TypeId}{x y:Operand}(ho:o.op= .store t x y){b:Nat}{vs:List Value}(hx:a.eval x= .pointer (some ⟨b,0,none⟩))(hy:a.eval y= .agg vs.toArray){n:Nat}[hs:Ro P t n]{cs:List Value}{t':TypeId}{f:Nat→List Value→List Ent}[hm:In b cs t' l f](hn:vs.length=n:=by rfl)(hc:cs.length=n)(h1:∀v∈vs,v.oneCell'=true)
 (h:∀w',Fr [b] w w'→Hp T w0 w' (f b vs)→K (a.put o.dst undef) w'):o.wp P a w K Q:=
 zdS H ho hx (vs:=vs) hy hn h1 yb (fun w' hf H1=>h w' hf (by rw[zj7 yb]at H1;exact H1))
end
def zgQ(gf gl ge:Nat)(w:World):
 CallsD Tryz.prog 24 #[.pointer (some ⟨gf,0,none⟩), .pointer (some ⟨gl,0,none⟩), .pointer (some ⟨ge,0,none⟩)] .returning w fun e u' w'=>e= .returned (.tuple #[])∧u'= .returning∧w'=w:=by
 refine callsD_of_wpS Tryz.func24 rfl fun c₀ cs hu=>?_
 apply wpS_seq
 apply wpS_region
 simp[wpOpsS,go_sem,recoverD,hu,Tryz.ntmps24,Exit.thenS]
 apply wpS_seq
 apply wpS_region
 simp[wpOpsS,go_sem,Exit.thenS]
 refine wpS_cond (t:=false) (by simp[Act.eval,Array.replicate]) ?_;simp only[Bool.false_eq_true,if_false];refine wpS_of_wp (wp_skip ?_)
 cases c₀
 simp_all [bodyPostS,results,Tryz.results24]
def zbz(gf gl ge:Nat)(w:World)(k x:Int){cf:List Value}(hcf:cf.length=8)(H0:Hp [gf,gl,ge] w w [.blk ge [.int .i64 0] 31, .blk gl [.int .i64 0] 3, .blk gf cf 30]):
 CallsD Tryz.prog 24 #[.pointer (some ⟨gf,0,none⟩), .pointer (some ⟨gl,0,none⟩), .pointer (some ⟨ge,0,none⟩)] (.panicking (zdj k x)) w fun e u' w'=>
  e= .returned (.tuple #[])∧u'= .panicking [{v:= .iface 54 (.agg #[.int .i64 k, .int .i64 x]),recovered:=true}]∧Hp [gf,gl,ge] w w' [.blk ge [.int .i64 x] 31, .blk gl [.int .i64 k] 3, .blk gf fileZ 30]:=by
 refine callsD_of_wpS Tryz.func24 rfl fun c₀ cs hu=>?_
 apply wpS_seq
 apply wpS_region
 unfold zdj at hu
 simp[wpOpsS,go_sem,recoverD,hu,Tryz.ntmps24,Exit.thenS]
 apply wpS_seq
 apply wpS_region
 simp[wpOpsS,go_sem,Exit.thenS]
 refine wpS_cond (t:=true) (by simp[Act.eval,Array.replicate]) ?_;simp only[if_true];refine wpS_of_wp ?_;change Code.wp _ _ _ ⟨#[.pointer (some ⟨gf,0,none⟩), .pointer (some ⟨gl,0,none⟩), .pointer (some ⟨ge,0,none⟩), .iface 54 (.agg #[.int .i64 k, .int .i64 x]),undef, .iface 54 (.agg #[.int .i64 k, .int .i64 x]), .iface 54 (.agg #[.int .i64 k, .int .i64 x]), .bool true,undef,undef,undef,undef,undef,undef,undef],[]⟩ _;have H:=H0;clear H0;revert H;refine Wa2 ?_;intro _ g0 _ hg hf w1 H
 (revert H;refine w_p 7 (.st 0 (.st 1 (.st 2 (.st 3 (.st 4 (.ld 5 (.ld 6 (.ld 7 .done)))))))) ?_ (hs:=(.cons_cons _ (List.nil_sublist _)));intro w1 H)
 (refine p_e rfl (fun w H=>zro rfl) ?_)
 iterate 4 refine p_q ?_
 (revert H;refine p_s (he:=fun H K hK=>zrT H rfl rfl rfl (hc:=hcf) (h1:=zoA) (h:=hK)) ?_;intro w1 hf H;clear hf)
 (revert H;refine p_s ?_;intro w1 hf H;(first|replace hf:=hf.kp|clear hf))
 (revert H;refine p_s ?_;intro w1 hf H;(first|replace hf:=hf.kp|clear hf))
 (refine zf ?_);revert H;refine W74 ?_;intro H;have H2:Hp [gf,gl,ge] w w1 [.blk ge [.int .i64 x] 31, .blk gl [.int .i64 k] 3, .blk gf fileZ 30]:=H.arr ye;clear H
 cases c₀
 simp_all [bodyPostS,results,Tryz.results24]
end
section
open Go.RowKit
attribute [local irreducible] wpList Code.wp Plan.wp
def zsS{g b c i:Nat}{Ls:List (List UInt8)}{w:World}(hR:RdrAt g b c Ls i w)(hi:i≤Ls.length+1)(field sym:Nat)(hsym:sym≤2){o:Except (Nat×Nat) (Nat×Nat×Nat×Nat)}(ho:Hid (szP Ls i ⟨false,field,sym⟩=o)):
 Calls Tryz.prog 28 #[.pointer (some ⟨g,0,none⟩),zbO ⟨false,field,sym⟩] w fun e w'=>Fr [g,b] w w'∧zn6 o g b c Ls e w':=by
 have H:=hR.start;clear hR;unfold zbO
 go_enter Tryz.func28,Tryz.ntmps28
 go_wp2_with(revert H;refine x_g ?_;intro g1 w1 hg hf H;replace hf:=hf.kp)
 (have hR0:=H.ob 7;refine Calls.mono (zcN hR0 hi) ?_;rintro e w1 ⟨v,i',rfl,hF0,hR1,hcase⟩;have hF1:=hF0.mono (S:=[g,b]) yg ;have H1:=H.upd (w':=w1) 7 hF1 (S':=[g,b]) hR1 yg)
 clear hR0 hF0 hR1
 rcases hcase with⟨hs,rfl,rfl⟩|⟨ws,r,q,hs,rfl,hq,hc⟩
 ·have HO:Hid (o= .error (Ls.length+1,103)):=hid yG;clear H hs hF1;have H:=H1;clear H1
  go_wp2_with fail
  (refine x_c H (zo _ _ _ _ (H.ob 7).cell) ?_;clear H;rintro e w1 ⟨rfl,hF⟩ H;clear hF;refine⟨rfl,?_⟩);exact⟨H.fr,by rw[HO.out];rfl⟩
 ·have H2:=H1.push (b:=q) hc (.inr (Nat.le_trans H.fr.size hq)) (H.notOwn hq);have hnx:=zcM hs;have HO:Hid (o=match zas ⟨false,field,sym⟩ ws with| .error e=> .error (i',e)| .ok r=> .ok (i',r)):=hid yG
  have HWZ:Hid (∀x∈ws,x.length≤2000000):=hid (by
   obtain⟨_,_,_,_,s,hsm,rfl⟩:=hnx;intro x hx
   exact Nat.le_trans (zbN hx) ((H1.ob 7).hl s hsm))
  have hwn:ws.length≤2000001:=by
   obtain⟨_,_,_,_,s,hsm,rfl⟩:=hnx
   have:=zba s
   have:=(H1.ob 7).hl s hsm
   omega
  clear H H1 hs hF1 hq hc hnx;have H:=H2;clear H2
  by_cases hl:ws.length=3
  ·go_wp2_with fail
   (refine xA H (zp _ _ _) ?_;clear H;intro w1 H)
   go_wp2_with(refine x_q H ?_)
   (refine xA H (zp _ _ _) ?_;clear H;intro w1 H)
   go_wp2_with(revert H;refine x_g ?_;intro g9 w1 hg hf H;replace hf:=hf.kp)
   go_loopw [30] (fun s30 wr=>∃(k:Nat) (cs:List Value),s30= .int .i64 (k:Int)∧k≤3∧cs.length=3∧Hid (cs=szk k ws)∧Hid ((ws.take k).all zT=true)∧Hp [g,b] w wr [.blk g9 cs 109, .blk q (ws.map ze) 9, .blk g1 [.int .i64 0, .int .i64 0, .slice none 0 0, .slice none 0 0, .slice none 0 0, .bool false, .int .i64 (field:Int), .int .i64 (sym:Int)] 30, .obj 7 [g,b] (RdrAt g b c Ls i')]) (fun v _=>3-(intOf v).toNat)
   case atStart=>exact⟨0,_,rfl,Nat.zero_le _,rfl,hid rfl,hid rfl,H⟩
   case round=>
    clear H;obtain⟨k,cs,rfl,hk,hcl,HC,HA,H⟩:=hrel
    by_cases hlt:k<3
    ·obtain⟨x,hx⟩:∃x,ws[k]? =some x:=⟨_,List.getElem?_eq_getElem yb⟩;have hxv:(ws.map ze)[k]? =some (ze x):=by rw[List.getElem?_map,hx];rfl
     have hxl:=HWZ.out x (List.mem_of_getElem? hx);obtain⟨a,ok,had⟩:∃a ok,zbb x=(a,ok):=⟨_,_,rfl⟩;have HAD:=hid had;have HON:Hid (zT x=ok):=hid (by rw[←zes,had]);have HC2:=hid (show cs.set k (.int .i64 (a:Int))=szk (k+1) ws by rw[HC.out];have:=zj1 hx yb ;unfold dnv at this;rw[had]at this;exact this);clear HC had
     cases ok
     ·have HO2:Hid (o= .error (i',101)):=hid (by
       rw[HO.out]
       have:ws.all zT=false:=by
        rw[List.all_eq_false];exact⟨x,List.mem_of_getElem? hx,by rw[HON.out];decide⟩
       unfold zas
       rw[if_neg (by rw[this];simp)])
      go_wp2_with(refine x_q H ?_)
      (refine xA H (zbn _ x yb HAD) ?_;clear H;intro w1 H)
      go_wp2_with fail
      (refine x_c H (zo _ _ _ _ (H.ob 7).cell) ?_;clear H;rintro e w1 ⟨rfl,hF⟩ H;clear hF;refine⟨rfl,?_⟩);exact⟨H.fr,by rw[HO2.out];rfl⟩
     ·have HA2:=hid (show(ws.take (k+1)).all zT=true by rw[List.take_add_one,hx,List.all_append,HA.out];simp[HON.out]);clear HA
      go_wp2_with(refine x_q H ?_)
      (refine xA H (zbn _ x yb HAD) ?_;clear H;intro w1 H)
      go_wp2_with fail
      (refine xA H (zp _ _ _) ?_;clear H;intro w1 H)
      go_wp2_with(revert H;refine x_s ?_;intro w1 hf H;clear hf)
      go_roundw
      case rel=>exact⟨k+1,_,rfl,by omega,by rw[List.length_set];exact hcl,HC2,HA2,H⟩
      case measure=>(simp[intOf];try omega)
    ·have hke:k=3:=by omega
     subst hke;have HALL:Hid (ws.all zT=true):=hid (by have h:=HA.out;rwa [←hl,List.take_length]at h);clear HA hlt;obtain⟨x,y,z,rfl⟩:=zkz hl;obtain⟨a0,ok0,h0⟩:∃a ok,zbb x=(a,ok):=⟨_,_,rfl⟩;obtain⟨a1,ok1,h1⟩:∃a ok,zbb y=(a,ok):=⟨_,_,rfl⟩;obtain⟨a2,ok2,h2⟩:∃a ok,zbb z=(a,ok):=⟨_,_,rfl⟩;have hall:=HALL.out;simp only[List.all_cons,List.all_nil,Bool.and_true,Bool.and_eq_true]at hall;have HM0:Hid (a0=min (num x) 1073741824):=hid (by rw[←zcJ hall.1,h0]);have HM1:Hid (a1=min (num y) 1073741824):=hid (by rw[←zcJ hall.2.1,h1]);have HM2:Hid (a2=min (num z) 1073741824):=hid (by rw[←zcJ hall.2.2,h2]);have hcs:cs=[.int .i64 (a0:Int), .int .i64 (a1:Int), .int .i64 (a2:Int)]:=by rw[HC.out];unfold szk dnv;simp[h0,h1,h2]
     have ha0:a0≤1073741824:=by rw[HM0.out];omega
     have ha1:a1≤1073741824:=by rw[HM1.out];omega
     have ha2:a2≤1073741824:=by rw[HM2.out];omega
     subst hcs;clear HC hcl hall h0 h1 h2 HWZ hwn hl
     by_cases hs0:sym=0
     ·subst hs0;have HO3:=hid (HO.out.trans (by rw[zoB HALL.out (.inl rfl)]))
      go_wp2_with(refine x_q H ?_)
      (revert H;refine w_p 9 (.st 0 (.st 1 (.st 2 (.st 3 (.st 4 (.st 5 (.st 6 (.st 7 (.st 8 .done))))))))) ?_;intro w1 H)
      (refine p_e rfl (fun w H=>zaM rfl rfl yf yf (k:=0) rfl) ?_);refine p_q ?_;(refine p_e rfl (fun w H=>zaM rfl rfl yf yf (k:=1) rfl) ?_);refine p_q ?_;(refine p_e rfl (fun w H=>zaM rfl rfl yf yf (k:=2) rfl) ?_)
      iterate 4 refine p_q ?_
      (refine zf ?_)
      all_goals
       go_wp2_with fail
       (revert H;refine w_p 15 (.st 0 (.st 1 (.st 2 (.st 3 (.st 4 (.st 5 (.st 6 (.st 7 (.st 9 (.st 10 (.st 11 (.ld 8 (.ld 12 (.st 13 (.st 14 (.ld 15 .done)))))))))))))))) ?_;intro w1 H)
       iterate 5 refine p_q ?_
       iterate 6 (first|refine p_q ?_|refine p_n ?_)
       (refine zd7 rfl rfl (fun _=>H) ?_;(simp only[nrm,↓reduceIte,Nat.reduceAdd]));(refine zd7 rfl rfl (fun _=>H) ?_;(simp only[nrm,↓reduceIte,Nat.reduceAdd]))
       (first|refine p_q ?_|refine p_n ?_)
       refine p_q ?_
       ((refine p_c H rfl rfl Tryz.func26 (zp _ _ _) ?_;clear H;rintro e w1 ⟨rfl,hF⟩ H;refine p_r ?_;clear hF))
       (refine zf ?_)
       all_goals
        by_cases b0:a0≤200
        ·by_cases b1:a1≤200
         ·by_cases b2:a2≤10000
          ·have HO4:Hid (o= .ok (i',a0,a1,a2)):=hid (by have e0:=HM0.out;have e1:=HM1.out;have e2:=HM2.out;have f0:num x=a0:= yb ;have f1:num y=a1:= yb ;have f2:num z=a2:= yb ;rw[HO3.out,if_pos yx,f0,f1,f2])
           go_wp2_with(refine x_q H ?_)
           (refine xA H (zp _ _ _) ?_;clear H;intro w1 H)
           skip
           go_wp2_with(refine x_q H ?_)
           (refine xA H (zp _ _ _) ?_;clear H;intro w1 H)
           (go_wp2_with fail;refine bodyPost_ret (results_tmp3 rfl _ _ _) rfl ?_;exact⟨H.fr,by rw[HO4.out];exact⟨rfl,H.ob 7⟩⟩)
          ·(have HO4:Hid (o= .error (i',6)):=hid yp)
           go_wp2_with(refine x_q H ?_)
           (refine xA H (zp _ _ _) ?_;clear H;intro w1 H)
           skip
           (go_wp2_with(refine x_q H ?_);(refine x_c H (zo _ _ _ _ (H.ob 7).cell) ?_;clear H;rintro e w1 ⟨rfl,hF⟩ H;clear hF;refine⟨rfl,?_⟩);exact⟨H.fr,by rw[HO4.out];rfl⟩)
         ·(have HO4:Hid (o= .error (i',6)):=hid yp)
          (go_wp2_with(refine x_q H ?_);(refine x_c H (zo _ _ _ _ (H.ob 7).cell) ?_;clear H;rintro e w1 ⟨rfl,hF⟩ H;clear hF;refine⟨rfl,?_⟩);exact⟨H.fr,by rw[HO4.out];rfl⟩)
        ·(have HO4:Hid (o= .error (i',6)):=hid yp)
         (go_wp2_with(refine x_q H ?_);(refine x_c H (zo _ _ _ _ (H.ob 7).cell) ?_;clear H;rintro e w1 ⟨rfl,hF⟩ H;clear hF;refine⟨rfl,?_⟩);exact⟨H.fr,by rw[HO4.out];rfl⟩)
     ·have hs0':¬(sym:Int)=0:=by omega
      by_cases hle:zW x=zW y
      ·have HLE:=hid (show(x.dropWhile (· ==48)==y.dropWhile (· ==48))=true by simpa[zW]using hle);have HO3:=hid (HO.out.trans (by rw[zoB HALL.out (.inr hle)]));clear hle
       go_wp2_with(refine x_q H ?_)
       (revert H;refine w_p 9 (.st 0 (.st 1 (.st 2 (.st 3 (.st 4 (.st 5 (.st 6 (.st 7 (.st 8 .done))))))))) ?_;intro w1 H)
       (refine p_e rfl (fun w H=>zaM rfl rfl yf yf (k:=0) rfl) ?_);refine p_q ?_;(refine p_e rfl (fun w H=>zaM rfl rfl yf yf (k:=1) rfl) ?_);refine p_q ?_;(refine p_e rfl (fun w H=>zaM rfl rfl yf yf (k:=2) rfl) ?_)
       iterate 4 refine p_q ?_
       (refine zf ?_)
       all_goals
        go_wp2_with fail
        (revert H;refine w_p 15 (.st 0 (.st 1 (.st 2 (.st 3 (.st 4 (.st 5 (.st 6 (.st 7 (.st 9 (.st 10 (.st 11 (.ld 8 (.ld 12 (.st 13 (.st 14 (.ld 15 .done)))))))))))))))) ?_;intro w1 H)
        iterate 5 refine p_q ?_
        iterate 6 (first|refine p_q ?_|refine p_n ?_)
        ((refine p_c H rfl rfl Tryz.func71 (zaw _ x) ?_;clear H;rintro e w1 ⟨rfl,hF⟩ H;refine p_r ?_;clear hF))
        ((refine p_c H rfl rfl Tryz.func71 (zaw _ y) ?_;clear H;rintro e w1 ⟨rfl,hF⟩ H;refine p_r ?_;clear hF))
        (first|refine p_e rfl (fun w H=>zB rfl rfl rfl yo) ?_|refine p_n ?_)
        refine p_q ?_
        ((refine p_c H rfl rfl Tryz.func26 (zp _ _ _) ?_;clear H;rintro e w1 ⟨rfl,hF⟩ H;refine p_r ?_;clear hF))
        (refine zf ?_)
        all_goals
         by_cases b0:a0≤200
         ·by_cases b1:a1≤200
          ·by_cases b2:a2≤10000
           ·by_cases b3:2*a2≤10000
            ·have HO4:Hid (o= .ok (i',a0,a1,a2)):=hid (by have e0:=HM0.out;have e1:=HM1.out;have e2:=HM2.out;have f0:num x=a0:= yb ;have f1:num y=a1:= yb ;have f2:num z=a2:= yb ;rw[HO3.out,if_pos yx,f0,f1,f2])
             go_wp2_with(refine x_q H ?_)
             (refine xA H (zp _ _ _) ?_;clear H;intro w1 H)
             skip
             go_wp2_with(refine x_q H ?_)
             (refine xA H (zp _ _ _) ?_;clear H;intro w1 H)
             (go_wp2_with fail;refine bodyPost_ret (results_tmp3 rfl _ _ _) rfl ?_;exact⟨H.fr,by rw[HO4.out];exact⟨rfl,H.ob 7⟩⟩)
            ·(have HO4:Hid (o= .error (i',6)):=hid yp)
             go_wp2_with(refine x_q H ?_)
             (refine xA H (zp _ _ _) ?_;clear H;intro w1 H)
             skip
             (go_wp2_with(refine x_q H ?_);(refine x_c H (zo _ _ _ _ (H.ob 7).cell) ?_;clear H;rintro e w1 ⟨rfl,hF⟩ H;clear hF;refine⟨rfl,?_⟩);exact⟨H.fr,by rw[HO4.out];rfl⟩)
           ·(have HO4:Hid (o= .error (i',6)):=hid yp)
            go_wp2_with(refine x_q H ?_)
            (refine xA H (zp _ _ _) ?_;clear H;intro w1 H)
            skip
            (go_wp2_with(refine x_q H ?_);(refine x_c H (zo _ _ _ _ (H.ob 7).cell) ?_;clear H;rintro e w1 ⟨rfl,hF⟩ H;clear hF;refine⟨rfl,?_⟩);exact⟨H.fr,by rw[HO4.out];rfl⟩)
          ·(have HO4:Hid (o= .error (i',6)):=hid yp)
           (go_wp2_with(refine x_q H ?_);(refine x_c H (zo _ _ _ _ (H.ob 7).cell) ?_;clear H;rintro e w1 ⟨rfl,hF⟩ H;clear hF;refine⟨rfl,?_⟩);exact⟨H.fr,by rw[HO4.out];rfl⟩)
         ·(have HO4:Hid (o= .error (i',6)):=hid yp)
          (go_wp2_with(refine x_q H ?_);(refine x_c H (zo _ _ _ _ (H.ob 7).cell) ?_;clear H;rintro e w1 ⟨rfl,hF⟩ H;clear hF;refine⟨rfl,?_⟩);exact⟨H.fr,by rw[HO4.out];rfl⟩)
      ·have HLE:=hid (show(x.dropWhile (· ==48)==y.dropWhile (· ==48))=false by simpa[zW]using hle);have HO4:Hid (o= .error (i',101)):=hid (HO.out.trans (by rw[znG hs0 hle]));clear hle
       go_wp2_with(refine x_q H ?_)
       (revert H;refine w_p 9 (.st 0 (.st 1 (.st 2 (.st 3 (.st 4 (.st 5 (.st 6 (.st 7 (.st 8 .done))))))))) ?_;intro w1 H)
       (refine p_e rfl (fun w H=>zaM rfl rfl yf yf (k:=0) rfl) ?_);refine p_q ?_;(refine p_e rfl (fun w H=>zaM rfl rfl yf yf (k:=1) rfl) ?_);refine p_q ?_;(refine p_e rfl (fun w H=>zaM rfl rfl yf yf (k:=2) rfl) ?_)
       iterate 4 refine p_q ?_
       (refine zf ?_)
       all_goals
        go_wp2_with fail
        (revert H;refine w_p 15 (.st 0 (.st 1 (.st 2 (.st 3 (.st 4 (.st 5 (.st 6 (.st 7 (.st 9 (.st 10 (.st 11 (.ld 8 (.ld 12 (.st 13 (.st 14 (.ld 15 .done)))))))))))))))) ?_;intro w1 H)
        iterate 5 refine p_q ?_
        iterate 6 (first|refine p_q ?_|refine p_n ?_)
        ((refine p_c H rfl rfl Tryz.func71 (zaw _ x) ?_;clear H;rintro e w1 ⟨rfl,hF⟩ H;refine p_r ?_;clear hF))
        ((refine p_c H rfl rfl Tryz.func71 (zaw _ y) ?_;clear H;rintro e w1 ⟨rfl,hF⟩ H;refine p_r ?_;clear hF))
        (first|refine p_e rfl (fun w H=>zB rfl rfl rfl yo) ?_|refine p_n ?_)
        refine p_q ?_;(refine ztF rfl rfl Tryz.func26 (zo _ _ _ _ (H.ob 7).cell) ?_;rintro e w1 ⟨rfl,hF⟩;exact⟨_,rfl,rfl,H.fr.trans (hF.mono yg),by rw[HO4.out];rfl⟩)
  ·have HO2:Hid (o= .error (i',101)):=hid (by
    rw[HO.out];unfold zas
    rw[if_neg (fun k=>hl k.1)])
   have hl':¬(ws.length:Int)=3:=by omega
   clear hl
   go_wp2_with fail
   (refine xA H (zp _ _ _) ?_;clear H;intro w1 H)
   go_wp2_with(refine x_q H ?_)
   (refine x_c H (zo _ _ _ _ (H.ob 7).cell) ?_;clear H;rintro e w1 ⟨rfl,hF⟩ H;clear hF;refine⟨rfl,?_⟩);exact⟨H.fr,by rw[HO2.out];rfl⟩
end
end Go.Proofs.YtaijhllckmndhaaGreatDoor
