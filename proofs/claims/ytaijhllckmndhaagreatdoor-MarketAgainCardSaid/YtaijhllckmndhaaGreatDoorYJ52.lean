import Derived.Test.YtaijhllckmndhaaGreatDoorYJ0
import Derived.Test.YtaijhllckmndhaaGreatDoorYJ48
import Derived.Test.YtaijhllckmndhaaGreatDoorYJ29
import Derived.Test.YtaijhllckmndhaaGreatDoorYJ28
import Derived.Test.YtaijhllckmndhaaGreatDoorYJ27
import Derived.Test.YtaijhllckmndhaaGreatDoorYJ30
import Derived.Test.YtaijhllckmndhaaGreatDoorYJ46
import Derived.Test.YtaijhllckmndhaaGreatDoorYJ43
import Derived.Test.YtaijhllckmndhaaGreatDoorYJ44
import Derived.Test.YtaijhllckmndhaaGreatDoorYJ4
import Derived.Test.YtaijhllckmndhaaGreatDoorYJ24
import Derived.Test.YtaijhllckmndhaaGreatDoorYJ51
import Derived.Test.YtaijhllckmndhaaGreatDoorYJ21
import Derived.Test.YtaijhllckmndhaaGreatDoorYJ8
import Derived.Test.YtaijhllckmndhaaGreatDoorYJ3
namespace Go.Proofs.YtaijhllckmndhaaGreatDoor
set_option linter.all false
set_option maxHeartbeats 64000000
set_option maxRecDepth 100000
section
open Go.RowKit
attribute [local irreducible] wpList Code.wp Plan.wp zat zal pre zN
section
variable {P:Program} {Q:Exit→Act→World→Prop} {a:Act} {w w0:World} {o:Oper} {K:Act→World→Prop} {T:List Nat} {l:List Ent}
def zvO(H:Hp T w0 w l){t:TypeId}{x y:Operand}(ho:o.op= .store t x y){b:Nat}(hx:a.eval x= .pointer (some ⟨b,0,none⟩)){v0 v1 v2 v3 v4:Value}(hy:a.eval y= .agg #[v0,v1,v2,v3,v4])[hs:Ro P t 5]{a0 a1 a2 a3 a4 a5 a6 a7:Value}{t':TypeId}{f:Nat→List Value→List Ent}[hm:In b [a0,a1,a2,a3,a4,a5,a6,a7] t' l f]
 (h1:v0.oneCell'=true∧v1.oneCell'=true∧v2.oneCell'=true∧v3.oneCell'=true∧v4.oneCell'=true:=by exact⟨rfl,rfl,rfl,rfl,rfl⟩)
 (h:∀w',Fr [b] w w'→Hp T w0 w' (f b [v0,v1,v2,v3,v4,a5,a6,a7])→K (a.put o.dst undef) w'):o.wp P a w K Q:=
 zdS H ho hx (vs:=[v0,v1,v2,v3,v4]) hy rfl (by
  intro v hv;simp only[List.mem_cons,List.not_mem_nil,or_false]at hv
  rcases hv with rfl|rfl|rfl|rfl|rfl
  ·exact h1.1
  ·exact h1.2.1
  ·exact h1.2.2.1
  ·exact h1.2.2.2.1
  ·exact h1.2.2.2.2) yg (fun w' hf H1=>h w' hf H1)
def zeS(H:Hp T w0 w l){t:TypeId}{x y:Operand}(ho:o.op= .store t x y){b:Nat}(hx:a.eval x= .pointer (some ⟨b,0,none⟩)){v0 v1 v2 v3 v4 v5 v6 v7:Value}(hy:a.eval y= .agg #[v0,v1,v2,v3,v4,v5,v6,v7])[hs:Ro P t 8]{a0 a1 a2 a3 a4 a5 a6 a7:Value}{t':TypeId}{f:Nat→List Value→List Ent}[hm:In b [a0,a1,a2,a3,a4,a5,a6,a7] t' l f]
 (h1:v0.oneCell'=true∧v1.oneCell'=true∧v2.oneCell'=true∧v3.oneCell'=true∧v4.oneCell'=true∧v5.oneCell'=true∧v6.oneCell'=true∧v7.oneCell'=true:=by exact⟨rfl,rfl,rfl,rfl,rfl,rfl,rfl,rfl⟩)
 (h:∀w',Fr [b] w w'→Hp T w0 w' (f b [v0,v1,v2,v3,v4,v5,v6,v7])→K (a.put o.dst undef) w'):o.wp P a w K Q:=
 zrT H ho hx (vs:=[v0,v1,v2,v3,v4,v5,v6,v7]) hy (cs:=[a0,a1,a2,a3,a4,a5,a6,a7]) rfl rfl (by
  intro v hv;simp only[List.mem_cons,List.not_mem_nil,or_false]at hv
  rcases hv with rfl|rfl|rfl|rfl|rfl|rfl|rfl|rfl
  ·exact h1.1
  ·exact h1.2.1
  ·exact h1.2.2.1
  ·exact h1.2.2.2.1
  ·exact h1.2.2.2.2.1
  ·exact h1.2.2.2.2.2.1
  ·exact h1.2.2.2.2.2.2.1
  ·exact h1.2.2.2.2.2.2.2) h
end
def zt2(hd:Hd)(m n:Nat)(L:List En):List (Nat×List (List UInt8))→Except (Nat×Nat) (Hd×Nat×Nat×List En)
 | []=> .ok (hd,m,n,L)
 | (k,_)::_=> .error (k,103)
def Hp.lose{w0 w w':World}{k:Nat}{S:List Nat}{Q:World→Prop}{l:List Ent}(H:Hp [] w0 w (.obj k S Q::l))(hF:Fr S w w'):Hp [] w0 w' l:=by
 refine(H.sub (.cons _ (List.Sublist.refl _))).skip hF (fun x hx=>((H.ok _ (.head _)).2.2 x hx).resolve_left yg) (fun x hx h=>?_);have hn:=H.nodup;rw[List.flatMap_cons]at hn;exact(List.nodup_append.1 hn).2.2 x hx x h rfl
def Hp.matC{w0 w w':World}{k:Nat}{S:List Nat}{Q:World→Prop}{l:List Ent}(H:Hp [] w0 w (.obj k S Q::l))(k1 k2 k3:Nat){st ix vl:List Nat}{v1 v2 v3:Value}{B:List Nat}(hF:Fr S w w')(h:zfh st ix vl v1 v2 v3 B w')(hB:∀x∈B,w.heap.size≤x):
 ∃S1 S2 S3,B=S1++(S2++S3)∧Hp [] w0 w' (.obj k1 S1 (RowAt 3 1 v1 st.length (st.map iV) S1):: .obj k2 S2 (RowAt 3 1 v2 ix.length (ix.map iV) S2):: .obj k3 S3 (RowAt 51 1 v3 vl.length (vl.map uV) S3)::l):=by
 obtain⟨S1,S2,S3,rfl,hn,h1,h2,h3⟩:=h;simp only[List.nodup_append,List.mem_append]at hn;have k0:=H.lose hF;have hlt:=H.ownLt
 have nw:∀x,w.heap.size≤x→x∉l.flatMap Ent.own:=fun x hx hm=>by
  have:=hlt x (by rw[List.flatMap_cons];exact List.mem_append_right _ hm)
  omega
 have nb:∀x,w.heap.size≤x→x∈([]:List Nat)∨w0.heap.size≤x:=fun x hx=> .inr (Nat.le_trans H.fr.size hx)
 have q3:=k0.pushObj k3 h3 RowAt.firm (fun x hx=>nb x (hB x yI)) (fun x hx=>nw x (hB x yI))
 have q2:=q3.pushObj k2 h2 RowAt.firm (fun x hx=>nb x (hB x yI)) (fun x hx=>by
  rw[List.flatMap_cons,List.mem_append,not_or]
  exact⟨fun h=>hn.2.1.2.2 x hx x h rfl,nw x (hB x yI)⟩)
 have q1:=q2.pushObj k1 h1 RowAt.firm (fun x hx=>nb x (hB x yI)) (fun x hx=>by
  rw[List.flatMap_cons,List.flatMap_cons,List.mem_append,List.mem_append,not_or,not_or]
  exact⟨fun h=>hn.2.2 x hx x (.inl h) rfl,fun h=>hn.2.2 x hx x (.inr h) rfl,nw x (hB x yI)⟩)
 exact⟨S1,S2,S3,rfl,q1⟩
def Hp.updRow{w0 w w':World}{k:Nat}{S:List Nat}{Q Q':World→Prop}{l:List Ent}(H:Hp [] w0 w (.obj k S Q::l))(k2:Nat)(hF:Fr S w w')(hq:Q' w')(hf:Firm S Q'){e:TypeId}{sz n:Nat}{v:Value}{xs:List Value}(h:w'.ownsRow w.heap.size e sz v n xs):
 ∃S2,Hp [] w0 w' (.obj k2 S2 (RowAt e sz v n xs S2):: .obj k S Q'::l):=by
 obtain⟨S2,h1,h2⟩:=RowAt.of_owns h;have hlt:=H.ownLt;have H1:Hp [] w0 w' (.obj k S Q'::l):=H.upd' (.head _) hF hq hf (fun x hx=> .inl hx);refine⟨S2,H1.pushObj k2 h1 RowAt.firm (fun x hx=> .inr (Nat.le_trans H.fr.size (h2 x hx))) (fun x hx hm=>?_)⟩
 have:=hlt x (by simpa[Ent.own]using hm)
 have:=h2 x hx
 omega
def RdrAt.cell0{g b c:Nat}{Ls:List (List UInt8)}{i:Nat}{w:World}(h:RdrAt g b c Ls i w):w.cell? ⟨g,0,none⟩=some (.slice (some ⟨b,0,none⟩) Ls.length c):=by
 simp only[World.cell?,h.hg];rfl
def zc5{w0 w:World}{gf gl ge:Nat}{cf:List Value}(hcf:cf.length=8)(H:Hp [] w0 w [.blk ge [.int .i64 0] 31, .blk gl [.int .i64 0] 3, .blk gf cf 30]):
 Hp [gf,gl,ge] w w [.blk ge [.int .i64 0] 31, .blk gl [.int .i64 0] 3, .blk gf cf 30]∧∀w',Fr [gf,gl,ge] w w'→Fr [] w0 w':=by
 have hn:=H.nodup;simp only[List.flatMap_cons,List.flatMap_nil,Ent.own,List.append_nil,List.singleton_append,List.nodup_cons,List.mem_cons,List.not_mem_nil,or_false,not_or]at hn;refine⟨(((Hp.start [gf,gl,ge] w).push (H.at gf) (.inl yg) yg).push (H.at gl) (.inl yg) (by simpa[Ent.own]using hn.2.1)).push (H.at ge) (.inl yg) (by simpa[Ent.own]using hn.1),fun w' k=>H.fr.andThen k fun x hx=>?_⟩;refine .inr (H.fresh x ?_);simp only[List.mem_cons,List.not_mem_nil,or_false]at hx
 rcases hx with rfl|rfl|rfl<;>simp[Ent.own]
def zaR{P:Program}{fn:Func}{tmps:Array Value}{R:Ending→World→Prop}{w:World}{v:Value}(h:(results fn tmps).run P w= .ok v w)(hR:R (.returned v) w):Leaves P fn tmps R [] .returning w:=⟨v,h,hR⟩
def zao{T:List Nat}{w0 w:World}{L:List Value}{g0 g1 g2:Nat}{a0 a1 a2 a3 a4 a5 a6 a7 k x:Value}(h2:L[2]? =some (.pointer (some ⟨g0,0,none⟩)))(h3:L[3]? =some (.pointer (some ⟨g1,0,none⟩)))(h4:L[4]? =some (.pointer (some ⟨g2,0,none⟩)))
 (H:Hp T w0 w [.blk g2 [x] 31, .blk g1 [k] 3, .blk g0 [a0,a1,a2,a3,a4,a5,a6,a7] 30]):(results Tryz.f10 L.toArray).run Tryz.prog w= .ok (.tuple #[.agg #[a0,a1,a2,a3,a4,a5,a6,a7],k,x]) w:=by
 have c0:=H.cell (b:=g0) (p:=0) (v:=a0) rfl;have c1:=H.cell (b:=g0) (p:=1) (v:=a1) rfl;have c2:=H.cell (b:=g0) (p:=2) (v:=a2) rfl;have c3:=H.cell (b:=g0) (p:=3) (v:=a3) rfl;have c4:=H.cell (b:=g0) (p:=4) (v:=a4) rfl;have c5:=H.cell (b:=g0) (p:=5) (v:=a5) rfl;have c6:=H.cell (b:=g0) (p:=6) (v:=a6) rfl;have c7:=H.cell (b:=g0) (p:=7) (v:=a7) rfl;have d1:=H.cell (b:=g1) (p:=0) (v:=k) rfl;have d2:=H.cell (b:=g2) (p:=0) (v:=x) rfl
 simp[results,Tryz.results10,go_sem,h2,h3,h4,c0,c1,c2,c3,c4,c5,c6,c7,d1,d2]
def za8(s:List UInt8)(w:World)(e:Ending)(w':World):Prop:=
 match zF s with
 | .error (k,x)=>e= .returned (.tuple #[.agg fileZ.toArray, .int .i64 (k:Int), .int .i64 (x:Int)])
 | .ok (h,m,n,L)=>∃v1 v2 v3 B,e= .returned (.tuple #[.agg #[iV m,iV n,v1,v2,v3, .bool h.arr, .int .i64 (h.field:Int), .int .i64 (h.sym:Int)], .int .i64 0, .int .i64 0])∧
  zfh ((List.range (n+1)).map (pre (entP (zz h.sym L) m n))) ((entP (zz h.sym L) m n).map (·.1)) ((entP (zz h.sym L) m n).map (·.2.2)) v1 v2 v3 B w'∧∀x∈B,w.heap.size≤x
def zdn(w:World)(s:List UInt8)(hs:s.length≤1048576){p:Option Addr}{c:Nat}(hv:Rd w (.slice p s.length c) s.length (zx s))(hT:La w)(hL:Lh w)(h20:∀h m n L,zF s= .ok (h,m,n,L)→(zz h.sym L).length≤10000):
 Calls Tryz.prog 10 #[.slice p s.length c] w fun e w'=>Fr [] w w'∧za8 s w e w':=by
 have HV:=hid hv;have HT:=hid hT;have HLh:=hid hL;have H20:=hid h20;have hsz:2≤w.heap.size:=zhn (hL.2 0 _ rfl);clear hv hT hL h20;have H:=Hp.start [] w;have hmf:∀(fn:Fn) (first cap:Array Value) (w:World),(Instr.makeFunc fn first cap).run Tryz.prog w= .ok (.func fn first cap) w:=fun _ _ _ _=>rfl
 go_enter_defers Tryz.func10,Tryz.ntmps10
 revert H;refine Wb4 ?_;intro _ g0 _ _ _ g1 _ _ _ g2 w1 hg hf H _ _ _ _;refine Calls.mono (zoJ _ s yb (HV.out.fr H.fr yg)) ?_;rintro e w1 ⟨gL,rfl,hF,hgL,hgL2,hcells⟩;have hnL:=H.notOwn hgL;have hnw:=Nat.le_trans H.fr.size hgL;have H1:=H.step hF yg;clear H hF hgL;have H:=H1;clear H1;obtain⟨Ls,hLs⟩:∃Ls,zak s=Ls:=⟨_,rfl⟩;rw[hLs]at hcells ⊢;have hLn:Ls.length≤2000000:=by rw[←hLs];exact Nat.le_trans (zdT _ _) yb
 have hLl:∀x∈Ls,x.length≤2000000:=by
  intro x hx;rw[←hLs]at hx;exact Nat.le_trans (zeL _ _ x hx) (by rw[List.length_nil];omega)
 have HLS:=hid hLs;have HCL:=hid hcells;have HLL:=hid hLl;clear hLs hcells hLl;obtain⟨cL,hcL⟩:∃cL,(nl [] s).length=cL:=⟨_,rfl⟩;rw[hcL];clear hcL
 go_upto_region 5 with(first|refine x_q H ?_|refine zm (fun h=>?_) (fun h=>?_)|refine x_l H ?_|(revert H;(first|(refine x_g ?_;(first|(have hh:=g5;clear hh;intro g6 w1 hg hf H)|(have hh:=g4;clear hh;intro g5 w1 hg hf H)|(have hh:=g3;clear hh;intro g4 w1 hg hf H)|(have hh:=g2;clear hh;intro g3 w1 hg hf H)|(have hh:=g1;clear hh;intro g2 w1 hg hf H)|(have hh:=g0;clear hh;intro g1 w1 hg hf H)|intro g0 w1 hg hf H))|(refine x_s ?_;intro w1 hf H)|(refine zau ?_;intro w1 hf H hk;clear hf hk))))
 have hR:RdrAt g3 gL cL Ls 1 w1:=⟨by simpa using H.at g3,by omega,Nat.lt_of_lt_of_le hgL2 hf.size,fun j x hx=>hf.cell (HCL.out j x hx) yg,hLn,HLL.out⟩;have hnd:=H.nodup;simp only[List.flatMap_cons,List.flatMap_nil,Ent.own,List.append_nil,List.singleton_append,List.nodup_cons]at hnd
 have H1:=(H.sub (.cons _ (List.Sublist.refl _))).pushObj 7 (Q:=RdrAt g3 gL cL Ls 1) (S:=[g3,gL]) hR RdrAt.firm (fun x hx=>by
  simp only[List.mem_cons,List.not_mem_nil,or_false]at hx
  rcases hx with rfl|rfl
  ·exact .inr hg.1
  ·exact .inr hnw) (fun x hx=>by
  simp only[List.mem_cons,List.not_mem_nil,or_false]at hx
  rcases hx with rfl|rfl
  ·simpa[Ent.own]using hnd.1
  ·exact hnL)
 clear H hR hnd HCL hgL2 hnL hnw;have H:=H1;clear H1
 rcases Ls with _|⟨line,Ls⟩
 ·have HM:Hid (zF s= .error (1,100)):=hid (by unfold zF;rw[HLS.out]);revert H;refine Wb5 ?_;intro H _ _;refine x_c H (zo _ _ _ _ (H.ob 7).cell) ?_;clear H;rintro e w1 ⟨rfl,hF⟩ H;obtain⟨H4,hfr⟩:=zc5 (gf:=g0) (gl:=g1) (ge:=g2) (cf:=fileZ) rfl (H.arr ye);refine leaves_cons (f:=24) (args:=#[.pointer (some ⟨g0,0,none⟩), .pointer (some ⟨g1,0,none⟩), .pointer (some ⟨g2,0,none⟩)]) yg yP ?_;refine(zbz g0 g1 g2 _ _ _ rfl H4).mono ?_;rintro e u' w2 ⟨rfl,rfl,hH⟩;refine zaR (zao rfl rfl rfl hH) ⟨hfr _ hH.fr,?_⟩;unfold za8;rw[HM.out]
  rfl
 ·obtain⟨o,ho⟩:∃o,hdr line=o:=⟨_,rfl⟩;have HO:=hid ho;have hll:line.length≤2000000:=HLL.out line yg;have hx0:(line::Ls)[0]? =some line:=rfl;clear ho;revert H;refine Wb6 ?_;intro H _ _;refine Calls.mono (znl line hll (H.at g0) (HLh.out.fr H.fr yg yg) yb HO) ?_;rintro e w1 ⟨hF,hpost⟩
  cases o with
  | none=>
   obtain⟨rfl,cf,hcf,hgf⟩:=hpost;have H1:=H.write (b:=g0) (cs1:=cf) (.tail _ (.tail _ (.tail _ (.head _)))) hF hgf;clear H hF hgf;have H:=H1;clear H1;have HM:Hid (zF s= .error (1,100)):=hid (by unfold zF;rw[HLS.out];simp only[HO.out]);simp only[Int.not_lt,Int.not_le]at*;revert H;refine Wb4 ?_;intro H _ _;refine x_c H (zo _ _ _ _ (H.ob 7).cell) ?_;clear H;rintro e w1 ⟨rfl,hF⟩ H;obtain⟨H4,hfr⟩:=zc5 (gf:=g0) (gl:=g1) (ge:=g2) (cf:=cf) hcf (H.arr ye);refine leaves_cons (f:=24) (args:=#[.pointer (some ⟨g0,0,none⟩), .pointer (some ⟨g1,0,none⟩), .pointer (some ⟨g2,0,none⟩)]) yg yP ?_;refine(zbz g0 g1 g2 _ _ _ hcf H4).mono ?_;rintro e u' w2 ⟨rfl,rfl,hH⟩;refine zaR (zao rfl rfl rfl hH) ⟨hfr _ hH.fr,?_⟩;unfold za8;rw[HM.out]
   rfl
  | some hd=>
   obtain⟨rfl,hgf⟩:=hpost;have H1:=H.write (b:=g0) (cs1:=zhd hd) (.tail _ (.tail _ (.tail _ (.head _)))) hF hgf;clear H hF hgf hx0;have H:=H1;clear H1;obtain⟨arr,field,sym⟩:=hd;obtain⟨hf2,hs2⟩:=zpB HO.out;simp only at hf2 hs2;have HMP:=hid (znM HLS.out HO.out);simp only[zhd]at H
   cases arr
   ·simp only[Int.not_lt,Int.not_le]at*;revert H;refine Wb4 ?_;intro H _ _;(refine xA H (zp _ _ _) ?_;clear H;intro w1 H);obtain⟨osz,hosz⟩:∃o,szP (line::Ls) 1 ⟨false,field,sym⟩=o:=⟨_,rfl⟩;have HSZ:=hid hosz;clear hosz;simp only[Int.not_lt,Int.not_le]at*;revert H;refine Wb4 ?_;intro H _ _ _ _;refine Calls.mono (zsS (H.ob 7) yg field sym hs2 HSZ) ?_;rintro e w1 ⟨hF,hpost⟩
    cases osz with
    | error er=>
     obtain⟨k,x⟩:=er;have he:e= .panicked (zdj k x):=hpost;subst he;have HM:Hid (zF s= .error (k,x)):=hid (by rw[HMP.out,HSZ.out]);have H1:=H.lose hF;clear H hF hpost;have H:=H1;clear H1;obtain⟨H4,hfr⟩:=zc5 (gf:=g0) (gl:=g1) (ge:=g2) (cf:=[.int .i64 0, .int .i64 0, .slice none 0 0, .slice none 0 0, .slice none 0 0, .bool false, .int .i64 (field:Int), .int .i64 (sym:Int)]) rfl (H.arr ye);refine leaves_cons (f:=24) (args:=#[.pointer (some ⟨g0,0,none⟩), .pointer (some ⟨g1,0,none⟩), .pointer (some ⟨g2,0,none⟩)]) yg yP ?_;refine(zbz g0 g1 g2 _ _ _ rfl H4).mono ?_;rintro e u' w2 ⟨rfl,rfl,hH⟩;refine zaR (zao rfl rfl rfl hH) ⟨hfr _ hH.fr,?_⟩;unfold za8;rw[HM.out]
     rfl
    | ok q=>
     obtain⟨k,m,n,z⟩:=q;obtain⟨he,hR⟩:=hpost;subst he;obtain⟨hk1,hm,hn,hz,hmn,hzs⟩:=zpM HSZ.out;have HALL:=hid (fun(L:List En) (r:List (Nat×List (List UInt8))) (e:zac ⟨false,field,sym⟩ m n ((line::Ls).length+1) z [] (sig k ((line::Ls).drop k))= .ok (L,r))=>zjI (hd:=⟨false,field,sym⟩) hs2 hmn hzs e)
     skip
     have H1:=H.upd (w':=w1) 7 hF (S':=[g3,gL]) hR yg;clear H hF hR hmn hzs;have H:=H1;clear H1;obtain⟨oe,hoe⟩:∃o,zac ⟨false,field,sym⟩ m n ((line::Ls).length+1) z [] (sig k ((line::Ls).drop k))=o:=⟨_,rfl⟩;have HE:=hid hoe;clear hoe
     have HM0:=hid (show zF s=match zac ⟨false,field,sym⟩ m n (Ls.length+2) z [] (sig k ((line::Ls).drop k))with
      | .error e=> .error e
      | .ok (L,[])=> .ok (⟨false,field,sym⟩,m,n,L)
      | .ok (_,(k,_)::_)=> .error (k,103) by rw[HMP.out,HSZ.out];rfl)
     simp only[Int.not_lt,Int.not_le]at*;revert H;refine Wb4 ?_;intro H _ _ _ _;refine Calls.mono (zow (H.ob 7) hk1 field sym m n z hs2 hf2 hm hn hz (H.old 7 (fun w' k=>HT.out.fr k)) HE) ?_;rintro e w1 ⟨hF,hpost⟩
     cases oe with
     | error er=>
      obtain⟨k2,x⟩:=er;have he:e= .panicked (zdj k2 x):=hpost;subst he;have HM:Hid (zF s= .error (k2,x)):=hid (by rw[HM0.out];have h:=HE.out;simp only[List.length_cons]at h;rw[h]);have H1:=H.lose hF;clear H hF hpost;have H:=H1;clear H1;obtain⟨H4,hfr⟩:=zc5 (gf:=g0) (gl:=g1) (ge:=g2) (cf:=[.int .i64 0, .int .i64 0, .slice none 0 0, .slice none 0 0, .slice none 0 0, .bool false, .int .i64 (field:Int), .int .i64 (sym:Int)]) rfl (H.arr ye);refine leaves_cons (f:=24) (args:=#[.pointer (some ⟨g0,0,none⟩), .pointer (some ⟨g1,0,none⟩), .pointer (some ⟨g2,0,none⟩)]) yg yP ?_;refine(zbz g0 g1 g2 _ _ _ rfl H4).mono ?_;rintro e u' w2 ⟨rfl,rfl,hH⟩;refine zaR (zao rfl rfl rfl hH) ⟨hfr _ hH.fr,?_⟩;unfold za8;rw[HM.out]
      rfl
     | ok q=>
      obtain⟨L,rest⟩:=q;obtain⟨v,k2,he,hown,hR,hrest,hk2,hv64⟩:=hpost;subst he;obtain⟨S0,H1⟩:=H.updRow 0 hF hR RdrAt.firm hown;clear H hF hR hown;have H:=H1;clear H1;have HRS:=hid hrest;clear hrest hv64
      have HM1:=hid (show zF s=zt2 ⟨false,field,sym⟩ m n L rest by
       rw[HM0.out];have h:=HE.out;simp only[List.length_cons]at h;rw[h]
       cases rest with
       | nil=>rfl
       | cons a r=>rfl)
      have hall:=HALL.out L rest HE.out
      (try simp only at hall)
      have HOKM:=hid hall.1;have HFIN:=hid hall.2;clear hall;simp only[Int.not_lt,Int.not_le]at*;revert H;refine Wb4 ?_;intro H _ _ _ _;have hR0:=H.ob 7;refine Calls.mono (zcN hR0 hk2) ?_;rintro e w1 ⟨v8,i',rfl,hF0,hR1,hcase⟩;have H1:=H.upd (w':=w1) 7 (hF0.mono (S:=[g3,gL]) yg) (S':=[g3,gL]) hR1 yg;clear H hR0 hF0 hR1;have H:=H1;clear H1
      rcases hcase with⟨hsg,rfl,rfl⟩|⟨ws,r,q,hsg,rfl,hq,hc⟩
      ·have HM:Hid (zF s= .ok (⟨false,field,sym⟩,m,n,L)):=hid y1;clear hsg;simp only[Int.not_lt,Int.not_le]at*;revert H;refine Wb4 ?_;intro H _ _;(refine xA H (zp _ _ _) ?_;clear H;intro w1 H);simp only[Int.not_lt,Int.not_le]at*;revert H;refine Wb4 ?_;intro H _ _ _ _;have h20:=H20.out _ _ _ _ HM.out
       (try simp only at h20)
       refine Calls.mono (zff _ m n sym hm hn hs2 L (H.rowo 0) h20 HOKM.out HFIN.out (H.old 0 (fun w' k=>HT.out.fr k))) ?_;rintro e w1 ⟨v1,v2,v3,B,rfl,hF,hM3,hB⟩;have hBf:=hid (fun x (hx:x∈B)=>Nat.le_trans H.fr.size (hB x hx));obtain⟨S1,S2,S3,hBe,H1⟩:=H.matC 1 2 3 hF hM3 hB;clear H hF hM3 hB h20;have H:=H1;clear H1;subst hBe;simp only[zdN,List.length_map,List.length_range]at H;obtain⟨q1,d1,rfl,_⟩:=(H.rowo 1).form;obtain⟨q2,d2,rfl,_⟩:=(H.rowo 2).form;obtain⟨q3,d3,rfl,_⟩:=(H.rowo 3).form;simp only[Int.not_lt,Int.not_le]at*;revert H;refine Wb7 ?_;intro _ _ _ _ _ _ w1 hf H;refine leaves_cons (f:=24) (args:=#[.pointer (some ⟨g0,0,none⟩), .pointer (some ⟨g1,0,none⟩), .pointer (some ⟨g2,0,none⟩)]) yg yP ?_;refine(zgQ g0 g1 g2 _).mono ?_;rintro e u' w2 ⟨rfl,rfl,rfl⟩
       have H3:Hp [] w w2 [.blk g2 [.int .i64 0] 31, .blk g1 [.int .i64 0] 3, .blk g0 [iV m,iV n, .slice q1 (n+1) d1, .slice q2 (entP (zz sym L) m n).length d2, .slice q3 (entP (zz sym L) m n).length d3, .bool false, .int .i64 (field:Int), .int .i64 (sym:Int)] 30]:=H.arr ye;have H4:Hp [] w w2 [.obj 1 S1 (RowAt 3 1 (.slice q1 (n+1) d1) (n+1) (((List.range (n+1)).map (pre (entP (zz sym L) m n))).map iV) S1), .obj 2 S2 (RowAt 3 1 (.slice q2 (entP (zz sym L) m n).length d2) (entP (zz sym L) m n).length (((entP (zz sym L) m n).map (·.1)).map iV) S2), .obj 3 S3 (RowAt 51 1 (.slice q3 (entP (zz sym L) m n).length d3) (entP (zz sym L) m n).length (((entP (zz sym L) m n).map (·.2.2)).map uV) S3)]:=H.arr ye;refine zaR (zao rfl rfl rfl H3) ⟨H.fr,?_⟩;unfold za8;rw[HM.out]
       exact⟨_,_,_,S1++(S2++S3),rfl,zea (by simpa[Ent.own]using H4.nodup) (H4.rowo 1) (H4.rowo 2) (H4.rowo 3) rfl rfl rfl yg yg yg,hBf.out⟩
      ·have HM:Hid (zF s= .error (i',103)):=hid y1;clear hsg hq hc;simp only[Int.not_lt,Int.not_le]at*;revert H;refine Wb4 ?_;intro H _ _;(refine x_c H (zo _ _ _ _ (H.ob 7).cell) ?_;clear H;rintro e w1 ⟨rfl,hF⟩ H);obtain⟨H4,hfr⟩:=zc5 (gf:=g0) (gl:=g1) (ge:=g2) (cf:=[.int .i64 0, .int .i64 0, .slice none 0 0, .slice none 0 0, .slice none 0 0, .bool false, .int .i64 (field:Int), .int .i64 (sym:Int)]) rfl (H.arr ye);refine leaves_cons (f:=24) (args:=#[.pointer (some ⟨g0,0,none⟩), .pointer (some ⟨g1,0,none⟩), .pointer (some ⟨g2,0,none⟩)]) yg yP ?_;refine(zbz g0 g1 g2 _ _ _ rfl H4).mono ?_;rintro e u' w2 ⟨rfl,rfl,hH⟩;refine zaR (zao rfl rfl rfl hH) ⟨hfr _ hH.fr,?_⟩;unfold za8;rw[HM.out]
       rfl
   ·simp only[Int.not_lt,Int.not_le]at*;revert H;refine Wb4 ?_;intro H _ _;(refine xA H (zp _ _ _) ?_;clear H;intro w1 H);obtain⟨osz,hosz⟩:∃o,szP (line::Ls) 1 ⟨true,field,sym⟩=o:=⟨_,rfl⟩;have HSZ:=hid hosz;clear hosz;simp only[Int.not_lt,Int.not_le]at*;revert H;refine Wb4 ?_;intro H _ _ _ _;refine Calls.mono (zsY (H.ob 7) yg field sym hs2 HSZ) ?_;rintro e w1 ⟨hF,hpost⟩
    cases osz with
    | error er=>
     obtain⟨k,x⟩:=er;have he:e= .panicked (zdj k x):=hpost;subst he;have HM:Hid (zF s= .error (k,x)):=hid (by rw[HMP.out,HSZ.out]);have H1:=H.lose hF;clear H hF hpost;have H:=H1;clear H1;obtain⟨H4,hfr⟩:=zc5 (gf:=g0) (gl:=g1) (ge:=g2) (cf:=[.int .i64 0, .int .i64 0, .slice none 0 0, .slice none 0 0, .slice none 0 0, .bool true, .int .i64 (field:Int), .int .i64 (sym:Int)]) rfl (H.arr ye);refine leaves_cons (f:=24) (args:=#[.pointer (some ⟨g0,0,none⟩), .pointer (some ⟨g1,0,none⟩), .pointer (some ⟨g2,0,none⟩)]) yg yP ?_;refine(zbz g0 g1 g2 _ _ _ rfl H4).mono ?_;rintro e u' w2 ⟨rfl,rfl,hH⟩;refine zaR (zao rfl rfl rfl hH) ⟨hfr _ hH.fr,?_⟩;unfold za8;rw[HM.out]
     rfl
    | ok q=>
     obtain⟨k,m,n,z⟩:=q;obtain⟨he,hR⟩:=hpost;subst he;obtain⟨hk1,hm,hn,hz,hmn,hzs⟩:=zpM HSZ.out;have HALL:=hid (fun(L:List En) (r:List (Nat×List (List UInt8))) (e:zac ⟨true,field,sym⟩ m n ((line::Ls).length+1) z [] (sig k ((line::Ls).drop k))= .ok (L,r))=>zjI (hd:=⟨true,field,sym⟩) hs2 hmn hzs e);have hzP:z≤(zaJ sym m n).length:=by rw[zdW _ _ _ hs2 hmn,hzs rfl];exact Nat.le_refl _
     have H1:=H.upd (w':=w1) 7 hF (S':=[g3,gL]) hR yg;clear H hF hR hmn hzs;have H:=H1;clear H1;obtain⟨oe,hoe⟩:∃o,zac ⟨true,field,sym⟩ m n ((line::Ls).length+1) z [] (sig k ((line::Ls).drop k))=o:=⟨_,rfl⟩;have HE:=hid hoe;clear hoe
     have HM0:=hid (show zF s=match zac ⟨true,field,sym⟩ m n (Ls.length+2) z [] (sig k ((line::Ls).drop k))with
      | .error e=> .error e
      | .ok (L,[])=> .ok (⟨true,field,sym⟩,m,n,L)
      | .ok (_,(k,_)::_)=> .error (k,103) by rw[HMP.out,HSZ.out];rfl)
     simp only[Int.not_lt,Int.not_le]at*;revert H;refine Wb4 ?_;intro H _ _ _ _;refine Calls.mono (zpd (H.ob 7) hk1 field sym m n z hs2 hf2 hm hn hz hzP (H.old 7 (fun w' k=>HT.out.fr k)) HE) ?_;rintro e w1 ⟨hF,hpost⟩
     cases oe with
     | error er=>
      obtain⟨k2,x⟩:=er;have he:e= .panicked (zdj k2 x):=hpost;subst he;have HM:Hid (zF s= .error (k2,x)):=hid (by rw[HM0.out];have h:=HE.out;simp only[List.length_cons]at h;rw[h]);have H1:=H.lose hF;clear H hF hpost;have H:=H1;clear H1;obtain⟨H4,hfr⟩:=zc5 (gf:=g0) (gl:=g1) (ge:=g2) (cf:=[.int .i64 0, .int .i64 0, .slice none 0 0, .slice none 0 0, .slice none 0 0, .bool true, .int .i64 (field:Int), .int .i64 (sym:Int)]) rfl (H.arr ye);refine leaves_cons (f:=24) (args:=#[.pointer (some ⟨g0,0,none⟩), .pointer (some ⟨g1,0,none⟩), .pointer (some ⟨g2,0,none⟩)]) yg yP ?_;refine(zbz g0 g1 g2 _ _ _ rfl H4).mono ?_;rintro e u' w2 ⟨rfl,rfl,hH⟩;refine zaR (zao rfl rfl rfl hH) ⟨hfr _ hH.fr,?_⟩;unfold za8;rw[HM.out]
      rfl
     | ok q=>
      obtain⟨L,rest⟩:=q;obtain⟨v,k2,he,hown,hR,hrest,hk2,hv64⟩:=hpost;subst he;obtain⟨S0,H1⟩:=H.updRow 0 hF hR RdrAt.firm hown;clear H hF hR hown;have H:=H1;clear H1;have HRS:=hid hrest;clear hrest hv64
      have HM1:=hid (show zF s=zt2 ⟨true,field,sym⟩ m n L rest by
       rw[HM0.out];have h:=HE.out;simp only[List.length_cons]at h;rw[h]
       cases rest with
       | nil=>rfl
       | cons a r=>rfl)
      have hall:=HALL.out L rest HE.out
      (try simp only at hall)
      have HOKM:=hid hall.1;have HFIN:=hid hall.2;clear hall;simp only[Int.not_lt,Int.not_le]at*;revert H;refine Wb4 ?_;intro H _ _ _ _;have hR0:=H.ob 7;refine Calls.mono (zcN hR0 hk2) ?_;rintro e w1 ⟨v8,i',rfl,hF0,hR1,hcase⟩;have H1:=H.upd (w':=w1) 7 (hF0.mono (S:=[g3,gL]) yg) (S':=[g3,gL]) hR1 yg;clear H hR0 hF0 hR1;have H:=H1;clear H1
      rcases hcase with⟨hsg,rfl,rfl⟩|⟨ws,r,q,hsg,rfl,hq,hc⟩
      ·have HM:Hid (zF s= .ok (⟨true,field,sym⟩,m,n,L)):=hid y1;clear hsg;simp only[Int.not_lt,Int.not_le]at*;revert H;refine Wb4 ?_;intro H _ _;(refine xA H (zp _ _ _) ?_;clear H;intro w1 H);simp only[Int.not_lt,Int.not_le]at*;revert H;refine Wb4 ?_;intro H _ _ _ _;have h20:=H20.out _ _ _ _ HM.out
       (try simp only at h20)
       refine Calls.mono (zff _ m n sym hm hn hs2 L (H.rowo 0) h20 HOKM.out HFIN.out (H.old 0 (fun w' k=>HT.out.fr k))) ?_;rintro e w1 ⟨v1,v2,v3,B,rfl,hF,hM3,hB⟩;have hBf:=hid (fun x (hx:x∈B)=>Nat.le_trans H.fr.size (hB x hx));obtain⟨S1,S2,S3,hBe,H1⟩:=H.matC 1 2 3 hF hM3 hB;clear H hF hM3 hB h20;have H:=H1;clear H1;subst hBe;simp only[zdN,List.length_map,List.length_range]at H;obtain⟨q1,d1,rfl,_⟩:=(H.rowo 1).form;obtain⟨q2,d2,rfl,_⟩:=(H.rowo 2).form;obtain⟨q3,d3,rfl,_⟩:=(H.rowo 3).form;simp only[Int.not_lt,Int.not_le]at*;revert H;refine Wb7 ?_;intro _ _ _ _ _ _ w1 hf H;refine leaves_cons (f:=24) (args:=#[.pointer (some ⟨g0,0,none⟩), .pointer (some ⟨g1,0,none⟩), .pointer (some ⟨g2,0,none⟩)]) yg yP ?_;refine(zgQ g0 g1 g2 _).mono ?_;rintro e u' w2 ⟨rfl,rfl,rfl⟩
       have H3:Hp [] w w2 [.blk g2 [.int .i64 0] 31, .blk g1 [.int .i64 0] 3, .blk g0 [iV m,iV n, .slice q1 (n+1) d1, .slice q2 (entP (zz sym L) m n).length d2, .slice q3 (entP (zz sym L) m n).length d3, .bool true, .int .i64 (field:Int), .int .i64 (sym:Int)] 30]:=H.arr ye;have H4:Hp [] w w2 [.obj 1 S1 (RowAt 3 1 (.slice q1 (n+1) d1) (n+1) (((List.range (n+1)).map (pre (entP (zz sym L) m n))).map iV) S1), .obj 2 S2 (RowAt 3 1 (.slice q2 (entP (zz sym L) m n).length d2) (entP (zz sym L) m n).length (((entP (zz sym L) m n).map (·.1)).map iV) S2), .obj 3 S3 (RowAt 51 1 (.slice q3 (entP (zz sym L) m n).length d3) (entP (zz sym L) m n).length (((entP (zz sym L) m n).map (·.2.2)).map uV) S3)]:=H.arr ye;refine zaR (zao rfl rfl rfl H3) ⟨H.fr,?_⟩;unfold za8;rw[HM.out]
       exact⟨_,_,_,S1++(S2++S3),rfl,zea (by simpa[Ent.own]using H4.nodup) (H4.rowo 1) (H4.rowo 2) (H4.rowo 3) rfl rfl rfl yg yg yg,hBf.out⟩
      ·have HM:Hid (zF s= .error (i',103)):=hid y1;clear hsg hq hc;simp only[Int.not_lt,Int.not_le]at*;revert H;refine Wb4 ?_;intro H _ _;(refine x_c H (zo _ _ _ _ (H.ob 7).cell) ?_;clear H;rintro e w1 ⟨rfl,hF⟩ H);obtain⟨H4,hfr⟩:=zc5 (gf:=g0) (gl:=g1) (ge:=g2) (cf:=[.int .i64 0, .int .i64 0, .slice none 0 0, .slice none 0 0, .slice none 0 0, .bool true, .int .i64 (field:Int), .int .i64 (sym:Int)]) rfl (H.arr ye);refine leaves_cons (f:=24) (args:=#[.pointer (some ⟨g0,0,none⟩), .pointer (some ⟨g1,0,none⟩), .pointer (some ⟨g2,0,none⟩)]) yg yP ?_;refine(zbz g0 g1 g2 _ _ _ rfl H4).mono ?_;rintro e u' w2 ⟨rfl,rfl,hH⟩;refine zaR (zao rfl rfl rfl hH) ⟨hfr _ hH.fr,?_⟩;unfold za8;rw[HM.out]
       rfl
end
section
open Go.RowKit
attribute [local irreducible] wpList Code.wp Plan.wp zat zal pre zN
def ze2{P:Program}{W:World}{name:String}{g:Nat}{t e:TypeId}{n:Nat}
 (hg:P.globalNamed name=some g) (hty:(P.globals[g]?).map (·.type)=some t) (ht:P.underlying t=some (.array n e)) (he:P.underlying e=some .string) (hce:P.cellsOf e=1) {ss:List (List UInt8)} (hn:ss.length=n)
 (h:Lib.VarReads P W name (.agg (ss.map fun s=> .lit (.string s)))):∀j s,ss[j]? =some s→W.cell? ⟨g,j,none⟩=some (ze s):=by
 obtain⟨g',t',cs,fuel,p,hg',ht',hvar,hd⟩:=h;obtain rfl:=Option.some.inj (hg.symm.trans hg');obtain rfl:=Option.some.inj (hty.symm.trans ht');intro j s hj;have hjl:=(List.getElem?_eq_some_iff.1 hj).1;obtain⟨f',d,q,hds,hf⟩:=Lib.array_elem ht hd j yb;obtain⟨b,hcs,hdq,_⟩:=DataW.trod_string he hf;rw[List.getElem?_map,hj]at hds;have hds:=Option.some.inj hds
 cases hdq
 have hsb:s=b.data.toList:=by
  simp only at hds
  injection hds with h1
  injection h1
 rw[hce]at hcs
 have h2:cs[j]? =some (.string b):=by
  have:=congrArg (·[0]?) hcs
  simpa[List.getElem?_take,List.getElem?_drop]using this
 rw[World.var?_cell hg hvar j,h2,hsb]
 rfl
def zuN{W:World}(h:laidMetH Tryz.prog zcg W):Lh W:=by
 have h':laidMet Tryz.prog zcg W:=h;have h1:=Lib.laidMet.reads h' (n:= "sparse/market.fields") (d:=Rows.laid_sparse_market_fields) (by unfold zcg;simp);have h2:=Lib.laidMet.reads h' (n:= "sparse/market.symmetries") (d:=Rows.laid_sparse_market_symmetries) (by unfold zcg;simp);exact⟨ze2 (g:=0) yh yh Tryz.underlying91 Tryz.underlying9 yh (ss:=sFlds) rfl h1,ze2 (g:=1) yh yh Tryz.underlying91 Tryz.underlying9 yh (ss:=sSyms) rfl h2⟩
def ztA{W:World}(h:laidMetH Tryz.prog zcg W):La W:=⟨zpc h,znw h⟩
def zjF:Nat→List UInt8→List (Nat×Operand)
 | _,[]=>[]
 | i,c::s=>(i, .const (.int .u8 (c.toNat:Int)))::zjF (i+1) s
def zfa(L:List Value):∀(s:List UInt8) (i:Nat),Parts L i (zjF i s) (s.map fun c=>[.int .u8 (c.toNat:Int)])
 | [],i=> .nil i
 | c::s,i=> .con rfl (zfa L s (i+1))
def zlW(s:List UInt8):(s.map fun c=>[Value.int .u8 (c.toNat:Int)]).flatten=zx s:=by
 induction s with
 | nil=>rfl
 | cons c s ih=>rw[List.map_cons,List.flatten_cons,ih];rfl
section
variable {P:Program} {Q:Exit→Act→World→Prop} {w w0:World} {o:Oper} {K:Act→World→Prop} {T:List Nat} {l:List Ent} {L:List Value} {ds:List Deferred}
def zvY(s:List UInt8)(H:Hp T w0 w l){t:TypeId}{n:Nat}{ps:Array (Nat×Operand)}(ho:o.op= .buildSlice t n ps)(hn:s.length=n)(hp:ps=(zjF 0 s).toArray){e:TypeId}{z:List Value}{by':Nat}[hsi:Si P t e z 1 by'](h24:n≤16777216)
 (h:∀g w',w0.heap.size≤g∧w.heap.size≤g→Fr [] w w'→Hp T w0 w' (.blk g (zx s) e::l)→K (Act.put (Act.mk L.toArray ds) o.dst (.slice (some ⟨g,0,none⟩) s.length s.length)) w'):o.wp P (Act.mk L.toArray ds) w K Q:=by
 subst hp;refine zez H ho (zfa L s 0) (by rw[List.length_map];exact hn) (fun c hc=>?_) yb yf (fun g w' h1 h2 h3=>?_)
 ·obtain⟨x,_,rfl⟩:=List.mem_map.1 hc
  rfl
 ·rw[zlW]at h3
  have:=h g w' h1 h2 h3
  rw[hn]at this;exact this
end
def znR(w:World)(g n:Nat):Fr [g] w (w.freeze ⟨g,n,none⟩ 1):=by
 unfold World.freeze;rw[if_neg yf];refine⟨rfl,rfl,rfl,by simp,fun k hk hn=>?_⟩
 have:g≠k:=fun e=>hn (by simp[e])
 simp[Array.getElem?_modify,this]
def zo2{w:World}{g n:Nat}{C:Array Value}{e:TypeId}(h:w.heap[g]? =some (.cells C e (0,0))):(w.freeze ⟨g,n,none⟩ 1).heap[g]? =some (.cells C e (n,n+1)):=by
 unfold World.freeze;rw[if_neg yf]
 simp[Array.getElem?_modify,h]
def ztg{P:Program}{w:World}{t e:TypeId}{C:Array Value}{g n c:Nat}(h:w.heap[g]? =some (.cells C e (0,0)))(ht:P.underlying t=some (.slice e))(he:P.underlying e=some (.int .u8)):
 (convert t t (.slice (some ⟨g,0,none⟩) n c)).run P w= .ok (.slice (some ⟨g,0,none⟩) n c) (w.freeze ⟨g,C.size,none⟩ 1):=by
 have hsh:w.shape? g=some (e,C.size):=by unfold World.shape?;rw[h]
 simp[convert,run_underlying ht,run_underlying he,markStringish,hsh]
def zuT{Q:Exit→Act→World→Prop}{w w0:World}{o:Oper}{K:Act→World→Prop}{l:List Ent}{a:Act}{g:Nat}{s:List UInt8}(k:Nat)(H:Hp [] w0 w (.blk g (zx s) 5::l)){x:Operand}(ho:o.op= .convert 22 22 x)(hx:a.eval x= .slice (some ⟨g,0,none⟩) s.length s.length)
 (h:∀w',Fr [g] w w'→Hp [] w0 w' (.obj k [g] (OwnM (.slice (some ⟨g,0,none⟩) s.length s.length) s [g])::l)→K (a.put o.dst (.slice (some ⟨g,0,none⟩) s.length s.length)) w'):o.wp Tryz.prog a w K Q:=by
 have hg:=H.at g;have hnew:w0.heap.size≤g:=(H.ok _ (.head _)).2.resolve_left yg;have hn:=H.nodup;simp only[List.flatMap_cons,Ent.own,List.singleton_append,List.nodup_cons]at hn;have hF:=znR w g (zx s).toArray.size;refine zU (v:= .slice (some ⟨g,0,none⟩) s.length s.length) (w':=w.freeze ⟨g,(zx s).toArray.size,none⟩ 1) ?_ (h _ hF ?_)
 ·unfold execOp;simp only[ho,hx,Sem.run_bind,ztg hg Tryz.underlying22 Tryz.underlying5]
  rfl
 ·have H1:=(H.sub (.cons _ (List.Sublist.refl _))).skip hF (fun x hx=>by simp only[List.mem_singleton]at hx;subst hx;exact hnew) (fun x hx=>by simp only[List.mem_singleton]at hx;subst hx;exact hn.1);refine H1.pushObj k ⟨g,s.length,(zx s).toArray,_,rfl,rfl,zo2 hg, .inl (Nat.le_refl _),Nat.le_refl _,by simp[zx],(by show(zx s).take s.length=zx s;exact List.take_of_length_le (by simp[zx]))⟩ OwnM.firm (fun x hx=> .inr (by simp only[List.mem_singleton]at hx;subst hx;exact hnew)) (fun x hx=>by simp only[List.mem_singleton]at hx;subst hx;exact hn.1)
def zvS{ops:Array Oper}{Q:Exit→Act→World→Prop}{w w0:World}{rest:List Oper}{o:Oper}{l:List Ent}{L L':List Value}{ds:List Deferred}{g:Nat}{s:List UInt8}{x:Operand}(k:Nat)(h:∀w',Fr [g] w w'→Hp [] w0 w' (.obj k [g] (OwnM (.slice (some ⟨g,0,none⟩) s.length s.length) s [g])::l)→wpList Tryz.prog ops Q rest ⟨L'.toArray,ds⟩ w')
 (ho:o.op= .convert 22 22 x:=by rfl) (hx:(Act.mk L.toArray ds).eval x= .slice (some ⟨g,0,none⟩) s.length s.length:=by rfl)
 (hw:Region.wanted o (yielded ops L.toArray)=true:=by rfl)
 (hs:zad L o.dst (.slice (some ⟨g,0,none⟩) s.length s.length)=L':=by((try simp only[nrm,zP,zQ,↓reduceIte,Nat.reduceAdd]);(try exact rfl))) (H:Hp [] w0 w (.blk g (zx s) 5::l)):wpList Tryz.prog ops Q (o::rest) ⟨L.toArray,ds⟩ w:=
 zaB hw fun K hK=>zuT k H ho hx fun w' h1 h2=>hK _ _ (by rw[zaj,hs];exact h w' h1 h2)
def zdh(w:World)(hT:La w)(hL:Lh w):Calls Tryz.prog 9 #[] w fun e w'=>e= .returned (.bool true)∧Fr [] w w':=by
 have HT:=hid hT;have HLh:=hid hL;clear hT hL;have H:=Hp.start [] w
 go_enter Tryz.func9,Tryz.ntmps9
 revert H;refine Wb8 ?_;intro _ _ _ g0 _ hg w1 H _ _;have hA:=zsq zt1
 refine Calls.mono (zdn _ awM yf (H.ob 1).rd (HT.out.fr H.fr) (HLh.out.fr H.fr yg yg) (fun h m n L e=>by
  rw[hA]at e
  cases e
  rw[zlg]
  decide)) ?_
 rintro e w1 ⟨hF,hpost⟩;unfold za8 at hpost;rw[hA]at hpost;obtain⟨v1,v2,v3,B,rfl,hM,hB⟩:=hpost;simp only[zlg,zlC]at hM;obtain⟨S1,S2,S3,H1⟩:=H.mat 2 3 4 hF hM hB;clear H hF hM hB hA;have H:=H1;clear H1;simp only[List.length_map,List.length_range,show awS.length=3 from rfl]at H;obtain⟨q1,d1,rfl,_⟩:=(H.rowo 2).form;obtain⟨q2,d2,rfl,hd2,_⟩:=(H.rowo 3).form;obtain⟨q3,d3,rfl,hd3,_⟩:=(H.rowo 4).form;simp only[Int.not_lt,Int.not_le]at*;revert H;refine Wb9 ?_;intro g1 _ hg w1 H _ _ _ _;refine Calls.mono (zdn _ [] yf (.inl ⟨rfl,rfl,none,0,rfl⟩) (HT.out.fr H.fr) (HLh.out.fr H.fr yg yg) (fun h m n L e=>by rw[zhf]at e;cases e)) ?_;rintro e w1 ⟨hF,hpost⟩
 have he:e= .returned (.tuple #[.agg fileZ.toArray, .int .i64 1, .int .i64 100]):=by
  unfold za8 at hpost;rw[zhf]at hpost;exact hpost
 subst he;have H1:=H.step hF yg;clear H hF hpost;have H:=H1;clear H1;simp only[Int.not_lt,Int.not_le]at*;revert H;refine Wb9 ?_;intro g2 _ hg w1 H _ _ _ _;have hm:MatIn 2 2 3 awS (awS.map (·.2.2)) q1 q2 q3 d2 d3 w1:=⟨by decide,by decide,rfl,by decide,hd2,hd3,zmJ,zt3,CelR.of (H.rowo 2),CelR.of (H.rowo 3),CelR.of (H.rowo 4),rfl,zr1⟩;refine x_c H (zsa _ hm (i:=0) (j:=1) (q:=2) rfl rfl) ?_;clear H hm;rintro e w1 ⟨rfl,hF⟩ H;clear hF;simp only[Int.not_lt,Int.not_le]at*;revert H;refine Wc0 ?_;intro H
 go_ret
 exact⟨rfl,H.fr⟩
end
section
open Go.RowKit
attribute [local irreducible] wpList Code.wp Plan.wp zat zal pre zN entP zz za2 zaf
def zox{h:Hd}{w:List (List UInt8)}{e:Nat}(he:zas h w= .error e):e≠0:=by
 unfold zas at he
 by_cases k:w.length=(if h.arr=true then 2 else 3)∧w.all zT=true∧(h.sym=0∨zW (w.getD 0 [])=zW (w.getD 1 []))
 ·rw[if_pos k]at he;simp only[]at he;generalize hc:(if h.arr=true then zV h.sym (num (w.getD 0 [])) (num (w.getD 1 []))else num (w.getD 2 []))=c at he
  by_cases g:num (w.getD 0 [])≤200∧num (w.getD 1 [])≤200∧c≤10000∧(h.sym=0∨2*c≤10000)
  ·rw[if_pos g]at he;cases he
  ·rw[if_neg g]at he;cases he;decide
 ·rw[if_neg k]at he;cases he;decide
def zjD{h:Hd}{m n N:Nat}:∀(c:Nat) (L:List En) (ls:List (Nat×List (List UInt8))) {q:Nat×Nat},zac h m n N c L ls= .error q→q.2≠0
 | 0,L,ls,q,he=>by unfold zac at he;cases he
 | c+1,L,[],q,he=>by unfold zac at he;cases he;exact(by decide:(103:Nat)≠0)
 | c+1,L,(i,w)::ls,q,he=>by
  rw[zac]at he
  cases ho:one h m n L.length w with
  | none=>rw[ho]at he;cases he;exact(by decide:(102:Nat)≠0)
  | some x=>
   rw[ho]at he;simp only at he
   by_cases hs:zcz L x=true
   ·rw[if_pos hs]at he;cases he;exact(by decide:(102:Nat)≠0)
   ·rw[if_neg hs]at he;exact zjD c _ ls he
def zmR{s:List UInt8}{q:Nat×Nat}(he:zF s= .error q):q.2≠0:=by
 unfold zF at he
 split at he
 ·cases he;exact(by decide:(100:Nat)≠0)
 ·split at he
  ·cases he;exact(by decide:(100:Nat)≠0)
  ·split at he
   ·cases he;exact(by decide:(103:Nat)≠0)
   ·split at he
    ·rename_i h1
     cases he
     exact zox h1
    ·split at he
     ·rename_i h1
      cases he
      exact zjD _ _ _ h1
     ·cases he
     ·cases he;exact(by decide:(103:Nat)≠0)
def zqK(sym:Nat)(L:List En):(zz sym L).length≤2*L.length∧(sym=0→(zz sym L).length≤L.length):=by
 unfold zz;rw[List.length_append,List.length_map];have h1:=List.length_filter_le (fun x:En=> !(sym==0||x.1==x.2.1)) L;refine⟨by omega,fun h=>?_⟩;subst h
 have:(L.filter fun x:En=> !((0:Nat)==0||x.1==x.2.1))=[]:=by rw[List.filter_eq_nil_iff];intro x _;simp
 rw[this]
 simp
def FileOK.mirrLen{h:Hd}{m n:Nat}{L:List En}(F:FileOK h m n L):(zz h.sym L).length≤10000:=by
 obtain⟨h1,h2⟩:=zqK h.sym L;have h3:=F.most
 rcases F.half with h4|h4
 ·have:=h2 h4;omega
 ·omega
def Cl.ofR{w:World}{p:Option Addr}{cs:List Value}(h:CelR w p cs):Cl w p cs:=fun j u hj=>by
 obtain⟨g,h1,h2⟩:=h.2 j u hj;exact⟨g,0,h1,by rw[Nat.zero_add];exact h2⟩
open Go.ChangeShapes Go.WideShapes in
def zuV{H:Type}{enc:TypeId×Value→H}{W:World}{base:Nat}{d:DataW H}{p:List MemPlace}(v:Value)(k:DataW.Trod enc Tryz.prog W 0 (fun _=>true) true 22 v d p)(o:Value.okWide Tryz.prog W .any base 22 v):∃s:List UInt8,SArg W v s.length (zx s):=by
 obtain⟨n,hn⟩:=k;obtain⟨a,l,c,rfl⟩:=okWide_slice Tryz.underlying22 o;obtain⟨v',s,h1,h2⟩:=zmU Tryz.underlying22 Tryz.underlying5 yh hn;simp only[Value.cells,List.cons.injEq,and_true]at h1;subst h1;exact⟨s,h2⟩
def zqe(W:World)(hL:laidMetH Tryz.prog zcg W)(v0:Value)(o0:∃s:List UInt8,SArg W v0 s.length (zx s)):
 Calls Tryz.prog 6 #[v0] W fun e w'=>e= .returned (.bool true)∧Fr [] W w':=by
 obtain⟨s,p,c,rfl,_,hlc,hcm,hrd⟩:=o0;have HT:=hid (ztA hL);have HLh:=hid (zuN hL);have HRD:=hid hrd;clear hL hrd;unfold maxLen at hcm;have H:=Hp.start [] W
 by_cases h12:1200<s.length
 ·go_enter Tryz.func6,Tryz.ntmps6
  revert H;refine Wc1 ?_;intro H _ _ _ _ _ _ _;(refine xA H (zdh _ (HT.out.fr H.fr) (HLh.out.fr H.fr yg yg)) ?_;clear H;intro w1 H);simp only[Int.not_lt,Int.not_le]at*;revert H;refine Wc1 ?_;intro H
  go_ret
  exact⟨rfl,H.fr⟩
 ·go_enter Tryz.func6,Tryz.ntmps6
  revert H;refine Wc1 ?_;intro H _ _ _ _ _ _ _;refine x_c H (zqo _ s yb hlc (HRD.out _ H.fr)) ?_;clear H;rintro e w1 ⟨t,rfl,hF,ht⟩ H;clear hF
  cases t with
  | false=>
   clear ht;simp only[Int.not_lt,Int.not_le]at*;revert H;refine Wc1 ?_;intro H _ _ _ _;(refine xA H (zdh _ (HT.out.fr H.fr) (HLh.out.fr H.fr yg yg)) ?_;clear H;intro w1 H);simp only[Int.not_lt,Int.not_le]at*;revert H;refine Wc1 ?_;intro H
   go_ret
   exact⟨rfl,H.fr⟩
  | true=>
   have HTM:=hid (ht rfl);clear ht;simp only[Int.not_lt,Int.not_le]at*;revert H;refine Wc1 ?_;intro H _ _ _ _;refine Calls.mono (zdn _ s yb (HRD.out _ H.fr) (HT.out.fr H.fr) (HLh.out.fr H.fr yg yg) (fun h m n L e=>(zfD e).mirrLen)) ?_;rintro e w1 ⟨hF,hpost⟩;unfold za8 at hpost
   cases hmp:zF s with
   | error q=>
    obtain⟨k,x⟩:=q;rw[hmp]at hpost;have hx:=zmR hmp;simp only at hx hpost;subst hpost;have H1:=H.step hF yg;clear H hF hmp;have H:=H1;clear H1;have hpz:([.int .i64 0, .int .i64 0, .slice none 0 0, .slice none 0 0, .slice none 0 0]:List Value)<+:([.int .i64 0, .int .i64 0, .slice none 0 0, .slice none 0 0, .slice none 0 0, .bool false, .int .i64 0, .int .i64 0]:List Value).drop 0:=⟨[.bool false, .int .i64 0, .int .i64 0],rfl⟩;simp only[Int.not_lt,Int.not_le]at*;revert H;refine Wc2 ?_;intro g0 _ hg w1 H _ _ _ _ _ _;clear hpz;(refine xA H (zdZ _ (r:=0) (c:=0) [] [] [] rfl rfl rfl yf yf yf (fun j u h=>by cases h) (fun j u h=>by cases h) (fun j u h=>by cases h) (fun j u h=>by cases h) (fun j u h=>by cases h) (fun j u h=>by cases h)) ?_;clear H;intro w1 H);simp only[Int.not_lt,Int.not_le]at*;revert H;refine Wc1 ?_;intro H _ _
    (refine xA H (zdh _ (HT.out.fr H.fr) (HLh.out.fr H.fr yg yg)) ?_;clear H;intro w1 H);simp only[Int.not_lt,Int.not_le]at*;revert H;refine Wc1 ?_;intro H
    go_ret
    exact⟨rfl,H.fr⟩
   | ok q=>
    obtain⟨h,m,n,L⟩:=q;rw[hmp]at hpost;obtain⟨v1,v2,v3,B,rfl,hM,hB⟩:=hpost;have F:=zfD hmp;obtain⟨hm12,hn12⟩:=zmd HTM.out hmp;clear hmp HTM;obtain⟨S1,S2,S3,H1⟩:=H.mat 2 3 4 hF hM hB;clear H hF hM hB;have H:=H1;clear H1;have HFO:=hid F;have hsq:=F.square;have hfl:=F.field;have hsl:=F.sym;have hkd:=F.kind;have hE1:=zsv (zz h.sym L) m n;have hE2:n*m≤12*12:=Nat.mul_le_mul hn12 hm12;have hsrt:=zaS (zz h.sym L) m n;have hin:∀x∈entP (zz h.sym L) m n,x.1<m∧x.2.1<n∧zS x.2.2=true∧x.2.2<18446744073709551616:=fun x hx=>F.mirrOK.2 x ((F.mem x).1 hx)
    have hsame:=F.same;have hsym:=F.symm;obtain⟨E,hE⟩:∃E,entP (zz h.sym L) m n=E:=⟨_,rfl⟩;have hFW:FileOK h m n (zaf h.sym E):=by rw[←hE];exact F.wrt
    rw[hE]at H hE1 hsrt hin hsame hsym;obtain⟨K,hK⟩:∃K,(zaf h.sym E).length=K:=⟨_,rfl⟩;have hKE:K≤E.length:=by rw[←hK];unfold zaf;exact List.length_filter_le _ _
    have hst:h.arr=true→zV h.sym m n=K:=fun ha=>by rw[←hK,←zev hsl hsq,←hFW.all ha,List.length_map]
    obtain⟨N,hN⟩:∃N,E.length=N:=⟨_,rfl⟩;rw[hN]at hE1 hKE;have hEN:=hid hN;simp only[List.length_map,List.length_range,hN]at H;clear F hE hN;obtain⟨arr,field,sym⟩:=h;simp only at*;obtain⟨q1,d1,rfl,hd1,_⟩:=(H.rowo 2).form;obtain⟨q2,d2,rfl,hd2,_⟩:=(H.rowo 3).form;obtain⟨q3,d3,rfl,hd3,_⟩:=(H.rowo 4).form;have HSR:=hid hsrt;have HIN:=hid hin;have HSM:=hid hsame;have HSY:=hid hsym;have HFW:=hid hFW;have HFT:=hid (fun x (hx:x∈zaf sym E)=>ztd (hFW.each x hx).1 (hFW.each x hx).2)
    have HBD:=hid (fun x (hx:x∈zaf sym E)=>show x.1<1000∧x.2.1<1000 from by
     have h1:=(hFW.each x hx).1
     exact⟨by have:=h1.1;omega,by have:=h1.2.1;omega⟩)
    clear hsrt hin hsame hsym hFW;simp only[Int.not_lt,Int.not_le]at*;revert H;refine Wc1 ?_;intro g0 _ hg w1 H _ _ _ _;refine Calls.mono (zkT _ arr ⟨by omega,by omega,hEN.out,by omega,hd2,hd3,HSR.out,fun x hx=>⟨(HIN.out x hx).1,(HIN.out x hx).2.1⟩,CelR.of (H.rowo 2),CelR.of (H.rowo 3),CelR.of (H.rowo 4),by rw[List.length_map];exact hEN.out,fun x hx=>by obtain⟨y,hy,rfl⟩:=List.mem_map.1 hx;exact⟨(HIN.out y hy).2.2.2,(HIN.out y hy).2.2.1⟩⟩ yb yb hfl hsl hkd hsq HSY.out rfl hK yb HFT.out HBD.out hst (HT.out.fr H.fr) (HLh.out.fr H.fr yg yg)) ?_;rintro e w2 ⟨hF,R,p5,c5,hR,hRt,hRl,_,rfl,hRd⟩;have H1:=H.step hF yg;clear H hF;have H:=H1;clear H1;have HBK:=hid (HFW.out.back hR (fun p hp h2=>(hRt p hp).2 h2));obtain⟨s2,hs2⟩:∃t,za2 ⟨arr,field,sym⟩ m n R=t:=⟨_,rfl⟩;rw[hs2]at hRl hRd HBK ⊢;clear hR hRt hs2;have HR2:=hid hRd;clear hRd
    simp only[Int.not_lt,Int.not_le]at*;revert H;refine Wc1 ?_;intro H _ _ _ _;refine Calls.mono (zdn _ s2 yb HR2.out (HT.out.fr H.fr) (HLh.out.fr H.fr yg yg) (fun h m n L e=>(zfD e).mirrLen)) ?_;rintro e w3 ⟨hF,hpost⟩;unfold za8 at hpost;rw[HBK.out]at hpost;simp only[HSM.out]at hpost;obtain⟨v1,v2,v3,B,rfl,hM,hB⟩:=hpost;obtain⟨T1,T2,T3,H1⟩:=H.mat 5 6 7 hF hM hB;clear H hF hM hB HR2 HBK;have H:=H1;clear H1;simp only[List.length_map,List.length_range,hEN.out]at H;obtain⟨r1,e1,rfl,_⟩:=(H.rowo 5).form;obtain⟨r2,e2,rfl,_⟩:=(H.rowo 6).form;obtain⟨r3,e3,rfl,_⟩:=(H.rowo 7).form;simp only[Int.not_lt,Int.not_le]at*;revert H;refine Wc1 ?_;intro g1 _ hg w1 H _ _ _ _
    (refine xA H (zqf _ arr ((List.range (n+1)).map (pre E)) (E.map (·.1)) (E.map (·.2.2)) yg (by rw[List.length_map];exact hEN.out) (by rw[List.length_map];exact hEN.out) yb yb yb (Cl.ofR (CelR.of (H.rowo 2))) (Cl.ofR (CelR.of (H.rowo 3))) (Cl.ofR (CelR.of (H.rowo 4))) (Cl.ofR (CelR.of (H.rowo 5))) (Cl.ofR (CelR.of (H.rowo 6))) (Cl.ofR (CelR.of (H.rowo 7)))) ?_;clear H;intro w1 H);simp only[Int.not_lt,Int.not_le]at*;revert H;refine Wc1 ?_;intro H _ _;(refine xA H (zdh _ (HT.out.fr H.fr) (HLh.out.fr H.fr yg yg)) ?_;clear H;intro w1 H);simp only[Int.not_lt,Int.not_le]at*;revert H;refine Wc1 ?_;intro H
    go_ret
    exact⟨rfl,H.fr⟩
end
end Go.Proofs.YtaijhllckmndhaaGreatDoor
