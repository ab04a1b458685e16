import Derived.Test.YtaijhllckmndhaaGreatDoorYJ0
import Derived.Test.YtaijhllckmndhaaGreatDoorYJ33
import Derived.Test.YtaijhllckmndhaaGreatDoorYJ36
import Derived.Test.YtaijhllckmndhaaGreatDoorYJ35
import Derived.Test.YtaijhllckmndhaaGreatDoorYJ34
namespace Go.Proofs.YtaijhllckmndhaaGreatDoor
set_option linter.all false
set_option maxHeartbeats 64000000
set_option maxRecDepth 100000
section
open Go.RowKit
attribute [local irreducible] wpList Code.wp Plan.wp zat zal pre zN
def uV(n:Nat):Value:= .int .u64 (n:Int)
section
variable {P:Program} {a:Act} {w:World} {o:Oper}
def zY{t:TypeId}{x ix:Operand}(i q:Nat)(ho:o.op= .indexAddr t x ix){b p n c:Nat}{k:IntKind}{z:Int}(hx:a.eval x= .slice (some ⟨b,p,none⟩) n c)(hi:a.eval ix= .int k z)(hz:Hid (z=(i:Int))){e:TypeId}{zl:List Value}{s by':Nat}[h:Si P t e zl s by'](hq:p+i*s=q:=by omega)(h1:i<n:=by omega):(execOp a.eval o).run P w= .ok (.value (.pointer (some ⟨b,q,none⟩))) w:=by
 rw[hz.out]at hi;rw[←hq];exact zcI ho hx hi h.h yb yb
def RowAt.cell{e:TypeId}{sz b c n p:Nat}{xs:List Value}{S:List Nat}{v:Value}(h:RowAt e sz (.slice (some ⟨b,0,none⟩) n c) n xs S w)(hv:xs[p]? =some v):w.cell? ⟨b,p,none⟩=some v:=by
 obtain⟨h0,⟨_,_,h3⟩|⟨g,cap,pad,rfl,h1,h2,h3,h4,h5⟩⟩:=h
 ·cases h3
 ·cases h1
  rw[cell_of_row w b _ _ _ _ h5]
  simpa using(by rw[List.getElem?_append_left (List.getElem?_eq_some_iff.1 hv).1];exact hv:(xs++pad)[p]? =some v)
def RowAt.some{e:TypeId}{sz n:Nat}{xs:List Value}{S:List Nat}{v:Value}(h:RowAt e sz v n xs S w)(hn:0<n):∃g c,v= .slice (some ⟨g,0,none⟩) n c∧S=[g]:=by
 obtain⟨h0,⟨_,h2,h3⟩|⟨g,cap,pad,rfl,h1,h2,h3,h4,h5⟩⟩:=h
 ·omega
 ·exact⟨g,cap,h1,rfl⟩
def zvQ{t:TypeId}{x:Operand}(ho:o.op= .load t x){b p:Nat}(hx:a.eval x= .pointer (some ⟨b,p,none⟩)){n:Nat}[s:Ro P t n]{e:TypeId}{sz c m:Nat}{xs:List Value}{S:List Nat}(hr:RowAt e sz (.slice (some ⟨b,0,none⟩) m c) m xs S w){vs:List Value}(hv:vs<+:xs.drop p)(hn:vs.length=n):(execOp a.eval o).run P w= .ok (.value (.agg vs.toArray)) w:=
 zdw ho hx (by rw[hn];exact s.h) fun j v hj=>hr.cell (by
  obtain⟨r,hr⟩:=hv;have hlt:=(List.getElem?_eq_some_iff.1 hj).1
  have:(xs.drop p)[j]? =some v:=by rw[←hr,List.getElem?_append_left hlt];exact hj
  simpa using this)
def zce{t:TypeId}{x:Operand}(ho:o.op= .load t x){b p:Nat}(hx:a.eval x= .pointer (some ⟨b,p,none⟩))[s:Sc P t]{e:TypeId}{sz c m:Nat}{xs:List Value}{S:List Nat}(hr:RowAt e sz (.slice (some ⟨b,0,none⟩) m c) m xs S w){v:Value}(hv:xs[p]? =some v):(execOp a.eval o).run P w= .ok (.value v) w:=
 zcP ho hx s.h (hr.cell hv)
end
section
variable {P:Program} {Q:Exit→Act→World→Prop} {a:Act} {w w0:World} {o:Oper} {K:Act→World→Prop} {T:List Nat} {l:List Ent}
def zvN(m:Nat)(H:Hp T w0 w l){t:TypeId}{lx:Operand}(ho:o.op= .makeSlice t lx lx){kl:IntKind}{n:Int}(hl:a.eval lx= .int kl n)(hz:Hid (n=(m:Int))){e:TypeId}{z:List Value}{s by':Nat}[hs:Si P t e z s by']
 (hb:by'*m≤281474976710656:=by omega) (h63:m≤100000000:=by omega)
 (h:∀g w',w0.heap.size≤g∧w.heap.size≤g→Fr [] w w'→Hp T w0 w' (.blk g (List.replicate m z).flatten e::l)→K (a.put o.dst (.slice (some ⟨g,0,none⟩) m m)) w'):o.wp P a w K Q:=by
 rw[hz.out]at hl;refine zms H ho hl hl (hs:=hs) yb (Int.le_refl _) (by rw[←Int.natCast_mul];exact Int.ofNat_le.2 hb) yb (fun g w' h1 h2 h3=>?_);exact h g w' h1 h2 h3
end
def zfh(st ix vl:List Nat)(v1 v2 v3:Value)(B:List Nat)(w:World):Prop:=
 ∃S1 S2 S3,B=S1++(S2++S3)∧B.Nodup∧RowAt 3 1 v1 st.length (st.map iV) S1 w∧RowAt 3 1 v2 ix.length (ix.map iV) S2 w∧RowAt 51 1 v3 vl.length (vl.map uV) S3 w
def zrv(rows cols:Nat)(st ix vl:List Nat)(w:World)(e:Ending)(w':World):Prop:=
 ∃v1 v2 v3 B,e= .returned (.agg #[iV rows,iV cols,v1,v2,v3])∧Fr [] w w'∧zfh st ix vl v1 v2 v3 B w'∧∀x∈B,w.heap.size≤x
def Hp.mat{T:List Nat}{w0 w w':World}{l:List Ent}(H:Hp T w0 w l)(k1 k2 k3:Nat){st ix vl:List Nat}{v1 v2 v3:Value}{B:List Nat}(hF:Fr [] w w')(h:zfh st ix vl v1 v2 v3 B w')(hB:∀x∈B,w.heap.size≤x):
 ∃S1 S2 S3,Hp T w0 w' (.obj k1 S1 (RowAt 3 1 v1 st.length (st.map iV) S1):: .obj k2 S2 (RowAt 3 1 v2 ix.length (ix.map iV) S2):: .obj k3 S3 (RowAt 51 1 v3 vl.length (vl.map uV) S3)::l):=by
 obtain⟨S1,S2,S3,rfl,hn,h1,h2,h3⟩:=h;simp only[List.nodup_append,List.mem_append]at hn;have k0:=H.step hF yg;have nw:∀x,w.heap.size≤x→x∉l.flatMap Ent.own:=fun x hx=>H.notOwn hx
 have nb:∀x,w.heap.size≤x→x∈T∨w0.heap.size≤x:=fun x hx=> .inr (Nat.le_trans H.fr.size hx)
 have q3:=k0.pushObj k3 h3 RowAt.firm (fun x hx=>nb x (hB x yI)) (fun x hx=>nw x (hB x yI))
 have q2:=q3.pushObj k2 h2 RowAt.firm (fun x hx=>nb x (hB x yI)) (fun x hx=>by
  rw[List.flatMap_cons,List.mem_append,not_or]
  exact⟨fun h=>hn.2.1.2.2 x hx x h rfl,nw x (hB x yI)⟩)
 have q1:=q2.pushObj k1 h1 RowAt.firm (fun x hx=>nb x (hB x yI)) (fun x hx=>by
  rw[List.flatMap_cons,List.flatMap_cons,List.mem_append,List.mem_append,not_or,not_or]
  exact⟨fun h=>hn.2.2 x hx x (.inl h) rfl,fun h=>hn.2.2 x hx x (.inr h) rfl,nw x (hB x yI)⟩)
 exact⟨S1,S2,S3,q1⟩
def zea{w:World}{st ix vl:List Nat}{v1 v2 v3:Value}{S1 S2 S3:List Nat}{r1 r2 r3:List Value}{n1 n2 n3:Nat}(hn:(S1++(S2++S3)).Nodup)(h1:RowAt 3 1 v1 n1 r1 S1 w)(h2:RowAt 3 1 v2 n2 r2 S2 w)(h3:RowAt 51 1 v3 n3 r3 S3 w)
 (e1:r1=st.map iV) (e2:r2=ix.map iV) (e3:r3=vl.map uV) (f1:n1=st.length) (f2:n2=ix.length) (f3:n3=vl.length):zfh st ix vl v1 v2 v3 (S1++(S2++S3)) w:=by
 subst e1 e2 e3 f1 f2 f3;exact⟨S1,S2,S3,rfl,hn,h1,h2,h3⟩
def Hp.fresh{w0 w:World}{l:List Ent}(H:Hp [] w0 w l):∀x∈l.flatMap Ent.own,w0.heap.size≤x:=by
 intro x hx;obtain⟨e,he,hx⟩:=List.mem_flatMap.1 hx;have h:=H.ok e he
 cases e with
 | blk b cs t=>
  simp only[Ent.own,List.mem_singleton]at hx;subst hx;exact h.2.resolve_left yg
 | rng b off cs=>simp[Ent.own]at hx
 | obj k S Q=>exact(h.2.2 x hx).resolve_left yg
def ztr(cols:Nat):(List.replicate (cols+1) [Value.int .i64 0]).flatten=(zat [] cols).map iV:=by
 rw[zqg,List.map_replicate];generalize cols+1=n
 induction n with
 | zero=>rfl
 | succ n ih=>rw[List.replicate_succ,List.flatten_cons,ih];rfl
def zb7{α:Type}{S:List α}{k:Nat}{x:α}(h:S[k]? =some x):S.take (k+1)=S.take k++[x]:=by rw[List.take_add_one,h];rfl
def zdu{P:List En}{k:Nat}{x:En}(h:P[k]? =some x):eC x<+:(P.flatMap eC).drop (k*3):=by
 obtain⟨hl,he⟩:=List.getElem?_eq_some_iff.1 h;have e1:P=P.take k++x::P.drop (k+1):=by rw[←he,List.getElem_cons_drop,List.take_append_drop]
 have h1:=zaP (P.take k) (P.drop (k+1)) x [];rw[←e1,List.length_take,Nat.min_eq_left yb,List.append_nil]at h1;exact h1
def zo6{l l':List Nat}{i n:Nat}(h:l.set i n=l'):(l.map iV).set i (iV n)=l'.map iV:=by rw[←h,List.map_set]
def zo8(w:World)(rows cols:Nat)(hc:cols≤200){p:Option Addr}{c:Nat}(E E':List En)(hr:Rd w (.slice p E.length c) E.length (E.flatMap eC))(hE:E.length≤10000)(hE':∀S:List En,E.Perm S→S.Pairwise leE→S=E')(hcol:∀x∈E,x.2.1<cols):
 Calls Tryz.prog 190 #[.int .i64 (rows:Int), .int .i64 (cols:Int), .slice p E.length c] w (zrv rows cols ((List.range (cols+1)).map (pre E')) (E'.map (·.1)) (E'.map (·.2.2)) w):=by
 have HR:=hid hr;have HE':=hid hE';have HCO:=hid hcol;clear hr hE' hcol;have H:=((Hp.start [] w).newRow 3 (e:=51) (sz:=1)).newRow 2 (e:=3) (sz:=1);have HC1:=hid (show(cols:Int)+1=((cols+1:Nat):Int) by omega)
 go_enter Tryz.func190,Tryz.ntmps190
 go_wp2_with(first|refine x_q H ?_|refine x_l H ?_|(revert H;refine x_g (he:=fun H K hK=>zvN (cols+1) H rfl rfl HC1 (h:=hK)) ?_;(first|(have hh:=g3;clear hh;intro g4 w1 hg hf H)|(have hh:=g2;clear hh;intro g3 w1 hg hf H)|(have hh:=g1;clear hh;intro g2 w1 hg hf H)|(have hh:=g0;clear hh;intro g1 w1 hg hf H)|intro g0 w1 hg hf H);(first|replace hf:=hf.kp|clear hf))|refine zm ?_ ?_<;>intro h|(revert H;(first|(refine x_g ?_;(first|(have hh:=g3;clear hh;intro g4 w1 hg hf H)|(have hh:=g2;clear hh;intro g3 w1 hg hf H)|(have hh:=g1;clear hh;intro g2 w1 hg hf H)|(have hh:=g0;clear hh;intro g1 w1 hg hf H)|intro g0 w1 hg hf H))|(refine x_s ?_;intro w1 hf H)|(refine zau ?_;intro w1 hf H hk;clear hf hk));(first|replace hf:=hf.kp|clear hf)))
 refine Calls.mono (zhj _ E (HR.out.fr H.fr yg) (Nat.le_trans hE yf)) ?_;rintro e w1 ⟨vs,rfl,hF,S,hSl,hown,hp,hs⟩;obtain⟨Ss,H1⟩:=H.rowNew 1 hF hown;clear H hF hown;have H:=H1;clear H1;obtain rfl:S=E':=HE'.out S hp hs;have HCO2:=hid (fun x (hx:x∈S)=>HCO.out x (hp.mem_iff.2 hx));obtain⟨N,hN⟩:∃N,S.length=N:=⟨_,rfl⟩;rw[←hSl,hN]at H hE;have HN:=hid hN;have hcE:=hid (fun j=>zhx S j);clear HE' HCO HR hp hs hSl hN HC1;obtain⟨p5,c5,rfl,_⟩:=(H.rowo 1).form
 go_wp2_with(first|refine x_q H ?_|refine x_l H ?_|refine zm ?_ ?_<;>intro h|(revert H;(first|(refine x_g ?_;(first|(have hh:=g3;clear hh;intro g4 w1 hg hf H)|(have hh:=g2;clear hh;intro g3 w1 hg hf H)|(have hh:=g1;clear hh;intro g2 w1 hg hf H)|(have hh:=g0;clear hh;intro g1 w1 hg hf H)|intro g0 w1 hg hf H))|(refine x_s ?_;intro w1 hf H)|(refine zau ?_;intro w1 hf H hk;clear hf hk));(first|replace hf:=hf.kp|clear hf)))
 rw[ztr]at H
 go_loopw [20] (fun s20 wr=>∃(k:Nat) (p2 p3:Option Addr) (c2 c3:Nat) (S2 S3:List Nat),s20= .int .i64 (k:Int)∧k≤N∧Hp [] w wr [.blk g2 [.int .i64 (rows:Int), .int .i64 (cols:Int), .slice (some ⟨g1,0,none⟩) (cols+1) (cols+1), .slice p2 k c2, .slice p3 k c3] 28, .blk g1 ((zat (S.take k) cols).map iV) 3, .obj 2 S2 (RowAt 3 1 (.slice p2 k c2) k ((S.take k).map fun x=>iV x.1) S2), .obj 3 S3 (RowAt 51 1 (.slice p3 k c3) k ((S.take k).map fun x=>uV x.2.2) S3), .obj 1 Ss (RowAt 75 3 (.slice p5 N c5) N (S.flatMap eC) Ss), .blk g0 [.int .i64 0, .int .i64 0, .slice none 0 0, .slice none 0 0, .slice none 0 0] 28]) (fun v _=>N-(intOf v).toNat)
 case atStart=>
  refine⟨0,none,none,0,0,[],[],rfl,Nat.zero_le _,?_⟩;(refine Hp.arr H ?_;repeat (first|exact Pm.nil _|(apply Pm.cons;· (repeat first|exact Rm.here _|apply Rm.there))))
 case round=>
  clear H;obtain⟨k,p2,p3,c2,c3,S2,S3,rfl,hk,H⟩:=hrel
  by_cases hlt:k<N
  ·obtain⟨⟨xr,xc,xv⟩,hx⟩:∃x,S[k]? =some x:=⟨_,List.getElem?_eq_getElem yT⟩;have hxc:xc<cols:=HCO2.out _ (List.mem_of_getElem? hx);have hpre:[.int .i64 (xr:Int), .int .i64 (xc:Int), .int .u64 (xv:Int)]<+:(S.flatMap eC).drop (k*3):=zdu hx;have HT:=hid (zb7 hx);obtain⟨A,hA⟩:∃A,S.take k=A:=⟨_,rfl⟩;have hAl:A.length=k:=by rw[←hA,List.length_take,HN.out];omega
   have hst:((zat A cols).map iV)[xc+1]? =some (.int .i64 (zN A xc:Int)):=by rw[List.getElem?_map,zsy hxc];rfl
   have hcn:zN A xc≤10000:=by have:=zhx A xc;omega
   have hsl:xc+1<((zat A cols).map iV).length:=by rw[List.length_map,zqU];omega
   rw[hA]at H HT;have HAl:=hid hAl;have HC1:=hid (show(xc:Int)+1=((xc+1:Nat):Int) by omega);obtain⟨gs,cs,hvs,rfl⟩:=(H.rowo 1).some yb
   cases hvs
   clear hx hA hAl
   go_wp2_with(first|refine x_e (zY (xc+1) (xc+1) rfl rfl rfl HC1) ?_|refine x_e (zvQ rfl rfl (H.rowo 1) hpre rfl) ?_|refine x_q H ?_|refine x_l H ?_|refine zm ?_ ?_<;>intro h|(revert H;(first|(refine x_g ?_;(first|(have hh:=g3;clear hh;intro g4 w1 hg hf H)|(have hh:=g2;clear hh;intro g3 w1 hg hf H)|(have hh:=g1;clear hh;intro g2 w1 hg hf H)|(have hh:=g0;clear hh;intro g1 w1 hg hf H)|intro g0 w1 hg hf H))|(refine x_s ?_;intro w1 hf H)|(refine zau ?_;intro w1 hf H hk;clear hf hk));(first|replace hf:=hf.kp|clear hf)))
   (revert H;refine w_p 13 (.st 0 (.st 1 (.st 2 (.st 3 (.st 6 (.st 7 (.st 8 (.st 9 (.ld2 4 (.ld2 5 (.st 12 (.ld 10 (.ld 11 (.ldf 13 (.st 14 (.ld 15 .done)))))) 10 (.ld 5 (.st 12 (.ld 11 (.ldf 13 (.st 14 (.ld 15 .done))))))) 10 (.ld 4 (.ld 5 (.st 12 (.ld 11 (.ldf 13 (.st 14 (.ld 15 .done)))))))))))))))) ?_ (hs:=(.cons_cons _ (.cons_cons _ (.cons_cons _ (List.nil_sublist _)))));intro w1 H)
   iterate 8 refine p_q ?_
   (refine zcF ?_ ?_)
   (revert H;refine p_g ?_;intro gi w1 hg hf H;(first|replace hf:=hf.kp|clear hf))
   (refine zcF ?_ ?_)
   (go_loud (refine zag rfl rfl (fun K hK=>zaN H rfl rfl rfl 2 (H.rd (b:=gi) (off:=0) (vs:=[.int .i64 (xr:Int)]) List.prefix_rfl) rfl yU yb yk (fun p2' c2' w1 S2' hf H1=>hK _ _ (fun hne=>by first|exact absurd rfl hne|exact trivial|exact H1.sub yd) ?_)));(clear hK K);(clear H;have H:=H1;clear H1;(try dsimp only at H);(first|replace hf:=hf.kp|clear hf));(simp only[nrm,↓reduceIte,Nat.reduceAdd]))
   refine p_q ?_
   (revert H;refine p_g ?_;intro gv w1 hg hf H;(first|replace hf:=hf.kp|clear hf))
   (go_loud (refine zag rfl rfl (fun K hK=>zaN H rfl rfl rfl 3 (H.rd (b:=gv) (off:=0) (vs:=[.int .u64 (xv:Int)]) List.prefix_rfl) rfl yU yb yk (fun p3' c3' w1 S3' hf H1=>hK _ _ (fun hne=>by first|exact absurd rfl hne|exact trivial|exact H1.sub yd) ?_)));(clear hK K);(clear H;have H:=H1;clear H1;(try dsimp only at H);(first|replace hf:=hf.kp|clear hf));(simp only[nrm,↓reduceIte,Nat.reduceAdd]))
   (revert H;refine zgp ?_;intro w1 hf H;(first|replace hf:=hf.kp|clear hf))
   refine p_q ?_
   (revert H;refine p_s ?_;intro w1 hf H;(first|replace hf:=hf.kp|clear hf))
   (refine zf ?_)
   rotate_left
   (revert H;refine p_g ?_;intro gv w1 hg hf H;(first|replace hf:=hf.kp|clear hf))
   (go_loud (refine zag rfl rfl (fun K hK=>zaN H rfl rfl rfl 2 (H.rd (b:=gi) (off:=0) (vs:=[.int .i64 (xr:Int)]) List.prefix_rfl) rfl yU yb yk (fun p2' c2' w1 S2' hf H1=>hK _ _ (fun hne=>by first|exact absurd rfl hne|exact trivial|exact H1.sub yd) ?_)));(clear hK K);(clear H;have H:=H1;clear H1;(try dsimp only at H);(first|replace hf:=hf.kp|clear hf));(simp only[nrm,↓reduceIte,Nat.reduceAdd]))
   refine p_q ?_
   (go_loud (refine zag rfl rfl (fun K hK=>zaN H rfl rfl rfl 3 (H.rd (b:=gv) (off:=0) (vs:=[.int .u64 (xv:Int)]) List.prefix_rfl) rfl yU yb yk (fun p3' c3' w1 S3' hf H1=>hK _ _ (fun hne=>by first|exact absurd rfl hne|exact trivial|exact H1.sub yd) ?_)));(clear hK K);(clear H;have H:=H1;clear H1;(try dsimp only at H);(first|replace hf:=hf.kp|clear hf));(simp only[nrm,↓reduceIte,Nat.reduceAdd]))
   (revert H;refine zgp ?_;intro w1 hf H;(first|replace hf:=hf.kp|clear hf))
   refine p_q ?_
   (revert H;refine p_s ?_;intro w1 hf H;(first|replace hf:=hf.kp|clear hf))
   (refine zf ?_)
   rotate_left
   (revert H;refine p_g ?_;intro gv w1 hg hf H;(first|replace hf:=hf.kp|clear hf))
   (revert H;refine p_g ?_;intro gi w1 hg hf H;(first|replace hf:=hf.kp|clear hf))
   (go_loud (refine zag rfl rfl (fun K hK=>zaN H rfl rfl rfl 2 (H.rd (b:=gi) (off:=0) (vs:=[.int .i64 (xr:Int)]) List.prefix_rfl) rfl yU yb yk (fun p2' c2' w1 S2' hf H1=>hK _ _ (fun hne=>by first|exact absurd rfl hne|exact trivial|exact H1.sub yd) ?_)));(clear hK K);(clear H;have H:=H1;clear H1;(try dsimp only at H);(first|replace hf:=hf.kp|clear hf));(simp only[nrm,↓reduceIte,Nat.reduceAdd]))
   refine p_q ?_
   (go_loud (refine zag rfl rfl (fun K hK=>zaN H rfl rfl rfl 3 (H.rd (b:=gv) (off:=0) (vs:=[.int .u64 (xv:Int)]) List.prefix_rfl) rfl yU yb yk (fun p3' c3' w1 S3' hf H1=>hK _ _ (fun hne=>by first|exact absurd rfl hne|exact trivial|exact H1.sub yd) ?_)));(clear hK K);(clear H;have H:=H1;clear H1;(try dsimp only at H);(first|replace hf:=hf.kp|clear hf));(simp only[nrm,↓reduceIte,Nat.reduceAdd]))
   (revert H;refine zgp ?_;intro w1 hf H;(first|replace hf:=hf.kp|clear hf))
   refine p_q ?_
   (revert H;refine p_s ?_;intro w1 hf H;(first|replace hf:=hf.kp|clear hf))
   (refine zf ?_)
   rotate_left
   all_goals
    go_wp2_with(first|refine x_e (zY (xc+1) (xc+1) rfl rfl rfl HC1) ?_|refine x_q H ?_|refine x_l H ?_|refine zm ?_ ?_<;>intro h|(revert H;(first|(refine x_g ?_;(first|(have hh:=g3;clear hh;intro g4 w1 hg hf H)|(have hh:=g2;clear hh;intro g3 w1 hg hf H)|(have hh:=g1;clear hh;intro g2 w1 hg hf H)|(have hh:=g0;clear hh;intro g1 w1 hg hf H)|intro g0 w1 hg hf H))|(refine x_s ?_;intro w1 hf H)|(refine zau ?_;intro w1 hf H hk;clear hf hk));(first|replace hf:=hf.kp|clear hf)))
    go_roundw
    case rel=>
     refine⟨k+1,p2',p3',c2',c3',S2',S3',rfl,by omega,?_⟩;have e1:((zat A cols).map iV).set (xc+1) (.int .i64 ((zN A xc:Int)+1))=(zat (A++[(xr,xc,xv)]) cols).map iV:=zo6 (zpg (x:=(xr,xc,xv)) hxc);rw[HT.out,←e1,List.map_append,List.map_append];(refine Hp.arr H ?_;repeat (first|exact Pm.nil _|(apply Pm.cons;· (repeat first|exact Rm.here _|apply Rm.there))))
    case measure=>(simp[intOf];try omega)
  ·have e0:S.take k=S:=List.take_of_length_le yV;have hkN:k=N:=by omega
   rw[e0,←zpG]at H;subst hkN;clear e0
   go_wp2_with(first|refine x_q H ?_|refine x_l H ?_|refine zm ?_ ?_<;>intro h|(revert H;(first|(refine x_g ?_;(first|(have hh:=g3;clear hh;intro g4 w1 hg hf H)|(have hh:=g2;clear hh;intro g3 w1 hg hf H)|(have hh:=g1;clear hh;intro g2 w1 hg hf H)|(have hh:=g0;clear hh;intro g1 w1 hg hf H)|intro g0 w1 hg hf H))|(refine x_s ?_;intro w1 hf H)|(refine zau ?_;intro w1 hf H hk;clear hf hk));(first|replace hf:=hf.kp|clear hf)))
   go_loopw [49] (fun s49 wr=>∃j:Nat,s49= .int .i64 (j:Int)∧j≤cols∧Hp [] w wr [.blk g2 [.int .i64 (rows:Int), .int .i64 (cols:Int), .slice (some ⟨g1,0,none⟩) (cols+1) (cols+1), .slice p2 k c2, .slice p3 k c3] 28, .blk g1 ((zal S cols j).map iV) 3, .obj 2 S2 (RowAt 3 1 (.slice p2 k c2) k (S.map fun x=>iV x.1) S2), .obj 3 S3 (RowAt 51 1 (.slice p3 k c3) k (S.map fun x=>uV x.2.2) S3), .blk g0 [.int .i64 0, .int .i64 0, .slice none 0 0, .slice none 0 0, .slice none 0 0] 28]) (fun v _=>cols-(intOf v).toNat)
   case atStart=>
    refine⟨0,rfl,Nat.zero_le _,?_⟩;(refine Hp.arr H ?_;repeat (first|exact Pm.nil _|(apply Pm.cons;· (repeat first|exact Rm.here _|apply Rm.there))))
   case round=>
    clear H;obtain⟨j,rfl,hj,H⟩:=hrel
    by_cases hlt:j<cols
    ·have hhi:((zal S cols j).map iV)[j+1]? =some (.int .i64 (zN S j:Int)):=by rw[List.getElem?_map,zsm hlt];rfl
     have hlo:((zal S cols j).map iV)[j]? =some (.int .i64 (pre S j:Int)):=by rw[List.getElem?_map,zsk];rfl
     have hcn:zN S j≤10000:=by have:=zhx S j;rw[HN.out]at this;omega
     have hpn:pre S j≤10000:=by have:=zd6 S j;rw[HN.out]at this;omega
     have hsl:j+1<((zal S cols j).map iV).length:=by rw[List.length_map,zqp yb];omega
     have HC1:=hid (show(j:Int)+1=((j+1:Nat):Int) by omega)
     go_wp2_with(first|refine x_q H ?_|refine x_l H ?_|refine zm ?_ ?_<;>intro h|(revert H;(first|(refine x_g ?_;(first|(have hh:=g3;clear hh;intro g4 w1 hg hf H)|(have hh:=g2;clear hh;intro g3 w1 hg hf H)|(have hh:=g1;clear hh;intro g2 w1 hg hf H)|(have hh:=g0;clear hh;intro g1 w1 hg hf H)|intro g0 w1 hg hf H))|(refine x_s ?_;intro w1 hf H)|(refine zau ?_;intro w1 hf H hk;clear hf hk));(first|replace hf:=hf.kp|clear hf)))
     (revert H;refine w_p 13 (.st 0 (.st 1 (.st 2 (.st 3 (.st 4 (.st 5 (.st 6 (.st 7 (.st 8 (.st 9 (.st 10 (.st 11 (.st 12 (.ld 13 .done)))))))))))))) ?_;intro w1 H)
     iterate 4 refine p_q ?_
     (refine p_e rfl (fun w H=>zY (j+1) (j+1) rfl rfl rfl HC1) ?_)
     iterate 7 refine p_q ?_
     (refine p_e rfl (fun w H=>zY (j+1) (j+1) rfl rfl rfl HC1) ?_)
     (revert H;refine p_s ?_;intro w1 hf H;(first|replace hf:=hf.kp|clear hf))
     (refine zf ?_)
     go_wp2_with(first|refine x_q H ?_|refine x_l H ?_|refine zm ?_ ?_<;>intro h|(revert H;(first|(refine x_g ?_;(first|(have hh:=g3;clear hh;intro g4 w1 hg hf H)|(have hh:=g2;clear hh;intro g3 w1 hg hf H)|(have hh:=g1;clear hh;intro g2 w1 hg hf H)|(have hh:=g0;clear hh;intro g1 w1 hg hf H)|intro g0 w1 hg hf H))|(refine x_s ?_;intro w1 hf H)|(refine zau ?_;intro w1 hf H hk;clear hf hk));(first|replace hf:=hf.kp|clear hf)))
     go_roundw
     case rel=>
      refine⟨j+1,rfl,by omega,?_⟩;have e1:((zal S cols j).map iV).set (j+1) (.int .i64 ((zN S j:Int)+(pre S j:Int)))=(zal S cols (j+1)).map iV:=zo6 (znN hlt);rw[←e1];(refine Hp.arr H ?_;repeat (first|exact Pm.nil _|(apply Pm.cons;· (repeat first|exact Rm.here _|apply Rm.there))))
     case measure=>(simp[intOf];try omega)
    ·have hje:j=cols:=by omega
     rw[hje,zqV]at H;clear hje
     go_wp2_with(first|refine x_q H ?_|refine x_l H ?_|refine zm ?_ ?_<;>intro h|(revert H;(first|(refine x_g ?_;(first|(have hh:=g3;clear hh;intro g4 w1 hg hf H)|(have hh:=g2;clear hh;intro g3 w1 hg hf H)|(have hh:=g1;clear hh;intro g2 w1 hg hf H)|(have hh:=g0;clear hh;intro g1 w1 hg hf H)|intro g0 w1 hg hf H))|(refine x_s ?_;intro w1 hf H)|(refine zau ?_;intro w1 hf H hk;clear hf hk));(first|replace hf:=hf.kp|clear hf)))
     refine zk H rfl rfl rfl ?_;have H3:Hp [] w _ [.blk g1 (((List.range (cols+1)).map (pre S)).map iV) 3, .obj 2 S2 (RowAt 3 1 (.slice p2 k c2) k (S.map fun x=>iV x.1) S2), .obj 3 S3 (RowAt 51 1 (.slice p3 k c3) k (S.map fun x=>uV x.2.2) S3)]:=H.arr ye;refine⟨_,_,_,[g1]++(S2++S3),rfl,H.fr,zea yX ⟨by simp, .inr ⟨g1,cols+1,[],rfl,rfl,Nat.le_refl _,by unfold maxLen;omega,by simp,by simpa using H3.at g1⟩⟩ (H3.rowo 2) (H3.rowo 3) rfl (by rw[List.map_map];rfl) (by rw[List.map_map];rfl) yg y4 y4,?_⟩;intro x hx;exact H3.fresh x (by simpa[Ent.own]using hx)
end
section
open Go.RowKit
section
variable {P:Program} {Q:Exit→Act→World→Prop} {w w0:World} {lo:List Oper} {o:Oper} {T:List Nat} {l:List Ent} {L:List Value} {ds:List Deferred} {S:World→Prop} {fi i:Nat} {k:Plan}
def zcU{v:Value}{L':List Value}(h:k.wp P lo.toArray Q S fi ⟨L'.toArray,ds⟩ w)(hi:lo[i]? =some o:=by rfl)(hw:Region.wanted o (yielded lo.toArray L.toArray)=true:=by rfl)
 (he:Hp T w0 w l→(execOp (Act.mk L.toArray ds).eval o).run P w= .ok (.value v) w:=by
  intro H;refine zjm rfl ?_
  first|exact zqu H rfl rfl|exact zmo H rfl rfl|exact zra H rfl rfl|exact zpV H rfl rfl)
 (hs:zad L o.dst v=L':=by((try simp only[nrm,zP,zQ,↓reduceIte,Nat.reduceAdd]);(try exact rfl)))
 (hS:i≠fi→Hp T w0 w l→S w:=by intro hne H1;first|exact absurd rfl hne|exact trivial|exact H1.sub yd)
 (H:Hp T w0 w l):Plan.wp P lo.toArray Q S fi (.ld i k) ⟨L.toArray,ds⟩ w:=
 zag hi hw fun K hK=>zU (he H) (hK _ _ (fun hne=>hS hne H) (by rw[zaj,hs];exact h))
end
def zr0{P:Program}{w:World}{a:Act}{o:Oper}{t:TypeId}{x:Operand}(ho:o.op= .unOp .neg t x){n:Int}(hx:a.eval x= .int .i64 n)(hn:inr .i64 (-n):=by simp only[inr];omega):(execOp a.eval o).run P w= .ok (.value (.int .i64 (-n))) w:=by
 have e:IntKind.i64.wrap (-n)= -n:=zX hn;unfold execOp
 simp[ho,hx,Op.unary,Op.intArith,e]
def ztw{X:Nat}{e m e':Int}(h:Nm (X:Int) e m e')(hX:0<X):∃M t:Nat,m=(M:Int)∧X=M*2^t∧e'=e+t∧0<M:=by
 obtain⟨t,h1,h2,_⟩:=h.abs yb;have hs:m.sign=1:=h.sign.trans (Int.sign_eq_one_of_pos yb);have hm:0<m:=Int.sign_eq_one_iff_pos.1 hs;refine⟨m.natAbs,t,by omega,?_,h2,by omega⟩;rw[Int.natAbs_natCast]at h1;exact h1
def zg7{w:World}{u:Value}{m:Nat}{z:Int}{n:Nat}(k:Nat)(hz:z=(k:Int))(h:Av w u (m:Int) n)(hn:n≤200000)(hk:k≤1048576):
 Calls Tryz.prog 144 #[u, .int .i64 z] w fun e w'=>∃v1,e= .returned (.tuple #[v1, .int .i64 0])∧Fr [] w w'∧Bv w' v1 ((m*2^k:Nat):Int) (bl (m*2^k)):=by
 subst hz;refine Calls.mono (zeu k h hn hk) ?_;rintro e w' ⟨v1,rfl,hF,hB⟩;have e1:(m:Int)*2^k=((m*2^k:Nat):Int):=by rw[Int.natCast_mul,Int.natCast_pow];rfl
 have hB:=hB.c;rw[e1,Int.natAbs_natCast]at hB;exact⟨v1,rfl,hF,hB⟩
def zsC(w:World){b:Nat}(hb:b<9218868437227405312)(hT:La w):
 Calls Tryz.prog 94 #[.int .u64 (b:Int)] w fun r w'=>∃v1,r= .returned v1∧Fr [] w w'∧Dn w' v1 (zA b:Int) (zh b):=by
 have h:=zhN w (b:=b) yb yb hT;rw[decide_eq_false yb,Nat.mod_eq_of_lt (show b<9223372036854775808 by omega)]at h;exact h
def zsD{X M t k:Nat}{E:Int}(h:X=M*2^t)(hk:E+t=(k:Int)):M*2^k*2^(-E).toNat=X*2^E.toNat*1:=by
 rw[h,Nat.mul_one,Nat.mul_assoc,Nat.mul_assoc,←Nat.pow_add,←Nat.pow_add]
 congr 2;omega
def zr9{X M t k:Nat}{E:Int}(h:X=M*2^t)(hk: -(E+t)=(k:Int)):M*2^(-E).toNat=X*2^E.toNat*2^k:=by
 rw[h,Nat.mul_assoc,Nat.mul_assoc,←Nat.pow_add,←Nat.pow_add]
 congr 2;omega
def zoQ(k:Nat):1*2^k=2^k:=Nat.one_mul _
def zkC(w:World){b z:Nat}(hb:b<18446744073709551616)(hk:zax b≠3)(hz:Hid (b%9223372036854775808=z))(h0:0<z)(hz1:z<9218868437227405312)(hT:La w):
 Calls Tryz.prog 219 #[.int .u64 (b:Int)] w fun r w'=>∃v1 v2,r= .returned (.tuple #[v1,v2])∧Fr [] w w'∧∃N D:Nat,Bv w' v1 (N:Int) (bl N)∧Bv w' v2 (D:Int) (bl D)∧0<N∧0<D∧N*dF z=nF z*D∧bl N≤1100∧bl D≤1100:=by
 obtain⟨hm1,hm2,hm3⟩:=zhk hz1;have hmp:=zcm h0;have HT:=hid hT;have HK:=hid hk;have HND:Hid (dF z=2^(-zh z).toNat∧nF z=zA z*2^(zh z).toNat):=hid ⟨rfl,rfl⟩;obtain⟨X,hX⟩:∃X,zA z=X:=⟨_,rfl⟩;obtain⟨E,hE⟩:∃X,zh z=X:=⟨_,rfl⟩;rw[hX,hE]at HND;rw[hX]at hm1 hmp;rw[hE]at hm2 hm3;have HX:=hid hX;have HE:=hid hE;clear hX hE hT hk;have H:=Hp.start [] w
 go_enter Tryz.func219,Tryz.ntmps219
 revert H;refine W15 ?_;intro _ _ _ _ _ g w1 hg H hf _ _ _ _;(refine xK H (zdH _ hb HK.out hz) ?_;clear H;intro w1 hF H);simp only[Int.not_lt,Int.not_le]at*;revert H;refine W15 ?_;intro H _ _;(refine x_c H (zsC _ hz1 (HT.out.fr H.fr)) ?_;clear H;rintro e w1 ⟨v3,rfl,hF,hD⟩ H;replace hF:=hF.kp;rw[HX.out,HE.out]at hD;obtain⟨m3,e3,b3,p3,n3,c3,rfl,hN,hB⟩:=hD;have HN3:=hid hN;have HB3:=hid hB;clear hN hB);have hle:=HN3.out.le;rw[Int.natAbs_natCast]at hle;have hbX:bl X≤53:=zbC yb;obtain⟨M,t,rfl,hXM,he',hM0⟩:=ztw HN3.out hmp;rw[Int.natAbs_natCast]at hle HB3;have hXM:=hid hXM;have HE':=hid he';have het: -1074≤e3∧e3≤1024:=by have:=zgV (show M≠0 by omega);omega
 have hbM:bl M≤53:=by omega
 clear he' HN3 hle;simp only[Int.not_lt,Int.not_le]at*;revert H;refine W15 ?_;intro g _ hg hf w1 H hk _ _ _ _;(refine x_c H (zO _ 1 yl) ?_;clear H;rintro e w1 ⟨v4,rfl,hF,hB⟩ H;replace hF:=hF.kp;obtain⟨b4,p4,m4,c4,rfl⟩:=hB.form;have HB4:=hid hB;clear hB)
 by_cases hp:0≤e3
 ·obtain⟨k,hk⟩:=Int.eq_ofNat_of_zero_le hp;have HKK:=hid hk;have hk2:k≤1024:=by omega
  have hbs:bl (M*2^k)=bl M+k:=zdm yb k;have HR:=hid (zsD (k:=k) hXM.out (by rw[←HE'.out];exact hk));have hMk:0<M*2^k:=Nat.mul_pos hM0 (zu k);clear hk;simp only[Int.not_lt,Int.not_le]at*;revert H;refine W15 ?_;intro g _ hg hf w1 H hk _ _ _ _ _ _;(refine x_c H (zg7 k HKK.out (bv HB3).ar yb yb) ?_;clear H;rintro e w1 ⟨v5,rfl,hF,hB⟩ H;replace hF:=hF.kp;obtain⟨b5,p5,m5,c5,rfl⟩:=hB.form;have HB5:=hid hB;clear hB);simp only[Int.not_lt,Int.not_le]at*;revert H;refine W15 ?_;intro w1 H hk _ _
  (revert H;refine zR 3 (.ld2 0 (.ld2 1 (.ld 2 (.ld 3 .done)) 2 (.ld 1 (.ld 3 .done))) 1 (.ld 0 (.ld 2 (.ld 3 .done)))) ?_ (hs:=(List.nil_sublist _));intro w1 hf H;(first|replace hf:=hf.kp|clear hf))
  (refine zcF ?_ ?_);(refine zcU (H:=H) ?_);(refine zcF ?_ ?_);(refine zcU (H:=H) ?_)
  (revert H;refine zZ ?_;intro w1 hf H hk;clear hf;change Kp _ _ at hk)
  (revert H;refine zZ ?_;intro w1 hf H hk;clear hf;change Kp _ _ at hk)
  (refine zf ?_)
  rotate_left
  (revert H;refine zZ ?_;intro w1 hf H hk;clear hf;change Kp _ _ at hk)
  (refine zcU (H:=H) ?_)
  (revert H;refine zZ ?_;intro w1 hf H hk;clear hf;change Kp _ _ at hk)
  (refine zf ?_)
  rotate_left
  (refine zcU (H:=H) ?_);(refine zcU (H:=H) ?_)
  (revert H;refine zZ ?_;intro w1 hf H hk;clear hf;change Kp _ _ at hk)
  (revert H;refine zZ ?_;intro w1 hf H hk;clear hf;change Kp _ _ at hk)
  (refine zf ?_)
  rotate_left
  all_goals
   revert H;refine W15 ?_;intro H;refine zet H rfl rfl rfl rfl rfl ?_;exact⟨_,_,rfl,H.fr,M*2^k,1,bv HB5,(bv HB4).c,hMk,by omega,by rw[HND.out.1,HND.out.2];exact HR.out,by omega,by decide⟩
 ·obtain⟨k,hk⟩:=Int.eq_ofNat_of_zero_le (show 0≤ -e3 by omega);have HKK:=hid hk;have hk2:k≤1074:=by omega
  have hbs:bl (2^k)=k+1:=zjg k;have HR:=hid (zr9 (k:=k) hXM.out (by rw[←HE'.out];exact hk));have hMk:0<2^k:=zu k;have HO:=hid (zoQ k);clear hk;simp only[Int.not_lt,Int.not_le]at*;revert H;refine W15 ?_;intro g _ hg hf w1 H hk _ _ _ _;(refine x_c H (zg7 (m:=1) k HKK.out (bv HB4).ar yb yb) ?_;clear H;rintro e w1 ⟨v5,rfl,hF,hB⟩ H;replace hF:=hF.kp;rw[HO.out]at hB;obtain⟨b5,p5,m5,c5,rfl⟩:=hB.form;have HB5:=hid hB;clear hB);simp only[Int.not_lt,Int.not_le]at*;revert H;refine W15 ?_;intro w1 H hk _ _
  (revert H;refine zR 4 (.st 0 (.ld2 1 (.ld2 2 (.ld 3 (.ld 4 .done)) 3 (.ld 2 (.ld 4 .done))) 2 (.ld 1 (.ld 3 (.ld 4 .done))))) ?_ (hs:=(List.nil_sublist _));intro w1 hf H;(first|replace hf:=hf.kp|clear hf))
  refine p_q ?_;(refine zcF ?_ ?_);(refine zcU (H:=H) ?_);(refine zcF ?_ ?_);(refine zcU (H:=H) ?_)
  (revert H;refine zZ ?_;intro w1 hf H hk;clear hf;change Kp _ _ at hk)
  (revert H;refine zZ ?_;intro w1 hf H hk;clear hf;change Kp _ _ at hk)
  (refine zf ?_)
  rotate_left
  (revert H;refine zZ ?_;intro w1 hf H hk;clear hf;change Kp _ _ at hk)
  (refine zcU (H:=H) ?_)
  (revert H;refine zZ ?_;intro w1 hf H hk;clear hf;change Kp _ _ at hk)
  (refine zf ?_)
  rotate_left
  (refine zcU (H:=H) ?_);(refine zcU (H:=H) ?_)
  (revert H;refine zZ ?_;intro w1 hf H hk;clear hf;change Kp _ _ at hk)
  (revert H;refine zZ ?_;intro w1 hf H hk;clear hf;change Kp _ _ at hk)
  (refine zf ?_)
  rotate_left
  all_goals
   revert H;refine W15 ?_;intro H;refine zet H rfl rfl rfl rfl rfl ?_;exact⟨_,_,rfl,H.fr,M,2^k,bv HB3,bv HB5,hM0,hMk,by rw[HND.out.1,HND.out.2];exact HR.out,by omega,by omega⟩
def ztK(N k:Nat):upN N (k:Int)=N*10^k:=by unfold upN;rw[Int.toNat_natCast]
def zuF(D k:Nat):dnD D (k:Int)=D:=by unfold dnD;rw[show(-(k:Int)).toNat=0 by omega];simp
def zuq{N k:Nat}{n:Int}(h: -n=(k:Int)):upN N n=N:=by unfold upN;rw[show n.toNat=0 by omega];simp
def zut{D k:Nat}{n:Int}(h: -n=(k:Int)):dnD D n=D*10^k:=by unfold dnD;rw[h,Int.toNat_natCast]
def zmS(w:World){z:Int}(n:Nat)(hz:z=(n:Int))(hn:n≤5000):
 Calls Tryz.prog 187 #[.int .i64 z] w fun e w'=>∃v1,e= .returned v1∧Fr [] w w'∧Bv w' v1 ((10^n:Nat):Int) (bl (10^n)):=by
 subst hz;exact zdb w n hn
def zlN{w:World}{u v:Value}{N D:Nat}(n:Int)(hu:Bv w u (N:Int) (bl N))(hv:Bv w v (D:Int) (bl D))(hN:bl N≤10000)(hD:bl D≤10000)(hn: -3000≤n∧n≤3000):
 Calls Tryz.prog 222 #[u,v, .int .i64 n] w fun r w'=>∃v1 v2,r= .returned (.tuple #[v1,v2])∧Fr [] w w'∧Bv w' v1 ((upN N n:Nat):Int) (bl (upN N n))∧Bv w' v2 ((dnD D n:Nat):Int) (bl (dnD D n)):=by
 obtain⟨b1,p1,m1,c1,rfl⟩:=hu.form;obtain⟨b2,p2,m2,c2,rfl⟩:=hv.form;have HB1:=hid hu;have HB2:=hid hv;clear hu hv;have H:=Hp.start [] w
 by_cases h0:0≤n
 ·obtain⟨k,rfl⟩:=Int.eq_ofNat_of_zero_le h0;have hbt:=zbY k;rw[ztK,zuF];obtain⟨T,hT⟩:∃T,10^k=T:=⟨_,rfl⟩;have HTT:=hid hT;rw[hT]at hbt ⊢;clear hT
  go_enter Tryz.func222,Tryz.ntmps222
  revert H;refine W15 ?_;intro _ _ _ _ _ _ _ _ _ _ _ _ _ g w1 hg H hf _ _ _ _
  (revert H;refine zR 6 (.st 0 (.st 1 (.st 4 (.ld 2 (.ld 3 (.ld 5 (.ld 6 .done))))))) ?_ (hs:=(.cons _ (.cons _ (List.Sublist.refl _))));intro w1 hf H;(first|replace hf:=hf.kp|clear hf))
  iterate 3 refine p_q ?_
  ((refine p_c H rfl rfl Tryz.func187 (zdb _ k yb) ?_;clear H;rintro e w1 ⟨v3,rfl,hF,hB⟩ H;refine p_r ?_;replace hF:=hF.kp);rw[HTT.out]at hB;obtain⟨b3,p3,m3,c3,rfl⟩:=hB.form;have HB3:=hid hB;clear hB)
  ((refine p_c H rfl rfl Tryz.func186 (zdB (bv HB1).ar (bv HB3).ar yb yb) ?_;clear H;rintro e w1 ⟨v4,rfl,hF,hB⟩ H;refine p_r ?_;replace hF:=hF.kp);replace hB:=hB.c;rw[←Int.natCast_mul,Int.natAbs_natCast]at hB;obtain⟨b4,p4,m4,c4,rfl⟩:=hB.form;have HB4:=hid hB;clear hB)
  (revert H;refine zZ ?_;intro w1 hf H hk;clear hf;change Kp _ _ at hk)
  (revert H;refine zZ ?_;intro w1 hf H hk;clear hf;change Kp _ _ at hk)
  (refine zf ?_)
  all_goals
   revert H;refine W15 ?_;intro H;refine zet H rfl rfl rfl rfl rfl ?_;exact⟨_,_,rfl,H.fr,bv HB4,bv HB2⟩
 ·obtain⟨k,hk⟩:=Int.eq_ofNat_of_zero_le (show 0≤ -n by omega);have hbt:=zbY k;rw[zuq hk,zut hk];obtain⟨T,hT⟩:∃T,10^k=T:=⟨_,rfl⟩;have HTT:=hid hT;rw[hT]at hbt ⊢;have HKK:=hid hk;have hk5:k≤3000:=by omega
  clear hT hk
  go_enter Tryz.func222,Tryz.ntmps222
  simp only[Int.not_lt,Int.not_le]at*;revert H;refine W15 ?_;intro _ _ _ _ _ _ _ _ _ _ _ _ _ g w1 hg H hf _ _
  (revert H;refine zR 7 (.st 0 (.st 1 (.st 2 (.st 3 (.ld 4 (.ld 5 (.ld 6 (.ld 7 .done)))))))) ?_ (hs:=(.cons _ (.cons _ (List.Sublist.refl _))));intro w1 hf H;(first|replace hf:=hf.kp|clear hf))
  iterate 3 refine p_q ?_
  (refine p_e rfl (fun w H=>zr0 rfl rfl) ?_)
  ((refine p_c H rfl rfl Tryz.func187 (zmS _ k HKK.out yb) ?_;clear H;rintro e w1 ⟨v3,rfl,hF,hB⟩ H;refine p_r ?_;replace hF:=hF.kp);rw[HTT.out]at hB;obtain⟨b3,p3,m3,c3,rfl⟩:=hB.form;have HB3:=hid hB;clear hB)
  ((refine p_c H rfl rfl Tryz.func186 (zdB (bv HB2).ar (bv HB3).ar yb yb) ?_;clear H;rintro e w1 ⟨v4,rfl,hF,hB⟩ H;refine p_r ?_;replace hF:=hF.kp);replace hB:=hB.c;rw[←Int.natCast_mul,Int.natAbs_natCast]at hB;obtain⟨b4,p4,m4,c4,rfl⟩:=hB.form;have HB4:=hid hB;clear hB)
  (revert H;refine zZ ?_;intro w1 hf H hk;clear hf;change Kp _ _ at hk)
  (revert H;refine zZ ?_;intro w1 hf H hk;clear hf;change Kp _ _ at hk)
  (refine zf ?_)
  all_goals
   revert H;refine W15 ?_;intro H;refine zet H rfl rfl rfl rfl rfl ?_;exact⟨_,_,rfl,H.fr,bv HB1,bv HB4⟩
end
end Go.Proofs.YtaijhllckmndhaaGreatDoor
