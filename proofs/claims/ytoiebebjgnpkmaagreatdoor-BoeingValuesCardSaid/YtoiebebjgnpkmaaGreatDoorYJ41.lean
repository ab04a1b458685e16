import Derived.Test.YtoiebebjgnpkmaaGreatDoorYJ0
import Derived.Test.YtoiebebjgnpkmaaGreatDoorYJ25
import Derived.Test.YtoiebebjgnpkmaaGreatDoorYJ49
import Derived.Test.YtoiebebjgnpkmaaGreatDoorYJ40
namespace Go.Proofs.YtoiebebjgnpkmaaGreatDoor
open Go.RowKit
set_option linter.unusedSimpArgs false
set_option linter.unusedVariables false
set_option maxHeartbeats 8000000
set_option maxRecDepth 100000
attribute [local irreducible] wpList Code.wp Plan.wp
def LnsAt (b:Nat) (Ls:List (List UInt8)) (S:List Nat) (w:World):Prop:=S=[b]∧b<w.heap.size∧∀ (j:Nat) (x:List UInt8),Ls[j]? =some x→w.cell? ⟨b,j,none⟩=some (strV x)
theorem LnsAt.firm {b:Nat} {Ls:List (List UInt8)} {S:List Nat}:Firm S (LnsAt b Ls S):=by
 refine ⟨fun w w' R k hn h=> ?_,fun w h x hx=> ?_,fun w h=> ?_⟩
 ·obtain ⟨rfl,h1,h2⟩:=h
  exact ⟨rfl,Nat.lt_of_lt_of_le h1 k.size,fun j x hx=>k.cell (h2 j x hx) (hn b (by simp))⟩
 ·obtain ⟨rfl,h1,h2⟩:=h
  simp only [List.mem_singleton] at hx;subst hx;exact h1
 ·obtain ⟨rfl,_⟩:=h;simp
theorem LnsAt.four {b:Nat} {l0 l1 l2 l3:List UInt8} {r:List (List UInt8)} {S:List Nat} {w:World} (h:LnsAt b (l0::l1::l2::l3::r) S w):∀ j u,([strV l0,strV l1,strV l2,strV l3]:List Value)[j]? =some u→w.cell? ⟨b,0+j,none⟩=some u:=by
 intro j u hj
 rw [Nat.zero_add]
 rcases j with _ | _ | _ | _ | j
 ·rw [← Option.some.inj hj];exact h.2.2 0 l0 rfl
 ·rw [← Option.some.inj hj];exact h.2.2 1 l1 rfl
 ·rw [← Option.some.inj hj];exact h.2.2 2 l2 rfl
 ·rw [← Option.some.inj hj];exact h.2.2 3 l3 rfl
 ·exact absurd hj (by simp)
theorem lines_cap (s:List UInt8):(mlines s).length≤(nl [] s).length:=by
 have h:mlines s=(trimLast (nl [] s)).map noCR:=lns_nl s []
 rw [h,List.length_map]
 unfold trimLast
 split
 ·rw [List.length_dropLast];omega
 ·exact Nat.le_refl _
theorem c_sslP {P:Program} {a:Act} {w:World} {o:Oper} {t:TypeId} {x y:Operand} (ho:o.op= .slice t x (some y) none none) {b p n c:Nat} (hx:a.eval x= .slice (some ⟨b,p,none⟩) n c) {k:IntKind} {i:Int} (hy:a.eval y= .int k i) {e:TypeId} {z:List Value} {s by':Nat} [h:Si P t e z s by'] (j q m:Nat) (hi:Hid (i=(j:Int))) (hjn:j≤n) (hjc:j<c) (hm:n - j=m) (hq:p+j*s=q:=by omega):
 (execOp a.eval o).run P w= .ok (.value (.slice (some ⟨b,q,none⟩) m (c - j))) w:=by
 have hi:=hi.out
 subst hi
 have e1:=c_ssl (P:=P) (w:=w) ho hx hy (by omega) (by omega)
 rw [Int.toNat_natCast,if_neg (by omega),hq,hm] at e1
 exact e1
theorem ev_asm {w:World} {a:Act} {o:Oper} {x y z u:Operand} (ho:o.op= .build 33 #[(0,x),(1,y),(3,z),(4,u)]) {s r:List UInt8} {b:Bool} {k:Int} (hx:a.eval x=strV s) (hy:a.eval y=strV r) (hz:a.eval z= .bool b) (hu:a.eval u= .int .i64 k):(execOp a.eval o).run Tryz.prog w= .ok (.value (.agg #[strV s,strV r, .int .i64 0, .int .i64 0, .slice none 0 0, .slice none 0 0, .slice none 0 0, .bool b, .int .i64 k])) w:=by
 have hb:Tryz.prog.built 33 [(0,strV s),(1,strV r),(3, .bool b),(4, .int .i64 k)]=some #[strV s,strV r, .int .i64 0, .int .i64 0, .slice none 0 0, .slice none 0 0, .slice none 0 0, .bool b, .int .i64 k]:=by kernel_rfl
 have e1:(#[(0,x),(1,y),(3,z),(4,u)].map fun (i,x)=>(i,a.eval x)).toList=[(0,strV s),(1,strV r),(3, .bool b),(4, .int .i64 k)]:=by simp [hx,hy,hz,hu]
 unfold execOp
 simp only [ho,Sem.run_bind]
 rw [run_build w 33 _ _ (by rw [e1];exact hb)]
 rfl
theorem Hp.lose {w0 w w':World} {k:Nat} {S:List Nat} {Q:World→Prop} {l:List Ent} (H:Hp [] w0 w (.obj k S Q::l)) (hF:Fr S w w'):Hp [] w0 w' l:=by
 refine (H.sub (.cons _ (List.Sublist.refl _))).skip hF (fun x hx=>((H.ok _ (.head _)).2.2 x hx).resolve_left (by simp)) (fun x hx h=> ?_)
 have hn:=H.nodup
 rw [List.flatMap_cons] at hn
 exact (List.nodup_append.1 hn).2.2 x hx x h rfl
theorem Hp.matC {w0 w w':World} {k:Nat} {S:List Nat} {Q:World→Prop} {l:List Ent} (H:Hp [] w0 w (.obj k S Q::l)) (k1 k2 k3:Nat) {st ix vl:List Nat} {v1 v2 v3:Value} {B:List Nat} (hF:Fr S w w') (h:Mat3 st ix vl v1 v2 v3 B w') (hB:∀ x∈B,w.heap.size≤x):
 ∃ S1 S2 S3,B=S1++(S2++S3)∧Hp [] w0 w' (.obj k1 S1 (RowAt 3 1 v1 st.length (st.map iV) S1):: .obj k2 S2 (RowAt 3 1 v2 ix.length (ix.map iV) S2):: .obj k3 S3 (RowAt 23 1 v3 vl.length (vl.map uV) S3)::l):=by
 obtain ⟨S1,S2,S3,rfl,hn,h1,h2,h3⟩:=h
 simp only [List.nodup_append,List.mem_append] at hn
 have k0:=H.lose hF
 have hlt:=H.ownLt
 have nw:∀ x,w.heap.size≤x→x∉l.flatMap Ent.own:=fun x hx hm=>by
  have:=hlt x (by rw [List.flatMap_cons];exact List.mem_append_right _ hm)
  omega
 have nb:∀ x,w.heap.size≤x→x∈([]:List Nat)∨w0.heap.size≤x:=fun x hx=> .inr (Nat.le_trans H.fr.size hx)
 have q3:=k0.pushObj k3 h3 RowAt.firm (fun x hx=>nb x (hB x (by simp [hx]))) (fun x hx=>nw x (hB x (by simp [hx])))
 have q2:=q3.pushObj k2 h2 RowAt.firm (fun x hx=>nb x (hB x (by simp [hx]))) (fun x hx=>by
  rw [List.flatMap_cons,List.mem_append,not_or]
  exact ⟨fun h=>hn.2.1.2.2 x hx x h rfl,nw x (hB x (by simp [hx]))⟩)
 have q1:=q2.pushObj k1 h1 RowAt.firm (fun x hx=>nb x (hB x (by simp [hx]))) (fun x hx=>by
  rw [List.flatMap_cons,List.flatMap_cons,List.mem_append,List.mem_append,not_or,not_or]
  exact ⟨fun h=>hn.2.2 x hx x (.inl h) rfl,fun h=>hn.2.2 x hx x (.inr h) rfl,nw x (hB x (by simp [hx]))⟩)
 exact ⟨S1,S2,S3,rfl,q1⟩
section
variable {P:Program} {Q:Exit→Act→World→Prop} {a:Act} {w w0:World} {o:Oper} {K:Act→World→Prop} {T:List Nat} {l:List Ent}
theorem c_st5a (H:Hp T w0 w l) {t:TypeId} {x y:Operand} (ho:o.op= .store t x y) {b p:Nat} (hx:a.eval x= .pointer (some ⟨b,p,none⟩)) {i j:Int} {q1 q2 q3:Option Addr} {n1 n2 n3 m1 m2 m3:Nat} (hy:a.eval y= .agg #[.int .i64 i, .int .i64 j, .slice q1 n1 m1, .slice q2 n2 m2, .slice q3 n3 m3]) [hs:Ro P t 5] {cs:List Value} {t':TypeId} {f:Nat→List Value→List Ent} [hm:In b cs t' l f]
 (hp:p+5≤cs.length:=by simp only [List.length_cons,List.length_nil];omega)
 (h:∀ w',Fr [b] w w'→Hp T w0 w' (f b (over cs p [.int .i64 i, .int .i64 j, .slice q1 n1 m1, .slice q2 n2 m2, .slice q3 n3 m3]))→K (a.put o.dst undef) w'):o.wp P a w K Q:=
 c_stn H ho hx (vs:=[.int .i64 i, .int .i64 j, .slice q1 n1 m1, .slice q2 n2 m2, .slice q3 n3 m3]) hy rfl (by
  intro v hv
  simp only [List.mem_cons,List.not_mem_nil,or_false] at hv
  rcases hv with rfl | rfl | rfl | rfl | rfl<;>rfl) hp h
end
theorem trimRi_any (w:World) (s:List UInt8) (hs:s.length≤4000000) {r:List UInt8} (hr:Hid (Lib.trimRightB s 32=r)):Calls Tryz.prog 31 #[strV s, .string (ByteArray.mk #[32])] w fun e w'=>e= .returned (strV r)∧Fr [] w w':=by
 rw [← hr.out];exact trimR_any w s hs
theorem parse_nil (w:World):Calls Tryz.prog 7 #[.slice none 0 0] w fun e w'=>e= .returned (.tuple #[.agg zl_33.toArray, .int .i64 1, .int .i64 103])∧Fr [] w w':=by
 obtain ⟨s,hs⟩:∃ s:List UInt8,s=[]:=⟨_,rfl⟩
 have hsl:s.length=0:=by rw [hs];rfl
 have HL:=hid (show mlines s=[] by rw [hs];rfl)
 have HV:=hid (show Rd w (.slice none 0 0) 0 [] from .inl ⟨rfl,rfl,none,0,rfl⟩)
 have hv:∀ w1,Fr [] w w1→Rd w1 (.slice none 0 0) s.length (bytesV s):=fun w1 _ =>by rw [hs];exact .inl ⟨rfl,rfl,none,0,rfl⟩
 have HVV:=hid hv
 clear hs hv
 have H:=Hp.start [] w
 go_enter Tryz.func7,Tryz.ntmps7
 (revert H;refine Wab6b ?_ <;>unhygienic intros)
 refine Calls.mono (lines_any _ s (by omega) (HVV.out _ H.fr)) ?_
 rintro e w1 ⟨gL,rfl,hF, -, -, -⟩
 rw [HL.out]
 have H1:=H.step hF (by simp)
 clear H hF
 have H:=H1
 clear H1
 (revert H;refine Wab6b ?_ <;>unhygienic intros)
 refine c_postCTT H rfl rfl rfl rfl rfl ?_
 exact ⟨rfl,H.fr⟩
end Go.Proofs.YtoiebebjgnpkmaaGreatDoor
namespace Go.Proofs.YtoiebebjgnpkmaaGreatDoor
open Go.RowKit
set_option linter.unusedSimpArgs false
set_option linter.unusedVariables false
set_option maxHeartbeats 8000000
set_option maxRecDepth 100000
attribute [local irreducible] wpList Code.wp Plan.wp
def ParR (title:List UInt8) (v:Nat) (w:World) (e:Ending) (w':World):Prop:=
 Fr [] w w'∧∃ v1 v2 v3 B,e= .returned (.tuple #[.agg #[strV title,strV [], .int .i64 1, .int .i64 1,v1,v2,v3, .bool false, .int .i64 0], .int .i64 0, .int .i64 0])∧Mat3 [0,1] [0] [v] v1 v2 v3 B w'∧∀ x∈B,w.heap.size≤x
structure BodyOK (ca wa cb wb:Nat) (l0 l4 l5 x:List UInt8) (lay:Lay) (title:List UInt8) (v:Nat):Prop where
 n0:l0.length≤100000
 n4:l4.length≤100000
 n5:l5.length≤100000
 nx:x.length≤100000
 i4:∀ k u:Nat,([1,2]:List Nat)[k]? =some u→pz (blank (part (k*wa) (k*wa+wa) l4))=((u:Int),0)∧u≤1000
 i5:∀ k u:Nat,([1]:List Nat)[k]? =some u→pz (blank (part (k*wb) (k*wb+wb) l5))=((u:Int),0)∧u≤1000
 vx:∀ k u:Nat,([v]:List Nat)[k]? =some u→(blank (part (k*lay.width) (k*lay.width+lay.width) x)).length≤40∧asc (blank (part (k*lay.width) (k*lay.width+lay.width) x))=true∧atOK (blank (part (k*lay.width) (k*lay.width+lay.width) x))=true∧valueP ⟨lay.count,lay.width,lay.point,lay.scale⟩ (blank (part (k*lay.width) (k*lay.width+lay.width) x))=some u
 s:soundP lay=true∧lay.scale≤9∧lay.point≤999
 za:2≤ca∧ca≤999∧wa≤999
 zb:1≤cb∧cb≤999∧wb≤999
 f:finF v=true∧v<18446744073709551616
 t1:Lib.trimRightB (part 0 72 l0) 32=title
 t2:Lib.trimRightB (part 72 80 l0) 32=[]
set_option maxHeartbeats 64000000 in
theorem parse_good (w:World) (s:List UInt8) (hs:s.length≤100000) {p:Option Addr} {c:Nat} (hv:Rd w (.slice p s.length c) s.length (bytesV s)) (hT:La w) {l0 l1 l2 l3 l4 l5 x:List UInt8} (hL:mlines s=[l0,l1,l2,l3,l4,l5,x]) {lay:Lay} {ca wa cb wb:Nat} (hH:HeadOK ca wa cb wb l1 l2 l3 (some lay)) {title:List UInt8} {v:Nat} (hB:BodyOK ca wa cb wb l0 l4 l5 x lay title v):
 Calls Tryz.prog 7 #[.slice p s.length c] w (ParR title v w):=by
 obtain ⟨n0,n4,n5,nx,i4,i5,vx,⟨hsnd,hs9,hp9⟩,hza,hzb,⟨hfin,h64⟩,t1,t2⟩:=hB
 obtain ⟨hc1,hc2,hw1,hw2⟩:=sound_le hsnd
 have hcap:=lines_cap s
 rw [hL] at hcap
 obtain ⟨cL,hcL⟩:∃ cL,(nl [] s).length=cL:=⟨_,rfl⟩
 rw [hcL] at hcap
 have hcap:7≤cL:=hcap
 have HCL:=hid hcL
 have HV:=hid hv
 have HL:=hid hL
 have HH:=hid hH
 have HT:=hid hT
 have I4:=hid i4;have I5:=hid i5;have VX:=hid vx;have HFI:=hid hfin
 obtain ⟨p1,hp1⟩:∃ p,part 0 72 l0=p:=⟨_,rfl⟩
 obtain ⟨p2,hp2⟩:∃ p,part 72 80 l0=p:=⟨_,rfl⟩
 rw [hp1] at t1
 rw [hp2] at t2
 have m1:p1.length≤100000:=hp1 ▸ Nat.le_trans (part_len _ _ _) n0
 have m2:p2.length≤100000:=hp2 ▸ Nat.le_trans (part_len _ _ _) n0
 have P1:=hid hp1;have P2:=hid hp2;have T1:=hid t1;have T2:=hid t2
 obtain ⟨fc,hfc⟩:∃ n,lay.count=n:=⟨_,rfl⟩
 obtain ⟨fw,hfw⟩:∃ n,lay.width=n:=⟨_,rfl⟩
 obtain ⟨fp,hfp⟩:∃ n,lay.point=n:=⟨_,rfl⟩
 obtain ⟨fs,hfs⟩:∃ n,lay.scale=n:=⟨_,rfl⟩
 rw [hfc] at hc1 hc2
 rw [hfw] at hw1 hw2
 rw [hfp] at hp9
 rw [hfs] at hs9
 have LAY:=hid (show lay.count=fc∧lay.width=fw∧lay.point=fp∧lay.scale=fs from ⟨hfc,hfw,hfp,hfs⟩)
 rw [hfc,hfw,hfp,hfs] at VX
 clear hv hL hH hT i4 i5 vx hfin t1 t2 hp1 hp2 hsnd hcL hfc hfw hfp hfs
 have H:=Hp.start [] w
 go_enter Tryz.func7,Tryz.ntmps7
 (revert H;refine Wab6b ?_ <;>unhygienic intros)
 unfold zl_33 at H
 refine Calls.mono (lines_any _ s (by omega) (HV.out.fr H.fr (by simp))) ?_
 rintro e w1 ⟨gL,rfl,hF,hgL,hgL2,hcells⟩
 rw [HL.out] at hcells ⊢
 have H1:=(H.step hF (by simp)).pushObj 7 (Q:=LnsAt gL [l0,l1,l2,l3,l4,l5,x] [gL]) (S:=[gL]) ⟨rfl,hgL2,hcells⟩ LnsAt.firm (fun x hx=>by
  rw [List.mem_singleton] at hx;subst hx;exact .inr (Nat.le_trans H.fr.size hgL)) (fun x hx=>by
  rw [List.mem_singleton] at hx;subst hx;exact H.notOwn hgL)
 clear H hF hgL hgL2 hcells
 have H:=H1
 clear H1
 rw [HCL.out]
 (revert H;refine Wab6b ?_ <;>unhygienic intros)
 refine x_c H (readH_any _ (by decide) HH.out (H.ob 7).four) ?_ (fun _ _ h=>h.1)
 clear H
 rintro e w1 ⟨hF,he⟩ H
 have he:e= .returned (.tuple #[.agg (headC ca wa cb wb lay.count lay.width lay.point lay.scale).toArray, .int .i64 0, .int .i64 0]):=he
 rw [LAY.out.1,LAY.out.2.1,LAY.out.2.2.1,LAY.out.2.2.2] at he
 unfold headC at he
 subst he
 clear hF
 go_upto_region 11 with (first | refine x_q H ?_ | refine x_cm (fun h=> ?_) (fun h=> ?_) | refine x_l H ?_ | (revert H;(first | (refine x_g ?_;(first | (have hh:=g3;clear hh;intro g4 w1 hg hf H) | (have hh:=g2;clear hh;intro g3 w1 hg hf H) | (have hh:=g1;clear hh;intro g2 w1 hg hf H) | (have hh:=g0;clear hh;intro g1 w1 hg hf H) | intro g0 w1 hg hf H);(first | replace hf:=hf.kp | clear hf)) | (refine x_s ?_;intro w1 hf H;(first | replace hf:=hf.kp | clear hf)) | (refine x_s (he:=fun H K hK=>c_stA H rfl rfl rfl (h:=hK)) ?_;intro w1 hf H;clear hf))))
 (revert H;refine w_p 13 (.st 0 (.st 1 (.st 2 (.st 3 (.st 4 (.st 5 (.st 6 (.ld 7 (.st 8 (.st 9 (.st 10 (.st 11 (.st 12 .done))))))))))))) ?_;intro w1 H)
 refine p_q ?_
 (refine p_e rfl (fun w H=>c_sslP rfl rfl rfl 4 4 3 (hid rfl) (by decide) (by omega) rfl) ?_)
 refine p_q ?_
 (refine p_l ?_)
 iterate 3 refine p_q ?_
 ((refine pl_rw rfl rfl (fun K hK=>rw_call rfl Tryz.func25 (by kernel_rfl) rfl (integers_any _ ca wa 0 0 (hid rfl) (hid rfl) (by omega) (by omega) (by decide) l4 (by omega) ((H.ob 7).2.2 4 l4 rfl) [1,2] rfl (hid rfl) hza.1 I4.out) (fun e w1 hpost=> ?_)));obtain ⟨va,rfl,hF,hown⟩:=hpost;refine ⟨_,rfl, ?_⟩;obtain ⟨Sa,H1⟩:=H.rowNew 1 hF hown;refine hK _ _ (fun hne=>by first | exact absurd rfl hne | exact H1.sub (by repeat first | exact List.Sublist.refl _ | exact List.nil_sublist _ | apply List.Sublist.cons_cons | apply List.Sublist.cons)) ?_;clear hK K hF hown;(clear H;have H:=H1;clear H1);(simp only [nrm,↓reduceIte,Nat.reduceAdd]))
 iterate 5 refine p_q ?_
 (refine pl_done ?_)
 obtain ⟨ga,cpa,hvv,rfl⟩:=(H.rowo 1).some (by decide)
 subst hvv
 go_upto_region 14 with (first | refine x_q H ?_ | refine x_cm (fun h=> ?_) (fun h=> ?_) | refine x_l H ?_ | (revert H;(first | (refine x_g ?_;(first | (have hh:=g3;clear hh;intro g4 w1 hg hf H) | (have hh:=g2;clear hh;intro g3 w1 hg hf H) | (have hh:=g1;clear hh;intro g2 w1 hg hf H) | (have hh:=g0;clear hh;intro g1 w1 hg hf H) | intro g0 w1 hg hf H);(first | replace hf:=hf.kp | clear hf)) | (refine x_s ?_;intro w1 hf H;(first | replace hf:=hf.kp | clear hf)) | (refine x_s (he:=fun H K hK=>c_stA H rfl rfl rfl (h:=hK)) ?_;intro w1 hf H;clear hf))))
 (revert H;refine w_p 15 (.st 0 (.st 1 (.st 2 (.st 3 (.st 4 (.st 5 (.st 6 (.st 7 (.st 8 (.ld 9 (.st 10 (.st 11 (.st 12 (.st 13 (.st 14 .done))))))))))))))) ?_;intro w1 H)
 iterate 4 refine p_q ?_
 (refine p_e rfl (fun w H=>c_sslP rfl rfl rfl 5 5 2 (hid rfl) (by decide) (by omega) rfl) ?_)
 refine p_q ?_
 (refine p_l ?_)
 iterate 2 refine p_q ?_
 ((refine pl_rw rfl rfl (fun K hK=>rw_call rfl Tryz.func25 (by kernel_rfl) rfl (integers_any _ cb wb 0 0 (hid rfl) (hid rfl) (by omega) (by omega) (by decide) l5 (by omega) ((H.ob 7).2.2 5 l5 rfl) [1] rfl (hid rfl) hzb.1 I5.out) (fun e w1 hpost=> ?_)));obtain ⟨vb,rfl,hF,hown⟩:=hpost;refine ⟨_,rfl, ?_⟩;obtain ⟨Sb,H1⟩:=H.rowNew 2 hF hown;refine hK _ _ (fun hne=>by first | exact absurd rfl hne | exact H1.sub (by repeat first | exact List.Sublist.refl _ | exact List.nil_sublist _ | apply List.Sublist.cons_cons | apply List.Sublist.cons)) ?_;clear hK K hF hown;(clear H;have H:=H1;clear H1);(simp only [nrm,↓reduceIte,Nat.reduceAdd]))
 iterate 5 refine p_q ?_
 (refine pl_done ?_)
 obtain ⟨gb,cpb,hvv,rfl⟩:=(H.rowo 2).some (by decide)
 subst hvv
 (revert H;refine Wab6b ?_ <;>unhygienic intros)
 refine x_c H (ones_any _) ?_
 clear H
 rintro e w1 ⟨vo,rfl,hF⟩ H
 clear hF
 (revert H;refine Wab6b ?_ <;>unhygienic intros)
 (refine x_c H (pattern_any _ _ rfl rfl) ?_;clear H;rintro e w1 ⟨rfl,hF⟩ H;clear hF)
 go_upto_region 19 with (first | refine x_q H ?_ | refine x_cm (fun h=> ?_) (fun h=> ?_) | refine x_l H ?_ | (revert H;(first | (refine x_g ?_;(first | (have hh:=g3;clear hh;intro g4 w1 hg hf H) | (have hh:=g2;clear hh;intro g3 w1 hg hf H) | (have hh:=g1;clear hh;intro g2 w1 hg hf H) | (have hh:=g0;clear hh;intro g1 w1 hg hf H) | intro g0 w1 hg hf H);(first | replace hf:=hf.kp | clear hf)) | (refine x_s ?_;intro w1 hf H;(first | replace hf:=hf.kp | clear hf)) | (refine x_s (he:=fun H K hK=>c_stA H rfl rfl rfl (h:=hK)) ?_;intro w1 hf H;clear hf))))
 (revert H;refine w_p 18 (.st 0 (.st 1 (.st 2 (.st 3 (.st 4 (.st 5 (.st 6 (.st 7 (.st 8 (.st 9 (.st 10 (.st 11 (.ld 12 (.st 13 (.st 14 (.st 15 (.st 16 (.st 17 .done)))))))))))))))))) ?_;intro w1 H)
 iterate 7 refine p_q ?_
 (refine p_e rfl (fun w H=>c_sslP rfl rfl rfl 6 6 1 (hid rfl) (by decide) (by omega) rfl) ?_)
 refine p_q ?_
 (refine p_l ?_)
 iterate 2 refine p_q ?_
 ((refine pl_rw rfl rfl (fun K hK=>rw_call rfl Tryz.func28 (by kernel_rfl) rfl (numbers_any _ fc fw fp fs (by omega) (by omega) hp9 hs9 (by decide) x (by omega) ((H.ob 7).2.2 6 x rfl) (HT.out.fr H.fr) [v] rfl (hid rfl) hc1 VX.out) (fun e w1 hpost=> ?_)));obtain ⟨vc,rfl,hF,hown⟩:=hpost;refine ⟨_,rfl, ?_⟩;obtain ⟨Sc,H1⟩:=H.rowNew 3 hF hown;refine hK _ _ (fun hne=>by first | exact absurd rfl hne | exact H1.sub (by repeat first | exact List.Sublist.refl _ | exact List.nil_sublist _ | apply List.Sublist.cons_cons | apply List.Sublist.cons)) ?_;clear hK K hF hown;(clear H;have H:=H1;clear H1);(simp only [nrm,↓reduceIte,Nat.reduceAdd]))
 iterate 5 refine p_q ?_
 (refine pl_done ?_)
 obtain ⟨gc,cc,hvv,rfl⟩:=(H.rowo 3).some (by simp)
 subst hvv
 (revert H;refine Wab6b ?_ <;>unhygienic intros)
 refine Calls.mono (matrix_any _ ca wa cb wb fc fw fp fs (fun j u hj=>by rw [Nat.zero_add];exact (H.rowo 1).cell hj) (fun j u hj=>by rw [Nat.zero_add];exact (H.rowo 2).cell hj) (fun j u hj=>by rw [Nat.zero_add];exact (H.rowo 3).cell hj)) ?_
 (rintro e w1 ⟨v,rfl,hF,hown⟩;obtain ⟨S,H1⟩:=H.rowNew 4 hF hown;clear H hF hown;have H:=H1;clear H1)
 obtain ⟨gm,cm,hvv,rfl⟩:=(H.rowo 4).some (by decide)
 subst hvv
 (revert H;refine Wab6b ?_ <;>unhygienic intros)
 go_loopw [13] (fun s13 wr=>s13= .int .i64 7∧wr=w1) (fun _ _ =>0)
 case atStart=>exact ⟨rfl,rfl⟩
 case round=>
  obtain ⟨rfl,rfl⟩:=hrel
  go_upto_region 30 with (first | refine x_q H ?_ | refine x_cm (fun h=> ?_) (fun h=> ?_) | refine x_l H ?_ | (revert H;(first | (refine x_g ?_;(first | (have hh:=g3;clear hh;intro g4 w1 hg hf H) | (have hh:=g2;clear hh;intro g3 w1 hg hf H) | (have hh:=g1;clear hh;intro g2 w1 hg hf H) | (have hh:=g0;clear hh;intro g1 w1 hg hf H) | intro g0 w1 hg hf H);(first | replace hf:=hf.kp | clear hf)) | (refine x_s ?_;intro w1 hf H;(first | replace hf:=hf.kp | clear hf)) | (refine x_s (he:=fun H K hK=>c_stA H rfl rfl rfl (h:=hK)) ?_;intro w1 hf H;clear hf))))
  (revert H;refine w_p 15 (.st 0 (.st 1 (.st 2 (.st 5 (.st 6 (.st 7 (.st 10 (.st 12 (.ld 3 (.ld 4 (.ld 8 (.ld 9 (.ld 11 (.ld 13 (.st 14 (.ld 15 .done)))))))))))))))) ?_;intro w1 H)
  iterate 2 refine p_q ?_
  (refine p_e rfl (fun w H=>c_ldc rfl rfl ((H.ob 7).2.2 0 l0 rfl)) ?_)
  iterate 2 refine p_q ?_
  (refine p_e rfl (fun w H=>c_ldc rfl rfl ((H.ob 7).2.2 0 l0 rfl)) ?_)
  iterate 2 refine p_q ?_
  (refine p_c H rfl rfl Tryz.func32 (part_any _ l0 (by omega) 0 72 (by decide) P1) ?_;clear H;rintro e w1 ⟨rfl,hF⟩ H;refine p_r ?_;clear hF)
  (refine p_c H rfl rfl Tryz.func31 (trimRi_any _ p1 (by omega) T1) ?_;clear H;rintro e w1 ⟨rfl,hF⟩ H;refine p_r ?_;clear hF)
  (refine p_c H rfl rfl Tryz.func32 (part_any _ l0 (by omega) 72 80 (by decide) P2) ?_;clear H;rintro e w1 ⟨rfl,hF⟩ H;refine p_r ?_;clear hF)
  (refine p_c H rfl rfl Tryz.func31 (trimRi_any _ p2 (by omega) T2) ?_;clear H;rintro e w1 ⟨rfl,hF⟩ H;refine p_r ?_;clear hF)
  (refine p_c H rfl rfl Tryz.func27 (pattern_any _ _ rfl rfl) ?_;clear H;rintro e w1 ⟨rfl,hF⟩ H;refine p_r ?_;clear hF)
  (refine p_c H rfl rfl Tryz.func33 (symmetry_any _ _ rfl rfl) ?_;clear H;rintro e w1 ⟨rfl,hF⟩ H;refine p_r ?_;clear hF)
  (refine p_e rfl (fun w H=>ev_asm rfl rfl rfl rfl rfl) ?_)
  (revert H;refine p_s (he:=by intro H K hK;exact c_stA H rfl rfl rfl (h:=hK)) ?_;intro w1 hf H;clear hf)
  (refine pl_done ?_)
  (revert H;refine Wab6b ?_ <;>unhygienic intros)
  replace H:=H.pull 4
  refine Calls.mono (mirrorE_any _ v HFI.out h64 (fun j u hj=>by rw [Nat.zero_add];exact (H.rowo 4).cell hj) (HT.out.fr H.fr)) ?_
  rintro e w1 ⟨v1,v2,v3,B,rfl,hF,hM,hB⟩
  have hsz:=H.fr.size
  obtain ⟨S1,S2,S3,hBe,H1⟩:=H.matC 11 12 13 (hF.mono (by simp)) hM hB
  clear H hF hM
  have H:=H1
  clear H1
  obtain ⟨q1,d1,rfl,_⟩:=(H.rowo 11).form
  obtain ⟨q2,d2,rfl,_⟩:=(H.rowo 12).form
  obtain ⟨q3,d3,rfl,_⟩:=(H.rowo 13).form
  have HB:=hid (fun x hx=>Nat.le_trans hsz (hB x hx))
  have HBE:=hid hBe
  clear hB hBe
  (revert H;refine W6af2 ?_ <;>unhygienic intros)
  have H4:=H.sub (.cons_cons _ (.cons_cons _ (.cons_cons _ (List.nil_sublist _))))
  refine c_postCTT H rfl rfl rfl rfl rfl ?_
  refine ⟨H.fr,_,_,_,B,rfl, ?_,HB.out⟩
  rw [HBE.out]
  exact mat_mk (by simpa [Ent.own] using H4.nodup) (H4.rowo 11) (H4.rowo 12) (H4.rowo 13) rfl rfl rfl rfl rfl rfl
end Go.Proofs.YtoiebebjgnpkmaaGreatDoor
