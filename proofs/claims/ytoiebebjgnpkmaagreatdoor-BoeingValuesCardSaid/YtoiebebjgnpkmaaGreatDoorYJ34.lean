import Derived.Test.YtoiebebjgnpkmaaGreatDoorYJ0
import Derived.Test.YtoiebebjgnpkmaaGreatDoorYJ23
import Derived.Test.YtoiebebjgnpkmaaGreatDoorYJ14
import Derived.Test.YtoiebebjgnpkmaaGreatDoorYJ20
import Derived.Test.YtoiebebjgnpkmaaGreatDoorYJ22
import Derived.Test.YtoiebebjgnpkmaaGreatDoorYJ19
import Derived.Test.YtoiebebjgnpkmaaGreatDoorYJ30
namespace Go.Proofs.YtoiebebjgnpkmaaGreatDoor
open Go.RowKit
set_option linter.unusedSimpArgs false
set_option linter.unusedVariables false
set_option maxHeartbeats 8000000
set_option maxRecDepth 100000
attribute [local irreducible] wpList Code.wp Plan.wp
theorem ev_remZ {P:Program} {a:Act} {w:World} {o:Oper} {t t':TypeId} {x y:Operand} (ho:o.op= .binOp .rem t x y t') {m n:Int} (z:Int) (hx:a.eval x= .int .i64 m) (hy:a.eval y= .int .i64 n) (h0:0≤m) (h1:0<n) (hz:Hid (m % n=z)):(execOp a.eval o).run P w= .ok (.value (.int .i64 z)) w:=by
 have hz:=hz.out
 subst hz
 exact ev_rem ho hx hy h0 h1
theorem ev_addY {P:Program} {a:Act} {w:World} {o:Oper} {t t':TypeId} {x y:Operand} (ho:o.op= .binOp .add t x y t') {m n:Int} (z:Int) (hx:a.eval x= .int .i64 m) (hy:a.eval y= .int .i64 n) (hz:Hid (m+n=z)) (hr:inr .i64 z:=by simp only [inr];omega):(execOp a.eval o).run P w= .ok (.value (.int .i64 z)) w:=by
 have hz:=hz.out
 subst hz
 exact ev_add ho hx hy hr
theorem field_any (w:World) (c wd k:Nat) (zp zs:Int) {zc zw zk:Int} (hzc:Hid (zc=(c:Int))) (hzw:Hid (zw=(wd:Int))) (hzk:Hid (zk=(k:Int))) (hk:k<c) (hc:c≤999) (hw:wd≤999) {b off n cap:Nat} (hn:0<n) (l0:List UInt8) (hl0:l0.length≤4000000) (hcell:w.cell? ⟨b,off,none⟩=some (strV l0)) {r:List UInt8} (hr:Hid (blank (part (k*wd) (k*wd+wd) l0)=r)):
 Calls Tryz.prog 67 #[.agg #[.int .i64 zc, .int .i64 zw, .int .i64 zp, .int .i64 zs], .slice (some ⟨b,off,none⟩) n cap, .int .i64 zk] w fun e w'=>e= .returned (.tuple #[strV r, .int .i64 0])∧Fr [] w w':=by
 rw [hzc.out,hzw.out,hzk.out]
 obtain ⟨q,hq⟩:∃ q,k*wd=q:=⟨_,rfl⟩
 rw [hq] at hr
 obtain ⟨m,hm⟩:∃ m,q+wd=m:=⟨_,rfl⟩
 rw [hm] at hr
 obtain ⟨p,hp⟩:∃ p,part q m l0=p:=⟨_,rfl⟩
 rw [hp] at hr
 have hpl:p.length≤l0.length:=hp ▸ part_len q m l0
 have hqm:q≤m:=by omega
 have hq2:q≤998001:=by rw [← hq];exact Nat.le_trans (Nat.mul_le_mul (show k≤999 by omega) hw) (by decide)
 have HQ:=hid (show (k:Int)*(wd:Int)=(q:Int) by rw [← hq];exact (Int.natCast_mul k wd).symm)
 have HM:=hid (show (q:Int)+(wd:Int)=(m:Int) by omega)
 have HP:=hid hp
 have HQU:=hid (show (k:Int) / (c:Int)=0 from Int.ediv_eq_zero_of_lt (by omega) (by omega))
 have HRE:=hid (show (k:Int) % (c:Int)=(k:Int) from Int.emod_eq_of_lt (by omega) (by omega))
 have h0:0≤(k:Int):=by omega
 have h1:0<(c:Int):=by omega
 have hm2:m≤999000:=by omega
 have HCELL:=hid hcell
 clear hq hm hp hcell hzc hzw hzk
 have H:=Hp.start [] w
 go_enter Tryz.func67,Tryz.ntmps67
 (revert H;refine W5f24 ?_ <;>unhygienic intros)
 (revert H;refine w_p 8 (.st 0 (.st 1 (.st 2 (.st 3 (.st 4 (.st 5 (.st 6 (.st 7 .done)))))))) ?_;intro w1 H)
 iterate 3 refine p_q ?_
 (refine p_e rfl (fun w H=>ev_remZ rfl (k:Int) rfl rfl h0 h1 HRE) ?_)
 iterate 2 refine p_q ?_
 (refine p_e rfl (fun w H=>ev_mulZ rfl (q:Int) rfl rfl HQ) ?_)
 refine p_q ?_
 (refine pl_done ?_)
 (revert H;refine W02cb ?_ <;>unhygienic intros)
 (revert H;refine w_p 14 (.st 0 (.st 1 (.st 2 (.st 3 (.st 4 (.st 5 (.st 6 (.st 7 (.st 8 (.st 11 (.ld 9 (.ld 10 (.st 12 (.st 13 .done)))))))))))))) ?_;intro w1 H)
 iterate 2 refine p_q ?_
 (refine p_e rfl (fun w H=>ev_ixE 0 off rfl rfl rfl (hid rfl)) ?_)
 (refine p_e rfl (fun w H=>c_ldc rfl rfl (H.fr.cell HCELL.out (by simp))) ?_)
 iterate 4 refine p_q ?_
 (refine p_e rfl (fun w H=>ev_addY rfl (m:Int) rfl rfl HM) ?_)
 refine p_q ?_
 (refine p_c H rfl rfl Tryz.func32 (part_any _ l0 hl0 q m hqm HP) ?_;clear H;rintro e w1 ⟨rfl,hF⟩ H;refine p_r ?_;clear hF)
 (refine p_c H rfl rfl Tryz.func30 (blank_any _ p (by omega) hr) ?_;clear H;rintro e w1 ⟨rfl,hF⟩ H;refine p_r ?_;clear hF)
 iterate 2 refine p_q ?_
 (refine pl_done ?_)
 (revert H;refine W02cb ?_ <;>unhygienic intros)
 go_ret2
 exact ⟨rfl,H.fr⟩
theorem integers_any (w:World) (c wd:Nat) (zp zs:Int) {zc zw zn:Int} (hzc:Hid (zc=(c:Int))) (hzw:Hid (zw=(wd:Int))) (hc:c≤999) (hw:wd≤999) {b off m cap:Nat} (hm:0<m) (l0:List UInt8) (hl0:l0.length≤1000000) (hcell:w.cell? ⟨b,off,none⟩=some (strV l0)) (vs:List Nat) {n:Nat} (hn:vs.length=n) (hzn:Hid (zn=(n:Int))) (hnc:n≤c)
 (hv:∀ (k v:Nat),vs[k]? =some v→pz (blank (part (k*wd) (k*wd+wd) l0))=((v:Int),0)∧v≤1000):
 Calls Tryz.prog 25 #[.slice (some ⟨b,off,none⟩) m cap, .agg #[.int .i64 zc, .int .i64 zw, .int .i64 zp, .int .i64 zs], .int .i64 zn] w fun e w'=>∃ v,e= .returned (.tuple #[v, .int .i64 (-1)])∧Fr [] w w'∧w'.ownsRow w.heap.size 3 1 v n (vs.map iV):=by
 subst hn
 rw [hzn.out]
 have HCELL:=hid hcell
 have HV:=hid hv
 have H:=(Hp.start [] w).newRow 1 (e:=3) (sz:=1)
 clear hcell hv hzn
 go_enter Tryz.func25,Tryz.ntmps25
 (revert H;refine W02cb ?_ <;>unhygienic intros)
 go_loopw [6,16] (fun s6 s16 wr=>∃ (k:Nat) (p:Option Addr) (cp:Nat) (S:List Nat),s6= .slice p k cp∧s16= .int .i64 (k:Int)∧k≤vs.length∧Hp [] w wr [.obj 1 S (RowAt 3 1 (.slice p k cp) k ((vs.take k).map iV) S), .blk g0 [.int .i64 zc, .int .i64 zw, .int .i64 zp, .int .i64 zs] 50]) (fun _ v _ =>vs.length - (intOf v).toNat)
 case atStart=>exact ⟨0,none,0,[],rfl,rfl,Nat.zero_le _,H.arr (by repeat (first | exact Pm.nil _ | (apply Pm.cons;· (repeat first | exact Rm.here _ | apply Rm.there))))⟩
 case round=>
  clear H
  obtain ⟨k,p,cp,S,rfl,rfl,hk,H⟩:=hrel
  by_cases hlt:k<vs.length
  ·obtain ⟨v,hvk⟩:∃ v,vs[k]? =some v:=⟨_,List.getElem?_eq_getElem hlt⟩
   obtain ⟨hpz,hv2⟩:=HV.out k v hvk
   have HT:=hid (tk_snoc hvk)
   obtain ⟨r,hr⟩:∃ r,blank (part (k*wd) (k*wd+wd) l0)=r:=⟨_,rfl⟩
   have hrl:r.length≤l0.length:=by rw [← hr];exact Nat.le_trans (blank_len _) (part_len _ _ _)
   rw [hr] at hpz
   have HPZ:=hid hpz
   have HR:=hid hr
   clear hvk hpz hr
   (revert H;refine W02cb ?_ <;>unhygienic intros)
   (refine x_c H (field_any _ c wd k zp zs hzc hzw (hid rfl) (by omega) hc hw hm l0 (by omega) (H.fr.cell HCELL.out (by simp)) HR) ?_;clear H;rintro e w1 ⟨rfl,hF⟩ H;clear hF)
   (revert H;refine W02cb ?_ <;>unhygienic intros)
   (refine x_c H (parse_any _ r (by omega)) ?_;clear H;rintro e w1 ⟨v1,rfl,hF,hB⟩ H;replace hF:=hF.kp;rw [HPZ.out] at hB ⊢;obtain ⟨b1,p1,m1,c1,rfl⟩:=hB.form;have HB1:=hid hB;clear hB)
   (revert H;refine Wdd81 ?_ <;>unhygienic intros)
   (refine x_c H (int_ar (bv HB1).ar (by omega) (by omega)) ?_;clear H;rintro e w1 ⟨rfl,hF⟩ H;replace hF:=hF.kp;skip)
   (revert H;refine Wf4d6 ?_ <;>unhygienic intros)
   go_roundw
   case rel=>
    refine ⟨k+1,_,_,S',rfl,rfl,by omega, ?_⟩
    rw [HT.out,List.map_append]
    exact H.arr (by repeat (first | exact Pm.nil _ | (apply Pm.cons;· (repeat first | exact Rm.here _ | apply Rm.there))))
   case measure=>(simp [intOf];try omega)
  ·obtain rfl:k=vs.length:=by omega
   have HT:=hid (List.take_length (l:=vs))
   rw [HT.out] at H
   (revert H;refine W02cb ?_ <;>unhygienic intros)
   go_ret2
   exact ⟨_,rfl,H.fr,(H.rowo 1).owns (fun x hx=>(H.home 1 x hx).resolve_left (by simp))⟩
end Go.Proofs.YtoiebebjgnpkmaaGreatDoor
namespace Go.Proofs.YtoiebebjgnpkmaaGreatDoor
open Go.RowKit
set_option linter.unusedSimpArgs false
set_option linter.unusedVariables false
set_option maxHeartbeats 8000000
set_option maxRecDepth 100000
attribute [local irreducible] wpList Code.wp Plan.wp stsE mixE pre cntE
def CelR (w:World) (p:Option Addr) (cs:List Value):Prop:=∀ j u,cs[j]? =some u→∃ g,p=some ⟨g,0,none⟩∧w.cell? ⟨g,j,none⟩=some u
theorem CelR.of {w:World} {p:Option Addr} {cs:List Value} {e:TypeId} {n c sz:Nat} {S:List Nat} (h:RowAt e sz (.slice p n c) n cs S w):CelR w p cs:=by
 intro j u hj
 have hn:0<n:=by
  rcases Nat.eq_zero_or_pos n with h0 | h0
  ·exfalso
   have:=h.1
   rw [h0,Nat.zero_mul] at this
   rw [List.eq_nil_of_length_eq_zero this] at hj
   simp at hj
  ·exact h0
 obtain ⟨g,c',he,_⟩:=h.some hn
 cases he
 exact ⟨g,rfl,h.cell hj⟩
theorem CelR.fr {w w':World} {p:Option Addr} {cs:List Value} (h:CelR w p cs) (k:Fr [] w w'):CelR w' p cs:=by
 intro j u hj
 obtain ⟨g,hg,hc⟩:=h j u hj
 exact ⟨g,hg,k.cell hc (by simp)⟩
theorem CelR.at {w:World} {g:Nat} {cs:List Value} (h:CelR w (some ⟨g,0,none⟩) cs) {j:Nat} {u:Value} (hj:cs[j]? =some u):w.cell? ⟨g,j,none⟩=some u:=by
 obtain ⟨g',hg,hc⟩:=h j u hj
 cases hg
 exact hc
theorem CelR.some {w:World} {p:Option Addr} {cs:List Value} (h:CelR w p cs) (hn:0<cs.length):∃ g,p=some ⟨g,0,none⟩:=by
 obtain ⟨g,hg,_⟩:=h 0 _ (List.getElem?_eq_getElem hn)
 exact ⟨g,hg⟩
theorem issorted_any (w:World) {p:Option Addr} {n c:Nat} (xs:List Nat) (hn:xs.length=n) (h1:1≤n) (hn2:n≤100000) (hs:xs.Pairwise (· ≤·)) (hR:CelR w p (xs.map iV)):
 Calls Tryz.prog 72 #[.slice p n c] w fun e w'=>e= .returned (.bool true)∧Fr [] w w':=by
 obtain ⟨g,rfl⟩:=hR.some (by rw [List.length_map];omega)
 have HR:=hid hR
 have HS:=hid hs
 have HN:=hid hn
 clear hR hs hn
 have H:=Hp.start [] w
 go_enter Tryz.func72,Tryz.ntmps72
 ((try simp only [Int.not_lt,Int.not_le] at*);revert H;refine W55ee ?_ <;>unhygienic intros)
 go_loopw [3] (fun s3 wr=>∃ z:Int,s3= .int .i64 z∧0≤z∧z<n∧Hp [] w wr []) (fun v _ =>(intOf v).toNat)
 case atStart=>exact ⟨(n:Int) - 1,rfl,by omega,by omega,H⟩
 case round=>
  clear H
  obtain ⟨z,rfl,hz0,hzn,H⟩:=hrel
  by_cases hlt:0<z
  ·obtain ⟨i,hi⟩:∃ i:Nat,z=((i+1:Nat):Int):=⟨(z - 1).toNat,by omega⟩
   have HZ:=hid hi
   have HZ1:=hid (show z - 1=(i:Int) by omega)
   have hin:i+1<n:=by omega
   clear hi
   obtain ⟨x,hx⟩:∃ x,xs[i]? =some x:=⟨_,List.getElem?_eq_getElem (by rw [HN.out];omega)⟩
   obtain ⟨y,hy⟩:∃ x,xs[i+1]? =some x:=⟨_,List.getElem?_eq_getElem (by rw [HN.out];omega)⟩
   have hxy:x≤y:=by
    have e1:=List.getElem?_eq_some_iff.1 hx
    have e2:=List.getElem?_eq_some_iff.1 hy
    have:=List.pairwise_iff_getElem.1 HS.out i (i+1) e1.1 e2.1 (by omega)
    rw [e1.2,e2.2] at this
    exact this
   have HX:=hid (HR.out.at (show (xs.map iV)[i]? =some (.int .i64 (x:Int)) by rw [List.getElem?_map,hx];rfl))
   have HY:=hid (HR.out.at (show (xs.map iV)[i+1]? =some (.int .i64 (y:Int)) by rw [List.getElem?_map,hy];rfl))
   have HB:=hid (show decide ((y:Int)<(x:Int))=false by simp;omega)
   clear hx hy
   ((try simp only [Int.not_lt,Int.not_le] at*);revert H;refine W55ee ?_ <;>unhygienic intros)
   (revert H;refine w_p 9 (.st 0 (.st 1 (.st 2 (.st 3 (.st 4 (.st 5 (.st 6 (.st 7 (.st 8 (.ld 9 .done)))))))))) ?_;intro w1 H)
   iterate 2 refine p_q ?_
   (refine p_e rfl (fun w H=>ev_ixE (i+1) (i+1) rfl rfl rfl HZ) ?_)
   (refine p_e rfl (fun w H=>c_ldc rfl rfl (H.fr.cell HY.out (by simp))) ?_)
   iterate 3 refine p_q ?_
   (refine p_e rfl (fun w H=>ev_ixE i i rfl rfl rfl HZ1) ?_)
   (refine p_e rfl (fun w H=>c_ldc rfl rfl (H.fr.cell HX.out (by simp))) ?_)
   ((refine p_c H rfl rfl Tryz.func86 (less_any _ y x HB) ?_;clear H;rintro e w1 ⟨rfl,hF⟩ H;refine p_r ?_;clear hF))
   (refine pl_done ?_)
   ((try simp only [Int.not_lt,Int.not_le] at*);revert H;refine W55ee ?_ <;>unhygienic intros)
   go_roundw
   case rel=>exact ⟨z - 1,rfl,by omega,by omega,H⟩
   case measure=>(simp [intOf];try omega)
  ·((try simp only [Int.not_lt,Int.not_le] at*);revert H;refine W55ee ?_ <;>unhygienic intros)
   go_ret
   exact ⟨rfl,H.fr⟩
end Go.Proofs.YtoiebebjgnpkmaaGreatDoor
namespace Go.Proofs.YtoiebebjgnpkmaaGreatDoor
open Go.RowKit
set_option linter.unusedSimpArgs false
set_option linter.unusedVariables false
set_option maxHeartbeats 8000000
set_option maxRecDepth 100000
attribute [local irreducible] wpList Code.wp Plan.wp
section
variable {P:Program} {ops:Array Oper} {Q:Exit→Act→World→Prop} {w w0:World} {rest:List Oper} {o:Oper} {T:List Nat} {l:List Ent} {L:List Value} {ds:List Deferred}
theorem x_mmE (H:Hp T w0 w l) (k:Nat) (ho:o.op= .makeMap 120 none) {L':Nat→List Value} (h:∀ m w',Fr [] w w'→Hp T w0 w' (.obj k [m] (EmpAt m [m])::l)→wpList P ops Q rest ⟨(L' m).toArray,ds⟩ w')
 (hw:Region.wanted o (yielded ops L.toArray)=true:=by rfl)
 (hs:∀ g,putL L o.dst (.map (some g))=L' g:=by intro g;((try simp only [nrm,putL_s,putL_n,↓reduceIte,Nat.reduceAdd]);(try exact rfl))):wpList P ops Q (o::rest) ⟨L.toArray,ds⟩ w:=
 wl_rw hw fun K hK=>c_mmE H k ho fun m w' h1 h2=>hK _ _ (by rw [put_eq,hs];exact h m w' h1 h2)
theorem x_muE {m k:Nat} {S:List Nat} (H:Hp T w0 w (.obj k S (EmpAt m S)::l)) {x y:Operand} (ho:o.op= .mapUpdate 120 x y (.const (.bool true))) (hx:(Act.mk L.toArray ds).eval x= .map (some m)) {z:Int} (hy:(Act.mk L.toArray ds).eval y= .int .i64 z) {L':List Value}
 (h:∀ w',Fr S w w'→Hp T w0 w' l→wpList Tryz.prog ops Q rest ⟨L'.toArray,ds⟩ w')
 (hw:Region.wanted o (yielded ops L.toArray)=true:=by rfl)
 (hs:putL L o.dst undef=L':=by ((try simp only [nrm,putL_s,putL_n,↓reduceIte,Nat.reduceAdd]);(try exact rfl))):wpList Tryz.prog ops Q (o::rest) ⟨L.toArray,ds⟩ w:=
 wl_rw hw fun K hK=>c_updE H ho hx hy fun w' h1 h2=>hK _ _ (by rw [put_eq,hs];exact h w' h1 h2)
end
def headC (ca wa cb wb c wd p s:Nat):List Value:=[.int .i64 3, .int .i64 1, .int .i64 1, .int .i64 1, .int .i64 0, .int .i64 1, .int .i64 1, .int .i64 1,strV sRUA, .int .i64 (ca:Int), .int .i64 (wa:Int), .int .i64 0, .int .i64 0, .int .i64 (cb:Int), .int .i64 (wb:Int), .int .i64 0, .int .i64 0, .int .i64 (c:Int), .int .i64 (wd:Int), .int .i64 (p:Int), .int .i64 (s:Int)]
theorem sums_any (w:World) (ca wa cb wb c wd p s:Nat) (ha:2≤ca) (ha2:ca≤999) (hb:1≤cb) (hb2:cb≤999) (hc:1≤c) (hc2:c≤999):
 Calls Tryz.prog 66 #[.agg (headC ca wa cb wb c wd p s).toArray] w fun e w'=>e= .returned (.bool true)∧Fr [] w w':=by
 unfold headC
 have H:=Hp.start [] w
 go_enter Tryz.func66,Tryz.ntmps66
 (revert H;refine W02cb ?_ <;>unhygienic intros)
 (refine x_c H (pattern_any _ _ rfl rfl) ?_;clear H;rintro e w1 ⟨rfl,hF⟩ H;clear hF)
 (revert H;refine W02cb ?_ <;>unhygienic intros)
 (refine x_c H (linesF_any _ _ _ _ _ _ (by omega) (by omega) (by omega)) ?_;clear H;rintro e w1 ⟨rfl,hF⟩ H;clear hF)
 go_upto_region 4 with (first | refine x_q H ?_)
 (revert H;refine w_p 44 (.st 0 (.st 1 (.st 2 (.st 3 (.st 4 (.st 5 (.st 6 (.st 7 (.st 8 (.st 9 (.st 10 (.st 11 (.st 12 (.st 13 (.st 14 (.st 15 (.st 16 (.st 17 (.st 18 (.st 19 (.st 20 (.st 21 (.st 22 (.st 23 (.ld 24 (.st 25 (.st 26 (.st 27 (.st 28 (.st 29 (.st 30 (.st 31 (.st 32 (.st 33 (.ld 34 (.st 35 (.st 36 (.st 37 (.st 38 (.st 39 (.st 40 (.st 41 (.st 42 (.st 43 .done)))))))))))))))))))))))))))))))))))))))))))) ?_;intro w1 H)
 iterate 4 refine p_q ?_
 iterate 11 (first | refine p_q ?_ | refine p_n ?_)
 iterate 2 refine p_q ?_
 iterate 3 (first | refine p_q ?_ | refine p_n ?_)
 (refine p_l ?_)
 iterate 3 (first | refine p_q ?_ | refine p_n ?_)
 (refine p_c H rfl rfl Tryz.func111 (linesF_any _ _ _ _ _ _ (by omega) (by omega) (by omega)) ?_;clear H;rintro e w1 ⟨rfl,hF⟩ H;refine p_r ?_;clear hF)
 (first | refine p_q ?_ | refine p_n ?_)
 iterate 2 refine p_q ?_
 iterate 3 (first | refine p_q ?_ | refine p_n ?_)
 (refine p_l ?_)
 iterate 2 (first | refine p_q ?_ | refine p_n ?_)
 (refine p_c H rfl rfl Tryz.func111 (linesF_any _ _ _ _ _ _ (by omega) (by omega) (by omega)) ?_;clear H;rintro e w1 ⟨rfl,hF⟩ H;refine p_r ?_;clear hF)
 (first | refine p_q ?_ | refine p_n ?_)
 iterate 2 refine p_q ?_
 iterate 4 (first | refine p_q ?_ | refine p_n ?_)
 iterate 2 refine p_q ?_
 (refine pl_done ?_)
 (revert H;refine W02cb ?_ <;>unhygienic intros)
 go_ret
 exact ⟨rfl,H.fr⟩
set_option maxHeartbeats 32000000 in
theorem matrix_any (w:World) (ca wa cb wb c wd p s:Nat) {bp bi bv cp ci cv v:Nat} (h1:∀ j u,([.int .i64 1, .int .i64 2]:List Value)[j]? =some u→w.cell? ⟨bp,0+j,none⟩=some u) (h2:∀ j u,([.int .i64 1]:List Value)[j]? =some u→w.cell? ⟨bi,0+j,none⟩=some u) (h3:∀ j u,([.int .u64 (v:Int)]:List Value)[j]? =some u→w.cell? ⟨bv,0+j,none⟩=some u):
 Calls Tryz.prog 29 #[.agg (headC ca wa cb wb c wd p s).toArray, .slice (some ⟨bp,0,none⟩) 2 cp, .slice (some ⟨bi,0,none⟩) 1 ci, .slice (some ⟨bv,0,none⟩) 1 cv] w fun e w'=>∃ v1,e= .returned (.tuple #[v1, .bool true])∧Fr [] w w'∧w'.ownsRow w.heap.size 46 3 v1 1 (eC (0,0,v)):=by
 have hb1:bp<w.heap.size:=block_lt_of_cell (h1 0 _ rfl)
 have hb2:bi<w.heap.size:=block_lt_of_cell (h2 0 _ rfl)
 have hb3:bv<w.heap.size:=block_lt_of_cell (h3 0 _ rfl)
 have HR:Hid (CelR w (some ⟨bp,0,none⟩) (([1,2]:List Nat).map iV)):=hid (fun j u hj=>⟨bp,rfl,by have:=h1 j u hj;rwa [Nat.zero_add] at this⟩)
 have H:=((((Hp.start [] w).pushRng (b:=bv) (off:=0) hb3 (by simp) h3).pushRng (b:=bi) (off:=0) hb2 (by simp) h2).pushRng (b:=bp) (off:=0) hb1 (by simp) h1).newRow 1 (e:=46) (sz:=3)
 obtain ⟨bk,hk0,hkn⟩:∃ b,sRUA[1]? =some b∧b.toNat=85:=⟨85,rfl,rfl⟩
 clear h1 h2 h3 hb1 hb2 hb3
 unfold headC
 go_enter Tryz.func29,Tryz.ntmps29
 (revert H;refine W02cb ?_ <;>unhygienic intros)
 (revert H;refine w_p 20 (.st 0 (.st 1 (.st 2 (.st 3 (.st 4 (.st 5 (.ld 6 (.st 7 (.st 8 (.st 9 (.st 10 (.st 11 (.st 12 (.st 13 (.st 14 (.st 15 (.st 16 (.st 17 (.st 18 (.st 19 .done)))))))))))))))))))) ?_;intro w1 H)
 iterate 5 refine p_q ?_
 (first | refine p_q ?_ | refine p_n ?_)
 (refine p_c H rfl rfl Tryz.func72 (issorted_any _ [1,2] rfl (by decide) (by decide) (by decide) (HR.out.fr H.fr)) ?_;clear H;rintro e w1 ⟨rfl,hF⟩ H;refine p_r ?_;clear hF)
 (first | refine p_q ?_ | refine p_n ?_)
 iterate 2 refine p_q ?_
 iterate 9 (first | refine p_q ?_ | refine p_n ?_)
 refine p_q ?_
 (refine pl_done ?_)
 (revert H;refine W02cb ?_ <;>unhygienic intros)
 go_loopw [10,37] (fun s10 s37 wr=>(s10= .slice none 0 0∧s37= .int .i64 0∧Hp [] w wr [.obj 1 [] (RowAt 46 3 (.slice none 0 0) 0 [] []), .blk g0 [.int .i64 3, .int .i64 1, .int .i64 1, .int .i64 1, .int .i64 0, .int .i64 1, .int .i64 1, .int .i64 1,strV sRUA, .int .i64 (ca:Int), .int .i64 (wa:Int), .int .i64 0, .int .i64 0, .int .i64 (cb:Int), .int .i64 (wb:Int), .int .i64 0, .int .i64 0, .int .i64 (c:Int), .int .i64 (wd:Int), .int .i64 (p:Int), .int .i64 (s:Int)] 61, .rng bp 0 [.int .i64 1, .int .i64 2], .rng bi 0 [.int .i64 1], .rng bv 0 [.int .u64 (v:Int)]])∨(∃ q cq S,s10= .slice q 1 cq∧s37= .int .i64 1∧Hp [] w wr [.obj 1 S (RowAt 46 3 (.slice q 1 cq) 1 (eC (0,0,v)) S), .blk g0 [.int .i64 3, .int .i64 1, .int .i64 1, .int .i64 1, .int .i64 0, .int .i64 1, .int .i64 1, .int .i64 1,strV sRUA, .int .i64 (ca:Int), .int .i64 (wa:Int), .int .i64 0, .int .i64 0, .int .i64 (cb:Int), .int .i64 (wb:Int), .int .i64 0, .int .i64 0, .int .i64 (c:Int), .int .i64 (wd:Int), .int .i64 (p:Int), .int .i64 (s:Int)] 61, .rng bp 0 [.int .i64 1, .int .i64 2], .rng bi 0 [.int .i64 1], .rng bv 0 [.int .u64 (v:Int)]])) (fun _ x _ =>1 - (intOf x).toNat)
 case atStart=>exact .inl ⟨rfl,rfl,H.arr (by repeat (first | exact Pm.nil _ | (apply Pm.cons;· (repeat first | exact Rm.here _ | apply Rm.there))))⟩
 case round=>
  clear H
  rcases hrel with ⟨rfl,rfl,H⟩ | ⟨q,cq,S,rfl,rfl,H⟩
  ·(revert H;refine Wb3df ?_ <;>unhygienic intros)
   go_loopw [10,13] (fun s10 s13 wr=>(s10= .slice none 0 0∧s13= .int .i64 0∧Hp [] w wr [.obj 2 [mm] (EmpAt mm [mm]), .obj 1 [] (RowAt 46 3 (.slice none 0 0) 0 [] []), .blk g0 [.int .i64 3, .int .i64 1, .int .i64 1, .int .i64 1, .int .i64 0, .int .i64 1, .int .i64 1, .int .i64 1,strV sRUA, .int .i64 (ca:Int), .int .i64 (wa:Int), .int .i64 0, .int .i64 0, .int .i64 (cb:Int), .int .i64 (wb:Int), .int .i64 0, .int .i64 0, .int .i64 (c:Int), .int .i64 (wd:Int), .int .i64 (p:Int), .int .i64 (s:Int)] 61, .rng bp 0 [.int .i64 1, .int .i64 2], .rng bi 0 [.int .i64 1], .rng bv 0 [.int .u64 (v:Int)]])∨(∃ q cq S,s10= .slice q 1 cq∧s13= .int .i64 1∧Hp [] w wr [.obj 1 S (RowAt 46 3 (.slice q 1 cq) 1 (eC (0,0,v)) S), .blk g0 [.int .i64 3, .int .i64 1, .int .i64 1, .int .i64 1, .int .i64 0, .int .i64 1, .int .i64 1, .int .i64 1,strV sRUA, .int .i64 (ca:Int), .int .i64 (wa:Int), .int .i64 0, .int .i64 0, .int .i64 (cb:Int), .int .i64 (wb:Int), .int .i64 0, .int .i64 0, .int .i64 (c:Int), .int .i64 (wd:Int), .int .i64 (p:Int), .int .i64 (s:Int)] 61, .rng bp 0 [.int .i64 1, .int .i64 2], .rng bi 0 [.int .i64 1], .rng bv 0 [.int .u64 (v:Int)]])) (fun _ x _ =>1 - (intOf x).toNat)
   case atStart=>exact .inl ⟨rfl,rfl,H.arr (by repeat (first | exact Pm.nil _ | (apply Pm.cons;· (repeat first | exact Rm.here _ | apply Rm.there))))⟩
   case round=>
    clear H
    rcases hrel with ⟨rfl,rfl,H⟩ | ⟨q,cq,S,rfl,rfl,H⟩
    ·(revert H;refine We16d ?_ <;>unhygienic intros)
     go_roundw
     case rel=>exact .inr ⟨_,_,S',rfl,rfl,H.arr (by repeat (first | exact Pm.nil _ | (apply Pm.cons;· (repeat first | exact Rm.here _ | apply Rm.there))))⟩
     case measure=>(simp [intOf];try omega)
    ·(revert H;refine W02cb ?_ <;>unhygienic intros)
     go_roundw
     case rel=>exact .inr ⟨q,cq,S,rfl,rfl,H.arr (by repeat (first | exact Pm.nil _ | (apply Pm.cons;· (repeat first | exact Rm.here _ | apply Rm.there))))⟩
     case measure=>(simp [intOf];try omega)
  ·(revert H;refine W02cb ?_ <;>unhygienic intros)
   go_ret2
   exact ⟨_,rfl,H.fr,(H.rowo 1).owns (fun x hx=>(H.home 1 x hx).resolve_left (by simp))⟩
end Go.Proofs.YtoiebebjgnpkmaaGreatDoor
namespace Go.Proofs.YtoiebebjgnpkmaaGreatDoor
set_option linter.unusedSimpArgs false
set_option linter.unusedVariables false
def dE (neg:Bool) (ds:List UInt8) (b:Nat) (s2:List UInt8):Option (Bool×List UInt8×Nat×Int):=
 if ds=[] then none else
 match s2 with
 | []=>some (neg,ds,b,0)
 | e::t=>if isE e then (dexp t).map (fun x=>(neg,ds,b,x)) else none
def dO (o:Option (Bool×List UInt8×Nat×Int)) (mode:Int):Nat×Int:=
 match o with
 | none=>(0,7)
 | some (neg,ds,b,x)=>if x< -99999∨99999<x then (0,3) else (dval neg mode (num ds) (x - b),0)
theorem take_all:∀ u:List UInt8,u.all dig=true→u.takeWhile dig=u
 | [],_ =>rfl
 | b::r,h=>by
  rw [List.all_cons,Bool.and_eq_true] at h
  rw [List.takeWhile_cons_of_pos h.1,take_all r h.2]
theorem dig_split {u:List UInt8}:(u≠[]∧u.all dig=true)↔¬ (u.takeWhile dig=[]∨u.dropWhile dig≠[]):=by
 have h:u.takeWhile dig++u.dropWhile dig=u:=List.takeWhile_append_dropWhile
 constructor
 ·rintro ⟨h1,h2⟩
  have h3:u.takeWhile dig=u:=take_all u h2
  rintro (h4 | h4)
  ·rw [h3] at h4;exact h1 h4
  ·rw [h3] at h
   have:u.dropWhile dig=[]:=List.append_right_eq_self.1 h
   exact h4 this
 ·intro h1
  have h2:u.takeWhile dig≠[]:=fun h=>h1 (.inl h)
  have h3:u.dropWhile dig=[]:=Classical.byContradiction (fun h=>h1 (.inr h))
  rw [h3,List.append_nil] at h
  have h4:(u.takeWhile dig).all dig=true:=List.all_takeWhile
  rw [h] at h2 h4
  exact ⟨h2,h4⟩
def Spec (r:(Bool×List UInt8×Int)×Int) (v:Nat×Int) (mode:Int):Prop:=
 (r.2≠0∧0≤r.2∧r.2≤7∧v=(0,r.2))∨(r.2=0∧r.1.2.1.all dig=true∧r.1.2.1.length≤1024∧ -102000≤r.1.2.2∧r.1.2.2≤100000∧v=(dval r.1.1 mode (num r.1.2.1) r.1.2.2,0))
theorem rdE_spec (neg:Bool) {ds:List UInt8} {b:Nat} (s2:List UInt8) (mode:Int) (hd:ds.all dig=true) (hl:ds.length≤1024) (hb:b≤1024):Spec (rdE neg ds b s2) (dO (dE neg ds b s2) mode) mode:=by
 by_cases h0:ds=[]
 ·left
  unfold rdE dE
  rw [if_pos h0,if_pos h0]
  exact ⟨by decide,by decide,by decide,rfl⟩
 ·cases s2 with
  | nil=>
   right
   unfold rdE dE
   rw [if_neg h0,if_neg h0]
   refine ⟨rfl,hd,hl, ?_, ?_,rfl⟩
   ·show -102000≤(0:Int) - b;omega
   ·show (0:Int) - b≤100000;omega
  | cons c t=>
   unfold rdE dE
   rw [if_neg h0,if_neg h0]
   simp only []
   by_cases hc:isE c=true
   ·rw [if_pos hc,if_pos hc]
    unfold dexp
    by_cases hp:(dsg t).2.takeWhile dig=[]∨(dsg t).2.dropWhile dig≠[]
    ·left
     rw [if_pos hp,if_neg (fun h=>dig_split.1 h hp)]
     exact ⟨by decide,by decide,by decide,rfl⟩
    ·have hs:=dig_split.2 hp
     rw [if_neg hp,if_pos hs]
     have e:(dsg t).2.takeWhile dig=(dsg t).2:=take_all _ hs.2
     rw [e]
     by_cases h9:num (dsg t).2≤99999
     ·right
      rw [if_pos h9]
      refine ⟨rfl,hd,hl, ?_, ?_, ?_⟩
      ·show -102000≤(if (dsg t).1=true then -(num (dsg t).2:Int) else (num (dsg t).2:Int)) - b
       split<;>omega
      ·show (if (dsg t).1=true then -(num (dsg t).2:Int) else (num (dsg t).2:Int)) - b≤100000
       split<;>omega
      ·show dO (some (neg,ds,b,_)) mode=_
       unfold dO
       simp only []
       rw [if_neg (by split<;>omega)]
     ·left
      rw [if_neg h9]
      refine ⟨by decide,by decide,by decide, ?_⟩
      show dO (some (neg,ds,b,_)) mode=_
      unfold dO
      simp only []
      rw [if_pos (by split<;>omega)]
   ·left
    rw [if_neg hc,if_neg hc]
    exact ⟨by decide,by decide,by decide,rfl⟩
theorem dpz_dO {s:List UInt8} (mode:Int) (hs:s.length≤1024):dpz 1024 s mode=dO (dE (dsg s).1 (scan false (dsg s).2).1 (scan false (dsg s).2).2.1 (scan false (dsg s).2).2.2) mode:=by
 unfold dpz
 rw [if_neg (by omega)]
 rfl
theorem rdS_spec {s:List UInt8} (mode:Int) (hs:s.length≤1024):Spec (rdS s) (dpz 1024 s mode) mode:=by
 rw [dpz_dO mode hs,scan_false]
 have hl:=dsg_len s
 have h1:((dsg s).2.takeWhile dig).all dig=true:=List.all_takeWhile
 have h2:((dsg s).2.takeWhile dig).length≤(dsg s).2.length:=(List.takeWhile_prefix dig).length_le
 have h3:((dsg s).2.dropWhile dig).length≤(dsg s).2.length:=(List.dropWhile_suffix dig).length_le
 have h4:(dsg s).2.takeWhile dig++(dsg s).2.dropWhile dig=(dsg s).2:=List.takeWhile_append_dropWhile
 have h5:=congrArg List.length h4
 rw [List.length_append] at h5
 unfold rdS
 generalize (dsg s).2.takeWhile dig=a at*
 generalize (dsg s).2.dropWhile dig=q at*
 cases q with
 | nil=>
  simp only [List.append_nil]
  exact rdE_spec _ _ _ h1 (by omega) (by omega)
 | cons c t=>
  simp only [List.append_nil]
  by_cases hc:c=46
  ·rw [if_pos hc,if_pos hc]
   have h6:(t.takeWhile dig).length≤t.length:=(List.takeWhile_prefix dig).length_le
   rw [List.length_cons] at h5
   refine rdE_spec _ _ _ ?_ ?_ (by omega)
   ·rw [List.all_append,h1,List.all_takeWhile];rfl
   ·rw [List.length_append];omega
  ·rw [if_neg hc,if_neg hc]
   exact rdE_spec _ _ _ h1 (by omega) (by omega)
end Go.Proofs.YtoiebebjgnpkmaaGreatDoor
