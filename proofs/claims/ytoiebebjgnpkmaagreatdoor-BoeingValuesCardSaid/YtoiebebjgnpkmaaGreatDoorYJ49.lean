import Derived.Test.YtoiebebjgnpkmaaGreatDoorYJ0
import Derived.Test.YtoiebebjgnpkmaaGreatDoorYJ45
import Derived.Test.YtoiebebjgnpkmaaGreatDoorYJ38
import Derived.Test.YtoiebebjgnpkmaaGreatDoorYJ22
import Derived.Test.YtoiebebjgnpkmaaGreatDoorYJ30
import Derived.Test.YtoiebebjgnpkmaaGreatDoorYJ46
import Derived.Test.YtoiebebjgnpkmaaGreatDoorYJ2
import Derived.Maps.AppendAt
import Derived.Shelf.Spec.SlicesGrow
import Derived.Ground.Names8Prog
import Derived.Test.YtoiebebjgnpkmaaGreatDoorYJ20
import Derived.Test.YtoiebebjgnpkmaaGreatDoorYJ48
import Derived.Test.YtoiebebjgnpkmaaGreatDoorYJ23
import Derived.Test.YtoiebebjgnpkmaaGreatDoorYJ47
namespace Go.Proofs.YtoiebebjgnpkmaaGreatDoor
open Go.RowKit
set_option linter.unusedSimpArgs false
set_option linter.unusedVariables false
set_option maxHeartbeats 8000000
set_option maxRecDepth 100000
attribute [local irreducible] wpList Code.wp Plan.wp
theorem numbers_any (w:World) (c wd p sc:Nat) (hc:c≤999) (hw:wd≤999) (hp9:p≤999) (hs9:sc≤9) {b off m cap:Nat} (hm:0<m) (l0:List UInt8) (hl0:l0.length≤1000000) (hcell:w.cell? ⟨b,off,none⟩=some (strV l0)) (hT:La w) (vs:List Nat) {n:Nat} {zn:Int} (hn:vs.length=n) (hzn:Hid (zn=(n:Int))) (hnc:n≤c)
 (hv:∀ (k v:Nat),vs[k]? =some v→(blank (part (k*wd) (k*wd+wd) l0)).length≤40∧asc (blank (part (k*wd) (k*wd+wd) l0))=true∧atOK (blank (part (k*wd) (k*wd+wd) l0))=true∧valueP ⟨c,wd,p,sc⟩ (blank (part (k*wd) (k*wd+wd) l0))=some v):
 Calls Tryz.prog 28 #[.slice (some ⟨b,off,none⟩) m cap, .agg #[.int .i64 (c:Int), .int .i64 (wd:Int), .int .i64 (p:Int), .int .i64 (sc:Int)], .int .i64 zn] w fun e w'=>∃ v,e= .returned (.tuple #[v, .int .i64 (-1)])∧Fr [] w w'∧w'.ownsRow w.heap.size 23 1 v n (vs.map uV):=by
 subst hn
 rw [hzn.out]
 have HCELL:=hid hcell
 have HV:=hid hv
 have HT0:=hid hT
 have H:=(Hp.start [] w).newRow 1 (e:=23) (sz:=1)
 clear hcell hv hzn hT
 go_enter Tryz.func28,Tryz.ntmps28
 (revert H;refine W02cb ?_ <;>unhygienic intros)
 go_loopw [6,14] (fun s6 s14 wr=>∃ (k:Nat) (q:Option Addr) (cp:Nat) (S:List Nat),s6= .slice q k cp∧s14= .int .i64 (k:Int)∧k≤vs.length∧Hp [] w wr [.obj 1 S (RowAt 23 1 (.slice q k cp) k ((vs.take k).map uV) S), .blk g0 [.int .i64 (c:Int), .int .i64 (wd:Int), .int .i64 (p:Int), .int .i64 (sc:Int)] 50]) (fun _ v _ =>vs.length - (intOf v).toNat)
 case atStart=>exact ⟨0,none,0,[],rfl,rfl,Nat.zero_le _,H.arr (by repeat (first | exact Pm.nil _ | (apply Pm.cons;· (repeat first | exact Rm.here _ | apply Rm.there))))⟩
 case round=>
  clear H
  obtain ⟨k,q,cp,S,rfl,rfl,hk,H⟩:=hrel
  by_cases hlt:k<vs.length
  ·obtain ⟨v,hvk⟩:∃ v,vs[k]? =some v:=⟨_,List.getElem?_eq_getElem hlt⟩
   obtain ⟨h18,has,hat,hval⟩:=HV.out k v hvk
   have HT:=hid (tk_snoc hvk)
   obtain ⟨r,hr⟩:∃ r,blank (part (k*wd) (k*wd+wd) l0)=r:=⟨_,rfl⟩
   rw [hr] at h18 has hat hval
   have HVAL:=hid hval
   have HAS:=hid has
   have HAT:=hid hat
   have HR:=hid hr
   clear hvk hval has hat hr
   (revert H;refine W02cb ?_ <;>unhygienic intros)
   (refine x_c H (field_any _ c wd k p sc (hid rfl) (hid rfl) (hid rfl) (by omega) hc hw hm l0 (by omega) (H.fr.cell HCELL.out (by simp)) HR) ?_;clear H;rintro e w1 ⟨rfl,hF⟩ H;clear hF)
   (revert H;refine W02cb ?_ <;>unhygienic intros)
   (refine x_c H (value_any _ c wd p sc hp9 hs9 r h18 HAS.out HAT.out (HT0.out.fr H.fr) HVAL) ?_;clear H;rintro e w1 ⟨rfl,hF⟩ H;clear hF)
   (revert H;refine W9636 ?_ <;>unhygienic intros)
   go_roundw
   case rel=>
    refine ⟨k+1,_,_,S',rfl,rfl,by omega, ?_⟩
    rw [HT.out,List.map_append]
    exact H.arr (by repeat (first | exact Pm.nil _ | (apply Pm.cons;· (repeat first | exact Rm.here _ | apply Rm.there))))
   case measure=>(simp [intOf];try omega)
  ·obtain rfl:k=vs.length:=by omega
   have HT:=hid (List.take_length (l:=vs))
   rw [HT.out] at H
   (revert H;refine W02cb ?_ <;>unhygienic intros)
   go_ret2
   exact ⟨_,rfl,H.fr,(H.rowo 1).owns (fun x hx=>(H.home 1 x hx).resolve_left (by simp))⟩
theorem mul64_one (w:World):Calls Tryz.prog 149 #[.int .u64 1, .int .u64 1] w fun e w'=>e= .returned (.tuple #[.int .u64 0, .int .u64 1])∧Fr [] w w':=by
 have H:=Hp.start [] w
 go_enter Tryz.func149,Tryz.ntmps149
 (revert H;refine W02cb ?_ <;>unhygienic intros)
 go_ret2
 exact ⟨rfl,H.fr⟩
theorem mul_one' (w:World):Calls Tryz.prog 96 #[.int .u64 1, .int .u64 1] w fun e w'=>e= .returned (.tuple #[.int .u64 0, .int .u64 1])∧Fr [] w w':=by
 have H:=Hp.start [] w
 go_enter Tryz.func96,Tryz.ntmps96
 (revert H;refine W02cb ?_ <;>unhygienic intros)
 (refine x_c H (mul64_one _) ?_;clear H;rintro e w1 ⟨rfl,hF⟩ H;clear hF)
 (revert H;refine W02cb ?_ <;>unhygienic intros)
 go_ret2
 exact ⟨rfl,H.fr⟩
theorem repeat_one (w:World) {g:Nat} {x:Int} (hr:Rd w (.slice (some ⟨g,0,none⟩) 1 1) 1 [.int .u64 x]):Calls Tryz.prog 70 #[.slice (some ⟨g,0,none⟩) 1 1, .int .i64 1] w fun e w'=>∃ v,e= .returned v∧Fr [] w w':=by
 have HR:=hid hr
 clear hr
 have H:=Hp.start [] w
 go_enter Tryz.func70,Tryz.ntmps70
 (revert H;refine W02cb ?_ <;>unhygienic intros)
 (refine x_c H (mul_one' _) ?_;clear H;rintro e w1 ⟨rfl,hF⟩ H;clear hF)
 (revert H;refine W84b2 ?_ <;>unhygienic intros)
 go_loopw [8] (fun s8 wr=>s8= .int .i64 1∧Hp [] w wr []) (fun _ _ =>0)
 case atStart=>exact ⟨rfl,H.arr (by repeat (first | exact Pm.nil _ | (apply Pm.cons;· (repeat first | exact Rm.here _ | apply Rm.there))))⟩
 case round=>
  clear H
  obtain ⟨rfl,H⟩:=hrel
  (revert H;refine W02cb ?_ <;>unhygienic intros)
  go_ret
  exact ⟨_,rfl,H.fr⟩
theorem ones_any (w:World):Calls Tryz.prog 26 #[.int .i64 1] w fun e w'=>∃ v,e= .returned v∧Fr [] w w':=by
 have H:=Hp.start [] w
 go_enter Tryz.func26,Tryz.ntmps26
 (revert H;refine W02cb ?_ <;>unhygienic intros)
 refine x_c H (repeat_one _ (H.rd (b:=g0) (off:=0) List.prefix_rfl)) ?_
 clear H
 rintro e w1 ⟨v,rfl,hF⟩ H
 clear hF
 (revert H;refine W02cb ?_ <;>unhygienic intros)
 go_ret
 exact ⟨_,rfl,H.fr⟩
end Go.Proofs.YtoiebebjgnpkmaaGreatDoor
namespace Go.Proofs.YtoiebebjgnpkmaaGreatDoor
open Go.RowKit
set_option linter.unusedSimpArgs false
set_option linter.unusedVariables false
set_option maxHeartbeats 8000000
set_option maxRecDepth 100000
attribute [local irreducible] wpList Code.wp Plan.wp stsE mixE pre cntE
section
variable {P:Program} {a:Act} {w:World} {o:Oper}
theorem ev_cut {t:TypeId} {x y y2:Operand} (ho:o.op= .slice t x (some y) (some y2) none) {b n c:Nat} (hx:a.eval x= .slice (some ⟨b,0,none⟩) n c) {k k2:IntKind} {i j:Nat} (hy:a.eval y= .int k (i:Int)) (hy2:a.eval y2= .int k2 (j:Int)) {e:TypeId} {z:List Value} {by':Nat} [h:Si P t e z 1 by'] (m:Nat) (hij:i+m=j) (h2:j≤c) (h3:i<c):(execOp a.eval o).run P w= .ok (.value (.slice (some ⟨b,i,none⟩) m (c - i))) w:=by
 have:=c_sslh (P:=P) (w:=w) ho hx hy hy2 (by omega) (by omega) (by omega)
 rw [if_neg (by omega)] at this
 rw [this]
 have e1:((j:Int).toNat - (i:Int).toNat)=m:=by omega
 have e2:0+(i:Int).toNat*1=i:=by omega
 rw [e1,e2]
 rfl
theorem bsearch_hit (w:World) {g q n c t k:Nat} (xs:List Nat) (hn:xs.length=n) (hn2:n≤100000) (hs:xs.Pairwise (· <·)) (hc:∀ j u,xs[j]? =some u→w.cell? ⟨g,q+j,none⟩=some (iV u)) (hk:xs[k]? =some t):
 Calls Tryz.prog 42 #[.slice (some ⟨g,q,none⟩) n c, .int .i64 (t:Int)] w fun e w'=>e= .returned (.tuple #[.int .i64 (k:Int), .bool true])∧Fr [] w w':=by
 refine Calls.mono (bsearch_any w xs hn hn2 hs fun j u hj=>⟨g,q,rfl,hc j u hj⟩) ?_
 rintro e w' ⟨i,rfl,hF,hL⟩
 obtain rfl:=hL.hit hs hk
 exact ⟨by rw [hk];simp,hF⟩
end
end Go.Proofs.YtoiebebjgnpkmaaGreatDoor
namespace Go.Proofs.YtoiebebjgnpkmaaGreatDoor
open Go.RowKit
set_option linter.unusedSimpArgs false
set_option linter.unusedVariables false
set_option maxHeartbeats 8000000
set_option maxRecDepth 100000
attribute [local irreducible] wpList Code.wp Plan.wp stsE mixE pre cntE
end Go.Proofs.YtoiebebjgnpkmaaGreatDoor
namespace Go.Proofs.YtoiebebjgnpkmaaGreatDoor
open Go.RowKit
set_option linter.unusedSimpArgs false
set_option linter.unusedVariables false
set_option maxHeartbeats 8000000
set_option maxRecDepth 100000
attribute [local irreducible] wpList Code.wp Plan.wp
theorem hasSuf1 (w:World):Calls Tryz.prog 127 #[strV [],strV [32]] w fun e w'=>e= .returned (.bool false)∧Fr [] w w':=by
 have H:=Hp.start [] w
 go_enter Tryz.func127,Tryz.ntmps127
 (revert H;refine W224b ?_ <;>unhygienic intros)
 go_ret
 exact ⟨rfl,H.fr⟩
theorem hasSuf0 (w:World):Calls Tryz.prog 81 #[strV [],strV [32]] w fun e w'=>e= .returned (.bool false)∧Fr [] w w':=by
 have H:=Hp.start [] w
 go_enter Tryz.func81,Tryz.ntmps81
 (revert H;refine W224b ?_ <;>unhygienic intros)
 (refine x_c H (hasSuf1 _) ?_;clear H;rintro e w1 ⟨rfl,hF⟩ H;clear hF)
 (revert H;refine W224b ?_ <;>unhygienic intros)
 go_ret
 exact ⟨rfl,H.fr⟩
theorem indexB0 (w:World) (p:Option Addr) (c:Nat):Calls Tryz.prog 128 #[.slice p 0 c, .func (.func 83) #[] #[]] w fun e w'=>e= .returned (.int .i64 (-1))∧Fr [] w w':=by
 have H:=Hp.start [] w
 go_enter Tryz.func128,Tryz.ntmps128
 (revert H;refine W224b ?_ <;>unhygienic intros)
 go_loopw [8] (fun s8 wr=>s8= .int .i64 0∧Hp [] w wr []) (fun v _ =>0)
 case atStart=>exact ⟨rfl,H⟩
 case round=>
  clear H
  obtain ⟨rfl,H⟩:=hrel
  (revert H;refine W224b ?_ <;>unhygienic intros)
  go_ret
  exact ⟨rfl,H.fr⟩
theorem containsB0 (w:World) (p:Option Addr) (c:Nat):Calls Tryz.prog 82 #[.slice p 0 c, .func (.func 83) #[] #[]] w fun e w'=>e= .returned (.bool false)∧Fr [] w w':=by
 have H:=Hp.start [] w
 go_enter Tryz.func82,Tryz.ntmps82
 (revert H;refine W224b ?_ <;>unhygienic intros)
 (refine x_c H (indexB0 _ _ _) ?_;clear H;rintro e w1 ⟨rfl,hF⟩ H;clear hF)
 (revert H;refine W224b ?_ <;>unhygienic intros)
 go_ret
 exact ⟨rfl,H.fr⟩
theorem printable_nil (w:World) (n:Nat) (hn:n≤1000):
 Calls Tryz.prog 39 #[strV [], .int .i64 (n:Int)] w fun e w'=>e= .returned (.bool true)∧Fr [] w w':=by
 have H:=Hp.start [] w
 go_enter Tryz.func39,Tryz.ntmps39
 (revert H;refine W224b ?_ <;>unhygienic intros)
 (refine x_c H (hasSuf0 _) ?_;clear H;rintro e w1 ⟨rfl,hF⟩ H;clear hF)
 (revert H;refine W672b ?_ <;>unhygienic intros)
 (refine x_c H (containsB0 _ _ _) ?_;clear H;rintro e w1 ⟨rfl,hF⟩ H;clear hF)
 (revert H;refine W224b ?_ <;>unhygienic intros)
 go_ret
 exact ⟨rfl,H.fr⟩
set_option maxHeartbeats 32000000 in
theorem permitted_nil (w:World) (v1 v2 v3:Value):
 Calls Tryz.prog 9 #[.agg #[strV [],strV [], .int .i64 1, .int .i64 1,v1,v2,v3, .bool false, .int .i64 0]] w fun e w'=>e= .returned (.bool true)∧Fr [] w w':=by
 have H:=Hp.start [] w
 go_enter Tryz.func9,Tryz.ntmps9
 (revert H;refine W224b ?_ <;>unhygienic intros)
 (refine x_c H (printable_nil _ 72 (by decide)) ?_;clear H;rintro e w1 ⟨rfl,hF⟩ H;clear hF)
 (revert H;refine W224b ?_ <;>unhygienic intros)
 (refine x_c H (printable_nil _ 8 (by decide)) ?_;clear H;rintro e w1 ⟨rfl,hF⟩ H;clear hF)
 (revert H;refine W224b ?_ <;>unhygienic intros)
 go_ret
 exact ⟨rfl,H.fr⟩
end Go.Proofs.YtoiebebjgnpkmaaGreatDoor
namespace Go.Proofs.YtoiebebjgnpkmaaGreatDoor
open Go.RowKit Go.Shelf
set_option linter.unusedSimpArgs false
set_option linter.unusedVariables false
attribute [local go_sem] Oper.semAt_some
def lineP (wd:Nat) (L:List (List UInt8)):List UInt8:=L.flatMap (spL wd)
theorem spL_len (wd:Nat) (t:List UInt8):(spL wd t).length≤wd+t.length:=by
 unfold spL
 rw [List.length_append,List.length_replicate]
 omega
theorem lineP_len (wd:Nat) (hw:wd≤100):∀ l:List (List UInt8),(∀ u∈l,u.length≤100)→(lineP wd l).length≤200*l.length
 | [],_ =>Nat.zero_le _
 | u::l,h=>by
  have ih:=lineP_len wd hw l (fun x hx=>h x (List.mem_cons_of_mem _ hx))
  have h1:=spL_len wd u
  have h2:=h u (List.mem_cons_self ..)
  unfold lineP at*
  rw [List.flatMap_cons,List.length_append,List.length_cons]
  omega
theorem str_info:(Tryz.prog.info? 9).map (fun i=>(i.zero,i.size,i.bytes))=some (some (.string ⟨#[]⟩),1,16):=by kernel_rfl
set_option maxRecDepth 100000 in
set_option maxHeartbeats 2000000 in
theorem section_any (w:World) {b off len cap:Nat} (L:List (List UInt8)) (hlen:L.length=len) (hl:1≤len) (c wd:Nat) (p s:Int) (hlc:len≤c) (hc:c≤999) (hwd:wd≤100) (hcap:len≤cap) (hb:b<w.heap.size)
 (hL:∀ j u,L[j]? =some u→w.cell? ⟨b,off+j,none⟩=some (strV u)) (hLs:∀ u∈L,u.length≤100):
 Calls Tryz.prog 15 #[.slice (some ⟨b,off,none⟩) len cap, .agg #[.int .i64 (c:Int), .int .i64 (wd:Int), .int .i64 p, .int .i64 s]] w fun e w'=>∃ v,e= .returned v∧Below w.heap.size w w'∧w'.ownsRow w.heap.size 9 1 v 1 [strV (lineP wd L)]:=by
 refine (callsIn_wide (n:=6)).1 ?_
 refine callsIn_of_wp_marks Tryz.func15 rfl trivial ?_ rfl
 simp only [Tryz.ntmps15,List.size_toArray,List.length_cons,List.length_nil,Nat.reduceAdd,Nat.reduceSub,Array.replicate_succ,Array.replicate_zero,List.push_toArray,List.append_toArray,List.nil_append,List.cons_append]
 gi_wp2_with (refine ⟨trivial, ?_⟩;gi_at_call 49;refine (chunk_in Fence.wide _ trivial rfl _ _ _ _ (by omega) _).mono ?_;rintro e w' ⟨rfl,rfl⟩)
 obtain ⟨W0,hW0⟩:∃ W0,((((w.alloc (.cells #[.int .i64 (c:Int), .int .i64 (wd:Int), .int .i64 p, .int .i64 s] 50)).alloc (.cells #[.slice none 0 0] 44)).alloc (.cells #[.slice (some ⟨b,off,none⟩) len cap] 44)).alloc (.cells #[.int .i64 (c:Int)] 3))=W0:=⟨_,rfl⟩
 have hsz:W0.heap.size=w.heap.size+4:=by rw [← hW0];simp
 have hbW:Below w.heap.size w W0:=by
  rw [← hW0]
  exact ((((Below.refl _ w).alloc (Nat.le_refl _) _).alloc (by simp) _).alloc (by simp;omega) _).alloc (by simp;omega) _
 have hBf:W0.cell? ⟨w.heap.size,1,none⟩=some (.int .i64 (wd:Int)):=by
  rw [← hW0,World.cell?_alloc_past _ _ _ (by simp;omega),World.cell?_alloc_past _ _ _ (by simp;omega),World.cell?_alloc_past _ _ _ (by simp),World.cell?_alloc_at _ _ _ _ rfl];rfl
 have hBo:Boxed W0 (w.heap.size+1) 44 (.slice none 0 0):=by
  have h:=Boxed.new (w.alloc (.cells #[.int .i64 (c:Int), .int .i64 (wd:Int), .int .i64 p, .int .i64 s] 50)) 44 (.slice none 0 0)
  rw [World.size_alloc] at h
  rw [← hW0];exact (h.alloc _).alloc _
 have hBs:W0.cell? ⟨w.heap.size+1+1,0,none⟩=some (.slice (some ⟨b,off,none⟩) len cap):=by
  rw [← hW0,World.cell?_alloc_past _ _ _ (by simp),World.cell?_alloc_at _ _ _ _ (by simp)];rfl
 have hBn:W0.cell? ⟨w.heap.size+1+1+1,0,none⟩=some (.int .i64 (c:Int)):=by
  rw [← hW0,World.cell?_alloc_at _ _ _ _ (by simp)];rfl
 have hcs:∀ j u,L[j]? =some u→W0.cell? ⟨b,off+j,none⟩=some (strV u):=fun j u h=>(hbW.cell (p:=⟨b,off+j,none⟩) hb).trans (hL j u h)
 rw [hW0]
 clear hW0
 have hput:∀ (W:World) (l x:Nat) (o':Obj),x≠l→(W.putObj l o').cell? ⟨x,0,none⟩=W.cell? ⟨x,0,none⟩:=fun W l x o' h=>by
  simp only [World.cell?,World.putObj_heap_other h]
 refine wpIn_rangeFunc_ownF (hro:=rfl) (h1:=by decide) (gf:=95) (lb:=#[.pointer (some ⟨w.heap.size+1+1,0,none⟩), .pointer (some ⟨w.heap.size+1+1+1,0,none⟩)]) rfl trivial (enters_of Tryz.func95 (by kernel_rfl) rfl)
  (Kp:=fun A B=>B.cell? ⟨w.heap.size+1+1,0,none⟩=A.cell? ⟨w.heap.size+1+1,0,none⟩∧B.cell? ⟨w.heap.size+1+1+1,0,none⟩=A.cell? ⟨w.heap.size+1+1+1,0,none⟩)
  (chunk_stops Fence.wide 5 trivial rfl (by decide) (w.heap.size+1+1) (w.heap.size+1+1+1) b off len cap (c:Int) hl (by omega) (by omega) hcap (fun _ _ h=>h) W0 (by omega) (by omega) hBs hBn)
  (fun h k=>⟨k.1.trans h.1,k.2.trans h.2⟩) (fun W l o o' hl h _ _ =>⟨hput _ _ _ _ (by omega),hput _ _ _ _ (by omega)⟩) (Below.refl _ _) (fun _ =>rfl)
  (fun (pre:List Unit) W=>((∃ v,Boxed W (w.heap.size+1) 44 v∧W.ownsRow w.heap.size 9 1 v pre.length (pre.map fun _ =>strV (lineP wd L))∧(v= .slice none 0 0↔pre=[]))∧(W.cell? ⟨w.heap.size,1,none⟩=some (.int .i64 (wd:Int))∧∀ j u,L[j]? =some u→W.cell? ⟨b,off+j,none⟩=some (strV u)))∧Below w.heap.size W0 W)
  (fun _ _ _ =>False)
  (OwnFrom.and (OwnFrom.and (Own.from (holdsRow_own _ _ _ _ _ _ _ _) _) (Own.from (fun s A B row hs hg hr=>⟨cell_kept hs.1 hg hr,fun j u h=>cell_kept (hs.2 j u h) hg hr⟩) _)) (ownFrom_below (by omega) (by omega)))
  (fun _ _ _ _ _ hs _ _ =>hs)
  ⟨⟨⟨_,hBo,World.ownsRow_nil _ _ _ _,by simp⟩,hBf,hcs⟩,Below.refl _ _⟩
  (fun _ =>{tmps:=#[.slice (some ⟨b,off,none⟩) len cap, .agg #[.int .i64 (c:Int), .int .i64 (wd:Int), .int .i64 p, .int .i64 s],undef, .pointer (some ⟨w.heap.size,0,none⟩), .slice none 0 0, .pointer (some ⟨w.heap.size+1,0,none⟩), .slice (some ⟨b,off,none⟩) len len,undef,undef,undef, .slice (some ⟨b,off,none⟩) len cap, .pointer (some ⟨w.heap.size,0,none⟩), .int .i64 (c:Int), .func (.func 95) #[] #[.pointer (some ⟨w.heap.size+1+1,0,none⟩), .pointer (some ⟨w.heap.size+1+1+1,0,none⟩)], .slice (some ⟨b,off,none⟩) len len,undef,undef,undef,undef,undef,undef,undef,undef,undef,undef,undef,undef,undef,undef,undef,undef,undef,undef],defers:=[]}) ?assign ?body ?done ?stop
 case assign=>
  intro l x W K hK
  gi_wp2
  exact hK
 case body=>
  rintro l pre x W ⟨⟨⟨v,hv,hrow,hnil⟩,hf,hc⟩,hB⟩ hlt
  obtain rfl:pre=[]:=by
   cases pre with
   | nil=>rfl
   | cons a r=>simp at hlt
  have hve:v= .slice none 0 0:=hnil.2 rfl
  clear hnil hrow
  gi_wp2
  gi_loopw [7,17] (fun s7 s17 wr=>∃ (k:Nat) (u:List UInt8),s7=strV u∧s17= .int .i64 (k:Int)∧k≤len∧u=lineP wd (L.take k)∧Below W.heap.size W wr) (fun _ i _ =>len - (intOf i).toNat)
  case atStart=>exact ⟨0,[],rfl,rfl,Nat.zero_le _,by simp [lineP],Below.refl _ _⟩
  case round=>
   obtain ⟨k,u,rfl,rfl,hk,hu,hB2⟩:=hrel
   have hfx:=(hB2.cell (p:=⟨w.heap.size,1,none⟩) (block_lt_of_cell hf)).trans hf
   by_cases hkl:k<len
   ·obtain ⟨t,ht⟩:∃ t,L[k]? =some t:=⟨_,List.getElem?_eq_getElem (by omega)⟩
    have hcx:=(hB2.cell (p:=⟨b,off+k,none⟩) (block_lt_of_cell (hc k t ht))).trans (hc k t ht)
    have hts:=hLs t (List.mem_of_getElem? ht)
    have hsn:lineP wd (L.take (k+1))=lineP wd (L.take k)++spL wd t:=by
     unfold lineP
     rw [List.take_add_one,ht,Option.toList_some,List.flatMap_append,List.flatMap_cons,List.flatMap_nil,List.append_nil]
    have hll:(lineP wd (L.take k)).length+(spL wd t).length≤1000000000:=by
     have h1:=lineP_len wd (by omega) (L.take k) (fun u hu=>hLs u (List.mem_of_mem_take hu))
     have h2:=spL_len wd t
     rw [List.length_take] at h1
     have h3:200*min k L.length≤200*999:=Nat.mul_le_mul_left _ (by omega)
     omega
    have hcat:∀ w':World,Sem.run Tryz.prog (binOp BinOp.add 9 (strV (lineP wd (L.take k))) (strV (spL wd t))) w'= .ok (strV (lineP wd (L.take (k+1)))) w':=fun w'=>by
     rw [hsn];exact str_add _ _ hll
    gi_wp2_with (refine ⟨trivial, ?_⟩;gi_at_call 50;refine (CallsIn.inRound l (callsIn_wide.2 (bright_any _ t wd (by have:=hLs t (List.mem_of_getElem? ht);omega) (by omega)))).mono ?_;rintro e w' ⟨rfl,hb'⟩)
    exact ⟨⟨k+1,_,rfl,by simp,by omega,hsn.symm,hB2.trans (hb'.mono hB2.size)⟩,by simp [intOf];omega⟩
   ·obtain rfl:k=len:=by omega
    have hbx:Boxed wr (w.heap.size+1) 44 v:=(hB2.block _ hv.lt).trans hv
    have hbc:=hbx.cell
    have hbf:=hbx.frozen
    have hW4:w.heap.size+4≤W.heap.size:=hsz ▸ hB.size
    have hle:w.heap.size≤wr.heap.size:=by have:=hB2.size;omega
    have hr0:wr.ownsRow w.heap.size 9 1 v 0 []:=by rw [hve];exact World.ownsRow_nil _ _ _ _
    have hob:v.ownBlock=none:=by rw [hve];rfl
    clear hve
    obtain ⟨i0,hi,hz0,hz1,hz2⟩:=info_parts str_info
    subst hu
    obtain ⟨X,hX⟩:∃ X,strV (lineP wd (L.take k))= .string X:=⟨_,rfl⟩
    have hXL:strV (lineP wd L)= .string X:=by rw [← hX,← hlen,List.take_length]
    rw [hX]
    clear hX
    gi_wp2_with (gi_at_builtin;refine wpListIn_append_own _ rfl _ _ 44 rfl w.heap.size 9 i0 (.string ⟨#[]⟩) 1 16 Tryz.underlying44 hi hz0 hz1 hz2 rfl (by decide) _ _ _ rfl (hr0.alloc _) ⟨wr.heap.size,0,none⟩ 1 1 [Value.string X] rfl rfl (cell_one_new _ _ _) (by simp [Value.oneCell',strV]) (by unfold maxLen;omega) (by omega) (by simp;omega) ?_;intro v' w1 hown' hgrow _;obtain ⟨g',cap',rfl⟩:=ownsRow_succ hown';obtain ⟨hv1,hv2,hr2,hk2,hb2⟩:=hbx.appended (by decide) hr0 hle (by omega) hown' hgrow;have hc1:=hv1.cell;have hf1:=hv1.frozen)
    have hgw:∀ x,x<wr.heap.size→x≠w.heap.size+1→(w1.setCell ⟨w.heap.size+1,0,none⟩ (.slice (some ⟨g',0,none⟩) 1 cap')).heap[x]? =wr.heap[x]? :=fun x hx hne=>by
     have e0:(wr.alloc (.cells #[Value.string X] 9)).heap[x]? =wr.heap[x]? :=(((Below.refl wr.heap.size wr).alloc (Nat.le_refl _) _).block x hx)
     have e2:=hgrow.block x (by simp;omega) (show some x≠v.ownBlock by rw [hob];simp)
     have e1:=(grownBy_setCell' w1 (w.heap.size+1) (.slice (some ⟨g',0,none⟩) 1 cap')).block x (by have:=hgrow.size;simp at this;omega) (by intro e;cases e;exact hne rfl)
     exact e1.trans (e2.trans e0)
    have hgc:∀ x p,x<W.heap.size→x≠w.heap.size+1→(w1.setCell ⟨w.heap.size+1,0,none⟩ (.slice (some ⟨g',0,none⟩) 1 cap')).cell? ⟨x,p,none⟩=W.cell? ⟨x,p,none⟩:=fun x p hx hne=>by
     simp only [World.cell?,hgw x (Nat.lt_of_lt_of_le hx hB2.size) hne,hB2.block x hx]
    have hBW:Below w.heap.size W0 (w1.setCell ⟨w.heap.size+1,0,none⟩ (.slice (some ⟨g',0,none⟩) 1 cap')):=(hB.trans (hB2.mono (by omega))).trans hb2
    have hbWs:b<W.heap.size:=by omega
    have hKO:KeepsOthers W wr:=⟨hB2.size,fun x o h _ =>(hB2.block x (Array.getElem?_eq_some_iff.1 h).1).trans h⟩
    exact ⟨hKO.trans hk2,⟨hgc (w.heap.size+1+1) 0 (by omega) (by omega),hgc (w.heap.size+1+1+1) 0 (by omega) (by omega)⟩,⟨⟨_,hv2,by simpa [hXL] using hr2,by simp⟩,(hgc w.heap.size 1 (by omega) (by omega)).trans hf,fun j u h=>(hgc b (off+j) hbWs (by omega)).trans (hc j u h)⟩,hBW⟩
 case done=>
  rintro D ys W hD rfl ⟨⟨⟨v,hv,hrow,hnil⟩,hf,hc⟩,hB⟩ hK
  have hcell:=hv.cell
  gi_wp2
  refine ⟨by simp, .inl ⟨_,_,rfl,run_takeDeferred hK, ?_⟩⟩
  exact ⟨_,results_tmp rfl _ _ _,_,rfl,(hbW.trans hB).trans (belowK_b (w:=w) (Nat.le_refl _) W D _ _ (by omega) hK rfl rfl),ownsRow_putObj hrow _ hK rfl⟩
 case stop=>
  rintro D c pre W _ _ h
  exact h.elim
end Go.Proofs.YtoiebebjgnpkmaaGreatDoor
namespace Go.Proofs
set_option linter.unusedSimpArgs false
set_option linter.unusedVariables false
open Go.Shelf
def Tryz.growS_ren:Go.Shelf.Ren:=⟨fun | 4=>55 | n=>n,fun | 22=>44 | 25=>9 | 3=>3 | 4=>4 | 9=>9 | 20=>20 | 0=>0 | n=>n,fun | n=>n⟩
theorem Tryz.growS:Go.Proofs.Lays8.n4 Tryz.prog Tryz.growS_ren:={
 mixed:=by kernel_rfl
 f4:=⟨Tryz.f55.name,by decide,Tryz.func55.trans (congrArg some (by kernel_rfl))⟩
 t0:=Tryz.underlying0
 a0:=Tryz.isAgg0
 z0:=Tryz.sizeOf0
 v0:=Tryz.zeroValue0
 t3:=Tryz.underlying3
 a3:=Tryz.isAgg3
 z3:=Tryz.sizeOf3
 v3:=Tryz.zeroValue3
 t4:=Tryz.underlying4
 a4:=Tryz.isAgg4
 z4:=Tryz.sizeOf4
 v4:=Tryz.zeroValue4
 t9:=Tryz.underlying9
 a9:=Tryz.isAgg9
 z9:=Tryz.sizeOf9
 v9:=Tryz.zeroValue9
 t20:=Tryz.underlying20
 a20:=Tryz.isAgg20
 z20:=Tryz.sizeOf20
 v20:=Tryz.zeroValue20
 t22:=Tryz.underlying44
 a22:=Tryz.isAgg44
 z22:=Tryz.sizeOf44
 v22:=Tryz.zeroValue44}
theorem Tryz.slices_Grow_grow (i0:TypeInfo) (z:Value) (hi0:Tryz.prog.info? 9=some i0) (hz0:i0.zero=some z) (hs0:0<i0.size)
 (base:Option Addr) (l c n:Nat) (cs:List Value) (w:World) (hlc:l≤c) (hroom:c<l+n) (hbig:(l+n)*i0.bytes≤140737488355328) (h63:l+n≤4611686018427387904)
 (hcl:cs.length=c*i0.size) (hnil:base=none→c=0) (hcs:∀ a,base=some a→∀ j v,cs[j]? =some v→w.cell? (a.add j)=some v):
 Calls Tryz.prog 55 #[.slice base l c, .int .i64 n] w fun e w'=>
  e= .returned (.slice (some ⟨w.heap.size,0,none⟩) l (grownCap w (l+n) c 9))∧
  w'=w.drew.alloc (.cells (cs.toArray++Builtin.zeroCells z.cells (l+n - c)++Builtin.zeroCells z.cells (grownCap w (l+n) c 9 - (l+n))) 9):=Any8.slices_Grow_grow Tryz.growS i0 z hi0 hz0 hs0 base l c n cs w hlc hroom hbig h63 hcl hnil hcs
end Go.Proofs
namespace Go.Proofs.YtoiebebjgnpkmaaGreatDoor
open Go.RowKit
set_option linter.unusedSimpArgs false
set_option linter.unusedVariables false
set_option maxHeartbeats 8000000
set_option maxRecDepth 100000
attribute [local irreducible] wpList Code.wp Plan.wp
theorem growS_any (w:World) (n:Nat) (h0:0<n) (hn:n≤1000):
 Calls Tryz.prog 55 #[.slice none 0 0, .int .i64 (n:Int)] w fun e w'=>∃ v,e= .returned v∧Fr [] w w'∧w'.ownsRow w.heap.size 9 1 v 0 []:=by
 obtain ⟨i0,hi,hz0,hz1,hz2⟩:=info_parts str_info
 refine Calls.mono (Tryz.slices_Grow_grow i0 _ hi hz0 (by rw [hz1];decide) none 0 0 n [] w (Nat.le_refl _) (by omega) (by rw [hz2];omega) (by omega) (by simp) (fun _ =>rfl) (fun a h=>by cases h)) ?_
 rintro e w' ⟨rfl,rfl⟩
 have hge:=grownCap_ge w (0+n) 0 9
 have hle:=grownCap_le_maxLen w (0+n) 0 9 (by unfold maxLen;omega)
 refine ⟨_,rfl,(Fr.drew [] w).trans (Fr.alloc [] _ _),rfl, .inr ⟨w.heap.size,_,_,rfl,Nat.le_refl _,heap_alloc_new w.drew _,Nat.zero_le _,hle, ?_,rfl⟩⟩
 rw [Nat.zero_add] at hge
 simp only [Array.size_append,size_zeroCells,List.size_toArray,List.length_nil,Value.cells,Nat.zero_add]
 simp
 omega
def StrL (w:World) (v:Value) (L:List (List UInt8)):Prop:=∃ g c,v= .slice (some ⟨g,0,none⟩) L.length c∧∀ j u,(L.map strV)[j]? =some u→w.cell? ⟨g,j,none⟩=some u
theorem StrL.fr {w w':World} {v:Value} {L:List (List UInt8)} (h:StrL w v L) (k:Fr [] w w'):StrL w' v L:=by
 obtain ⟨g,c,e,hc⟩:=h
 exact ⟨g,c,e,fun j u hj=>k.cell (hc j u hj) (by simp)⟩
theorem StrL.rd {w:World} {g c n:Nat} {L:List (List UInt8)} (h:∀ j u,(L.map strV)[j]? =some u→w.cell? ⟨g,j,none⟩=some u):Rd w (.slice (some ⟨g,0,none⟩) n c) n (L.map strV):=
 .inr ⟨⟨g,0,none⟩,c,rfl,fun j u hj=>by rw [add_mk,Nat.zero_add];exact h j u hj⟩
set_option maxHeartbeats 32000000 in
theorem concat_any (w:World) {g cc ga ca gb cb gd cd ge ce:Nat} {A:List (List UInt8)} {x y z:List UInt8} (hA:A.length=4)
 (h0:w.cell? ⟨g,0,none⟩=some (.slice (some ⟨ga,0,none⟩) 4 ca)) (h1:w.cell? ⟨g,1,none⟩=some (.slice (some ⟨gb,0,none⟩) 1 cb)) (h2:w.cell? ⟨g,2,none⟩=some (.slice (some ⟨gd,0,none⟩) 1 cd)) (h3:w.cell? ⟨g,3,none⟩=some (.slice (some ⟨ge,0,none⟩) 1 ce))
 (r0:∀ j u,(A.map strV)[j]? =some u→w.cell? ⟨ga,j,none⟩=some u) (r1:∀ j u,([x].map strV)[j]? =some u→w.cell? ⟨gb,j,none⟩=some u) (r2:∀ j u,([y].map strV)[j]? =some u→w.cell? ⟨gd,j,none⟩=some u) (r3:∀ j u,([z].map strV)[j]? =some u→w.cell? ⟨ge,j,none⟩=some u):
 Calls Tryz.prog 20 #[.slice (some ⟨g,0,none⟩) 4 cc] w fun e w'=>∃ v,e= .returned v∧Fr [] w w'∧w'.ownsRow w.heap.size 9 1 v 7 ((A++[x]++[y]++[z]).map strV):=by
 have H0:=hid h0;have H1':=hid h1;have H2:=hid h2;have H3:=hid h3
 have R0:=hid (fun (w':World) (k:Fr [] w w')=>StrL.rd (c:=ca) (n:=4) (fun j u hj=>k.cell (r0 j u hj) (by simp)))
 have R1:=hid (fun (w':World) (k:Fr [] w w')=>StrL.rd (c:=cb) (n:=1) (fun j u hj=>k.cell (r1 j u hj) (by simp)))
 have R2:=hid (fun (w':World) (k:Fr [] w w')=>StrL.rd (c:=cd) (n:=1) (fun j u hj=>k.cell (r2 j u hj) (by simp)))
 have R3:=hid (fun (w':World) (k:Fr [] w w')=>StrL.rd (c:=ce) (n:=1) (fun j u hj=>k.cell (r3 j u hj) (by simp)))
 clear h0 h1 h2 h3 r0 r1 r2 r3
 have H:=Hp.start [] w
 go_enter Tryz.func20,Tryz.ntmps20
 (revert H;refine W179f ?_ <;>unhygienic intros)
 go_loopw [3,11] (fun s3 s11 wr=>((s3= .int .i64 0∧s11= .int .i64 0)∨(s3= .int .i64 4∧s11= .int .i64 1)∨(s3= .int .i64 5∧s11= .int .i64 2)∨(s3= .int .i64 6∧s11= .int .i64 3)∨(s3= .int .i64 7∧s11= .int .i64 4))∧Hp [] w wr []) (fun _ v _ =>4 - (intOf v).toNat)
 case atStart=>exact ⟨.inl ⟨rfl,rfl⟩,H⟩
 case round=>
  clear H
  obtain ⟨hj,H⟩:=hrel
  rcases hj with ⟨rfl,rfl⟩ | ⟨rfl,rfl⟩ | ⟨rfl,rfl⟩ | ⟨rfl,rfl⟩ | ⟨rfl,rfl⟩
  ·skip
   (revert H;refine W3c57 ?_ <;>unhygienic intros)
   go_roundw
   case rel=>exact ⟨.inr (.inl ⟨rfl,rfl⟩),H⟩
   case measure=>(simp [intOf];try omega)
  ·skip
   (revert H;refine W0e29 ?_ <;>unhygienic intros)
   go_roundw
   case rel=>exact ⟨.inr (.inr (.inl ⟨rfl,rfl⟩)),H⟩
   case measure=>(simp [intOf];try omega)
  ·skip
   (revert H;refine W12f1 ?_ <;>unhygienic intros)
   go_roundw
   case rel=>exact ⟨.inr (.inr (.inr (.inl ⟨rfl,rfl⟩))),H⟩
   case measure=>(simp [intOf];try omega)
  ·skip
   (revert H;refine Wadd3 ?_ <;>unhygienic intros)
   go_roundw
   case rel=>exact ⟨.inr (.inr (.inr (.inr ⟨rfl,rfl⟩))),H⟩
   case measure=>(simp [intOf];try omega)
  ·(revert H;refine W179f ?_ <;>unhygienic intros)
   (refine Calls.mono (growS_any _ 7 (by decide) (by decide)) ?_;rintro e w1 ⟨v,rfl,hF,hown⟩;obtain ⟨S,H1⟩:=H.rowNew 1 hF hown;clear H hF hown;have H:=H1;clear H1)
   obtain ⟨pv,cv,hvv,_⟩:=(H.rowo 1).form
   subst hvv
   (revert H;refine W179f ?_ <;>unhygienic intros)
   go_loopw [6,27] (fun s6 s27 wr=>(∃ p c S,s6= .slice p 0 c∧s27= .int .i64 0∧Hp [] w wr [.obj 1 S (RowAt 9 1 (.slice p 0 c) 0 ([]) S)])∨(∃ p c S,s6= .slice p 4 c∧s27= .int .i64 1∧Hp [] w wr [.obj 1 S (RowAt 9 1 (.slice p 4 c) 4 (A.map strV) S)])∨(∃ p c S,s6= .slice p 5 c∧s27= .int .i64 2∧Hp [] w wr [.obj 1 S (RowAt 9 1 (.slice p 5 c) 5 (A.map strV++[strV x]) S)])∨(∃ p c S,s6= .slice p 6 c∧s27= .int .i64 3∧Hp [] w wr [.obj 1 S (RowAt 9 1 (.slice p 6 c) 6 (A.map strV++[strV x]++[strV y]) S)])∨(∃ p c S,s6= .slice p 7 c∧s27= .int .i64 4∧Hp [] w wr [.obj 1 S (RowAt 9 1 (.slice p 7 c) 7 (A.map strV++[strV x]++[strV y]++[strV z]) S)])) (fun _ v _ =>4 - (intOf v).toNat)
   case atStart=>exact .inl ⟨_,_,_,rfl,rfl,H⟩
   case round=>
    clear H
    rcases hrel with ⟨p,c,S,rfl,rfl,H⟩ | ⟨p,c,S,rfl,rfl,H⟩ | ⟨p,c,S,rfl,rfl,H⟩ | ⟨p,c,S,rfl,rfl,H⟩ | ⟨p,c,S,rfl,rfl,H⟩
    ·skip
     (revert H;refine W7096 ?_ <;>unhygienic intros)
     go_roundw
     case rel=>exact .inr (.inl ⟨_,_,_,rfl,rfl,H⟩)
     case measure=>(simp [intOf];try omega)
    ·skip
     (revert H;refine W8035 ?_ <;>unhygienic intros)
     go_roundw
     case rel=>exact .inr (.inr (.inl ⟨_,_,_,rfl,rfl,H⟩))
     case measure=>(simp [intOf];try omega)
    ·skip
     (revert H;refine We5e9 ?_ <;>unhygienic intros)
     go_roundw
     case rel=>exact .inr (.inr (.inr (.inl ⟨_,_,_,rfl,rfl,H⟩)))
     case measure=>(simp [intOf];try omega)
    ·skip
     (revert H;refine Wf8e1 ?_ <;>unhygienic intros)
     go_roundw
     case rel=>exact .inr (.inr (.inr (.inr ⟨_,_,_,rfl,rfl,H⟩)))
     case measure=>(simp [intOf];try omega)
    ·skip
     (revert H;refine W179f ?_ <;>unhygienic intros)
     go_ret
     refine ⟨_,rfl,H.fr, ?_⟩
     simp only [List.map_append,List.map_cons,List.map_nil]
     exact (H.rowo 1).owns (fun x hx=>(H.home 1 x hx).resolve_left (by simp))
end Go.Proofs.YtoiebebjgnpkmaaGreatDoor
namespace Go.Proofs.YtoiebebjgnpkmaaGreatDoor
set_option linter.unusedSimpArgs false
set_option linter.unusedVariables false
set_option maxRecDepth 100000
theorem dread_neg {t:List UInt8} (h:dsg t=(false,t)) {neg:Bool} {ds:List UInt8} {b:Nat} {x:Int} (hr:dread t=some (neg,ds,b,x)):neg=false∧dread (45::t)=some (true,ds,b,x):=by
 unfold dread at hr ⊢
 rw [show dsg (45::t)=(true,t) from rfl]
 rw [h] at hr
 simp only [] at hr ⊢
 split at hr
 ·cases hr
 ·next h0=>
  rw [if_neg h0]
  split at hr
  ·next he=>
   simp only [Option.some.injEq,Prod.mk.injEq] at hr
   obtain ⟨rfl,rfl,rfl,rfl⟩:=hr
   exact ⟨rfl,rfl⟩
  ·next e r he=>
   by_cases hE:isE e=true
   ·rw [if_pos hE] at hr ⊢
    cases hd:dexp r with
    | none=>rw [hd] at hr;cases hr
    | some y=>
     rw [hd] at hr
     simp only [Option.map_some,Option.some.injEq,Prod.mk.injEq] at hr ⊢
     obtain ⟨rfl,rfl,rfl,rfl⟩:=hr
     simp
   ·rw [if_neg hE] at hr;cases hr
theorem pz_minus {t:List UInt8} {z:Nat} (h:dsg t=(false,t)) (hl:t.length≤1023) (hz:dpz 1024 t 0=(z,0)):dpz 1024 (45::t) 0=(z+9223372036854775808,0):=by
 have hz2:=hz
 unfold dpz at hz2
 rw [if_neg (by omega)] at hz2
 cases hr:dread t with
 | none=>rw [hr] at hz2;simp at hz2
 | some q=>
  obtain ⟨neg,ds,b,x⟩:=q
  rw [hr] at hz2
  simp only [] at hz2
  by_cases hx:x< -99999∨99999<x
  ·rw [if_pos hx] at hz2;simp at hz2
  ·rw [if_neg hx] at hz2
   simp only [Prod.mk.injEq,and_true] at hz2
   obtain ⟨rfl,h2⟩:=dread_neg h hr
   rw [dpz_of 0 (by rw [List.length_cons];omega) h2 (by omega)]
   have:=dval_mir 0 (num ds) (x - b)
   rw [show mir 0=0 from rfl,hz2] at this
   rw [this]
theorem fmt_back {b z:Nat} {l:List UInt8} (hb:b<18446744073709551616) (hz:b % 9223372036854775808=z) (h0:0<z) (hz1:z<9218868437227405312) (h:Fmt b z l):dpz 1024 l 0=(b,0):=by
 obtain ⟨n,ds,x,h1,h2,h3,h4,h5,rfl⟩:=h
 unfold mns
 by_cases hm:9223372036854775808≤b
 ·rw [if_pos hm,List.singleton_append]
  obtain ⟨k,k1,k2,hl,hd,hq,hx,_⟩:=h3.val h0 h1
  obtain ⟨b1,b2⟩:=k_bounds h0 hz1 k1 k2
  have hf:=fmt_short (x:=x) (by omega)
  have e1:(ds.take 1).length≤1:=by rw [List.length_take];omega
  have e2:(if 1<n then 46::ds.drop 1 else []).length≤n:=by
   split
   ·rw [List.length_cons,List.length_drop];omega
   ·exact Nat.zero_le _
  have hs:dsg (txt n ds x)=(false,txt n ds x):=by
   cases ds with
   | nil=>simp at hl;omega
   | cons c r=>
    rw [List.all_cons,Bool.and_eq_true] at hd
    exact dsg_cons hd.1 _
  have:=pz_minus hs (by unfold txt;rw [List.length_append,List.length_append,List.length_cons];omega) h4
  rw [this]
  congr 1;omega
 ·rw [if_neg hm,List.nil_append,h4]
  congr 1;omega
theorem zero_back {b:Nat} (hb:b<18446744073709551616) (hz:b % 9223372036854775808=0):dpz 1024 (mns b++[48]) 0=(b,0):=by
 obtain rfl | rfl:b=0∨b=9223372036854775808:=by omega
 ·decide+kernel
 ·decide+kernel
theorem fma_of {b z:Nat} {l:List UInt8} (hb:b<18446744073709551616) (hz:b % 9223372036854775808=z) (h0:0<z) (hz1:z<9218868437227405312) (h:Fmt b z l):FmA b l:=by
 have hbk:=fmt_back hb hz h0 hz1 h
 obtain ⟨n,ds,x,h1,h2,h3,h4,h5,rfl⟩:=h
 obtain ⟨k,k1,k2,hl,hd,hq,hx,_⟩:=h3.val h0 h1
 obtain ⟨b1,b2⟩:=k_bounds h0 hz1 k1 k2
 have hm:mns b=sgl (decide (9223372036854775808≤b)):=by
  unfold mns sgl
  by_cases hm:9223372036854775808≤b
  ·rw [if_pos hm,decide_eq_true hm];rfl
  ·rw [if_neg hm,decide_eq_false hm];rfl
 have hall:∀ c∈ds,dig c=true:=List.all_eq_true.1 hd
 refine .inl ⟨decide (9223372036854775808≤b),ds.take 1,ds.drop 1,x, ?_,by rw [List.length_take];omega, ?_,by rw [List.length_drop];omega,by omega,by omega, ?_,hbk⟩
 ·exact List.all_eq_true.2 fun c hc=>hall c (List.mem_of_mem_take hc)
 ·exact List.all_eq_true.2 fun c hc=>hall c (List.mem_of_mem_drop hc)
 ·rw [hm]
  unfold txt
  congr 3
  by_cases hn:1<n
  ·rw [if_pos hn,if_neg]
   intro he
   have:=congrArg List.length he
   rw [List.length_drop,List.length_nil] at this
   omega
  ·rw [if_neg hn,if_pos]
   exact List.eq_nil_of_length_eq_zero (by rw [List.length_drop];omega)
theorem fma_zero {b:Nat} (hb:b<18446744073709551616) (hz:b % 9223372036854775808=0):FmA b (mns b++[48]):=by
 refine .inr ⟨decide (9223372036854775808≤b), ?_,zero_back hb hz⟩
 unfold mns sgl
 by_cases hm:9223372036854775808≤b
 ·rw [if_pos hm,decide_eq_true hm];rfl
 ·rw [if_neg hm,decide_eq_false hm];rfl
end Go.Proofs.YtoiebebjgnpkmaaGreatDoor
namespace Go.Proofs.YtoiebebjgnpkmaaGreatDoor
open Go.RowKit
set_option linter.unusedSimpArgs false
set_option linter.unusedVariables false
set_option maxHeartbeats 8000000
set_option maxRecDepth 100000
attribute [local irreducible] wpList Code.wp Plan.wp
theorem formatZ_any (w:World) {b:Nat} (hb:b<18446744073709551616) (hk:Hid (kindF b=0)) {l:List UInt8} (hl:Hid (mns b++[48]=l)):
 Calls Tryz.prog 47 #[.int .u64 (b:Int)] w fun r w'=>r= .returned (strV l)∧Fr [] w w':=by
 by_cases hm:9223372036854775808≤b
 ·have HI:=hid (show (if 9223372036854775808≤b then 9223372036854775808 else 0:Nat)=9223372036854775808 from if_pos hm)
  have HM:Hid ([45]++[48]=l):=hid (by rw [← hl.out];unfold mns;rw [if_pos hm])
  clear hm
  have H:=Hp.start [] w
  go_enter Tryz.func47,Tryz.ntmps47
  (revert H;refine We9cc ?_ <;>unhygienic intros)
  (refine x_c H (kindI_any _ hb hk) ?_;clear H;rintro e w1 ⟨rfl,hF⟩ H;clear hF)
  (revert H;refine W158f ?_ <;>unhygienic intros)
  go_ret
  exact ⟨by first | rfl | (rw [← HM.out];rfl),H.fr⟩
 ·have HI:=hid (show (if 9223372036854775808≤b then 9223372036854775808 else 0:Nat)=0 from if_neg hm)
  have HM:Hid ([]++[48]=l):=hid (by rw [← hl.out];unfold mns;rw [if_neg hm])
  clear hm
  have H:=Hp.start [] w
  go_enter Tryz.func47,Tryz.ntmps47
  (revert H;refine We9cc ?_ <;>unhygienic intros)
  (refine x_c H (kindI_any _ hb hk) ?_;clear H;rintro e w1 ⟨rfl,hF⟩ H;clear hF)
  (revert H;refine W8f39 ?_ <;>unhygienic intros)
  go_ret
  exact ⟨by first | rfl | (rw [← HM.out];rfl),H.fr⟩
theorem formatA_any (w:World) {b:Nat} (hb:b<18446744073709551616) (hf:finF b=true) (hT:La w):
 Calls Tryz.prog 47 #[.int .u64 (b:Int)] w fun r w'=>∃ l,r= .returned (strV l)∧Fr [] w w'∧FmA b l:=by
 unfold finF at hf
 have hx:b / 4503599627370496 % 2048≠2047:=by simpa using hf
 have hlt:b % 9223372036854775808<9218868437227405312:=by omega
 have hk:kindF b=0∧b % 9223372036854775808=0∨kindF b=1∧0<b % 9223372036854775808:=by
  unfold kindF
  rw [if_neg hx]
  split
  ·next h=>exact .inl ⟨rfl,by omega⟩
  ·next h=>exact .inr ⟨rfl,by omega⟩
 rcases hk with ⟨hk,hz⟩ | ⟨hk,hz⟩
 ·refine Calls.mono (formatZ_any w hb (hid hk) (hid rfl)) ?_
  rintro r w' ⟨rfl,hF⟩
  exact ⟨_,rfl,hF,fma_zero hb hz⟩
 ·refine Calls.mono (format_any1 w hb hk (hid rfl) hz hlt hT) ?_
  rintro r w' ⟨l,rfl,hF,hl⟩
  exact ⟨l,rfl,hF,fma_of hb rfl hz hlt hl⟩
theorem fma_len {b:Nat} {l:List UInt8} (h:FmA b l):l.length≤40:=by
 rcases h with ⟨neg,a,r,x,ha,hal,hr,hrl,hx1,hx2,rfl,hp⟩ | ⟨neg,rfl,hp⟩
 ·have h1:(sgl neg).length≤1:=by cases neg<;>decide
  have h2:=fmt_short (x:=x) (by omega)
  simp only [List.length_append,List.length_cons]
  split
  ·simp only [List.length_nil];omega
  ·simp only [List.length_cons];omega
 ·have h1:(sgl neg).length≤1:=by cases neg<;>decide
  simp only [List.length_append,List.length_cons,List.length_nil]
  omega
theorem vtext_any (w:World) {b:Nat} (hb:b<18446744073709551616) (hf:finF b=true) (hT:La w):
 Calls Tryz.prog 14 #[.int .u64 (b:Int)] w fun e w'=>∃ l,e= .returned (strV (textP l))∧Fr [] w w'∧FmA b l:=by
 have HT:=hid hT;have HF:=hid hf
 clear hT hf
 have H:=Hp.start [] w
 go_enter Tryz.func14,Tryz.ntmps14
 (revert H;refine W179f ?_ <;>unhygienic intros)
 (refine x_c H (formatA_any _ hb HF.out (HT.out.fr H.fr)) ?_;clear H;rintro e w1 ⟨l,rfl,hF,hl⟩ H;clear hF)
 have hll:=fma_len hl
 obtain ⟨x,y,k,hcut⟩:∃ x y k,Lib.cut l [101]=(x,y,k):=⟨_,_,_,rfl⟩
 have hxl:x.length≤40∧y.length≤40:=by
  unfold Lib.cut at hcut
  split at hcut
  ·cases hcut
   rw [List.length_take,List.length_drop]
   omega
  ·cases hcut
   exact ⟨hll,Nat.zero_le _⟩
 have hxl1:=hxl.1
 have hyl1:=hxl.2
 have HL:=hid hl
 have HCUT:=hid hcut
 obtain ⟨d,hd⟩:∃ d,decide ((46:UInt8)∈x)=d:=⟨_,rfl⟩
 obtain ⟨x2,hx2⟩:∃ x2,x++[46,48]=x2:=⟨_,rfl⟩
 have HX2:=hid hx2
 have hx2l:x2.length≤42:=by rw [← hx2,List.length_append];simp only [List.length_cons,List.length_nil];omega
 have HD:=hid hd
 obtain ⟨u,hu⟩:∃ u,(if d then x else x2)=u:=⟨_,rfl⟩
 have hul:u.length≤42:=by rw [← hu];split<;>omega
 obtain ⟨v,hv⟩:∃ v,(if k then y else [48])=v:=⟨_,rfl⟩
 have hvl:v.length≤40:=by rw [← hv];split;omega;decide
 obtain ⟨u1,hu1⟩:∃ u1,u++[69]=u1:=⟨_,rfl⟩
 have hu1l:u1.length≤43:=by rw [← hu1,List.length_append];simp only [List.length_cons,List.length_nil];omega
 have HU1:=hid hu1
 obtain ⟨t,ht⟩:∃ t,u1++v=t:=⟨_,rfl⟩
 have HT1:=hid ht
 have HE:=hid (show textP l=t by
  rw [← ht,← hu1,← hu,← hv,← hx2,← hd]
  unfold textP
  rw [hcut]
  simp only [decide_eq_true_eq,List.append_assoc,List.singleton_append])
 clear hl hxl hcut hd hx2 hu1 ht
 (revert H;refine W179f ?_ <;>unhygienic intros)
 (refine x_c H (cutc_any _ l 101 (by omega) HCUT) ?_;clear H;rintro e w1 ⟨rfl,hF⟩ H;clear hF)
 clear hll
 cases k with
 | false=>
  obtain rfl:[48]=v:=hv
  cases d with
  | false=>
   obtain rfl:x2=u:=hu
   (revert H;refine W179f ?_ <;>unhygienic intros)
   (refine x_c H (contains_any _ x HD) ?_;clear H;rintro e w1 ⟨rfl,hF⟩ H;clear hF)
   (revert H;refine We0bf ?_ <;>unhygienic intros)
   go_ret
   exact ⟨l,by rw [HE.out];rfl,H.fr,HL.out⟩
  | true=>
   obtain rfl:x=u:=hu
   (revert H;refine W179f ?_ <;>unhygienic intros)
   (refine x_c H (contains_any _ x HD) ?_;clear H;rintro e w1 ⟨rfl,hF⟩ H;clear hF)
   (revert H;refine Wf63e ?_ <;>unhygienic intros)
   go_ret
   exact ⟨l,by rw [HE.out];rfl,H.fr,HL.out⟩
 | true=>
  obtain rfl:y=v:=hv
  cases d with
  | false=>
   obtain rfl:x2=u:=hu
   (revert H;refine W179f ?_ <;>unhygienic intros)
   (refine x_c H (contains_any _ x HD) ?_;clear H;rintro e w1 ⟨rfl,hF⟩ H;clear hF)
   (revert H;refine W9da0 ?_ <;>unhygienic intros)
   go_ret
   exact ⟨l,by rw [HE.out];rfl,H.fr,HL.out⟩
  | true=>
   obtain rfl:x=u:=hu
   (revert H;refine W179f ?_ <;>unhygienic intros)
   (refine x_c H (contains_any _ x HD) ?_;clear H;rintro e w1 ⟨rfl,hF⟩ H;clear hF)
   (revert H;refine W14b9 ?_ <;>unhygienic intros)
   go_ret
   exact ⟨l,by rw [HE.out];rfl,H.fr,HL.out⟩
end Go.Proofs.YtoiebebjgnpkmaaGreatDoor
namespace Go.Proofs.YtoiebebjgnpkmaaGreatDoor
open Go.RowKit
set_option linter.unusedSimpArgs false
set_option linter.unusedVariables false
set_option maxHeartbeats 8000000
set_option maxRecDepth 100000
theorem strs_map (gs:List (List UInt8)):(gs.map fun s=>(⟨s.toArray⟩:ByteArray)).map (·.data.toList)=gs:=by
 rw [List.map_map]
 conv=>rhs;rw [← List.map_id gs]
 exact List.map_congr_left (fun s _ =>by simp)
theorem joinF_any {w:World} {g c n:Nat} (gs:List (List UInt8)) (hln:gs.length=n) (hc:∀ (j:Nat) u,(gs.map strV)[j]? =some u→w.cell? ⟨g,j,none⟩=some u) (hg:g<w.heap.size) (hn:n≤1000000) (hcap:n≤c) {s:List UInt8} (hl:s.length≤1000000) (hs:Hid (Lib.join gs [10]=s)):
 Calls Tryz.prog 19 #[.slice (some ⟨g,0,none⟩) n c, .string (ByteArray.mk #[10])] w fun e w'=>e= .returned (strV s)∧Fr [] w w':=by
 subst hln
 have hm:=strs_map gs
 have hj:Lib.join gs (ByteArray.mk #[10]).data.toList=s:=hs.out
 have h:=Tryz.strings_Join g 0 c (gs.map fun s=>(⟨s.toArray⟩:ByteArray)) (ByteArray.mk #[10]) w (fun j x hx=>by
  rw [List.getElem?_map] at hx
  obtain ⟨s,hs,rfl⟩:=Option.map_eq_some_iff.1 hx
  rw [Nat.zero_add]
  exact hc j (strV s) (by rw [List.getElem?_map,hs];rfl)) hg (by rw [List.length_map];omega) (by rw [List.length_map];exact hcap) (by rw [hm,hj];omega)
 rw [hm,List.length_map] at h
 refine Calls.mono h ?_
 rintro e w' ⟨rfl,hb⟩
 exact ⟨by rw [hj];rfl,Fr.of_below hb⟩
theorem leftF_any (w:World) (s:List UInt8) (n:Nat) (hs:s.length≤1000) (hn:n≤1000) {r:List UInt8} (hr:Hid (spR n s=r)):
 Calls Tryz.prog 16 #[strV s, .int .i64 (n:Int)] w fun e w'=>e= .returned (strV r)∧Fr [] w w':=by
 refine Calls.mono (bleft_any w s n hs hn) ?_
 rintro e w' ⟨rfl,hb⟩
 exact ⟨by rw [hr.out],Fr.of_below hb⟩
theorem kindF_any' (w:World) (v1 v2 v3:Value):
 Calls Tryz.prog 18 #[.agg #[strV [],strV [], .int .i64 1, .int .i64 1,v1,v2,v3, .bool false, .int .i64 0]] w fun e w'=>e= .returned (strV [82,85,65])∧Fr [] w w':=by
 refine Calls.mono (bkind_any w v1 v2 v3) ?_
 rintro e w' ⟨rfl,hb⟩
 exact ⟨rfl,Fr.of_below hb⟩
theorem sectionF_any (w:World) {g cap n:Nat} (L:List (List UInt8)) (hn:L.length=n) (h1:1≤n) (c wd:Nat) (p s:Int) (hlc:n≤c) (hc:c≤999) (hwd:wd≤100) (hcap:n≤cap)
 (hL:∀ j u,(L.map strV)[j]? =some u→w.cell? ⟨g,j,none⟩=some u) (hLs:∀ u∈L,u.length≤100) {r:List UInt8} (hr:Hid (lineP wd L=r)):
 Calls Tryz.prog 15 #[.slice (some ⟨g,0,none⟩) n cap, .agg #[.int .i64 (c:Int), .int .i64 (wd:Int), .int .i64 p, .int .i64 s]] w fun e w'=>∃ v,e= .returned v∧Fr [] w w'∧w'.ownsRow w.heap.size 9 1 v 1 [strV r]:=by
 have hlt:g<w.heap.size:=by
  obtain ⟨u,hu⟩:∃ u,L[0]? =some u:=⟨_,List.getElem?_eq_getElem (by omega)⟩
  exact block_lt_of_cell (hL 0 (strV u) (by rw [List.getElem?_map,hu];rfl))
 refine Calls.mono (section_any w (b:=g) (off:=0) L hn h1 c wd p s hlc hc hwd hcap hlt (fun j u hj=>by rw [Nat.zero_add];exact hL j _ (by rw [List.getElem?_map,hj];rfl)) hLs) ?_
 rintro e w' ⟨v,rfl,hb,ho⟩
 exact ⟨v,rfl,Fr.of_below hb,by rw [← hr.out];exact ho⟩
theorem row_l1:rowP [3,1,1,1,0]=bL1:=by decide+kernel
theorem row_l2:spR 14 [82,85,65]++rowP [1,1,1,0]=bL2:=by decide+kernel
theorem fmts_l3:spR 16 [40,56,73,49,48,41]++spR 16 [40,56,73,49,48,41]++[40,51,69,50,54,46,49,56,41]=vL3:=by decide+kernel
theorem line_l4:lineP 10 [[49],[50]]=vL4:=by decide+kernel
theorem line_l5:lineP 10 [[49]]=vL5:=by decide+kernel
theorem line_l6 (t:List UInt8):lineP 26 [t]=sp 26 t:=by
 unfold lineP
 rw [List.flatMap_cons,List.flatMap_nil,List.append_nil]
 rfl
theorem join_file (t:List UInt8):Lib.join [List.replicate 72 32,bL1,bL2,vL3,vL4,vL5,sp 26 t] [10]++[10]=vFile t:=by
 unfold vFile Lib.join
 generalize List.replicate 72 (32:UInt8)=a
 generalize bL1=b;generalize bL2=c;generalize vL3=d;generalize vL4=e;generalize vL5=f;generalize sp 26 t=g
 simp [List.intercalate]
end Go.Proofs.YtoiebebjgnpkmaaGreatDoor
