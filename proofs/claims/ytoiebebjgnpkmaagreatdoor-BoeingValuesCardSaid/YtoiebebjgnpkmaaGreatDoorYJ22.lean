import Derived.Test.YtoiebebjgnpkmaaGreatDoorYJ0
import Derived.Test.YtoiebebjgnpkmaaGreatDoorYJ21
import Derived.Test.YtoiebebjgnpkmaaGreatDoorYJ47
import Derived.Test.YtoiebebjgnpkmaaGreatDoorYJ3
import Derived.Test.YtoiebebjgnpkmaaGreatDoorYJ4
namespace Go.Proofs.YtoiebebjgnpkmaaGreatDoor
open Go.RowKit
set_option linter.unusedSimpArgs false
set_option linter.unusedVariables false
set_option maxHeartbeats 8000000
set_option maxRecDepth 100000
attribute [local irreducible] wpList Code.wp Plan.wp
theorem upper_any (w:World) (s:List UInt8) (hs:s.length≤4000000):
 Calls Tryz.prog 62 #[strV s] w fun e w'=>e= .returned (strV (ups s))∧Fr [] w w':=by
 have H:=Hp.start [] w
 go_enter Tryz.func62,Tryz.ntmps62
 (revert H;refine W1bbc ?_ <;>unhygienic intros)
 go_loopw [10] (fun s10 wr=>∃ (k:Nat) (cur:List UInt8),s10= .int .i64 (k:Int)∧k≤s.length∧Hid (cur=upk k s)∧Hid (cur.length=s.length)∧Hp [] w wr [.obj 1 [g] (OwnM (.slice (some ⟨g,0,none⟩) cur.length cap) cur [g])]) (fun v _ =>s.length - (intOf v).toNat)
 case atStart=>exact ⟨0,s,rfl,Nat.zero_le _,hid (by simp [upk]),hid rfl,H⟩
 case round=>
  clear H
  obtain ⟨k,cur,rfl,hk,HC,HL,H⟩:=hrel
  by_cases hlt:k<s.length
  ·obtain ⟨c,hc⟩:∃ c,s[k]? =some c:=⟨_,List.getElem?_eq_getElem hlt⟩
   have hcc:cur[k]? =some c:=by rw [HC.out];exact upk_get hc
   obtain ⟨n,hn⟩:∃ n,c.toNat=n:=⟨_,rfl⟩
   by_cases hu:97≤n∧n≤122
   ·have HC2:=hid (show cur.set k (up1 c)=upk (k+1) s by rw [HC.out];exact upk_next hc)
    have HN:=hid (up1_up hn hu.1 hu.2)
    obtain ⟨h1,h2⟩:=hu
    (revert H;refine W91e3 ?_ <;>unhygienic intros)
    go_roundw
    case rel=>exact ⟨k+1,cur.set k (up1 c),rfl,by omega,HC2,hid (by rw [List.length_set];exact HL.out),H⟩
    case measure=>(simp [intOf];try omega)
   ·have HC2:=hid (show cur=upk (k+1) s by rw [HC.out,upk_same hc (up1_id (by rw [hn];exact hu))])
    have hu2:n<97∨(97≤n∧122<n):=by omega
    clear hu HC
    rcases hu2 with h1 | ⟨h1,h2⟩
    ·(revert H;refine Wba3d ?_ <;>unhygienic intros)
     go_roundw
     case rel=>exact ⟨k+1,cur,rfl,by omega,HC2,HL,H⟩
     case measure=>(simp [intOf];try omega)
    ·(revert H;refine Wba3d ?_ <;>unhygienic intros)
     go_roundw
     case rel=>exact ⟨k+1,cur,rfl,by omega,HC2,HL,H⟩
     case measure=>(simp [intOf];try omega)
  ·have hke:k=s.length:=by omega
   have HZ:=hid (show cur=ups s by rw [HC.out,hke];unfold upk ups;simp)
   clear hke HC
   (revert H;refine Wab28 ?_ <;>unhygienic intros)
   go_ret
   exact ⟨by first | rfl | (rw [HZ.out];rfl),H.fr⟩
end Go.Proofs.YtoiebebjgnpkmaaGreatDoor
namespace Go.Proofs.YtoiebebjgnpkmaaGreatDoor
set_option linter.unusedSimpArgs false
set_option linter.unusedVariables false
def cntE (S:List En) (j:Nat):Nat:=(S.filter fun x=>decide (x.2.1=j)).length
def stsE (A:List En) (cols:Nat):List Nat:=0::(List.range cols).map (cntE A)
def mixE (S:List En) (cols j:Nat):List Nat:=(List.range (j+1)).map (pre S)++((List.range cols).drop j).map (cntE S)
def Lb (xs:List Nat) (t i:Nat):Prop:=i≤xs.length∧(∀ k x,k<i→xs[k]? =some x→x<t)∧∀ k x,i≤k→xs[k]? =some x→t≤x
theorem Lb.hit {xs:List Nat} {t i p:Nat} (h:Lb xs t i) (hs:xs.Pairwise (· <·)) (hp:xs[p]? =some t):i=p:=by
 obtain ⟨h0,h1,h2⟩:=h
 have hpl:=(List.getElem?_eq_some_iff.1 hp).1
 rcases Nat.lt_trichotomy i p with k | k | k
 ·exfalso
  have hx:xs[i]? =some xs[i]:=List.getElem?_eq_getElem (by omega)
  have:=h2 i _ (Nat.le_refl _) hx
  have h3:=List.pairwise_iff_getElem.1 hs i p (by omega) hpl k
  have h4:=(List.getElem?_eq_some_iff.1 hp).2
  omega
 ·exact k
 ·exfalso
  have:=h1 p t k hp
  omega
theorem Lb.at {xs:List Nat} {t i:Nat} (h:Lb xs t i) (hs:xs.Pairwise (· <·)):(xs[i]? ==some t)=xs.contains t:=by
 by_cases hm:t∈xs
 ·obtain ⟨p,hp⟩:=List.mem_iff_getElem?.1 hm
  rw [h.hit hs hp,hp]
  simp [hm]
 ·have e:xs.contains t=false:=by simpa using hm
  rw [e]
  simp only [beq_eq_false_iff_ne,ne_eq]
  intro h2
  exact hm (List.mem_of_getElem? h2)
end Go.Proofs.YtoiebebjgnpkmaaGreatDoor
namespace Go.Proofs.YtoiebebjgnpkmaaGreatDoor
open Go.RowKit
set_option linter.unusedSimpArgs false
set_option linter.unusedVariables false
set_option maxHeartbeats 8000000
set_option maxRecDepth 100000
attribute [local irreducible] wpList Code.wp Plan.wp
end Go.Proofs.YtoiebebjgnpkmaaGreatDoor
namespace Go.Proofs.YtoiebebjgnpkmaaGreatDoor
open Go.RowKit
set_option linter.unusedSimpArgs false
set_option linter.unusedVariables false
set_option maxHeartbeats 8000000
set_option maxRecDepth 100000
attribute [local irreducible] wpList Code.wp Plan.wp
theorem flatE_one (E:List En):∀ u∈E.flatMap eC,u.oneCell'=true:=by
 intro u hu
 obtain ⟨x,_,h⟩:=List.mem_flatMap.1 hu
 exact eC_one x u h
theorem cloneE_any (w:World) {p:Option Addr} {c:Nat} (E:List En) (hr:Rd w (.slice p E.length c) E.length (E.flatMap eC)) (hE:E.length≤100000):
 Calls Tryz.prog 78 #[.slice p E.length c] w fun e w'=>∃ v,e= .returned v∧Fr [] w w'∧w'.ownsRow w.heap.size 46 3 v E.length (E.flatMap eC):=by
 have HR:=hid hr
 have H:=Hp.start [] w
 clear hr
 go_enter Tryz.func78,Tryz.ntmps78
 cases p with
 | none=>
  have hE0:E=[]:=by
   rcases HR.out with ⟨h1,_⟩ | ⟨ad,c',h1,_⟩
   ·exact List.eq_nil_of_length_eq_zero h1
   ·cases h1
  subst hE0
  go_wp2_with (first | refine x_q H ?_ | refine x_cm (fun h=> ?_) (fun h=> ?_) | refine x_l H ?_ | (revert H;(first | (refine x_g ?_;intro g w1 hg hf H) | (refine x_s ?_;intro w1 hf H) | (refine x_sF ?_;intro w1 hf H hk;clear hf hk));(first | replace hf:=hf.kp | clear hf)))
  (refine bodyPost_ret (results_tmp rfl _ _ _) rfl ?_)
  exact ⟨_,rfl,H.fr,World.ownsRow_nil _ _ _ _⟩
 | some p=>
  by_cases h0:E.length<1
  ·have h1:E=[]:=List.eq_nil_of_length_eq_zero (by omega)
   subst h1
   go_wp2_with (first | refine x_q H ?_ | refine x_cm (fun h=> ?_) (fun h=> ?_) | (refine is_buildSlice rfl ?_;refine wl_rw rfl (fun K hK=>c_sN H rfl (by repeat first | exact .nil _ | apply Parts.tmp (by rfl) (by rfl) | apply Parts.con (by rfl)) rfl (by intro c hc;simp only [List.mem_cons,List.not_mem_nil,or_false] at hc;(try (rcases hc with rfl | rfl | rfl | rfl | rfl | rfl | rfl | rfl<;>rfl))) (by decide) (by decide) (fun g w1 hg hf H1=>hK _ _ ?_));(clear hK K);(clear H;have H:=H1;clear H1;(try dsimp only at H);(first | replace hf:=hf.kp | clear hf));(simp only [nrm,↓reduceIte,Nat.reduceAdd])) | (refine is_blt (b:= .append) rfl ?_;refine wl_rw rfl (fun K hK=>c_apz H rfl rfl rfl (by omega) (fun w1 hf H1=>hK _ _ ?_));(clear hK K);(clear H;have H:=H1;clear H1;(try dsimp only at H);(first | replace hf:=hf.kp | clear hf));(simp only [nrm,↓reduceIte,Nat.reduceAdd])) | (revert H;(first | (refine x_g ?_;intro g w1 hg hf H) | (refine x_s ?_;intro w1 hf H));(first | replace hf:=hf.kp | clear hf)))
   (refine bodyPost_ret (results_tmp rfl _ _ _) rfl ?_)
   exact ⟨_,rfl,H.fr,⟨rfl, .inr ⟨g,0,#[],rfl,by omega,by simpa using H.at g,Nat.le_refl _,Nat.zero_le _,rfl,rfl⟩⟩⟩
  ·go_wp2_with (first | refine x_q H ?_ | refine x_cm (fun h=> ?_) (fun h=> ?_) | (refine is_buildSlice rfl ?_;refine wl_rw rfl (fun K hK=>c_sN H rfl (by repeat first | exact .nil _ | apply Parts.tmp (by rfl) (by rfl) | apply Parts.con (by rfl)) rfl (by intro c hc;simp only [List.mem_cons,List.not_mem_nil,or_false] at hc;(try (rcases hc with rfl | rfl | rfl | rfl | rfl | rfl | rfl | rfl<;>rfl))) (by decide) (by decide) (fun g w1 hg hf H1=>hK _ _ ?_));(clear hK K);(clear H;have H:=H1;clear H1;(try dsimp only at H);(first | replace hf:=hf.kp | clear hf));(simp only [nrm,↓reduceIte,Nat.reduceAdd])) | (refine is_blt (b:= .append) rfl ?_;go_loud (refine wl_rw rfl (fun K hK=>c_apo H rfl rfl rfl List.prefix_rfl rfl rfl (Nat.zero_le _) (HR.out.fr H.fr (by simp)) (flatE_len E) (flatE_one E) (by omega) (by omega) (by first | omega | (unfold maxLen;omega)) (fun g w1 cap pad hg hc hcm hpl hf H1=>hK _ _ ?_)));(clear hK K);(clear H;have H:=H1;clear H1;(try dsimp only at H);(first | replace hf:=hf.kp | clear hf));(simp only [nrm,↓reduceIte,Nat.reduceAdd])) | (revert H;(first | (refine x_g ?_;intro g w1 hg hf H) | (refine x_s ?_;intro w1 hf H));(first | replace hf:=hf.kp | clear hf)))
   (refine bodyPost_ret (results_tmp rfl _ _ _) rfl ?_)
   have hat:=H.at g
   have hr:RowAt 46 3 (.slice (some ⟨g,0,none⟩) E.length cap) E.length (E.flatMap eC) [g] w1:=⟨flatE_len E, .inr ⟨g,cap,pad,rfl,rfl,by omega,hcm,by simpa using hpl,by simpa using hat⟩⟩
   exact ⟨_,rfl,H.fr,hr.owns (fun x hx=>by simp only [List.mem_singleton] at hx;subst hx;omega)⟩
def EntsB (q:Nat) (E:List En) (pad:List Value) (w:World):Prop:=w.heap[q]? =some (.cells (E.flatMap eC++pad).toArray 46 (0,0))
theorem EntsB.firm {q:Nat} {E:List En} {pad:List Value}:Firm [q] (EntsB q E pad):=
 ⟨fun w w' R k hn h=>k.get h (hn q (by simp)),fun w h x hx=>by simp only [List.mem_singleton] at hx;subst hx;exact lt_of_get h,fun w h=>by simp⟩
instance {q:Nat} {E:List En} {pad:List Value}:Fm [q] (EntsB q E pad):=⟨EntsB.firm⟩
end Go.Proofs.YtoiebebjgnpkmaaGreatDoor
namespace Go.Proofs.YtoiebebjgnpkmaaGreatDoor
open Go.RowKit
set_option linter.unusedSimpArgs false
set_option linter.unusedVariables false
set_option maxHeartbeats 8000000
set_option maxRecDepth 100000
attribute [local irreducible] wpList Code.wp Plan.wp
def iV (n:Nat):Value:= .int .i64 (n:Int)
theorem isnanS_any (w:World) (x:Int):Calls Tryz.prog 87 #[.int .i64 x] w fun e w'=>e= .returned (.bool false)∧Fr [] w w':=by
 have H:=Hp.start [] w
 go_enter Tryz.func87,Tryz.ntmps87
 ((try simp only [Int.not_lt,Int.not_le] at*);revert H;refine W2af9 ?_ <;>unhygienic intros)
 go_ret
 exact ⟨rfl,H.fr⟩
theorem less_any (w:World) (x y:Int) {b:Bool} (hb:Hid (decide (x<y)=b)):Calls Tryz.prog 86 #[.int .i64 x, .int .i64 y] w fun e w'=>e= .returned (.bool b)∧Fr [] w w':=by
 have H:=Hp.start [] w
 by_cases h1:x<y
 ·have HB:Hid (b=true):=hid (by rw [← hb.out];simp [h1])
  go_enter Tryz.func86,Tryz.ntmps86
  ((try simp only [Int.not_lt,Int.not_le] at*);revert H;refine W2af9 ?_ <;>unhygienic intros)
  (refine x_c H (isnan_any _ x) ?_;clear H;rintro e w1 ⟨rfl,hF⟩ H;clear hF)
  ((try simp only [Int.not_lt,Int.not_le] at*);revert H;refine W2af9 ?_ <;>unhygienic intros)
  go_ret
  exact ⟨by rw [HB.out];rfl,H.fr⟩
 ·have HB:Hid (b=false):=hid (by rw [← hb.out];simp [h1])
  go_enter Tryz.func86,Tryz.ntmps86
  ((try simp only [Int.not_lt,Int.not_le] at*);revert H;refine W2af9 ?_ <;>unhygienic intros)
  (refine x_c H (isnan_any _ x) ?_;clear H;rintro e w1 ⟨rfl,hF⟩ H;clear hF)
  ((try simp only [Int.not_lt,Int.not_le] at*);revert H;refine W2af9 ?_ <;>unhygienic intros)
  go_ret
  exact ⟨by rw [HB.out];rfl,H.fr⟩
section
variable {P:Program} {a:Act} {w:World} {o:Oper}
theorem ev_half {t t':TypeId} {x:Operand} {kk:IntKind} (ho:o.op= .binOp .shr t x (.const (.int kk 1)) t') {m z:Int} (hx:a.eval x= .int .u64 m) (hz:Hid (m / 2=z)):(execOp a.eval o).run P w= .ok (.value (.int .u64 z)) w:=by
 have e1:(eqGuard .shr t x (.const (.int kk 1)) (.int .u64 m) (.int kk 1)).run P w= .ok () w:=by unfold eqGuard;simp
 have hn:a.eval (.const (.int kk 1))= .int kk 1:=rfl
 rw [← hz.out]
 unfold execOp
 simp only [ho,hx,hn,Sem.run_bind,e1,Result.andThen_ok,binOp]
 rw [shift_shr_any _ _ _ _ (by decide)]
 rfl
theorem ev_ixN {t:TypeId} {x ix:Operand} (ho:o.op= .indexAddr t x ix) {b p n c:Nat} {k:IntKind} {i:Nat} (hx:a.eval x= .slice (some ⟨b,p,none⟩) n c) (hi:a.eval ix= .int k (i:Int)) {e:TypeId} {z:List Value} {s by':Nat} [h:Si P t e z s by'] (h1:i<n:=by omega):(execOp a.eval o).run P w= .ok (.value (.pointer (some ⟨b,p+i*s,none⟩))) w:=
 ev_indexAddr ho hx hi h.h (by omega) (by omega)
end
theorem lb_up {xs:List Nat} {t i h j x:Nat} (hs:xs.Pairwise (· <·)) (hx:xs[h]? =some x) (hlt:x<t) (k y:Nat) (hk:k<h+1) (hy:xs[k]? =some y):y<t:=by
 rcases Nat.lt_or_ge k h with g | g
 ·have e1:=List.getElem?_eq_some_iff.1 hx
  have e2:=List.getElem?_eq_some_iff.1 hy
  have:=List.pairwise_iff_getElem.1 hs k h e2.1 e1.1 g
  rw [e1.2,e2.2] at this
  omega
 ·obtain rfl:k=h:=by omega
  rw [hx] at hy
  cases hy
  exact hlt
theorem lb_dn {xs:List Nat} {t i h j x:Nat} (hs:xs.Pairwise (· <·)) (hx:xs[h]? =some x) (hlt:t≤x) (k y:Nat) (hk:h≤k) (hy:xs[k]? =some y):t≤y:=by
 rcases Nat.eq_or_lt_of_le hk with g | g
 ·subst g
  rw [hx] at hy
  cases hy
  exact hlt
 ·have e1:=List.getElem?_eq_some_iff.1 hx
  have e2:=List.getElem?_eq_some_iff.1 hy
  have:=List.pairwise_iff_getElem.1 hs h k e1.1 e2.1 g
  rw [e1.2,e2.2] at this
  omega
theorem bsearch_any (w:World) {p:Option Addr} {n c t:Nat} (xs:List Nat) (hn:xs.length=n) (hn2:n≤100000) (hs:xs.Pairwise (· <·)) (hc:∀ j u,xs[j]? =some u→∃ g o,p=some ⟨g,o,none⟩∧w.cell? ⟨g,o+j,none⟩=some (iV u)):
 Calls Tryz.prog 42 #[.slice p n c, .int .i64 (t:Int)] w fun e w'=>∃ i,e= .returned (.tuple #[.int .i64 ((i:Nat):Int), .bool (xs[i]? ==some t)])∧Fr [] w w'∧Lb xs t i:=by
 subst hn
 have HC:=hid hc
 have HS:=hid hs
 clear hc hs
 have H:=Hp.start [] w
 go_enter Tryz.func42,Tryz.ntmps42
 ((try simp only [Int.not_lt,Int.not_le] at*);revert H;refine W2af9 ?_ <;>unhygienic intros)
 go_loopw [7,8] (fun s7 s8 wr=>∃ i j:Nat,s7= .int .i64 (i:Int)∧s8= .int .i64 (j:Int)∧i≤j∧j≤xs.length∧Hid (∀ k y,k<i→xs[k]? =some y→y<t)∧Hid (∀ k y,j≤k→xs[k]? =some y→t≤y)∧Hp [] w wr []) (fun v u _ =>(intOf u).toNat - (intOf v).toNat)
 case atStart=>exact ⟨0,xs.length,rfl,rfl,Nat.zero_le _,Nat.le_refl _,hid (fun k y h=>absurd h (by omega)),hid (fun k y h hy=>absurd (List.getElem?_eq_some_iff.1 hy).1 (by omega)),H⟩
 case round=>
  clear H
  obtain ⟨i,j,rfl,rfl,hij,hj,HLo,HHi,H⟩:=hrel
  by_cases hlt:i<j
  ·obtain ⟨h,hh0⟩:∃ h,(i+j) / 2=h:=⟨_,rfl⟩
   have hh1:i≤h:=by omega
   have hh2:h<j:=by omega
   have HH:=hid (show ((i:Int)+(j:Int)) / 2=(h:Int) by omega)
   obtain ⟨x,hx⟩:∃ x,xs[h]? =some x:=⟨_,List.getElem?_eq_getElem (by omega)⟩
   have HX:=hid hx
   obtain ⟨g,o,rfl,hcell⟩:=HC.out h x hx
   have HC2:=hid hcell
   clear hh0 hx hcell
   obtain ⟨b,hb0⟩:∃ b,decide ((x:Int)<(t:Int))=b:=⟨_,rfl⟩
   have HB:=hid hb0
   clear hb0
   ((try simp only [Int.not_lt,Int.not_le] at*);revert H;refine W82f9 ?_ <;>unhygienic intros)
   (refine x_c H (less_any _ x t HB) ?_;clear H;rintro e w1 ⟨rfl,hF⟩ H;clear hF)
   cases b
   ·have hge:t≤x:=by have:=HB.out;simp at this;omega
    have HHi2:=hid (fun k y=>lb_dn (i:=i) (j:=j) HS.out HX.out hge k y)
    clear hge
    ((try simp only [Int.not_lt,Int.not_le] at*);revert H;refine W2af9 ?_ <;>unhygienic intros)
    go_roundw
    case rel=>exact ⟨i,h,rfl,rfl,hh1,by omega,HLo,HHi2,H⟩
    case measure=>(simp [intOf];try omega)
   ·have hge:x<t:=by have:=HB.out;simp at this;omega
    have HLo2:=hid (fun k y=>lb_up (i:=i) (j:=j) HS.out HX.out hge k y)
    clear hge
    ((try simp only [Int.not_lt,Int.not_le] at*);revert H;refine W2af9 ?_ <;>unhygienic intros)
    go_roundw
    case rel=>exact ⟨h+1,j,rfl,rfl,by omega,hj,HLo2,HHi,H⟩
    case measure=>(simp [intOf];try omega)
  ·obtain rfl:i=j:=by omega
   have HL:Hid (Lb xs t i):=hid ⟨hj,HLo.out,HHi.out⟩
   clear HLo HHi
   by_cases hil:i<xs.length
   ·obtain ⟨x,hx⟩:∃ x,xs[i]? =some x:=⟨_,List.getElem?_eq_getElem (by omega)⟩
    obtain ⟨g,o,rfl,hcell⟩:=HC.out i x hx
    have HC2:=hid hcell
    have HX:=hid hx
    clear hcell hx
    by_cases hxt:x=t
    ·have HR:Hid ((xs[i]? ==some t)=true):=hid (by rw [HX.out,hxt];simp)
     have HE:Hid ((x:Int)=(t:Int)):=hid (by rw [hxt])
     subst hxt
     ((try simp only [Int.not_lt,Int.not_le] at*);revert H;refine We346 ?_ <;>unhygienic intros)
     go_ret2
     exact ⟨i,by rw [HR.out];rfl,H.fr,HL.out⟩
    ·have HR:Hid ((xs[i]? ==some t)=false):=hid (by rw [HX.out];simp [hxt])
     have hxt':¬ (x:Int)=(t:Int):=by omega
     clear hxt
     ((try simp only [Int.not_lt,Int.not_le] at*);revert H;refine We346 ?_ <;>unhygienic intros)
     (refine x_c H (isnanS_any _ x) ?_;clear H;rintro e w1 ⟨rfl,hF⟩ H;clear hF)
     ((try simp only [Int.not_lt,Int.not_le] at*);revert H;refine W2af9 ?_ <;>unhygienic intros)
     go_ret2
     exact ⟨i,by rw [HR.out];rfl,H.fr,HL.out⟩
   ·have HR:Hid ((xs[i]? ==some t)=false):=hid (by rw [List.getElem?_eq_none (by omega)];simp)
    ((try simp only [Int.not_lt,Int.not_le] at*);revert H;refine W2af9 ?_ <;>unhygienic intros)
    go_ret2
    exact ⟨i,by rw [HR.out];rfl,H.fr,HL.out⟩
end Go.Proofs.YtoiebebjgnpkmaaGreatDoor
namespace Go.Proofs.YtoiebebjgnpkmaaGreatDoor
open Go.RowKit
set_option linter.unusedSimpArgs false
set_option linter.unusedVariables false
def EmpAt (m:Nat) (S:List Nat) (w:World):Prop:=S=[m]∧∃ clk,w.heap[m]? =some (.map #[] clk)
theorem EmpAt.firm {m:Nat} {S:List Nat}:Firm S (EmpAt m S):=by
 refine ⟨fun w w' R k hn h=> ?_,fun w h x hx=> ?_,fun w h=> ?_⟩
 ·obtain ⟨rfl,clk,h2⟩:=h
  exact ⟨rfl,clk,k.get h2 (hn m (by simp))⟩
 ·obtain ⟨rfl,clk,h2⟩:=h
  simp only [List.mem_singleton] at hx;subst hx;exact lt_of_get h2
 ·obtain ⟨rfl,_⟩:=h;simp
section
variable {P:Program} {Q:Exit→Act→World→Prop} {a:Act} {w w0:World} {o:Oper} {K:Act→World→Prop} {T:List Nat} {l:List Ent}
theorem run_keyI (w:World) (em:Bool) (z:Int):(Instr.checkKey em 10000 3 (.int .i64 z)).run Tryz.prog w= .ok () w:=by
 show (Instr.checkKey em (9999+1) 3 (.int .i64 z)).run _ _ =_
 unfold Instr.checkKey
 simp only [Sem.run_bind,run_underlying Tryz.underlying3,Result.andThen_ok,Sem.run_pure]
theorem run_findI (w:World) (z:Int):(Instr.findKey 3 (.int .i64 z) []).run Tryz.prog w= .ok none w:=by
 unfold Instr.findKey
 simp only [Sem.run_bind,run_underlying Tryz.underlying3,Result.andThen_ok]
 rfl
theorem c_lookE {m k:Nat} {S:List Nat} (H:Hp T w0 w l) (hm:Ent.obj k S (EmpAt m S)∈l) {x y:Operand} (ho:o.op= .lookup 120 x y false) (hx:a.eval x= .map (some m)) {z:Int} (hy:a.eval y= .int .i64 z):
 (execOp a.eval o).run Tryz.prog w= .ok (.value (.bool false)) w:=by
 obtain ⟨rfl,clk,h2⟩:=(H.ok _ hm).1
 have hz:(zeroValue 4).run Tryz.prog w= .ok (.bool false) w:=Tryz.zeroValue4 w
 have hob:(getObj m).run Tryz.prog w= .ok (.map #[] clk) w:=by simp [getObj,Sem.run,h2]
 have e:(Instr.lookup 120 (.map (some m)) (.int .i64 z) false).run Tryz.prog w= .ok (.bool false) w:=by
  unfold Instr.lookup
  simp only [Sem.run_bind,run_underlying Tryz.underlying120,Result.andThen_ok,hob,Sem.run_pure,run_keyI,run_findI]
  simp [hz]
 unfold execOp
 simp only [ho,hx,hy,Sem.run_bind,e,Result.andThen_ok,Sem.run_pure]
theorem c_updE {m k:Nat} {S:List Nat} (H:Hp T w0 w (.obj k S (EmpAt m S)::l)) {x y:Operand} (ho:o.op= .mapUpdate 120 x y (.const (.bool true))) (hx:a.eval x= .map (some m)) {z:Int} (hy:a.eval y= .int .i64 z)
 (h:∀ w',Fr S w w'→Hp T w0 w' l→K (a.put o.dst undef) w'):o.wp Tryz.prog a w K Q:=by
 obtain ⟨rfl,clk,h2⟩:=(H.ok _ (.head _)).1
 have hob:(getObj m).run Tryz.prog w= .ok (.map #[] clk) w:=by simp [getObj,Sem.run,h2]
 have e:(Instr.mapUpdate 120 (.map (some m)) (.int .i64 z) (.bool true)).run Tryz.prog w= .ok () ({w with heap:=w.heap.setIfInBounds m (.map (#[].push {key:= .int .i64 z,val:= .bool true,born:=clk}) (clk+1))}:World):=by
  unfold Instr.mapUpdate
  simp only [Sem.run_bind,run_underlying Tryz.underlying120,Result.andThen_ok,hob,Sem.run_pure,run_keyI,run_findI]
  simp [setObj,Sem.run,h2]
 have hF:Fr [m] w ({w with heap:=w.heap.setIfInBounds m (.map (#[].push {key:= .int .i64 z,val:= .bool true,born:=clk}) (clk+1))}:World):=
  ⟨rfl,rfl,rfl,by simp,fun k _ hn=>Array.getElem?_setIfInBounds_ne (fun e=>hn (by simp [e]))⟩
 have hS:=(H.ok _ (.head _)).2.2
 have hd:∀ x∈[m],x∉l.flatMap Ent.own:=fun x hx hm=>by
  have hn:=H.nodup
  rw [List.flatMap_cons] at hn
  exact (List.nodup_append.1 hn).2.2 x hx x hm rfl
 have H1:Hp T w0 _ l:=⟨H.fr.andThen hF hS,fun e he=>Ent.stay (H.ok e (.tail _ he)) hF (fun x hx hm=>hd x hm (List.mem_flatMap.2 ⟨e,he,hx⟩)),by
  have hn:=H.nodup
  rw [List.flatMap_cons] at hn
  exact (List.nodup_append.1 hn).2.1⟩
 have ec:a.eval (.const (.bool true))= .bool true:=rfl
 refine wp_of_skip ?_ (h _ hF H1)
 unfold execOp;simp only [ho,hx,hy,ec,Sem.run_bind,e,Result.andThen_ok,Sem.run_pure]
theorem c_mmE (H:Hp T w0 w l) (k:Nat) (ho:o.op= .makeMap 120 none)
 (h:∀ m w',Fr [] w w'→Hp T w0 w' (.obj k [m] (EmpAt m [m])::l)→K (a.put o.dst (.map (some m))) w'):o.wp P a w K Q:=by
 have hF:Fr [] w (w.alloc (.map #[] 0)):=Fr.alloc [] w _
 refine wp_of_run (v:= .map (some w.heap.size)) ?_ (h w.heap.size _ hF (H.born k hF ⟨rfl,0,heap_alloc_new w _⟩ EmpAt.firm (by simp)))
 unfold execOp
 simp [ho,Instr.makeMap,newObj,Sem.run]
end
end Go.Proofs.YtoiebebjgnpkmaaGreatDoor
