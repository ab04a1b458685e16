import Derived.Test.YtoiebebjgnpkmaaGreatDoorYJ0
import Derived.Test.YtoiebebjgnpkmaaGreatDoorYJ21
import Derived.Test.YtoiebebjgnpkmaaGreatDoorYJ35
import Derived.Test.YtoiebebjgnpkmaaGreatDoorYJ19
import Derived.Test.YtoiebebjgnpkmaaGreatDoorYJ20
import Derived.Test.YtoiebebjgnpkmaaGreatDoorYJ31
namespace Go.Proofs.YtoiebebjgnpkmaaGreatDoor
open Go.RowKit
set_option linter.unusedSimpArgs false
set_option linter.unusedVariables false
set_option maxHeartbeats 8000000
set_option maxRecDepth 100000
attribute [local irreducible] wpList Code.wp Plan.wp
theorem ev_mulZ {P:Program} {a:Act} {w:World} {o:Oper} {t t':TypeId} {x y:Operand} (ho:o.op= .binOp .mul t x y t') {m n:Int} (z:Int) (hx:a.eval x= .int .i64 m) (hy:a.eval y= .int .i64 n) (hz:Hid (m*n=z)) (hr:inr .i64 z:=by simp only [inr];omega):(execOp a.eval o).run P w= .ok (.value (.int .i64 z)) w:=by
 have hz:=hz.out
 subst hz
 exact ev_mul ho hx hy hr
theorem ev_quoZ {P:Program} {a:Act} {w:World} {o:Oper} {t t':TypeId} {x y:Operand} (ho:o.op= .binOp .quo t x y t') {m n:Int} (z:Int) (hx:a.eval x= .int .i64 m) (hy:a.eval y= .int .i64 n) (h0:0≤m) (h1:0<n) (hz:Hid (m / n=z)) (hr:inr .i64 z:=by simp only [inr];omega):(execOp a.eval o).run P w= .ok (.value (.int .i64 z)) w:=by
 have hz:=hz.out
 subst hz
 exact ev_quo ho hx hy h0 h1 hr
theorem sound_any (w:World) (c wd:Nat) (p s:Int) (hc:c≤999) (hw:wd≤999) {p' s':Nat} {b:Bool} (hb:Hid (soundP ⟨c,wd,p',s'⟩=b)):
 Calls Tryz.prog 108 #[.agg #[.int .i64 (c:Int), .int .i64 (wd:Int), .int .i64 p, .int .i64 s]] w fun e w'=>e= .returned (.bool b)∧Fr [] w w':=by
 obtain ⟨q,hq⟩:∃ q,c*wd=q:=⟨_,rfl⟩
 have HB:=hid (show b=decide (1≤c∧1≤wd∧q≤512) by rw [← hb.out,← hq];rfl)
 have hq2:q≤998001:=by rw [← hq];exact Nat.mul_le_mul hc hw
 have HQ:=hid (show (c:Int)*(wd:Int)=(q:Int) by rw [← hq];exact (Int.natCast_mul c wd).symm)
 clear hq hb
 have H:=Hp.start [] w
 rcases Nat.lt_or_ge c 1 with h1 | h1
 ·have HB2:=hid (show b=false by rw [HB.out];exact decide_eq_false (by omega))
  clear HB
  go_enter Tryz.func108,Tryz.ntmps108
  (revert H;refine W1842 ?_ <;>unhygienic intros)
  go_ret
  exact ⟨by rw [HB2.out];rfl,H.fr⟩
 ·rcases Nat.lt_or_ge wd 1 with h2 | h2
  ·have HB2:=hid (show b=false by rw [HB.out];exact decide_eq_false (by omega))
   clear HB
   go_enter Tryz.func108,Tryz.ntmps108
   (revert H;refine W1842 ?_ <;>unhygienic intros)
   go_ret
   exact ⟨by rw [HB2.out];rfl,H.fr⟩
  ·rcases Nat.lt_or_ge 512 q with h3 | h3
   ·have HB2:=hid (show b=false by rw [HB.out];exact decide_eq_false (by omega))
    clear HB
    go_enter Tryz.func108,Tryz.ntmps108
    (revert H;refine Wa788 ?_ <;>unhygienic intros)
    go_ret
    exact ⟨by rw [HB2.out];rfl,H.fr⟩
   ·have HB2:=hid (show b=true by rw [HB.out];exact decide_eq_true (by omega))
    clear HB
    go_enter Tryz.func108,Tryz.ntmps108
    (revert H;refine Wa788 ?_ <;>unhygienic intros)
    go_ret
    exact ⟨by rw [HB2.out];rfl,H.fr⟩
theorem linesF_any (w:World) (c wd p s n:Int) (hn:1≤n) (hc:n≤c) (hc2:c≤999):
 Calls Tryz.prog 111 #[.agg #[.int .i64 c, .int .i64 wd, .int .i64 p, .int .i64 s], .int .i64 n] w fun e w'=>e= .returned (.int .i64 1)∧Fr [] w w':=by
 have HQ:=hid (show (n+c - 1) / c=1 by
  rw [Int.ediv_eq_iff_of_pos (by omega)]
  omega)
 have h0:0≤n+c - 1:=by omega
 have h1:0<c:=by omega
 have H:=Hp.start [] w
 go_enter Tryz.func111,Tryz.ntmps111
 (revert H;refine Wed9a ?_ <;>unhygienic intros)
 go_ret
 exact ⟨rfl,H.fr⟩
theorem pattern_any (w:World) (cs:List Value) (hl:cs.length=21) (h8:cs[8]? =some (strV sRUA)):
 Calls Tryz.prog 27 #[.agg cs.toArray] w fun e w'=>e= .returned (.bool false)∧Fr [] w w':=by
 obtain ⟨b,hk,hb⟩:∃ b,sRUA[0]? =some b∧b.toNat=82:=⟨82,rfl,rfl⟩
 have H:=Hp.start [] w
 go_enter Tryz.func27,Tryz.ntmps27
 (revert H;refine W23c0 ?_ <;>unhygienic intros)
 go_ret
 exact ⟨rfl,H.fr⟩
theorem symmetry_any (w:World) (cs:List Value) (hl:cs.length=21) (h8:cs[8]? =some (strV sRUA)):
 Calls Tryz.prog 33 #[.agg cs.toArray] w fun e w'=>e= .returned (.int .i64 0)∧Fr [] w w':=by
 obtain ⟨b,hk,hb⟩:∃ b,sRUA[1]? =some b∧b.toNat=85:=⟨85,rfl,rfl⟩
 have H:=Hp.start [] w
 go_enter Tryz.func33,Tryz.ntmps33
 (revert H;refine W23c0 ?_ <;>unhygienic intros)
 go_ret
 exact ⟨rfl,H.fr⟩
theorem kinds_has:Go.Lib.containsS ((([sRUA,[82,83,65],[82,90,65],[82,82,65],[80,85,65],[80,83,65],[80,82,65]]:List (List UInt8)).map fun s=>ByteArray.mk s.toArray).take 7) ⟨sRUA.toArray⟩=true:=by decide+kernel
theorem supported_any (w:World):Calls Tryz.prog 63 #[strV sRUA] w fun e w'=>e= .returned (.bool true)∧Fr [] w w':=by
 have H:=Hp.start [] w
 go_enter Tryz.func63,Tryz.ntmps63
 (revert H;refine Wf60f ?_ <;>unhygienic intros)
 refine Calls.mono (Tryz.slices_Contains_string g 0 7 7 (([sRUA,[82,83,65],[82,90,65],[82,82,65],[80,85,65],[80,83,65],[80,82,65]]:List (List UInt8)).map fun s=>ByteArray.mk s.toArray) ⟨sRUA.toArray⟩ _ (by decide) (by decide) ?_) ?_
 ·intro j hj
  rw [Nat.zero_add]
  refine H.blkCell (.head _) ?_
  have:j<7:=hj
  rcases j with _ | _ | _ | _ | _ | _ | _ | j<;>first | rfl | omega
 rintro e w1 ⟨rfl,rfl⟩
 rw [kinds_has]
 (revert H;refine W1842 ?_ <;>unhygienic intros)
 go_ret
 exact ⟨rfl,H.fr⟩
end Go.Proofs.YtoiebebjgnpkmaaGreatDoor
namespace Go.Proofs.YtoiebebjgnpkmaaGreatDoor
open Go.RowKit
set_option linter.unusedSimpArgs false
set_option linter.unusedVariables false
set_option maxHeartbeats 8000000
set_option maxRecDepth 100000
attribute [local irreducible] wpList Code.wp Plan.wp
def colC (c:Nat×Nat):List Value:=[iV c.1,iV c.2]
theorem pre_col:∀ {cols:List (Nat×Nat)} {k:Nat} {x:Nat×Nat},cols[k]? =some x→colC x<+:(cols.flatMap colC).drop (k*2)
 | [],k,x,h=>by simp at h
 | c::cols,0,x,h=>by
  have e:c=x:=by simpa using h
  rw [e,Nat.zero_mul,List.drop_zero,List.flatMap_cons]
  exact List.prefix_append _ _
 | c::cols,k+1,x,h=>by
  have ih:=pre_col (cols:=cols) (k:=k) (x:=x) (by simpa using h)
  rw [List.flatMap_cons,show (k+1)*2=k*2+1+1 by omega]
  exact ih
theorem cnts_at:∀ {l:List UInt8} {cols:List (Nat×Nat)} {L:List Nat},cntsP l cols=some L→L.length=cols.length∧∀ (k:Nat) (c:Nat×Nat),cols[k]? =some c→∃ n,L[k]? =some n∧cntP (blank (part c.1 c.2 l))=(n,true)
 | l,[],L,h=>by
  cases h
  exact ⟨rfl,fun k c h=>by simp at h⟩
 | l,(a,b)::cols,L,h=>by
  unfold cntsP at h
  split at h
  ·rename_i hc
   obtain ⟨M,hM,rfl⟩:=Option.map_eq_some_iff.1 h
   obtain ⟨h1,h2⟩:=cnts_at hM
   refine ⟨by simp [h1],fun k c hk=> ?_⟩
   cases k with
   | zero=>
    have e:(a,b)=c:=by simpa using hk
    subst e
    exact ⟨_,rfl,by rw [← hc]⟩
   | succ k=>exact h2 k c (by simpa using hk)
  ·cases h
theorem counts_any (w:World) (s:List UInt8) (hs:s.length≤4000000) (cols:List (Nat×Nat)) {b n c:Nat} (hn:cols.length=n) (hn2:n≤100) (hle:∀ c∈cols,c.1≤c.2) (hb:b<w.heap.size) (hc:∀ j u,(cols.flatMap colC)[j]? =some u→w.cell? ⟨b,0+j,none⟩=some u) {L:List Nat} (hL:Hid (cntsP s cols=some L)):
 Calls Tryz.prog 61 #[strV s, .slice (some ⟨b,0,none⟩) n c] w fun e w'=>∃ v,e= .returned (.tuple #[v, .bool true])∧Fr [] w w'∧w'.ownsRow w.heap.size 3 1 v n (L.map iV):=by
 subst hn
 have HLE:=hid hle
 have HAT:=hid (cnts_at hL.out)
 have H:=((Hp.start [] w).pushRng (b:=b) (off:=0) (cs:=cols.flatMap colC) hb (by simp) hc).newRow 1 (e:=3) (sz:=1)
 clear hle hb hc hL
 go_enter Tryz.func61,Tryz.ntmps61
 (revert H;refine W02cb ?_ <;>unhygienic intros)
 go_loopw [6,13] (fun s6 s13 wr=>∃ (k:Nat) (p:Option Addr) (c:Nat) (S:List Nat),s6= .slice p k c∧s13= .int .i64 (k:Int)∧k≤cols.length∧Hp [] w wr [.obj 1 S (RowAt 3 1 (.slice p k c) k ((L.take k).map iV) S), .rng b 0 (cols.flatMap colC)]) (fun _ v _ =>cols.length - (intOf v).toNat)
 case atStart=>exact ⟨0,none,0,[],rfl,rfl,Nat.zero_le _,H⟩
 case round=>
  clear H
  obtain ⟨k,p,cp,S,rfl,rfl,hk,H⟩:=hrel
  by_cases hlt:k<cols.length
  ·obtain ⟨⟨x,y⟩,hx⟩:∃ x,cols[k]? =some x:=⟨_,List.getElem?_eq_getElem hlt⟩
   have hxy:x≤y:=HLE.out _ (List.mem_of_getElem? hx)
   obtain ⟨m,hm,hcn⟩:=HAT.out.2 k _ hx
   have HCN:=hid hcn
   have HT:=hid (tk_snoc hm)
   have hpre:[.int .i64 (x:Int), .int .i64 (y:Int)]<+:(cols.flatMap colC).drop (k*2):=pre_col hx
   clear hx hcn hm
   (revert H;refine W02cb ?_ <;>unhygienic intros)
   refine x_c H (count_any _ s hs x y hxy) ?_
   clear H
   rintro e w1 ⟨n',o',rfl,hF,hc2⟩ H
   clear hF
   rw [HCN.out] at hc2
   cases hc2
   (revert H;refine W1533 ?_ <;>unhygienic intros)
   go_roundw
   case rel=>
    refine ⟨k+1,_,_,S',rfl,rfl,by omega, ?_⟩
    rw [HT.out,List.map_append]
    exact H.arr (by repeat (first | exact Pm.nil _ | (apply Pm.cons;· (repeat first | exact Rm.here _ | apply Rm.there))))
   case measure=>(simp [intOf];try omega)
  ·obtain rfl:k=cols.length:=by omega
   have HT:=hid (show L.take cols.length=L by rw [← HAT.out.1,List.take_length])
   rw [HT.out] at H
   (revert H;refine W02cb ?_ <;>unhygienic intros)
   go_ret2
   exact ⟨_,rfl,H.fr,(H.rowo 1).owns (fun x hx=>(H.home 1 x hx).resolve_left (by simp))⟩
theorem indexAny_any (w:World) (s ls:List UInt8) (hs:s.length≤4000000) (hl:ls.length≤10) (ha:asc s=true) (hb:asc ls=true) {z:Int} (hz:Hid (Lib.indexAny s ls=z)):
 Calls Tryz.prog 119 #[strV s,strV ls] w fun e w'=>e= .returned (.int .i64 z)∧Fr [] w w':=by
 have key:∀ {r:List UInt8},asc r=true→∀ (j:Nat) b,(ByteArray.mk r.toArray).data.toList[j]? =some b→b.toNat<128:=by
  intro r hr j b hj
  unfold asc at hr
  rw [List.all_eq_true] at hr
  have hj2:r[j]? =some b:=by simpa using hj
  simpa using hr b (List.mem_of_getElem? hj2)
 refine Calls.mono (Tryz.strings_IndexAny (zero_of_info Tryz.info123).1 ⟨s.toArray⟩ ⟨ls.toArray⟩ w (by rw [ba_size];omega) (by rw [ba_size];omega) (key ha) (key hb)) ?_
 rintro e w' ⟨rfl,hF⟩
 refine ⟨?_,Fr.of_below hF⟩
 rw [← hz.out,ba_lst,ba_lst]
theorem sindex_any (w:World) (s:List UInt8) (c:UInt8) {z:Int} (hz:Hid (Lib.index s [c]=z)):
 Calls Tryz.prog 134 #[strV s, .string ⟨#[c]⟩] w fun e w'=>e= .returned (.int .i64 z)∧Fr [] w w':=by
 refine Calls.mono (Any.stringslite_Index_one (P:=Tryz.prog) (ρ:=Tryz.lays143_ren) {Tryz.lays143 with} ⟨s.toArray⟩ c w) ?_
 rintro e w' ⟨rfl,rfl⟩
 refine ⟨?_,Fr.refl _ _⟩
 rw [← hz.out,index_byte,ba_lst]
theorem scut_any (w:World) (s:List UInt8) (c:UInt8) (hs:s.length≤4000000) {x y:List UInt8} {b:Bool} (hc:Hid (Lib.cut s [c]=(x,y,b))):
 Calls Tryz.prog 89 #[strV s, .string (ByteArray.mk #[c])] w fun e w'=>e= .returned (.tuple #[strV x,strV y, .bool b])∧Fr [] w w':=by
 rcases index_one c s with ⟨h1, -⟩ | ⟨i,h1,hi, -, -⟩
 ·have h:=hc.out
  unfold Lib.cut at h
  rw [h1,if_neg (by decide)] at h
  cases h
  have HI:=hid h1
  clear h1 hc
  have H:=Hp.start [] w
  go_enter Tryz.func89,Tryz.ntmps89
  (revert H;refine W02cb ?_ <;>unhygienic intros)
  (refine x_c H (sindex_any _ s c HI) ?_;clear H;rintro e w1 ⟨rfl,hF⟩ H;clear hF)
  (revert H;refine W02cb ?_ <;>unhygienic intros)
  go_ret3
  exact ⟨rfl,H.fr⟩
 ·have h:=hc.out
  unfold Lib.cut at h
  rw [h1,if_pos (by omega),Int.toNat_natCast] at h
  obtain ⟨hx,h⟩:=Prod.mk.inj h
  obtain ⟨hy,hb⟩:=Prod.mk.inj h
  subst hb
  have HI:=hid h1
  have HR1:=hid (show s.take ((i:Int)).toNat=x by rw [Int.toNat_natCast,hx])
  have HR2:=hid (show s.drop ((i:Int)+1).toNat=y by rw [show ((i:Int)+1).toNat=i+1 by omega];exact hy)
  clear h hx hy
  clear h1 hc
  have H:=Hp.start [] w
  go_enter Tryz.func89,Tryz.ntmps89
  (revert H;refine W02cb ?_ <;>unhygienic intros)
  (refine x_c H (sindex_any _ s c HI) ?_;clear H;rintro e w1 ⟨rfl,hF⟩ H;clear hF)
  (revert H;refine W02cb ?_ <;>unhygienic intros)
  (revert H;refine w_p 12 (.st 0 (.st 1 (.st 2 (.st 3 (.st 4 (.st 5 (.st 6 (.st 7 (.st 8 (.st 9 (.st 10 (.st 11 .done)))))))))))) ?_;intro w1 H)
  iterate 2 refine p_q ?_
  (refine p_e rfl (fun w H=>ev_strHead rfl rfl rfl HR1) ?_)
  iterate 3 refine p_q ?_
  (refine p_e (v:= .int .i64 1) rfl (fun w H=>ev_strLen (s:=[c]) rfl rfl) ?_)
  refine p_q ?_
  (refine p_e rfl (fun w H=>ev_strTail rfl rfl rfl HR2) ?_)
  iterate 3 refine p_q ?_
  (refine pl_done ?_)
  (revert H;refine W02cb ?_ <;>unhygienic intros)
  go_ret3
  exact ⟨rfl,H.fr⟩
theorem cutc_any (w:World) (s:List UInt8) (c:UInt8) (hs:s.length≤4000000) {x y:List UInt8} {b:Bool} (hc:Hid (Lib.cut s [c]=(x,y,b))):
 Calls Tryz.prog 46 #[strV s, .string (ByteArray.mk #[c])] w fun e w'=>e= .returned (.tuple #[strV x,strV y, .bool b])∧Fr [] w w':=by
 have H:=Hp.start [] w
 go_enter Tryz.func46,Tryz.ntmps46
 (revert H;refine W02cb ?_ <;>unhygienic intros)
 (refine x_c H (scut_any _ s c hs hc) ?_;clear H;rintro e w1 ⟨rfl,hF⟩ H;clear hF)
 (revert H;refine W02cb ?_ <;>unhygienic intros)
 go_ret3
 exact ⟨rfl,H.fr⟩
theorem cut_any (w:World) (s:List UInt8) (hs:s.length≤4000000) {x y:List UInt8} {b:Bool} (hc:Hid (Lib.cut s [46]=(x,y,b))):
 Calls Tryz.prog 46 #[strV s, .string (ByteArray.mk #[46])] w fun e w'=>e= .returned (.tuple #[strV x,strV y, .bool b])∧Fr [] w w':=
 cutc_any w s 46 hs hc
end Go.Proofs.YtoiebebjgnpkmaaGreatDoor
namespace Go.Proofs.YtoiebebjgnpkmaaGreatDoor
open Go.RowKit
set_option linter.unusedSimpArgs false
set_option linter.unusedVariables false
set_option maxHeartbeats 8000000
set_option maxRecDepth 100000
attribute [local irreducible] wpList Code.wp Plan.wp
theorem counted_any (w:World) (s ls:List UInt8) (hs:s.length≤4000000) (hl:ls.length≤10) (ha:asc s=true) (hb:asc ls=true):
 Calls Tryz.prog 106 #[strV s,strV ls] w fun e w'=>∃ (c:Nat) (r:List UInt8) (b:Bool),e= .returned (.tuple #[.int .i64 (c:Int),strV r, .bool b])∧Fr [] w w'∧(b=true→countedP s ls=some (c,r))∧(b=false→countedP s ls=none)∧r.length≤s.length∧asc r=true:=by
 have hge:=Lib.indexAny_ge ls s
 have hlt:=indexAny_lt ls s
 have HA:=hid ha
 have HB:=hid hb
 obtain ⟨z,hz⟩:∃ z,Lib.indexAny s ls=z:=⟨_,rfl⟩
 rw [hz] at hge hlt
 have H:=Hp.start [] w
 rcases Int.lt_trichotomy z 0 with h0 | h0 | h0
 ·obtain rfl:z= -1:=by omega
  have HZ:=hid hz
  have HP:=hid (show countedP s ls=none by unfold countedP;rw [hz];rfl)
  clear hz hlt hge h0 ha hb
  go_enter Tryz.func106,Tryz.ntmps106
  ((try simp only [Int.not_lt,Int.not_le] at*);revert H;refine W02cb ?_ <;>unhygienic intros)
  (refine x_c H (indexAny_any _ s ls hs hl HA.out HB.out HZ) ?_;clear H;rintro e w1 ⟨rfl,hF⟩ H;clear hF)
  ((try simp only [Int.not_lt,Int.not_le] at*);revert H;refine W02cb ?_ <;>unhygienic intros)
  go_ret3
  exact ⟨0,[],false,rfl,H.fr,(fun h=>by simp at h),(fun _ =>HP.out),Nat.zero_le _,rfl⟩
 ·subst h0
  have hs1:0<s.length:=by have:=hlt (Int.le_refl _);omega
  have HZ:=hid hz
  have HP:=hid (show countedP s ls=some (1,s.drop 1) by unfold countedP;rw [hz];rfl)
  have HR:=hid (show s.drop (1:Int).toNat=s.drop 1 from rfl)
  clear hz hlt hge ha hb
  go_enter Tryz.func106,Tryz.ntmps106
  ((try simp only [Int.not_lt,Int.not_le] at*);revert H;refine W02cb ?_ <;>unhygienic intros)
  (refine x_c H (indexAny_any _ s ls hs hl HA.out HB.out HZ) ?_;clear H;rintro e w1 ⟨rfl,hF⟩ H;clear hF)
  ((try simp only [Int.not_lt,Int.not_le] at*);revert H;refine W02cb ?_ <;>unhygienic intros)
  (revert H;refine w_p 5 (.st 0 (.st 1 (.st 2 (.st 3 (.st 4 .done))))) ?_;intro w1 H)
  refine p_q ?_
  (refine p_e rfl (fun w H=>ev_strTail rfl rfl rfl HR) ?_)
  iterate 3 refine p_q ?_
  (refine pl_done ?_)
  ((try simp only [Int.not_lt,Int.not_le] at*);revert H;refine W02cb ?_ <;>unhygienic intros)
  go_ret3
  exact ⟨1,s.drop 1,true,rfl,H.fr,(fun _ =>HP.out),(fun h=>by simp at h),by rw [List.length_drop];omega,asc_drop HA.out 1⟩
 ·obtain ⟨k,rfl⟩:=Int.eq_ofNat_of_zero_le (Int.le_of_lt h0)
  have hk:k<s.length:=by have:=hlt (Int.le_of_lt h0);omega
  have hk0:0<k:=by omega
  have HZ:=hid hz
  have HP:=hid (show countedP s ls=(shortP (s.take k)).map fun n=>(n,s.drop (k+1)) by
   unfold countedP
   rw [hz,if_neg (by omega),if_neg (by omega),Int.toNat_natCast])
  have HR1:=hid (show s.take ((k:Int)).toNat=s.take k by rw [Int.toNat_natCast])
  have HR2:=hid (show s.drop ((k:Int)+1).toNat=s.drop (k+1) by rw [show ((k:Int)+1).toNat=k+1 by omega])
  clear hz hlt hge h0 ha hb
  go_enter Tryz.func106,Tryz.ntmps106
  ((try simp only [Int.not_lt,Int.not_le] at*);revert H;refine W02cb ?_ <;>unhygienic intros)
  (refine x_c H (indexAny_any _ s ls hs hl HA.out HB.out HZ) ?_;clear H;rintro e w1 ⟨rfl,hF⟩ H;clear hF)
  ((try simp only [Int.not_lt,Int.not_le] at*);revert H;refine W24a5 ?_ <;>unhygienic intros)
  (refine x_c H (shortB_any _ (s.take k) (by rw [List.length_take];omega)) ?_;clear H;rintro e w1 ⟨n,b,rfl,hF,ht,hn⟩ H;clear hF)
  have HTR:=hid ht
  have HNO:=hid hn
  clear ht hn
  ((try simp only [Int.not_lt,Int.not_le] at*);revert H;refine W02cb ?_ <;>unhygienic intros)
  (revert H;refine w_p 9 (.st 0 (.st 1 (.st 2 (.st 3 (.st 4 (.st 5 (.st 6 (.st 7 (.st 8 .done))))))))) ?_;intro w1 H)
  iterate 4 refine p_q ?_
  (refine p_e rfl (fun w H=>ev_strTail rfl rfl rfl HR2) ?_)
  iterate 4 refine p_q ?_
  (refine pl_done ?_)
  ((try simp only [Int.not_lt,Int.not_le] at*);revert H;refine W02cb ?_ <;>unhygienic intros)
  go_ret3
  exact ⟨n,s.drop (k+1),b,rfl,H.fr,(fun h=>by rw [HP.out,HTR.out h];rfl),(fun h=>by rw [HP.out,HNO.out h];rfl),by rw [List.length_drop];omega,asc_drop HA.out _⟩
theorem whole_parts {s:List UInt8} {f:Lay} (h:wholeP s=some f):∃ r t,innerP s=some r∧countedP r [73]=some (f.count,t)∧shortP t=some f.width∧soundP ⟨f.count,f.width,0,0⟩=true∧f=⟨f.count,f.width,0,0⟩:=by
 unfold wholeP at h
 split at h
 ·cases h
 ·rename_i r hr
  split at h
  ·cases h
  ·rename_i c t hc
   split at h
   ·cases h
   ·rename_i wd hw
    split at h
    ·rename_i hs
     cases h
     exact ⟨r,t,hr,hc,hw,hs,rfl⟩
    ·cases h
theorem whole_any (w:World) (s:List UInt8) (hs:s.length≤4000000) (ha:asc s=true) {c wd:Nat} (hf:Hid (wholeP s=some ⟨c,wd,0,0⟩)):
 Calls Tryz.prog 64 #[strV s] w fun e w'=>e= .returned (.tuple #[.agg #[.int .i64 (c:Int), .int .i64 (wd:Int), .int .i64 0, .int .i64 0], .bool true])∧Fr [] w w':=by
 obtain ⟨r,t,h1,h2,h3,h4,_⟩:=whole_parts hf.out
 simp only at h2 h3 h4
 have hc9:=counted_le h2
 have hw9:=short_le h3
 have har:asc r=true:=asc_inner ha h1
 have H1:=hid h1;have H2:=hid h2;have H3:=hid h3;have H4:=hid h4;have HAR:=hid har
 clear h1 h2 h3 h4 har ha hf
 have H:=Hp.start [] w
 go_enter Tryz.func64,Tryz.ntmps64
 ((try simp only [Int.not_lt,Int.not_le] at*);revert H;refine W02cb ?_ <;>unhygienic intros)
 (refine x_c H (inner_any _ s hs) ?_;clear H;rintro e w1 ⟨r',b',rfl,hF,ht,hn,hrl⟩ H;clear hF)
 obtain rfl:b'=true:=by
  cases b' with
  | true=>rfl
  | false=>have:=hn rfl;rw [H1.out] at this;cases this
 obtain rfl:r'=r:=by have:=ht rfl;rw [H1.out] at this;cases this;rfl
 clear ht hn
 ((try simp only [Int.not_lt,Int.not_le] at*);revert H;refine W02cb ?_ <;>unhygienic intros)
 (refine x_c H (counted_any _ r' [73] (by omega) (by decide) HAR.out (by decide)) ?_;clear H;rintro e w1 ⟨c',t',b',rfl,hF,ht,hn,htl,hta⟩ H;clear hF)
 obtain rfl:b'=true:=by
  cases b' with
  | true=>rfl
  | false=>have:=hn rfl;rw [H2.out] at this;cases this
 obtain ⟨rfl,rfl⟩:c'=c∧t'=t:=by have:=ht rfl;rw [H2.out] at this;cases this;exact ⟨rfl,rfl⟩
 clear ht hn hta
 ((try simp only [Int.not_lt,Int.not_le] at*);revert H;refine W02cb ?_ <;>unhygienic intros)
 (refine x_c H (shortB_any _ t' (by omega)) ?_;clear H;rintro e w1 ⟨n,b',rfl,hF,ht,hn⟩ H;clear hF)
 obtain rfl:b'=true:=by
  cases b' with
  | true=>rfl
  | false=>have:=hn rfl;rw [H3.out] at this;cases this
 obtain rfl:n=wd:=by have:=ht rfl;rw [H3.out] at this;cases this;rfl
 clear ht hn
 ((try simp only [Int.not_lt,Int.not_le] at*);revert H;refine W02cb ?_ <;>unhygienic intros)
 (revert H;refine w_p 8 (.st 0 (.st 1 (.st 2 (.st 3 (.ld 4 (.st 5 (.ld 6 (.st 7 .done)))))))) ?_ (hs:=(.cons_cons _ (List.nil_sublist _)));intro w1 H)
 iterate 3 refine p_q ?_
 (first | refine p_q ?_ | refine p_n ?_)
 (refine p_c H rfl rfl Tryz.func108 (sound_any _ c' n _ _ hc9 hw9 H4) ?_;clear H;rintro e w1 ⟨rfl,hF⟩ H;refine p_r ?_;clear hF)
 refine p_q ?_
 (revert H;refine p_sF ?_;intro w1 hf H hk;clear hf hk)
 refine p_q ?_
 (refine pl_done ?_)
 ((try simp only [Int.not_lt,Int.not_le] at*);revert H;refine W02cb ?_ <;>unhygienic intros)
 refine c_postCT H rfl rfl rfl rfl ?_
 exact ⟨rfl,H.fr⟩
end Go.Proofs.YtoiebebjgnpkmaaGreatDoor
