import Derived.Test.YtoiebebjgnpkmaaGreatDoorYJ0
import Derived.Test.YtoiebebjgnpkmaaGreatDoorYJ9
import Derived.Deep.DeepCutAuto
import Derived.Deep.CutBlock
import Derived.Test.YtoiebebjgnpkmaaGreatDoorYJ4
import Derived.Laws.ResultCell
import Derived.Test.YtoiebebjgnpkmaaGreatDoorProg
import Derived.Shelf.Strings.Trim
import Derived.Shelf.Strings.Cut
import Derived.Shelf.Strings.Prefix
import Derived.Shelf.Small.Wraps
import Derived.Shelf.Strings.Search3
import Derived.Shelf.Slices.Turned
namespace Go.Proofs.YtoiebebjgnpkmaaGreatDoor
open Go.RowKit
set_option linter.unusedSimpArgs false
set_option linter.unusedVariables false
set_option maxHeartbeats 4000000
set_option maxRecDepth 100000
set_option maxHeartbeats 8000000 in
theorem length_any {w:World} {p:Option Addr} {n c:Nat} (A:Nat) (hl:(digs A).length=n) (hn:n≤2000000) (h:LR w p c (digs A)):
 Calls Tryz.prog 228 #[.slice p n c] w fun e w'=>e= .returned (.int .i64 (bl A:Int))∧Fr [] w w':=by
 have Hh:=hid h
 have H:=Hp.start [] w
 obtain ⟨hlc,hc⟩:=h.clen
 rw [hl] at hlc
 by_cases h0:n≤0
 ·have e:A=0:=digs_zero_len (by omega)
  have HB:Hid (bl A=0):=hid (by rw [e];rfl)
  clear h hl e
  go_enter Tryz.func228,Tryz.ntmps228
  (revert H;refine W08de ?_ <;>unhygienic intros)
  go_ret
  exact ⟨by rw [HB.out];rfl,H.fr⟩
 ·obtain ⟨k,hk⟩:∃ k,n=k+1:=⟨n - 1,by omega⟩
  obtain ⟨x,hx⟩:∃ x,(digs A)[k]? =some x:=⟨_,List.getElem?_eq_getElem (by omega)⟩
  have hxv:=limbs_at hx
  have hxB:=h.lim.at hx
  obtain ⟨b0,off,rfl,hb0,hcell⟩:=h.rd.rng (limbs_ne (i:=k) (by omega))
  have H1:=H.pushRng (b:=b0) (off:=off) hb0 (by simp) hcell
  clear H hcell
  have H:=H1
  clear H1
  have HB:Hid (bl A=32*(n - 1)+bl x):=hid (by
   rw [show n - 1=k by omega]
   have h2:=bl_digs (by rw [hl,hk]) (digs_lim A) hx (digs_last A x (by rw [hl,show n - 1=k by omega];exact hx))
   rwa [val_digs] at h2)
  have hb32:=bl_32 hxB
  have hn1:1≤n:=by omega
  rw [show k=((n:Int) - 1).toNat by omega] at hxv
  clear hx h hl h0 hk
  go_enter Tryz.func228,Tryz.ntmps228
  (revert H;refine W08de ?_ <;>unhygienic intros)
  (refine x_c H (len32_any _ hxB) ?_;clear H;rintro e w1 ⟨rfl,hF⟩ H)
  (revert H;refine W08de ?_ <;>unhygienic intros)
  go_ret
  exact ⟨by rw [HB.out];go_num,H.fr⟩
end Go.Proofs.YtoiebebjgnpkmaaGreatDoor
namespace Go.Proofs.YtoiebebjgnpkmaaGreatDoor
open Go.RowKit
set_option linter.unusedSimpArgs false
set_option linter.unusedVariables false
set_option maxHeartbeats 4000000
set_option maxRecDepth 100000
set_option maxHeartbeats 8000000 in
theorem divide_less {w:World} {p q:Option Addr} {n m c d:Nat} (A B:Nat) (hn:(digs A).length=n) (hm:(digs B).length=m) (hn0:n≤1000000) (hlt:A<B) (h:LR w p c (digs A)) (k:LR w q d (digs B)):
 Calls Tryz.prog 230 #[.slice p n c, .slice q m d] w fun e w'=>∃ p1 c1 p2 c2,e= .returned (.tuple #[.slice p1 (digs (A / B)).length c1, .slice p2 (digs (A % B)).length c2])∧Fr [] w w'∧LR w' p1 c1 (digs (A / B))∧LR w' p2 c2 (digs (A % B)):=by
 have Hh:=hid h
 have Hk:=hid k
 have Hn:=hid hn
 have Hm:=hid hm
 have hc:=cmpZ_neg hlt
 have HQ:=hid (Nat.div_eq_of_lt hlt)
 have HR:=hid (Nat.mod_eq_of_lt hlt)
 clear h k hn hm hlt
 have H:=Hp.start [] w
 go_enter Tryz.func230,Tryz.ntmps230
 (revert H;refine Wcade ?_ <;>unhygienic intros)
 (refine x_c H (compare_any A B Hn.out Hm.out (Hh.out.fr H.fr) (Hk.out.fr H.fr)) ?_;clear H;rintro e w1 ⟨rfl,hF⟩ H)
 generalize cmpZ A B=z at hc ⊢
 (revert H;refine Wcade ?_ <;>unhygienic intros)
 refine Calls.mono (clone_any (digs A) Hn.out hn0 (Hh.out.fr H.fr)) ?_
 rintro e w1 ⟨p2,c2,rfl,hF,hL⟩
 have HL:=hid hL
 have H1:=H.step hF (by simp)
 clear H hF hL
 have H:=H1
 clear H1
 (revert H;refine Wcade ?_ <;>unhygienic intros)
 refine bodyPost_ret (results_tmp2 rfl _ _ _) rfl ?_
 rw [HQ.out,HR.out,digs_zero,Hn.out]
 exact ⟨none,0,p2,c2,rfl,H.fr,LR.zero _,HL.out⟩
set_option maxHeartbeats 8000000 in
theorem divide_one {w:World} {p q:Option Addr} {n m c d:Nat} (A B:Nat) (hn:(digs A).length=n) (hm:(digs B).length=m) (hn0:n≤1000000) (hle:B≤A) (hm1:m=1) (h:LR w p c (digs A)) (k:LR w q d (digs B)):
 Calls Tryz.prog 230 #[.slice p n c, .slice q m d] w fun e w'=>∃ p1 c1 p2 c2,e= .returned (.tuple #[.slice p1 (digs (A / B)).length c1, .slice p2 (digs (A % B)).length c2])∧Fr [] w w'∧LR w' p1 c1 (digs (A / B))∧LR w' p2 c2 (digs (A % B)):=by
 obtain ⟨x,hx⟩:∃ x,(digs B)[0]? =some x:=⟨_,List.getElem?_eq_getElem (by omega)⟩
 have hxB:=k.lim.at hx
 have hBx:B=x:=by
  have h1:=digit_of k.lim hx
  rw [val_digs,Nat.pow_zero,Nat.div_one] at h1
  have h2:=digs_lt B
  rw [hm,hm1,Nat.pow_one] at h2
  omega
 have hx0:0<x:=by
  have:=digs_last B x (by rw [hm,hm1];exact hx)
  omega
 have hxv:=limbs_at hx
 obtain ⟨b0,off,rfl,hb0,hcell⟩:=k.rd.rng (limbs_ne (i:=0) (by omega))
 have Hh:=hid h
 have Hk:=hid k
 have Hn:=hid hn
 have Hm:=hid hm
 have HB:=hid hBx
 have hc:=cmpZ_nonneg hle
 have hm2:m≤1:=by omega
 have hm3:1≤m:=by omega
 obtain ⟨hlc,hcc⟩:=k.clen
 rw [hm] at hlc
 have H:=(Hp.start [] w).pushRng (b:=b0) (off:=off) hb0 (by simp) hcell
 clear h k hn hm hle hx hBx hcell hm1
 go_enter Tryz.func230,Tryz.ntmps230
 (revert H;refine Wcade ?_ <;>unhygienic intros)
 (refine x_c H (compare_any A B Hn.out Hm.out (Hh.out.fr H.fr) (Hk.out.fr H.fr)) ?_;clear H;rintro e w1 ⟨rfl,hF⟩ H)
 generalize cmpZ A B=z at hc ⊢
 (revert H;refine Wcade ?_ <;>unhygienic intros)
 refine Calls.mono (short_any (digs A) x Hn.out hn0 (Hh.out.fr H.fr) hx0 hxB) ?_
 rintro e w1 ⟨p1,c1,rfl,hF,hL⟩
 rw [val_digs] at hL ⊢
 have HL:=hid hL
 have H1:=H.step hF (by simp)
 clear H hF hL
 have H:=H1
 clear H1
 (revert H;refine W66c6 ?_ <;>unhygienic intros)
 have hxr:A % x<x:=Nat.mod_lt _ hx0
 have hlr:Lim [A % x]:=Lim.cons (by omega) Lim.nil
 have hL2:LR _ (some ⟨g,0,none⟩) 1 [A % x]:=LR.of_blk (pad:=[]) (by have:=H.at g;rw [show ((A:Int) % (x:Int))=((A % x:Nat):Int) by rw [Int.natCast_emod]] at this;simpa [limbs] using this) hlr (by simp) (by unfold maxLen;omega)
 have HL2:=hid hL2
 have HL1:=hid (HL.out.fr hfk.out)
 refine Calls.mono (trim_any [A % x] rfl hL2) ?_
 rintro e w1 ⟨rfl,hF⟩
 have HL3:=hid (HL2.out.fr hF).trim
 have HL4:=hid (HL1.out.fr hF)
 have H1:=H.step hF (by simp)
 clear H hF hL2
 have H:=H1
 clear H1
 have HV:Hid (val [A % x]=A % x):=hid (by simp [val])
 rw [HV.out] at HL3 ⊢
 (revert H;refine Wcade ?_ <;>unhygienic intros)
 refine bodyPost_ret (results_tmp2 rfl _ _ _) rfl ?_
 rw [HB.out]
 exact ⟨p1,c1,_,_,rfl,H.fr,HL4.out,HL3.out⟩
end Go.Proofs.YtoiebebjgnpkmaaGreatDoor
namespace Go.Proofs.YtoiebebjgnpkmaaGreatDoor
open Go.RowKit
set_option linter.unusedSimpArgs false
set_option linter.unusedVariables false
theorem norm_top {x:Nat} (h0:x≠0) (hx:x<4294967296):2147483648≤x*2 ^ (32 - bl x)∧x*2 ^ (32 - bl x)<4294967296:=by
 obtain ⟨a1,a2⟩:=bl_ge h0
 have a3:=bl_lt x
 have a4:=bl_32 hx
 have e1:2 ^ (bl x - 1)*2 ^ (32 - bl x)=2147483648:=by
  rw [← Nat.pow_add,show bl x - 1+(32 - bl x)=31 by omega]
 have e2:2 ^ bl x*2 ^ (32 - bl x)=4294967296:=by
  rw [← Nat.pow_add,show bl x+(32 - bl x)=32 by omega]
 constructor
 ·rw [← e1];exact Nat.mul_le_mul_right _ a1
 ·rw [← e2];exact Nat.mul_lt_mul_of_pos_right a3 (Nat.two_pow_pos _)
theorem norm_len {B n x:Nat} (hn:(digs B).length=n+1) (hx:(digs B)[n]? =some x):(digs (B*2 ^ (32 - bl x))).length=n+1:=by
 have hx0:=digs_last B x (by rw [hn,Nat.add_sub_cancel];exact hx)
 have hxB:=(digs_lim B).at hx
 obtain ⟨h1,h2⟩:=norm_top hx0 hxB
 have hv:=val_split (digs B) n
 rw [Nat.min_eq_left (by omega),val_digs,val_drop hx,List.drop_eq_nil_of_le (by omega),val_nil] at hv
 have ht:=val_lt ((digs_lim B).take n)
 rw [List.length_take,Nat.min_eq_left (by omega)] at ht
 have a3:=bl_lt x
 have a4:=bl_32 hxB
 have hs:=Nat.two_pow_pos (32 - bl x)
 generalize val ((digs B).take n)=T at*
 have hP:0<4294967296 ^ n:=Nat.pow_pos (by decide)
 have e1:4294967296 ^ n*(x+1)≤4294967296 ^ n*2 ^ bl x:=Nat.mul_le_mul_left _ a3
 rw [Nat.mul_add,Nat.mul_one] at e1
 have e0:x+4294967296*0=x:=by omega
 rw [e0] at hv
 have hB:B<4294967296 ^ n*2 ^ bl x:=by omega
 apply Nat.le_antisymm
 ·apply digs_len_of
  have e2:B*2 ^ (32 - bl x)<4294967296 ^ n*2 ^ bl x*2 ^ (32 - bl x):=Nat.mul_lt_mul_of_pos_right hB hs
  rw [Nat.mul_assoc,← Nat.pow_add,show bl x+(32 - bl x)=32 by omega] at e2
  rw [Nat.pow_succ]
  exact e2
 ·apply Classical.byContradiction
  intro hlt
  have e3:=digs_lt (B*2 ^ (32 - bl x))
  have e4:4294967296 ^ (digs (B*2 ^ (32 - bl x))).length≤4294967296 ^ n:=Nat.pow_le_pow_right (by decide) (by omega)
  have e5:4294967296 ^ n*1≤4294967296 ^ n*x:=Nat.mul_le_mul_left _ (by omega)
  have e6:B*1≤B*2 ^ (32 - bl x):=Nat.mul_le_mul_left _ hs
  omega
end Go.Proofs.YtoiebebjgnpkmaaGreatDoor
namespace Go.Proofs.YtoiebebjgnpkmaaGreatDoor
open Go.RowKit
set_option linter.unusedSimpArgs false
set_option linter.unusedVariables false
theorem long_round {V Q R u S:Nat} (hS:S=u+4294967296*R):u+4294967296*(V*Q+R)=V*(S / V+4294967296*Q)+S % V:=by
 have h1:=Nat.div_add_mod S V
 rw [Nat.mul_add,Nat.mul_add,Nat.mul_left_comm V]
 omega
theorem long_lt {V R u:Nat} (hu:u<4294967296) (hR:R<V):u+4294967296*R<4294967296*V:=by omega
theorem long_end {A B s Q R:Nat} (hB:0<B) (h:A*2 ^ s=B*2 ^ s*Q+R) (hR:R<B*2 ^ s):Q=A / B∧R / 2 ^ s=A % B:=by
 have hs:=Nat.two_pow_pos s
 have hV:0<B*2 ^ s:=Nat.mul_pos hB hs
 have h1:A*2 ^ s / (B*2 ^ s)=Q:=by
  rw [h,Nat.mul_add_div hV,Nat.div_eq_of_lt hR,Nat.add_zero]
 have h2:A*2 ^ s % (B*2 ^ s)=R:=by
  rw [h,Nat.mul_add_mod,Nat.mod_eq_of_lt hR]
 refine ⟨?_, ?_⟩
 ·rw [← h1,scaled_div hs]
 ·rw [← h2,scaled_mod hs]
theorem zeros_tail {l:List Nat} (h:∀ (k x:Nat),l[k]? =some x→x=0):val l=0:=by
 induction l with
 | nil=>rfl
 | cons x l ih=>
  have h0:=h 0 x rfl
  have:=ih (fun k y hk=>h (k+1) y hk)
  simp only [val,this,h0]
theorem norm_ge {B n x:Nat} (hn:(digs B).length=n+1) (hx:(digs B)[n]? =some x):2147483648*4294967296 ^ n≤B*2 ^ (32 - bl x)∧32 - bl x≤31:=by
 have hx0:=digs_last B x (by rw [hn,Nat.add_sub_cancel];exact hx)
 obtain ⟨h1,_⟩:=norm_top hx0 ((digs_lim B).at hx)
 have hv:=val_split (digs B) n
 rw [Nat.min_eq_left (by omega),val_digs,val_drop hx,List.drop_eq_nil_of_le (by omega),val_nil] at hv
 have e0:x+4294967296*0=x:=by omega
 rw [e0] at hv
 refine ⟨?_,by have:=(bl_ge hx0).2;omega⟩
 have h2:4294967296 ^ n*x≤B:=by omega
 have h3:4294967296 ^ n*x*2 ^ (32 - bl x)≤B*2 ^ (32 - bl x):=Nat.mul_le_mul_right _ h2
 have h4:4294967296 ^ n*2147483648≤4294967296 ^ n*(x*2 ^ (32 - bl x)):=Nat.mul_le_mul_left _ h1
 rw [← Nat.mul_assoc] at h4
 rw [Nat.mul_comm 2147483648]
 omega
theorem long_start {A V n mm s:Nat} (hA:A<4294967296 ^ n) (hs:s≤31) (hV:2147483648*4294967296 ^ mm≤V) (hmn:mm≤n):A*2 ^ s<V*4294967296 ^ (n - mm):=by
 have h1:2 ^ s≤2 ^ 31:=Nat.pow_le_pow_right (by decide) hs
 have h2:A*2 ^ s<4294967296 ^ n*2 ^ s:=Nat.mul_lt_mul_of_pos_right hA (Nat.two_pow_pos s)
 have h3:4294967296 ^ n*2 ^ s≤4294967296 ^ n*2 ^ 31:=Nat.mul_le_mul_left _ h1
 have h4:2147483648*4294967296 ^ mm*4294967296 ^ (n - mm)≤V*4294967296 ^ (n - mm):=Nat.mul_le_mul_right _ hV
 rw [Nat.mul_assoc,← Nat.pow_add,show mm+(n - mm)=n by omega,Nat.mul_comm] at h4
 exact Nat.lt_of_lt_of_le (Nat.lt_of_lt_of_le h2 h3) h4
end Go.Proofs.YtoiebebjgnpkmaaGreatDoor
namespace Go.Proofs.YtoiebebjgnpkmaaGreatDoor
open Go.RowKit
set_option linter.unusedSimpArgs false
set_option linter.unusedVariables false
theorem Hp.wrote {T:List Nat} {w0 w w':World} {g g0:Nat} {cs cs0 cs1:List Value} {t t0:TypeId} (H:Hp T w0 w [.blk g cs t, .blk g0 cs0 t0]) (hF:Fr [g0] w w') (hg:w'.heap[g0]? =some (.cells cs1.toArray t0 (0,0))):Hp T w0 w' [.blk g cs t, .blk g0 cs1 t0]:=by
 have hn:=H.nodup
 simp only [List.flatMap_cons,List.flatMap_nil,Ent.own,List.cons_append,List.nil_append,List.append_nil,List.nodup_cons,List.mem_cons,List.not_mem_nil,or_false] at hn
 have a1:=H.ok _ (.head _)
 have a2:=H.ok _ (.tail _ (.head _))
 refine ⟨H.fr.andThen hF (fun x hx=> ?_),fun e he=> ?_,by simpa [List.flatMap_cons,Ent.own] using hn.1⟩
 ·simp only [List.mem_singleton] at hx;subst hx;exact a2.2
 ·simp only [List.mem_cons,List.not_mem_nil,or_false] at he
  rcases he with rfl | rfl
  ·exact ⟨hF.get a1.1 (by simpa using hn.1),a1.2⟩
  ·exact ⟨hg,a2.2⟩
end Go.Proofs.YtoiebebjgnpkmaaGreatDoor
namespace Go.Proofs.YtoiebebjgnpkmaaGreatDoor
open Go.RowKit
set_option linter.unusedSimpArgs false
set_option linter.unusedVariables false
structure Long (V m n:Nat) (U:List Nat) (i:Nat) (l o:List Nat):Prop where
 hl:l.length=n+1
 lim:Lim l
 ol:o.length=n+1 - m
 olim:Lim o
 tk:l.take i=U.take i
 z:∀ (k x:Nat),i+m≤k→l[k]? =some x→x=0
 v:val (U.drop i)=V*val (o.drop i)+val (l.drop i)
 lt:val (l.drop i)<V
theorem long_ty {U:List Nat} {m n V:Nat} (hU:U.length=n+1) (lU:Lim U) (hm:m≤n+1) (hlt:val (U.drop (n+1 - m))<V):Long V m n U (n+1 - m) U (List.replicate (n+1 - m) 0) where
 hl:=hU
 lim:=lU
 ol:=List.length_replicate
 olim:=Lim.zeros _
 tk:=rfl
 z:=fun k x hk hx=>by
  have:=(List.getElem?_eq_some_iff.1 hx).1
  omega
 v:=by
  have e:(List.replicate (n+1 - m) 0).drop (n+1 - m)=[]:=List.drop_eq_nil_of_le (by simp)
  rw [e,val_nil,Nat.mul_zero,Nat.zero_add]
 lt:=hlt
theorem val_zero_of {l:List Nat} {i:Nat} (h:∀ (k x:Nat),i≤k→l[k]? =some x→x=0):val (l.drop i)=0:=
 zeros_tail (fun k x hk=>h (i+k) x (Nat.le_add_right _ _) (by rwa [List.getElem?_drop] at hk))
theorem Long.cut {V m n j:Nat} {U l o:List Nat} (h:Long V m n U (j+1) l o) (hj:j+m≤n):
 l=l.take j++(l.drop j).take (m+1)++l.drop (j+(m+1))∧(l.take j).length=j∧((l.drop j).take (m+1)).length=m+1∧Lim ((l.drop j).take (m+1))∧val ((l.drop j).take (m+1))=val (l.drop j)∧val ((l.drop j).take (m+1))<4294967296*V:=by
 have hl:=h.hl
 have h1:((l.drop j).take (m+1)).length=m+1:=by rw [List.length_take,List.length_drop];omega
 have h2:val ((l.drop j).take (m+1))=val (l.drop j):=by
  have e:=val_split (l.drop j) (m+1)
  have hz:val (l.drop (j+(m+1)))=0:=val_zero_of (fun k x hk hx=>h.z k x (by omega) hx)
  rw [List.drop_drop,hz,Nat.mul_zero,Nat.add_zero] at e
  exact e.symm
 refine ⟨?_,by rw [List.length_take];omega,h1,(h.lim.drop _).take _,h2, ?_⟩
 ·rw [← List.drop_drop,List.append_assoc,List.take_append_drop,List.take_append_drop]
 ·rw [h2]
  obtain ⟨x,hx⟩:∃ x,l[j]? =some x:=⟨_,List.getElem?_eq_getElem (by omega)⟩
  rw [val_drop hx]
  exact long_lt (h.lim.at hx) h.lt
theorem Long.next {V m n j:Nat} {U l o sg:List Nat} (h:Long V m n U (j+1) l o) (hj:j+m≤n) (hV:V≤4294967296 ^ m) (hs:sg.length=m+1) (ls:Lim sg) (hv:val sg=val ((l.drop j).take (m+1)) % V):Long V m n U j (l.take j++sg++l.drop (j+(m+1))) (o.set j (val ((l.drop j).take (m+1)) / V)):=by
 obtain ⟨hcut,c1,c2,c3,c4,c5⟩:=h.cut hj
 have hl:=h.hl
 have hol:=h.ol
 have hVp:0<V:=by
  rcases Nat.eq_zero_or_pos V with e | e
  ·rw [e] at c5;omega
  ·exact e
 obtain ⟨x,hx⟩:∃ x,l[j]? =some x:=⟨_,List.getElem?_eq_getElem (by omega)⟩
 have hUj:U[j]? =some x:=by
  have e:=congrArg (·[j]?) h.tk
  simp only [List.getElem?_take] at e
  rw [if_pos (by omega),if_pos (by omega)] at e
  rw [← e,hx]
 have hmod:val sg<V:=by rw [hv];exact Nat.mod_lt _ hVp
 have hz2:val (l.drop (j+(m+1)))=0:=val_zero_of (fun k x hk hx=>h.z k x (by omega) hx)
 have hd:(l.take j++sg++l.drop (j+(m+1))).drop j=sg++l.drop (j+(m+1)):=by
  rw [List.append_assoc,List.drop_append_of_le_length (by omega),List.drop_eq_nil_of_le (by omega),List.nil_append]
 have hvd:val (sg++l.drop (j+(m+1)))=val sg:=by rw [val_app,hz2,Nat.mul_zero,Nat.add_zero]
 have hq:val ((l.drop j).take (m+1)) / V<4294967296:=Nat.div_lt_of_lt_mul (by rw [Nat.mul_comm];exact c5)
 refine ⟨?_, ?_, ?_,h.olim.set _ hq, ?_, ?_, ?_, ?_⟩
 ·rw [List.length_append,List.length_append,c1,hs,List.length_drop];omega
 ·exact ((h.lim.take _).app ls).app (h.lim.drop _)
 ·rw [List.length_set];exact hol
 ·rw [List.append_assoc,List.take_append_of_le_length (by omega),List.take_of_length_le (by omega)]
  have e:=congrArg (List.take j) h.tk
  rwa [List.take_take,List.take_take,Nat.min_eq_left (by omega)] at e
 ·intro k y hk hy
  by_cases hkm:k=j+m
  ·subst hkm
   rw [List.append_assoc,List.getElem?_append_right (by omega),c1,show j+m - j=m by omega,List.getElem?_append_left (by omega)] at hy
   rw [List.length_take] at c1
   have e1:=val_take_succ hy
   rw [List.take_of_length_le (by omega)] at e1
   rcases Nat.eq_zero_or_pos y with e | e
   ·exact e
   ·have e2:4294967296 ^ m*1≤4294967296 ^ m*y:=Nat.mul_le_mul_left _ e
    omega
  ·rw [List.getElem?_append_right (by rw [List.length_append,c1,hs];omega),List.length_append,c1,hs,List.getElem?_drop,show j+(m+1)+(k - (j+(m+1)))=k by omega] at hy
   exact h.z k y (by omega) hy
 ·rw [hd,hvd,hv,drop_set _ _ _ (by omega),val_cons,val_drop hUj,h.v]
  exact long_round (by rw [c4,val_drop hx])
 ·rw [hd,hvd];exact hmod
theorem long_first {A B n mm s ul:Nat} (hA:A<4294967296 ^ n) (hul:ul≤n+1) (he:(digs (A*2 ^ s)).length=ul) (hmn:mm+1≤n) (hB:2147483648*4294967296 ^ mm≤B*2 ^ s∧s≤31):Long (B*2 ^ s) (mm+1) n (digs (A*2 ^ s)++List.replicate (n+1 - ul) 0) (n - mm) (digs (A*2 ^ s)++List.replicate (n+1 - ul) 0) (List.replicate (n - mm) 0):=by
 have lU:Lim (digs (A*2 ^ s)++List.replicate (n+1 - ul) 0):=(digs_lim _).app (Lim.zeros _)
 have hv:val (digs (A*2 ^ s)++List.replicate (n+1 - ul) 0)=A*2 ^ s:=by rw [val_app,val_zeros,Nat.mul_zero,Nat.add_zero,val_digs]
 have h:=long_ty (V:=B*2 ^ s) (m:=mm+1) (n:=n) (by rw [List.length_append,he,List.length_replicate];omega) lU (by omega) (by
  rw [← drop_div lU,hv,show n+1 - (mm+1)=n - mm by omega]
  exact Nat.div_lt_of_lt_mul (by rw [Nat.mul_comm (4294967296 ^ (n - mm))];exact long_start hA hB.2 hB.1 (by omega)))
 rwa [show n+1 - (mm+1)=n - mm by omega] at h
theorem Long.whole {A B n mm s ul:Nat} {l o:List Nat} (hB:0<B) (h:Long (B*2 ^ s) (mm+1) n (digs (A*2 ^ s)++List.replicate (n+1 - ul) 0) 0 l o) (hmn:mm+1≤n):val o=A / B∧val (l.take (mm+1)) / 2 ^ s=A % B:=by
 have h1:=h.v
 have h2:=h.lt
 rw [List.drop_zero,List.drop_zero,List.drop_zero,val_app,val_zeros,Nat.mul_zero,Nat.add_zero,val_digs] at h1
 rw [List.drop_zero] at h2
 have h3:val (l.take (mm+1))=val l:=by
  have e:=val_split l (mm+1)
  have hz:val (l.drop (mm+1))=0:=val_zero_of (fun k x hk hx=>h.z k x (by omega) hx)
  rw [hz,Nat.mul_zero,Nat.add_zero] at e
  exact e.symm
 rw [h3]
 exact long_end hB h1 h2
end Go.Proofs.YtoiebebjgnpkmaaGreatDoor
namespace Go.Proofs.YtoiebebjgnpkmaaGreatDoor
open Go.RowKit
set_option linter.unusedSimpArgs false
set_option linter.unusedVariables false
section
variable {P:Program} {w w0:World} {T:List Nat} {l:List Ent} {L:List Value}
theorem run_cell (H:Hp T w0 w l) {g:Nat} {ty:TypeId} {cs:List Value} {t':TypeId} (hm: .blk g cs t'∈l) {n:Nat} (hs:rowOf P ty=some n) (hn:cs.length=n):(loadVar ty ⟨g,0,none⟩).run P w= .ok (.agg cs.toArray) w:=by
 unfold rowOf at hs
 cases hu:P.underlying ty with
 | none=>simp [hu] at hs
 | some d=>exact run_loadVar_row w g t' ty cs.toArray (0,0) d (H.get hm) hu (by cases d<;>simp_all) (by cases d<;>simp_all)
theorem c_postCT (H:Hp T w0 w l) {fn:Func} {R:Ending→World→Prop} {k u:Nat} {ty:TypeId} (hr:fn.results=#[.cell k ty, .tmp u]) {g:Nat} (hp:L[k]? =some (.pointer (some ⟨g,0,none⟩))) {cs:List Value} {t':TypeId} {f:Nat→List Value→List Ent} [i:In g cs t' l f] {n:Nat} [hs:Ro P ty n] (hn:cs.length=n) {v:Value} (hv:L[u]? =some v)
 (hR:R (.returned (.tuple #[.agg cs.toArray,v])) w):bodyPost P fn R .ret ⟨L.toArray,[]⟩ w:=by
 refine bodyPost_ret (v:= .tuple #[.agg cs.toArray,v]) ?_ rfl hR
 rw [results_cell_tmp hr]
 simp [hp,hv,asAddr,run_cell H i.mem hs.h hn]
theorem c_postCCT (H:Hp T w0 w l) {fn:Func} {R:Ending→World→Prop} {k k2 u:Nat} {ty ty2:TypeId} (hr:fn.results=#[.cell k ty, .cell k2 ty2, .tmp u]) {g g2:Nat} (hp:L[k]? =some (.pointer (some ⟨g,0,none⟩))) (hp2:L[k2]? =some (.pointer (some ⟨g2,0,none⟩))) {cs cs2:List Value} {t' t2:TypeId} {f f2:Nat→List Value→List Ent} [i:In g cs t' l f] [i2:In g2 cs2 t2 l f2] {n n2:Nat} [hs:Ro P ty n] [hs2:Ro P ty2 n2] (hn:cs.length=n) (hn2:cs2.length=n2) {v:Value} (hv:L[u]? =some v)
 (hR:R (.returned (.tuple #[.agg cs.toArray, .agg cs2.toArray,v])) w):bodyPost P fn R .ret ⟨L.toArray,[]⟩ w:=by
 refine bodyPost_ret (v:= .tuple #[.agg cs.toArray, .agg cs2.toArray,v]) ?_ rfl hR
 simp only [results,hr]
 simp [Sem.run_bind,Result.andThen,hp,hp2,hv,asAddr,run_cell H i.mem hs.h hn,run_cell H i2.mem hs2.h hn2]
theorem c_postCC (H:Hp T w0 w l) {fn:Func} {R:Ending→World→Prop} {k k2:Nat} {ty ty2:TypeId} (hr:fn.results=#[.cell k ty, .cell k2 ty2]) {g g2:Nat} (hp:L[k]? =some (.pointer (some ⟨g,0,none⟩))) (hp2:L[k2]? =some (.pointer (some ⟨g2,0,none⟩))) {cs cs2:List Value} {t' t2:TypeId} {f f2:Nat→List Value→List Ent} [i:In g cs t' l f] [i2:In g2 cs2 t2 l f2] {n n2:Nat} [hs:Ro P ty n] [hs2:Ro P ty2 n2] (hn:cs.length=n) (hn2:cs2.length=n2)
 (hR:R (.returned (.tuple #[.agg cs.toArray, .agg cs2.toArray])) w):bodyPost P fn R .ret ⟨L.toArray,[]⟩ w:=by
 refine bodyPost_ret (v:= .tuple #[.agg cs.toArray, .agg cs2.toArray]) ?_ rfl hR
 simp only [results,hr]
 simp [Sem.run_bind,Result.andThen,hp,hp2,asAddr,run_cell H i.mem hs.h hn,run_cell H i2.mem hs2.h hn2]
end
end Go.Proofs.YtoiebebjgnpkmaaGreatDoor
namespace Go.Proofs.YtoiebebjgnpkmaaGreatDoor
open Go.RowKit
set_option linter.unusedSimpArgs false
set_option linter.unusedVariables false
theorem dm_unique {a b q r:Int} (h:a=q*b+r) (h0:0≤r) (h1:r<b.natAbs):a / b=q∧a % b=r:=by
 rcases Int.lt_or_lt_of_ne (show b≠0 by omega) with hb | hb
 ·obtain ⟨c,rfl⟩:∃ c,b= -c:=⟨-b,by omega⟩
  have h2:=(Int.ediv_emod_unique (a:=a) (r:=r) (q:= -q) (b:=c) (by omega)).2 ⟨by rw [h,Int.mul_neg,Int.mul_neg,Int.mul_comm c];omega,h0,by omega⟩
  rw [Int.ediv_neg,Int.emod_neg,h2.1,h2.2]
  omega
 ·exact (Int.ediv_emod_unique hb).2 ⟨by rw [h,Int.mul_comm b];omega,h0,by omega⟩
def sg (neg:Bool) (n:Nat):Int:=if neg then -(n:Int) else (n:Int)
theorem zv_sg (neg:Bool) (l:List Nat):zv neg l=sg neg (val l):=rfl
theorem sg_abs (neg:Bool) (n:Nat):(sg neg n).natAbs=n:=by unfold sg;split<;>omega
theorem sg_mul (a b:Bool) (n m:Nat):sg a n*sg b m=sg (!(a==b)) (n*m):=by
 unfold sg;cases a<;>cases b<;>simp [Int.natCast_mul,Int.neg_mul,Int.mul_neg]
theorem sg_zero (a:Bool):sg a 0=0:=by unfold sg;cases a<;>rfl
theorem sg_eq_zero {a:Bool} {n:Nat}:sg a n=0↔n=0:=by unfold sg;cases a<;>simp<;>omega
theorem dm_plain {na nb:Bool} {A B:Nat} (hB:B≠0) (h:na=false∨A % B=0):sg na A / sg nb B=sg (!(na==nb)) (A / B)∧sg na A % sg nb B=((A % B:Nat):Int):=by
 refine dm_unique ?_ (by omega) (by rw [sg_abs];exact Int.ofNat_lt.2 (Nat.mod_lt _ (Nat.pos_of_ne_zero hB)))
 rw [sg_mul]
 have h1:=Nat.div_add_mod A B
 rw [Nat.mul_comm] at h1
 generalize A / B*B=X at*
 generalize A % B=R at*
 unfold sg
 rcases h with rfl | h
 ·cases nb<;>simp<;>omega
 ·cases na<;>cases nb<;>simp<;>omega
theorem dm_down {nb:Bool} {A B:Nat} (hB:B≠0) (h:A % B≠0):sg true A / sg nb B=sg (!(true==nb)) (A / B+1)∧sg true A % sg nb B=((B - A % B:Nat):Int):=by
 have h2:=Nat.mod_lt A (Nat.pos_of_ne_zero hB)
 refine dm_unique ?_ (by omega) (by rw [sg_abs];omega)
 rw [sg_mul]
 have h1:=Nat.div_add_mod A B
 rw [Nat.mul_comm] at h1
 rw [Nat.add_mul,Nat.one_mul]
 generalize A / B*B=X at*
 generalize A % B=R at*
 unfold sg
 cases nb<;>simp<;>omega
def BigV (w:World) (v:Value) (z:Int):Prop:=∃ p c,v= .agg #[.bool (decide (z<0)), .slice p (digs z.natAbs).length c]∧LR w p c (digs z.natAbs)
theorem BigV.fr {w w':World} {v:Value} {z:Int} (h:BigV w v z) (k:Fr [] w w'):BigV w' v z:=by
 obtain ⟨p,c,rfl,hl⟩:=h
 exact ⟨p,c,rfl,hl.fr k⟩
theorem Big.iff {e:Ending} {w w':World} {z:Int}:Big e w w' z↔∃ v,e= .returned v∧Fr [] w w'∧BigV w' v z:=by
 constructor
 ·rintro ⟨p,c,rfl,h1,h2⟩
  exact ⟨_,rfl,h1,p,c,rfl,h2⟩
 ·rintro ⟨v,rfl,h1,p,c,rfl,h2⟩
  exact ⟨p,c,rfl,h1,h2⟩
theorem BigV.zero (w:World):BigV w (.agg #[.bool false, .slice none 0 0]) 0:=⟨none,0,by simp [digs_zero],by simpa [digs_zero] using LR.zero w⟩
end Go.Proofs.YtoiebebjgnpkmaaGreatDoor
namespace Go.Proofs
open Go.Shelf
set_option linter.unusedSimpArgs false
set_option linter.unusedVariables false
def Tryz.lays162_ren:Go.Shelf.Ren:=⟨fun | 162=>31 | 232=>74 | 227=>75 | 234=>76 | 236=>77 | 228=>123 | 271=>124 | 151=>125 | 120=>165 | 197=>164 | 152=>162 | 260=>212 | 137=>210 | 119=>211 | 224=>178 | 225=>177 | 217=>176 | 266=>224 | n=>n,fun | 9=>9 | 4=>4 | 3=>3 | 5=>5 | 117=>124 | 116=>123 | 0=>0 | 124=>127 | 21=>21 | 105=>165 | 46=>135 | 119=>267 | 139=>270 | 138=>269 | n=>n,fun | 3=>4 | 4=>5 | n=>n⟩
theorem Tryz.lays162:Go.Proofs.Lays.n162 Tryz.prog Tryz.lays162_ren:={
 mixed:=by kernel_rfl
 f119:=Tryz.func211.trans (congrArg some (by kernel_rfl))
 f120:=Tryz.func165.trans (congrArg some (by kernel_rfl))
 f137:=Tryz.func210.trans (congrArg some (by kernel_rfl))
 f151:=Tryz.func125.trans (congrArg some (by kernel_rfl))
 f152:=Tryz.func162.trans (congrArg some (by kernel_rfl))
 f162:=Tryz.func31.trans (congrArg some (by kernel_rfl))
 f197:=Tryz.func164.trans (congrArg some (by kernel_rfl))
 f217:=Tryz.func176.trans (congrArg some (by kernel_rfl))
 f224:=Tryz.func178.trans (congrArg some (by kernel_rfl))
 f225:=Tryz.func177.trans (congrArg some (by kernel_rfl))
 f227:=Tryz.func75.trans (congrArg some (by kernel_rfl))
 f228:=Tryz.func123.trans (congrArg some (by kernel_rfl))
 f232:=Tryz.func74.trans (congrArg some (by kernel_rfl))
 f234:=Tryz.func76.trans (congrArg some (by kernel_rfl))
 f236:=Tryz.func77.trans (congrArg some (by kernel_rfl))
 f260:=Tryz.func212.trans (congrArg some (by kernel_rfl))
 f266:=Tryz.func224.trans (congrArg some (by kernel_rfl))
 f271:=Tryz.func124.trans (congrArg some (by kernel_rfl))
 t0:=Tryz.underlying0
 a0:=Tryz.isAgg0
 z0:=Tryz.sizeOf0
 v0:=Tryz.zeroValue0
 t3:=Tryz.underlying3
 a3:=Tryz.isAgg3
 z3:=Tryz.sizeOf3
 v3:=Tryz.zeroValue3
 t4:=Tryz.underlying4
 a4:=Tryz.isAgg4
 z4:=Tryz.sizeOf4
 v4:=Tryz.zeroValue4
 t5:=Tryz.underlying5
 a5:=Tryz.isAgg5
 z5:=Tryz.sizeOf5
 v5:=Tryz.zeroValue5
 t9:=Tryz.underlying9
 a9:=Tryz.isAgg9
 z9:=Tryz.sizeOf9
 v9:=Tryz.zeroValue9
 t21:=Tryz.underlying21
 a21:=Tryz.isAgg21
 z21:=Tryz.sizeOf21
 v21:=Tryz.zeroValue21
 t46:=Tryz.underlying135
 a46:=Tryz.isAgg135
 z46:=Tryz.sizeOf135
 v46:=Tryz.zeroValue135
 t105:=Tryz.underlying165
 a105:=Tryz.isAgg165
 z105:=Tryz.sizeOf165
 v105:=Tryz.zeroValue165
 t116:=Tryz.underlying123
 a116:=Tryz.isAgg123
 z116:=Tryz.sizeOf123
 t117:=Tryz.underlying124
 a117:=Tryz.isAgg124
 z117:=Tryz.sizeOf124
 v117:=Tryz.zeroValue124
 t119:=Tryz.underlying267
 a119:=Tryz.isAgg267
 z119:=Tryz.sizeOf267
 t124:=Tryz.underlying127
 a124:=Tryz.isAgg127
 z124:=Tryz.sizeOf127
 v124:=Tryz.zeroValue127
 t138:=Tryz.underlying269
 a138:=Tryz.isAgg269
 z138:=Tryz.sizeOf269
 v138:=Tryz.zeroValue269
 t139:=Tryz.underlying270
 a139:=Tryz.isAgg270
 z139:=Tryz.sizeOf270
 v139:=Tryz.zeroValue270
 g3:=by kernel_rfl
 g4:=by kernel_rfl}
open Go.RowKit in
theorem Tryz.strings_TrimRight_one (s:ByteArray) (c:UInt8) (hc:c.toNat<128) (w:World) (hs:s.size≤9223372036854775807):
 Calls Tryz.prog 31 #[.string s, .string ⟨#[c]⟩] w fun e w'=>e= .returned (.string ⟨(Lib.trimRightB s.data.toList c).toArray⟩)∧w'=w:=Any.strings_TrimRight_one Tryz.lays162 s c hc w hs
def Tryz.lays160_ren:Go.Shelf.Ren:=⟨fun | 160=>73 | 232=>74 | 231=>120 | 227=>75 | 234=>76 | 233=>121 | 236=>77 | 235=>122 | 228=>123 | 271=>124 | 151=>125 | 197=>164 | 120=>165 | 152=>162 | 260=>212 | 137=>210 | 119=>211 | 224=>178 | 225=>177 | 217=>176 | 266=>224 | n=>n,fun | 9=>9 | 4=>4 | 3=>3 | 5=>5 | 117=>124 | 116=>123 | 0=>0 | 124=>127 | 21=>21 | 105=>165 | 46=>135 | 119=>267 | 139=>270 | 138=>269 | n=>n,fun | 3=>4 | 4=>5 | n=>n⟩
theorem Tryz.lays160:Go.Proofs.Lays.n160 Tryz.prog Tryz.lays160_ren:={
 mixed:=by kernel_rfl
 f119:=Tryz.func211.trans (congrArg some (by kernel_rfl))
 f120:=Tryz.func165.trans (congrArg some (by kernel_rfl))
 f137:=Tryz.func210.trans (congrArg some (by kernel_rfl))
 f151:=Tryz.func125.trans (congrArg some (by kernel_rfl))
 f152:=Tryz.func162.trans (congrArg some (by kernel_rfl))
 f160:=Tryz.func73.trans (congrArg some (by kernel_rfl))
 f197:=Tryz.func164.trans (congrArg some (by kernel_rfl))
 f217:=Tryz.func176.trans (congrArg some (by kernel_rfl))
 f224:=Tryz.func178.trans (congrArg some (by kernel_rfl))
 f225:=Tryz.func177.trans (congrArg some (by kernel_rfl))
 f227:=Tryz.func75.trans (congrArg some (by kernel_rfl))
 f228:=Tryz.func123.trans (congrArg some (by kernel_rfl))
 f231:=Tryz.func120.trans (congrArg some (by kernel_rfl))
 f232:=Tryz.func74.trans (congrArg some (by kernel_rfl))
 f233:=Tryz.func121.trans (congrArg some (by kernel_rfl))
 f234:=Tryz.func76.trans (congrArg some (by kernel_rfl))
 f235:=Tryz.func122.trans (congrArg some (by kernel_rfl))
 f236:=Tryz.func77.trans (congrArg some (by kernel_rfl))
 f260:=Tryz.func212.trans (congrArg some (by kernel_rfl))
 f266:=Tryz.func224.trans (congrArg some (by kernel_rfl))
 f271:=Tryz.func124.trans (congrArg some (by kernel_rfl))
 t0:=Tryz.underlying0
 a0:=Tryz.isAgg0
 z0:=Tryz.sizeOf0
 v0:=Tryz.zeroValue0
 t3:=Tryz.underlying3
 a3:=Tryz.isAgg3
 z3:=Tryz.sizeOf3
 v3:=Tryz.zeroValue3
 t4:=Tryz.underlying4
 a4:=Tryz.isAgg4
 z4:=Tryz.sizeOf4
 v4:=Tryz.zeroValue4
 t5:=Tryz.underlying5
 a5:=Tryz.isAgg5
 z5:=Tryz.sizeOf5
 v5:=Tryz.zeroValue5
 t9:=Tryz.underlying9
 a9:=Tryz.isAgg9
 z9:=Tryz.sizeOf9
 v9:=Tryz.zeroValue9
 t21:=Tryz.underlying21
 a21:=Tryz.isAgg21
 z21:=Tryz.sizeOf21
 v21:=Tryz.zeroValue21
 t46:=Tryz.underlying135
 a46:=Tryz.isAgg135
 z46:=Tryz.sizeOf135
 v46:=Tryz.zeroValue135
 t105:=Tryz.underlying165
 a105:=Tryz.isAgg165
 z105:=Tryz.sizeOf165
 v105:=Tryz.zeroValue165
 t116:=Tryz.underlying123
 a116:=Tryz.isAgg123
 z116:=Tryz.sizeOf123
 t117:=Tryz.underlying124
 a117:=Tryz.isAgg124
 z117:=Tryz.sizeOf124
 v117:=Tryz.zeroValue124
 t119:=Tryz.underlying267
 a119:=Tryz.isAgg267
 z119:=Tryz.sizeOf267
 t124:=Tryz.underlying127
 a124:=Tryz.isAgg127
 z124:=Tryz.sizeOf127
 v124:=Tryz.zeroValue127
 t138:=Tryz.underlying269
 a138:=Tryz.isAgg269
 z138:=Tryz.sizeOf269
 v138:=Tryz.zeroValue269
 t139:=Tryz.underlying270
 a139:=Tryz.isAgg270
 z139:=Tryz.sizeOf270
 v139:=Tryz.zeroValue270
 g3:=by kernel_rfl
 g4:=by kernel_rfl}
open Go.RowKit in
theorem Tryz.strings_Trim_one (s:ByteArray) (c:UInt8) (hc:c.toNat<128) (w:World) (hs:s.size≤9223372036854775807):
 Calls Tryz.prog 73 #[.string s, .string ⟨#[c]⟩] w fun e w'=>e= .returned (.string ⟨(Lib.trimB s.data.toList c).toArray⟩)∧(w'=w∨w'=w.drew):=Any.strings_Trim_one Tryz.lays160 s c hc w hs
def Tryz.lays103_ren:Go.Shelf.Ren:=⟨fun | 103=>156 | 210=>202 | 206=>150 | n=>n,fun | 9=>9 | 4=>4 | 24=>153 | 3=>3 | n=>n,fun | n=>n⟩
theorem Tryz.lays103:Go.Proofs.Lays.n103 Tryz.prog Tryz.lays103_ren:={
 mixed:=by kernel_rfl
 f103:=Tryz.func156.trans (congrArg some (by kernel_rfl))
 f206:=Tryz.func150.trans (congrArg some (by kernel_rfl))
 f210:=Tryz.func202.trans (congrArg some (by kernel_rfl))
 t3:=Tryz.underlying3
 a3:=Tryz.isAgg3
 z3:=Tryz.sizeOf3
 v3:=Tryz.zeroValue3
 t4:=Tryz.underlying4
 a4:=Tryz.isAgg4
 z4:=Tryz.sizeOf4
 v4:=Tryz.zeroValue4
 t9:=Tryz.underlying9
 a9:=Tryz.isAgg9
 z9:=Tryz.sizeOf9
 v9:=Tryz.zeroValue9
 t24:=Tryz.underlying153
 a24:=Tryz.isAgg153
 z24:=Tryz.sizeOf153
 v24:=Tryz.zeroValue153}
open Go.RowKit in
theorem Tryz.strings_CutPrefix (s p:ByteArray) (w:World):
 Calls Tryz.prog 156 #[.string s, .string p] w fun e w'=>e= .returned (.tuple #[.string ⟨(Lib.trimPrefix s.data.toList p.data.toList).toArray⟩, .bool (Lib.hasPrefix s.data.toList p.data.toList)])∧w'=w:=Any.strings_CutPrefix Tryz.lays103 s p w
def Tryz.lays104_ren:Go.Shelf.Ren:=⟨fun | 104=>157 | 211=>203 | 207=>127 | n=>n,fun | 9=>9 | 4=>4 | 24=>153 | 3=>3 | n=>n,fun | n=>n⟩
theorem Tryz.lays104:Go.Proofs.Lays.n104 Tryz.prog Tryz.lays104_ren:={
 mixed:=by kernel_rfl
 f104:=Tryz.func157.trans (congrArg some (by kernel_rfl))
 f207:=Tryz.func127.trans (congrArg some (by kernel_rfl))
 f211:=Tryz.func203.trans (congrArg some (by kernel_rfl))
 t3:=Tryz.underlying3
 a3:=Tryz.isAgg3
 z3:=Tryz.sizeOf3
 v3:=Tryz.zeroValue3
 t4:=Tryz.underlying4
 a4:=Tryz.isAgg4
 z4:=Tryz.sizeOf4
 v4:=Tryz.zeroValue4
 t9:=Tryz.underlying9
 a9:=Tryz.isAgg9
 z9:=Tryz.sizeOf9
 v9:=Tryz.zeroValue9
 t24:=Tryz.underlying153
 a24:=Tryz.isAgg153
 z24:=Tryz.sizeOf153
 v24:=Tryz.zeroValue153}
open Go.RowKit in
theorem Tryz.strings_CutSuffix (s p:ByteArray) (w:World) (hs:s.size≤9223372036854775807):
 Calls Tryz.prog 157 #[.string s, .string p] w fun e w'=>e= .returned (.tuple #[.string ⟨(Lib.trimSuffix s.data.toList p.data.toList).toArray⟩, .bool (Lib.hasSuffix s.data.toList p.data.toList)])∧w'=w:=Any.strings_CutSuffix Tryz.lays104 s p w hs
def Tryz.lays144_ren:Go.Shelf.Ren:=⟨fun | 144=>48 | 143=>94 | 219=>134 | 217=>176 | 225=>177 | 224=>178 | 267=>179 | 266=>224 | 314=>225 | n=>n,fun | 9=>9 | 4=>4 | 3=>3 | 5=>5 | 46=>135 | 146=>193 | 51=>162 | n=>n,fun | 1=>1 | n=>n⟩
theorem Tryz.lays144:Go.Proofs.Lays.n144 Tryz.prog Tryz.lays144_ren:={
 mixed:=by kernel_rfl
 f143:=Tryz.func94.trans (congrArg some (by kernel_rfl))
 f144:=Tryz.func48.trans (congrArg some (by kernel_rfl))
 f217:=Tryz.func176.trans (congrArg some (by kernel_rfl))
 f219:=Tryz.func134.trans (congrArg some (by kernel_rfl))
 f224:=Tryz.func178.trans (congrArg some (by kernel_rfl))
 f225:=Tryz.func177.trans (congrArg some (by kernel_rfl))
 f266:=Tryz.func224.trans (congrArg some (by kernel_rfl))
 f267:=Tryz.func179.trans (congrArg some (by kernel_rfl))
 f314:=Tryz.func225.trans (congrArg some (by kernel_rfl))
 t3:=Tryz.underlying3
 a3:=Tryz.isAgg3
 z3:=Tryz.sizeOf3
 v3:=Tryz.zeroValue3
 t4:=Tryz.underlying4
 a4:=Tryz.isAgg4
 z4:=Tryz.sizeOf4
 v4:=Tryz.zeroValue4
 t5:=Tryz.underlying5
 a5:=Tryz.isAgg5
 z5:=Tryz.sizeOf5
 v5:=Tryz.zeroValue5
 t9:=Tryz.underlying9
 a9:=Tryz.isAgg9
 z9:=Tryz.sizeOf9
 v9:=Tryz.zeroValue9
 t46:=Tryz.underlying135
 a46:=Tryz.isAgg135
 z46:=Tryz.sizeOf135
 v46:=Tryz.zeroValue135
 t51:=Tryz.underlying162
 a51:=Tryz.isAgg162
 z51:=Tryz.sizeOf162
 v51:=Tryz.zeroValue162
 t146:=Tryz.underlying193
 a146:=Tryz.isAgg193
 z146:=Tryz.sizeOf193
 v146:=Tryz.zeroValue193
 g1:=by kernel_rfl}
open Go.RowKit Go.Lib in
theorem Tryz.strings_Contains_one (s:ByteArray) (c:UInt8) (w:World):
 Calls Tryz.prog 48 #[.string s, .string ⟨#[c]⟩] w fun e w'=>e= .returned (.bool (decide (0≤Lib.indexByte s.data.toList c)))∧w'=w:=Any.strings_Contains_one Tryz.lays144 s c w
open Go.RowKit Go.Lib in
def Tryz.lays101_ren:Go.Shelf.Ren:=⟨fun | 101=>110 | 208=>158 | 206=>150 | n=>n,fun | 9=>9 | 4=>4 | 3=>3 | n=>n,fun | n=>n⟩
theorem Tryz.lays101:Go.Proofs.Lays.n101 Tryz.prog Tryz.lays101_ren:={
 mixed:=by kernel_rfl
 f101:=Tryz.func110.trans (congrArg some (by kernel_rfl))
 f206:=Tryz.func150.trans (congrArg some (by kernel_rfl))
 f208:=Tryz.func158.trans (congrArg some (by kernel_rfl))
 t3:=Tryz.underlying3
 a3:=Tryz.isAgg3
 z3:=Tryz.sizeOf3
 v3:=Tryz.zeroValue3
 t4:=Tryz.underlying4
 a4:=Tryz.isAgg4
 z4:=Tryz.sizeOf4
 v4:=Tryz.zeroValue4
 t9:=Tryz.underlying9
 a9:=Tryz.isAgg9
 z9:=Tryz.sizeOf9
 v9:=Tryz.zeroValue9}
open Go.RowKit Go.Lib in
theorem Tryz.strings_TrimPrefix (s p:ByteArray) (w:World):
 Calls Tryz.prog 110 #[.string s, .string p] w fun e w'=>e= .returned (.string ⟨(Lib.trimPrefix s.data.toList p.data.toList).toArray⟩)∧w'=w:=Any.strings_TrimPrefix Tryz.lays101 s p w
def Tryz.lays110_ren:Go.Shelf.Ren:=⟨fun | 110=>104 | 109=>155 | n=>n,fun | 31=>44 | 9=>9 | 4=>4 | 3=>3 | 0=>0 | n=>n,fun | n=>n⟩
theorem Tryz.lays110:Go.Proofs.Lays.n110 Tryz.prog Tryz.lays110_ren:={
 mixed:=by kernel_rfl
 f109:=Tryz.func155.trans (congrArg some (by kernel_rfl))
 f110:=Tryz.func104.trans (congrArg some (by kernel_rfl))
 t0:=Tryz.underlying0
 a0:=Tryz.isAgg0
 z0:=Tryz.sizeOf0
 v0:=Tryz.zeroValue0
 t3:=Tryz.underlying3
 a3:=Tryz.isAgg3
 z3:=Tryz.sizeOf3
 v3:=Tryz.zeroValue3
 t4:=Tryz.underlying4
 a4:=Tryz.isAgg4
 z4:=Tryz.sizeOf4
 v4:=Tryz.zeroValue4
 t9:=Tryz.underlying9
 a9:=Tryz.isAgg9
 z9:=Tryz.sizeOf9
 v9:=Tryz.zeroValue9
 t31:=Tryz.underlying44
 a31:=Tryz.isAgg44
 z31:=Tryz.sizeOf44
 v31:=Tryz.zeroValue44}
open Go.Lib in
theorem Tryz.slices_Contains_string (b off n c:Nat) (zs:List ByteArray) (x:ByteArray) (w:World) (hz:n≤zs.length) (hbig:n≤9223372036854775807) (hc:∀ j,j<zs.length→w.cell? ⟨b,off+j,none⟩=some (.string (zs.getD j ByteArray.empty))):
 Calls Tryz.prog 104 #[.slice (some ⟨b,off,none⟩) n c, .string x] w fun e w'=>e= .returned (.bool (Lib.containsS (zs.take n) x))∧w'=w:=Any.slices_Contains_string Tryz.lays110 b off n c zs x w hz hbig hc
end Go.Proofs
namespace Go.Proofs.YtoiebebjgnpkmaaGreatDoor
set_option linter.unusedSimpArgs false
set_option linter.unusedVariables false
def rup (neg:Bool) (mode:Int) (c:Int) (odd:Bool):Bool:=
 if mode=1 then neg else if mode=2 then !neg else if mode=3 then false else (decide (0<c)||(decide (c=0)&&odd))
def cmpN (a b:Nat):Int:=if a<b then -1 else if a=b then 0 else 1
def rm (neg:Bool) (mode:Int) (N D:Nat):Nat:=
 if N % D=0 then N / D else if rup neg mode (cmpN (2*(N % D)) D) (N / D % 2==1) then N / D+1 else N / D
theorem cmpN_mul {a b c:Nat} (hc:0<c):cmpN (c*a) (c*b)=cmpN a b:=by
 unfold cmpN
 simp only [Nat.mul_lt_mul_left hc,Nat.mul_right_inj (Nat.pos_iff_ne_zero.1 hc)]
theorem rm_mul (neg:Bool) (mode:Int) (N D:Nat) {c:Nat} (hc:0<c):rm neg mode (c*N) (c*D)=rm neg mode N D:=by
 unfold rm
 rw [Nat.mul_mod_mul_left,Nat.mul_div_mul_left _ _ hc,Nat.mul_left_comm 2 c,cmpN_mul hc]
 simp only [Nat.mul_eq_zero,Nat.pos_iff_ne_zero.1 hc,false_or]
def half (m k:Nat) (more:Bool):Int:=if m % 2 ^ k<2 ^ (k - 1) then -1 else if m % 2 ^ k=2 ^ (k - 1)∧more=false then 0 else 1
theorem half_eq {X Y k:Nat} (hY:0<Y) (hk:1≤k):half (X / Y) k (decide (X % Y≠0))=cmpN (2*(X % (Y*2 ^ k))) (Y*2 ^ k):=by
 obtain ⟨j,rfl⟩:∃ j,k=j+1:=⟨k - 1,by omega⟩
 unfold half cmpN
 rw [Nat.mod_mul,Nat.add_sub_cancel]
 have hr:=Nat.mod_lt X hY
 generalize X % Y=r at hr ⊢
 generalize X / Y % 2 ^ (j+1)=q
 have hp:Y*2 ^ (j+1)=2*(Y*2 ^ j):=by rw [Nat.pow_succ,← Nat.mul_assoc,Nat.mul_comm _ 2]
 rw [hp]
 generalize 2 ^ j=P
 rcases Nat.lt_trichotomy q P with h | h | h
 ·have h1:Y*(q+1)≤Y*P:=Nat.mul_le_mul_left _ h
  rw [Nat.mul_succ] at h1
  rw [if_pos h,if_pos (by omega)]
 ·subst h
  by_cases h0:r=0
  ·rw [if_neg (Nat.lt_irrefl _),if_pos (by simp [h0]),if_neg (by omega),if_pos (by omega)]
  ·rw [if_neg (Nat.lt_irrefl _),if_neg (by simp [h0]),if_neg (by omega),if_neg (by omega)]
 ·have h1:Y*(P+1)≤Y*q:=Nat.mul_le_mul_left _ h
  rw [Nat.mul_succ] at h1
  rw [if_neg (by omega),if_neg (by omega),if_neg (by omega),if_neg (by omega)]
theorem rm_cut (neg:Bool) (mode:Int) {X Y k:Nat} (hY:0<Y) (hk:1≤k):
 rm neg mode X (Y*2 ^ k)=if X / Y % 2 ^ k=0∧X % Y=0 then X / Y / 2 ^ k else if rup neg mode (half (X / Y) k (decide (X % Y≠0))) (X / Y / 2 ^ k % 2==1) then X / Y / 2 ^ k+1 else X / Y / 2 ^ k:=by
 rw [half_eq hY hk]
 unfold rm
 rw [← Nat.div_div_eq_div_mul]
 have e:(X % (Y*2 ^ k)=0)=(X / Y % 2 ^ k=0∧X % Y=0):=by
  rw [Nat.mod_mul,Nat.add_eq_zero_iff,Nat.mul_eq_zero]
  apply propext
  constructor
  ·rintro ⟨h1,h2 | h2⟩
   ·omega
   ·exact ⟨h2,h1⟩
  ·rintro ⟨h1,h2⟩
   exact ⟨h2, .inr h1⟩
 simp only [e]
theorem rm_exact (neg:Bool) (mode:Int) {X Y:Nat} (h:X % Y=0):rm neg mode X Y=X / Y:=by unfold rm;rw [if_pos h]
theorem half_small {m k:Nat} {more:Bool} (h:bl m<k):half m k more= -1∧m / 2 ^ k=0∧m % 2 ^ k=m:=by
 have h1:=bl_lt m
 have h2:2 ^ bl m≤2 ^ (k - 1):=Nat.pow_le_pow_right (by decide) (by omega)
 have h3:2 ^ (k - 1)≤2 ^ k:=Nat.pow_le_pow_right (by decide) (by omega)
 have h4:m % 2 ^ k=m:=Nat.mod_eq_of_lt (by omega)
 refine ⟨?_,Nat.div_eq_of_lt (by omega),h4⟩
 unfold half
 rw [h4,if_pos (by omega)]
def lg (N D:Nat):Int:=(bl (N*2 ^ bl D / D):Int) - 1 - bl D
theorem bl_div_pow {m j:Nat} (h:m / 2 ^ j≠0):bl m=bl (m / 2 ^ j)+j:=by
 obtain ⟨a1,a2⟩:=bl_ge h
 have a3:=bl_lt (m / 2 ^ j)
 have hp:0<2 ^ j:=Nat.pow_pos (by decide)
 rw [show bl (m / 2 ^ j)+j=(bl (m / 2 ^ j) - 1+j)+1 by omega]
 apply bl_of
 ·rw [Nat.pow_add]
  exact (Nat.le_div_iff_mul_le hp).1 a1
 ·rw [show bl (m / 2 ^ j) - 1+j+1=bl (m / 2 ^ j)+j by omega,Nat.pow_add]
  exact (Nat.div_lt_iff_lt_mul hp).1 a3
theorem bl_up {N D n:Nat} (hD:0<D) (h:N*2 ^ n / D≠0) (j:Nat):bl (N*2 ^ (n+j) / D)=bl (N*2 ^ n / D)+j:=by
 have hp:0<2 ^ j:=Nat.pow_pos (by decide)
 have e:N*2 ^ (n+j) / D / 2 ^ j=N*2 ^ n / D:=by
  rw [Nat.div_div_eq_div_mul,Nat.pow_add,← Nat.mul_assoc,Nat.mul_comm D,Nat.mul_comm _ (2 ^ j),Nat.mul_div_mul_left _ _ hp]
 rw [bl_div_pow (j:=j) (by rw [e];exact h),e]
theorem lg_eq {N D n:Nat} (hN:0<N) (hD:0<D) (h:N*2 ^ n / D≠0):(bl (N*2 ^ n / D):Int) - 1 - n=lg N D:=by
 unfold lg
 have h2:N*2 ^ bl D / D≠0:=by
  have:=bl_lt D
  have h3:D≤N*2 ^ bl D:=Nat.le_trans (Nat.le_of_lt this) (Nat.le_mul_of_pos_left _ hN)
  exact Nat.pos_iff_ne_zero.1 (Nat.div_pos h3 hD)
 rcases Nat.le_total n (bl D) with h1 | h1
 ·obtain ⟨j,hj⟩:=Nat.le.dest h1
  rw [← hj,bl_up hD h]
  omega
 ·obtain ⟨j,hj⟩:=Nat.le.dest h1
  have:=bl_up hD h2 j
  rw [hj] at this
  rw [this]
  omega
theorem lg_mul {N D c:Nat} (hN:0<N) (hD:0<D) (hc:0<c):lg (c*N) (c*D)=lg N D:=by
 have h1:=bl_lt (c*D)
 have h2:c*D≤c*N*2 ^ bl (c*D):=Nat.le_trans (Nat.le_of_lt h1) (Nat.le_mul_of_pos_left _ (Nat.mul_pos hc hN))
 have e:c*N*2 ^ bl (c*D) / (c*D)=N*2 ^ bl (c*D) / D:=by rw [Nat.mul_assoc,Nat.mul_div_mul_left _ _ hc]
 have h3:N*2 ^ bl (c*D) / D≠0:=by rw [← e];exact Nat.pos_iff_ne_zero.1 (Nat.div_pos h2 (Nat.mul_pos hc hD))
 rw [← lg_eq hN hD h3,← lg_eq (Nat.mul_pos hc hN) (Nat.mul_pos hc hD) (by rw [e];exact h3),e]
def sgnF (neg:Bool) (f:Nat):Nat:=if neg then f+9223372036854775808 else f
def overF (neg:Bool) (mode:Int):Nat:=sgnF neg (if mode=3∨(mode=1∧neg=false)∨(mode=2∧neg=true) then 9218868437227405311 else 9218868437227405312)
def packF (neg:Bool) (mode:Int) (n:Nat) (u:Int):Nat:=
 let m:=if n=9007199254740992 then 4503599627370496 else n
 let v:=if n=9007199254740992 then u+1 else u
 if m<4503599627370496 then sgnF neg m else if 2047≤v+1075 then overF neg mode else sgnF neg ((v+1075).toNat*4503599627370496+(m - 4503599627370496))
def rndF (neg:Bool) (mode:Int) (N D:Nat) (e:Int):Nat:=
 let u:=max (lg N D+e - 52) (-1074)
 packF neg mode (rm neg mode (N*2 ^ (e - u).toNat) (D*2 ^ (u - e).toNat)) u
end Go.Proofs.YtoiebebjgnpkmaaGreatDoor
namespace Go.Proofs.YtoiebebjgnpkmaaGreatDoor
set_option linter.unusedSimpArgs false
set_option linter.unusedVariables false
theorem pow2_pos (n:Nat):0<2 ^ n:=Nat.pow_pos (by decide)
theorem rm_shift (neg:Bool) (mode:Int) (N D:Nat) {k n:Nat} {e u:Int} (h:(k:Int)=u - e+n):rm neg mode (N*2 ^ n) (D*2 ^ k)=rm neg mode (N*2 ^ (e - u).toNat) (D*2 ^ (u - e).toNat):=by
 rcases Int.le_total u e with h1 | h1
 ·have e1:n=(e - u).toNat+k:=by omega
  have e2:(u - e).toNat=0:=by omega
  rw [e2,e1,Nat.pow_add,← Nat.mul_assoc,Nat.mul_comm (N*_),Nat.mul_comm D,rm_mul _ _ _ _ (pow2_pos k),Nat.pow_zero,Nat.mul_one]
 ·have e1:k=(u - e).toNat+n:=by omega
  have e2:(e - u).toNat=0:=by omega
  rw [e2,e1,Nat.pow_add,← Nat.mul_assoc,Nat.mul_comm (D*_),Nat.mul_comm N,rm_mul _ _ _ _ (pow2_pos n),Nat.pow_zero,Nat.mul_one]
theorem rm_left (neg:Bool) (mode:Int) (N D:Nat) {j n:Nat} {e u:Int} (hD:0<D) (h:N*2 ^ n % D=0) (hj:(j:Int)=e - n - u):N*2 ^ n / D*2 ^ j=rm neg mode (N*2 ^ (e - u).toNat) (D*2 ^ (u - e).toNat):=by
 have e1:(e - u).toNat=n+j:=by omega
 have e2:(u - e).toNat=0:=by omega
 obtain ⟨c,hc⟩:=Nat.dvd_of_mod_eq_zero h
 rw [e1,e2,Nat.pow_zero,Nat.mul_one,Nat.pow_add,← Nat.mul_assoc,hc,Nat.mul_div_cancel_left _ hD,Nat.mul_assoc,rm_exact _ _ (Nat.mul_mod_right _ _),Nat.mul_div_cancel_left _ hD]
theorem rndF_mul (neg:Bool) (mode:Int) {N D c:Nat} (e:Int) (hN:0<N) (hD:0<D) (hc:0<c):rndF neg mode (c*N) (c*D) e=rndF neg mode N D e:=by
 unfold rndF
 rw [lg_mul hN hD hc]
 simp only [Nat.mul_assoc,rm_mul _ _ _ _ hc]
theorem lg_iff {N D:Nat} (hN:0<N) (hD:0<D):D*2 ^ (lg N D).toNat≤N*2 ^ (-lg N D).toNat∧N*2 ^ (-lg N D).toNat<2*(D*2 ^ (lg N D).toNat):=by
 have h3:D≤N*2 ^ bl D:=Nat.le_trans (Nat.le_of_lt (bl_lt D)) (Nat.le_mul_of_pos_left _ hN)
 have h0:N*2 ^ bl D / D≠0:=Nat.pos_iff_ne_zero.1 (Nat.div_pos h3 hD)
 obtain ⟨a1,a2⟩:=bl_ge h0
 have a3:=bl_lt (N*2 ^ bl D / D)
 obtain ⟨b,hb⟩:∃ b,bl (N*2 ^ bl D / D)=b+1:=⟨bl (N*2 ^ bl D / D) - 1,by omega⟩
 have ht:lg N D=(b:Int) - bl D:=by unfold lg;rw [hb];omega
 rw [hb] at a1 a3
 rw [Nat.add_sub_cancel] at a1
 rw [ht]
 have b1:=(Nat.le_div_iff_mul_le hD).1 a1
 have b2:=(Nat.div_lt_iff_lt_mul hD).1 a3
 generalize bl D=s at b1 b2
 rw [Nat.pow_succ] at b2
 rcases Nat.le_total s b with h1 | h1
 ·obtain ⟨j,rfl⟩:=Nat.le.dest h1
  rw [Nat.pow_add] at b1 b2
  have e1:(((s+j:Nat):Int) - s).toNat=j:=by omega
  have e2:(-(((s+j:Nat):Int) - s)).toNat=0:=by omega
  rw [e1,e2,Nat.pow_zero,Nat.mul_one]
  have hs:=pow2_pos s
  constructor
  ·apply Nat.le_of_mul_le_mul_right _ hs
   calc D*2 ^ j*2 ^ s=2 ^ s*2 ^ j*D:=by rw [Nat.mul_comm D,Nat.mul_right_comm,Nat.mul_comm (2 ^ j)]
    _ ≤N*2 ^ s:=b1
  ·apply Nat.lt_of_mul_lt_mul_right (a:=2 ^ s)
   calc N*2 ^ s<2 ^ s*2 ^ j*2*D:=b2
    _ =2*(D*2 ^ j)*2 ^ s:=by
     rw [Nat.mul_comm _ 2,Nat.mul_assoc 2,Nat.mul_assoc 2,Nat.mul_comm D,Nat.mul_right_comm (2 ^ j),Nat.mul_comm (2 ^ j) (2 ^ s)]
 ·obtain ⟨j,rfl⟩:=Nat.le.dest h1
  rw [Nat.pow_add] at b1 b2
  have e1:((b:Int) - ((b+j:Nat):Int)).toNat=0:=by omega
  have e2:(-((b:Int) - ((b+j:Nat):Int))).toNat=j:=by omega
  rw [e1,e2,Nat.pow_zero,Nat.mul_one]
  have hs:=pow2_pos b
  constructor
  ·apply Nat.le_of_mul_le_mul_left _ hs
   calc 2 ^ b*D≤N*(2 ^ b*2 ^ j):=b1
    _ =2 ^ b*(N*2 ^ j):=by rw [Nat.mul_left_comm]
  ·apply Nat.lt_of_mul_lt_mul_left (a:=2 ^ b)
   calc 2 ^ b*(N*2 ^ j)=N*(2 ^ b*2 ^ j):=by rw [Nat.mul_left_comm]
    _ <2 ^ b*2*D:=b2
    _ =2 ^ b*(2*D):=Nat.mul_assoc _ _ _
theorem lg_nz {N D:Nat} (hN:0<N) (hD:0<D):N*2 ^ bl D / D≠0:=
 Nat.pos_iff_ne_zero.1 (Nat.div_pos (Nat.le_trans (Nat.le_of_lt (bl_lt D)) (Nat.le_mul_of_pos_left _ hN)) hD)
theorem lg_left {N D:Nat} (hN:0<N) (hD:0<D) (j:Nat):lg (N*2 ^ j) D=lg N D+j:=by
 unfold lg
 rw [Nat.mul_assoc,← Nat.pow_add,Nat.add_comm j,bl_up hD (lg_nz hN hD)]
 omega
theorem lg_right {N D:Nat} (hN:0<N) (hD:0<D) (j:Nat):lg N (D*2 ^ j)=lg N D - j:=by
 have h1:=lg_left hN (Nat.mul_pos hD (pow2_pos j)) j
 have h2:=lg_mul hN hD (pow2_pos j)
 rw [Nat.mul_comm _ N,Nat.mul_comm _ D] at h2
 omega
theorem rndF_left (neg:Bool) (mode:Int) {N D:Nat} (e:Int) (hN:0<N) (hD:0<D) (j:Nat):rndF neg mode (N*2 ^ j) D e=rndF neg mode N D (e+j):=by
 unfold rndF
 rw [lg_left hN hD,Int.add_assoc,Int.add_comm (j:Int)]
 simp only []
 generalize max (lg N D+(e+j) - 52) (-1074)=u
 rw [Nat.mul_assoc,← Nat.pow_add,rm_shift neg mode N D (e:=e+j) (u:=u) (by omega)]
theorem rndF_right (neg:Bool) (mode:Int) {N D:Nat} (e:Int) (hN:0<N) (hD:0<D) (j:Nat):rndF neg mode N (D*2 ^ j) e=rndF neg mode N D (e - j):=by
 unfold rndF
 rw [lg_right hN hD,show lg N D - j+e=lg N D+(e - j) by omega]
 simp only []
 generalize max (lg N D+(e - j) - 52) (-1074)=u
 rw [Nat.mul_assoc,← Nat.pow_add,rm_shift neg mode N D (e:=e - j) (u:=u) (by omega)]
theorem rm_bounds (neg:Bool) (mode:Int) (N D:Nat):N / D≤rm neg mode N D∧rm neg mode N D≤N / D+1:=by
 unfold rm
 split
 ·omega
 ·split<;>omega
theorem lg_shift {N D:Nat} (hN:0<N) (hD:0<D) (e u:Int):lg (N*2 ^ (e - u).toNat) (D*2 ^ (u - e).toNat)=lg N D+e - u:=by
 rw [lg_right (Nat.mul_pos hN (pow2_pos _)) hD,lg_left hN hD]
 omega
theorem rndF_over (neg:Bool) (mode:Int) {N D:Nat} {e:Int} (hN:0<N) (hD:0<D) (h:1024≤lg N D+e):rndF neg mode N D e=overF neg mode:=by
 unfold rndF
 simp only []
 obtain ⟨u,hu⟩:∃ u,max (lg N D+e - 52) (-1074)=u:=⟨_,rfl⟩
 rw [hu]
 have hs:=lg_shift hN hD e u
 have hN':=Nat.mul_pos hN (pow2_pos (e - u).toNat)
 have hD':=Nat.mul_pos hD (pow2_pos (u - e).toNat)
 generalize N*2 ^ (e - u).toNat=X at hs hN' ⊢
 generalize D*2 ^ (u - e).toNat=Y at hs hD' ⊢
 have hu2:u=lg N D+e - 52:=by omega
 have ht:lg X Y=52:=by omega
 obtain ⟨k1,k2⟩:=lg_iff hN' hD'
 rw [ht] at k1
 have k3:4503599627370496≤X / Y:=by
  rw [Nat.le_div_iff_mul_le hD',Nat.mul_comm]
  simpa using k1
 have k4:=(rm_bounds neg mode X Y).1
 generalize rm neg mode X Y=n at k4
 unfold packF
 simp only []
 by_cases h1:n=9007199254740992
 ·rw [if_pos h1,if_pos h1,if_neg (by omega),if_pos (by omega)]
 ·rw [if_neg h1,if_neg h1,if_neg (by omega),if_pos (by omega)]
theorem rndF_under (neg:Bool) (mode:Int) {N D:Nat} {e:Int} (hN:0<N) (hD:0<D) (h:lg N D+e≤ -1076):rndF neg mode N D e=sgnF neg (if rup neg mode (-1) false then 1 else 0):=by
 unfold rndF
 simp only []
 obtain ⟨u,hu⟩:∃ u,max (lg N D+e - 52) (-1074)=u:=⟨_,rfl⟩
 rw [hu]
 have hs:=lg_shift hN hD e u
 have hN':=Nat.mul_pos hN (pow2_pos (e - u).toNat)
 have hD':=Nat.mul_pos hD (pow2_pos (u - e).toNat)
 generalize N*2 ^ (e - u).toNat=X at hs hN' ⊢
 generalize D*2 ^ (u - e).toNat=Y at hs hD' ⊢
 have ht:lg X Y≤ -2:=by omega
 obtain ⟨k1,k2⟩:=lg_iff hN' hD'
 generalize lg X Y=t at ht k1 k2
 have e1:t.toNat=0:=by omega
 have e2:2 ^ 2≤2 ^ (-t).toNat:=Nat.pow_le_pow_right (by decide) (by omega)
 have e3:X*2 ^ 2≤X*2 ^ (-t).toNat:=Nat.mul_le_mul_left _ e2
 rw [e1,Nat.pow_zero,Nat.mul_one] at k2
 have hlt:2*X<Y:=by omega
 have hr:rm neg mode X Y=if rup neg mode (-1) false then 1 else 0:=by
  unfold rm
  rw [Nat.mod_eq_of_lt (by omega),Nat.div_eq_of_lt (by omega),if_neg (by omega),show cmpN (2*X) Y= -1 by unfold cmpN;rw [if_pos hlt]]
  rfl
 rw [hr]
 generalize rup neg mode (-1) false=b
 unfold packF
 cases b
 ·simp
 ·simp
end Go.Proofs.YtoiebebjgnpkmaaGreatDoor
namespace Go.Proofs.YtoiebebjgnpkmaaGreatDoor
set_option linter.unusedSimpArgs false
set_option linter.unusedVariables false
def mcut (neg:Bool) (mode:Int) (m k:Nat) (more:Bool):Nat:=
 if m % 2 ^ k=0∧more=false then m / 2 ^ k else if rup neg mode (half m k more) (m / 2 ^ k % 2==1) then m / 2 ^ k+1 else m / 2 ^ k
theorem mcut_rm (neg:Bool) (mode:Int) {N D n k:Nat} {e u:Int} (hD:0<D) (hk:1≤k) (h:(k:Int)=u - e+n):
 mcut neg mode (N*2 ^ n / D) k (decide (N*2 ^ n % D≠0))=rm neg mode (N*2 ^ (e - u).toNat) (D*2 ^ (u - e).toNat):=by
 rw [← rm_shift neg mode N D h,rm_cut neg mode hD hk]
 unfold mcut
 simp
theorem lg_ge {N D t:Nat} (hN:0<N) (hD:0<D) (h:D*2 ^ t≤N):(t:Int)≤lg N D:=by
 obtain ⟨k1,k2⟩:=lg_iff hN hD
 generalize lg N D=s at k1 k2
 apply Classical.byContradiction
 intro hs
 have h1:N≤N*2 ^ (-s).toNat:=Nat.le_mul_of_pos_right _ (pow2_pos _)
 rcases Int.lt_or_le s 0 with h0 | h0
 ·have e1:s.toNat=0:=by omega
  have e2:2 ^ 1≤2 ^ (-s).toNat:=Nat.pow_le_pow_right (by decide) (by omega)
  have e3:N*2 ^ 1≤N*2 ^ (-s).toNat:=Nat.mul_le_mul_left _ e2
  have e4:D*1≤D*2 ^ t:=Nat.mul_le_mul_left _ (pow2_pos t)
  rw [e1,Nat.pow_zero,Nat.mul_one] at k2
  omega
 ·have e2:2 ^ (s.toNat+1)≤2 ^ t:=Nat.pow_le_pow_right (by decide) (by omega)
  have e3:D*2 ^ (s.toNat+1)≤D*2 ^ t:=Nat.mul_le_mul_left _ e2
  rw [Nat.pow_succ,← Nat.mul_assoc] at e3
  omega
theorem lg_lt {N D t:Nat} (hN:0<N) (hD:0<D) (h:N*2 ^ t<D):lg N D< -(t:Int):=by
 obtain ⟨k1,k2⟩:=lg_iff hN hD
 generalize lg N D=s at k1 k2
 apply Classical.byContradiction
 intro hs
 have e1:D*1≤D*2 ^ s.toNat:=Nat.mul_le_mul_left _ (pow2_pos _)
 have e2:2 ^ (-s).toNat≤2 ^ t:=Nat.pow_le_pow_right (by decide) (by omega)
 have e3:N*2 ^ (-s).toNat≤N*2 ^ t:=Nat.mul_le_mul_left _ e2
 omega
theorem ten_two:2 ^ 1300≤10 ^ 400:=by decide+kernel
def dvF (neg:Bool) (mode:Int) (N:Nat) (x:Int):Nat:=rndF neg mode (N*10 ^ x.toNat) (10 ^ (-x).toNat) 0
theorem ten_pos (n:Nat):0<10 ^ n:=Nat.pow_pos (by decide)
theorem dv_over (neg:Bool) (mode:Int) {N k:Nat} {x:Int} (h1:10 ^ k≤N) (h2:400≤k+x):dvF neg mode N x=overF neg mode:=by
 have hN:0<N:=Nat.lt_of_lt_of_le (ten_pos k) h1
 have hg:=lg_ge (t:=1300) (Nat.mul_pos hN (ten_pos x.toNat)) (ten_pos (-x).toNat) (by
  calc 10 ^ (-x).toNat*2 ^ 1300≤10 ^ (-x).toNat*10 ^ 400:=Nat.mul_le_mul_left _ ten_two
   _ =10 ^ ((-x).toNat+400):=by rw [Nat.pow_add]
   _ ≤10 ^ (k+x.toNat):=Nat.pow_le_pow_right (by decide) (by omega)
   _ =10 ^ k*10 ^ x.toNat:=Nat.pow_add _ _ _
   _ ≤N*10 ^ x.toNat:=Nat.mul_le_mul_right _ h1)
 exact rndF_over neg mode (Nat.mul_pos hN (ten_pos _)) (ten_pos _) (by omega)
theorem dv_under (neg:Bool) (mode:Int) {N k:Nat} {x:Int} (hN:0<N) (h1:N<10 ^ k) (h2:k+x≤ -400):dvF neg mode N x=sgnF neg (if rup neg mode (-1) false then 1 else 0):=by
 have hg:=lg_lt (t:=1300) (Nat.mul_pos hN (ten_pos x.toNat)) (ten_pos (-x).toNat) (by
  have e0:x.toNat=0:=by omega
  rw [e0,Nat.pow_zero,Nat.mul_one]
  calc N*2 ^ 1300<10 ^ k*2 ^ 1300:=Nat.mul_lt_mul_of_pos_right h1 (pow2_pos _)
   _ ≤10 ^ k*10 ^ 400:=Nat.mul_le_mul_left _ ten_two
   _ =10 ^ (k+400):=by rw [Nat.pow_add]
   _ ≤10 ^ (-x).toNat:=Nat.pow_le_pow_right (by decide) (by omega))
 exact rndF_under neg mode (Nat.mul_pos hN (ten_pos _)) (ten_pos _) (by omega)
theorem dv_clamp (neg:Bool) (mode:Int) {N L:Nat} {x:Int} (hN:0<N) (h1:N<10 ^ L):dvF neg mode N (max (min x 2000) (-2000 - L))=dvF neg mode N x:=by
 by_cases a:2000<x
 ·rw [dv_over neg mode (k:=0) (N:=N) (x:=x) (by rw [Nat.pow_zero];exact hN) (by omega),dv_over neg mode (k:=0) (N:=N) (by rw [Nat.pow_zero];exact hN) (by omega)]
 ·by_cases b:x< -2000 - L
  ·rw [dv_under neg mode (k:=L) (x:=x) hN h1 (by omega),dv_under neg mode (k:=L) hN h1 (by omega)]
  ·rw [show max (min x 2000) (-2000 - (L:Int))=x by omega]
end Go.Proofs.YtoiebebjgnpkmaaGreatDoor
