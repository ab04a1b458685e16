import Derived.Test.YtoiebebjgnpkmaaGreatDoorYJ0
import Derived.Test.YtoiebebjgnpkmaaGreatDoorYJ7
import Derived.Deep.DeepCutAuto
import Derived.Deep.CutBlock
import Derived.Shelf.Spec.TrailingZeros
namespace Go.Proofs.YtoiebebjgnpkmaaGreatDoor
open Go.RowKit
set_option linter.unusedSimpArgs false
set_option linter.unusedVariables false
set_option maxHeartbeats 4000000
set_option maxRecDepth 100000
theorem nz_any (w:World) (x:Nat):Calls Tryz.prog 244 #[.int .u32 (x:Int)] w fun e w'=>e= .returned (.bool (decide (x≠0)))∧Fr [] w w':=by
 have H:=Hp.start [] w
 by_cases h0:x=0
 ·have h0':(x:Int)≤0:=by omega
  have h1:0≤(x:Int):=by omega
  have Hd:=hid (decide_eq_false (p:=x≠0) (by omega))
  clear h0
  go_enter Tryz.func244,Tryz.ntmps244
  (revert H;refine W08de ?_ <;>unhygienic intros)
  go_ret
  exact ⟨by rw [Hd.out];rfl,H.fr⟩
 ·have h1:0<(x:Int):=by omega
  have Hd:=hid (decide_eq_true (p:=x≠0) h0)
  clear h0
  go_enter Tryz.func244,Tryz.ntmps244
  (revert H;refine W08de ?_ <;>unhygienic intros)
  go_ret
  exact ⟨by rw [Hd.out];rfl,H.fr⟩
theorem indexNz_any {w:World} {p:Option Addr} {n c:Nat} (l:List Nat) (hl:l.length=n) (h:LR w p c l):
 Calls Tryz.prog 254 #[.slice p n c, .func (.func 244) #[] #[]] w fun e w'=>∃ z:Int,e= .returned (.int .i64 z)∧(0≤z↔val l≠0)∧Fr [] w w':=by
 subst hl
 obtain ⟨hlc,hc⟩:=h.clen
 have Hh:=hid h
 clear h
 have H:=Hp.start [] w
 go_enter Tryz.func254,Tryz.ntmps254
 (revert H;refine W08de ?_ <;>unhygienic intros)
 go_loopw [8] (fun s8 wr=>∃ i:Nat,i≤l.length∧s8= .int .i64 (i:Int)∧Hid (val (l.take i)=0)∧Hp [] w wr []) (fun v _ =>l.length - (intOf v).toNat)
 case atStart=>exact ⟨0,Nat.zero_le _,rfl,hid rfl,H⟩
 case round=>
  clear H
  obtain ⟨i,hi,rfl,hv,H⟩:=hrel
  by_cases hin:i<l.length
  ·obtain ⟨x,hx⟩:∃ x,l[i]? =some x:=⟨_,List.getElem?_eq_getElem hin⟩
   have hxv:=limbs_at hx
   have Hx:=hid hx
   clear hx
   obtain ⟨b0,off,rfl,hb0,hcell⟩:=Hh.out.rd.rng (limbs_ne (i:=i) hin)
   have H1:=H.pushRng (b:=b0) (off:=off) hb0 (by simp) hcell
   clear H hcell
   have H:=H1
   clear H1
   by_cases h0:x=0
   ·have Hd:=hid (decide_eq_false (p:=x≠0) (by omega))
    have HV:Hid (val (l.take (i+1))=0):=hid (by rw [val_take_succ Hx.out,hv.out,h0];simp)
    clear h0
    (revert H;refine W08de ?_ <;>unhygienic intros)
    (refine x_c H (nz_any _ x) ?_;clear H;rintro e w1 ⟨rfl,hF⟩ H)
    rw [Hd.out]
    (revert H;refine W08de ?_ <;>unhygienic intros)
    go_roundw
    case rel=>exact ⟨i+1,by omega,by go_num,HV,H.sub (by repeat first | exact List.Sublist.refl _ | exact List.nil_sublist _ | apply List.Sublist.cons_cons | apply List.Sublist.cons)⟩
    case measure=>(simp [intOf];try omega)
   ·have Hd:=hid (decide_eq_true (p:=x≠0) h0)
    have HV:Hid (val l≠0):=hid (fun e=>h0 (by
     have:=digit_of Hh.out.lim Hx.out
     rw [e] at this
     simpa using this.symm))
    clear h0
    (revert H;refine W08de ?_ <;>unhygienic intros)
    (refine x_c H (nz_any _ x) ?_;clear H;rintro e w1 ⟨rfl,hF⟩ H)
    rw [Hd.out]
    (revert H;refine W08de ?_ <;>unhygienic intros)
    go_ret
    exact ⟨(i:Int),rfl,⟨fun _ =>HV.out,fun _ =>by omega⟩,H.fr⟩
  ·have HV:Hid (val l=0):=hid (by rw [← hv.out,List.take_of_length_le (by omega)])
   (revert H;refine W08de ?_ <;>unhygienic intros)
   go_ret
   exact ⟨-1,rfl,⟨fun h=>absurd h (by decide),fun h=>absurd HV.out h⟩,H.fr⟩
theorem containsNz_any {w:World} {p:Option Addr} {n c:Nat} (l:List Nat) (hl:l.length=n) (h:LR w p c l):
 Calls Tryz.prog 243 #[.slice p n c, .func (.func 244) #[] #[]] w fun e w'=>e= .returned (.bool (decide (val l≠0)))∧Fr [] w w':=by
 have Hh:=hid h
 have Hl:=hid hl
 clear h hl
 have H:=Hp.start [] w
 by_cases h0:val l=0
 ·have Hd:=hid (decide_eq_false (p:=val l≠0) (by omega))
  have H0:=hid h0
  clear h0
  go_enter Tryz.func243,Tryz.ntmps243
  (revert H;refine W08de ?_ <;>unhygienic intros)
  refine Calls.mono (indexNz_any l Hl.out (Hh.out.fr H.fr)) ?_
  rintro e w1 ⟨z,rfl,hz,hF⟩
  have H1:=H.step hF (by simp)
  clear H
  have H:=H1
  clear H1
  have hz1:z<0:=by
   apply Classical.byContradiction
   intro hn
   exact hz.1 (by omega) H0.out
  clear hz
  (revert H;refine W08de ?_ <;>unhygienic intros)
  go_ret
  exact ⟨by rw [Hd.out];rfl,H.fr⟩
 ·have Hd:=hid (decide_eq_true (p:=val l≠0) h0)
  have H0:=hid h0
  clear h0
  go_enter Tryz.func243,Tryz.ntmps243
  (revert H;refine W08de ?_ <;>unhygienic intros)
  refine Calls.mono (indexNz_any l Hl.out (Hh.out.fr H.fr)) ?_
  rintro e w1 ⟨z,rfl,hz,hF⟩
  have H1:=H.step hF (by simp)
  clear H
  have H:=H1
  clear H1
  have hz1:0≤z:=hz.2 H0.out
  clear hz
  (revert H;refine W08de ?_ <;>unhygienic intros)
  go_ret
  exact ⟨by rw [Hd.out];rfl,H.fr⟩
end Go.Proofs.YtoiebebjgnpkmaaGreatDoor
namespace Go.Proofs.YtoiebebjgnpkmaaGreatDoor
open Go.RowKit
set_option linter.unusedSimpArgs false
set_option linter.unusedVariables false
set_option maxHeartbeats 4000000
set_option maxRecDepth 100000
theorem ev_orK {P:Program} {w:World} {a:Act} {o:Oper} {t t':TypeId} {x y:Operand} (ho:o.op= .binOp .or t x y t') {m n:Int} (hx:a.eval x= .int .u64 m) (hy:a.eval y= .int .u64 n) (h0:0≤n:=by omega) (h1:n<18446744073709551616:=by omega) (hm:n % 4294967296=0:=by omega) (h2:0≤m:=by omega) (h3:m<4294967296:=by omega):(execOp a.eval o).run P w= .ok (.value (.int .u64 (m+n))) w:=
 ev_bin ho hx hy (fun w=>by
  have e:=bits_join .u64 64 (by decide) (fun n h0 h1=>wrap_inr (by simp only [inr];omega)) 32 n m h0 (by omega) (by omega) h2 (by omega) (by omega)
  have e2:bits .or .u64 m n=bits .or .u64 n m:=by
   show IntKind.u64.wrap _ =IntKind.u64.wrap _
   rw [BitVec.or_comm]
  show (pure (Value.int .u64 (bits .or .u64 m n)):Sem Value).run P w=_
  rw [e2,e,Int.add_comm];rfl)
theorem down_dig {l:List Nat} (h:Lim l) {W q i Z:Nat} (hq:q<32) (hz:val (l.drop (W+i)) % 18446744073709551616=Z):val l / (4294967296 ^ W*2 ^ q) / 4294967296 ^ i % 4294967296=Z / 2 ^ q % 4294967296:=by
 rw [Nat.div_div_eq_div_mul,Nat.mul_assoc,Nat.mul_comm (2 ^ q),← Nat.mul_assoc,← Nat.pow_add,← Nat.div_div_eq_div_mul,drop_div h,down_limb hq,hz]
theorem drop_two {l:List Nat} (h:Lim l) {k x y:Nat} (hx:l[k]? =some x) (hy:l[k+1]? =some y):val (l.drop k) % 18446744073709551616=x+y*4294967296:=by
 have h1:=h.at hx
 have h2:=h.at hy
 rw [drop_cons_at hx,drop_cons_at hy]
 simp only [val]
 omega
theorem drop_one {l:List Nat} (h:Lim l) {k x:Nat} (hx:l[k]? =some x) (hk:l.length≤k+1):val (l.drop k) % 18446744073709551616=x:=by
 have h1:=h.at hx
 rw [drop_cons_at hx,List.drop_eq_nil_of_le hk]
 simp only [val]
 omega
theorem word_two {x y:Nat} (hx:x<4294967296) (hy:y<4294967296) (q:Nat):bits BinOp.and IntKind.u64 (((x:Int)+(y:Int)*4294967296) / 2 ^ q) 4294967295 % 4294967296=(((x+y*4294967296) / 2 ^ q % 4294967296:Nat):Int):=by
 have e:((x:Int)+(y:Int)*4294967296) / 2 ^ q=(((x+y*4294967296) / 2 ^ q:Nat):Int):=by
  rw [Int.natCast_ediv,Int.natCast_pow];congr 1
 have h:(x+y*4294967296) / 2 ^ q≤x+y*4294967296:=Nat.div_le_self _ _
 rw [e,low_nat (by omega)]
theorem word_one {x:Nat} (hx:x<4294967296) (q:Nat):bits BinOp.and IntKind.u64 ((x:Int) / 2 ^ q) 4294967295 % 4294967296=((x / 2 ^ q % 4294967296:Nat):Int):=by
 have e:(x:Int) / 2 ^ q=((x / 2 ^ q:Nat):Int):=by
  rw [Int.natCast_ediv,Int.natCast_pow];congr 1
 have h:x / 2 ^ q≤x:=Nat.div_le_self _ _
 rw [e,low_nat (by omega)]
theorem set_upto {o:List Nat} {i v:Nat} {f:Nat→Nat} (hi:i<o.length) (h:∀ j y,j<i→o[j]? =some y→y=f j) (hv:f i=v):∀ j y,j<i+1→(o.set i v)[j]? =some y→y=f j:=by
 intro j y hj hy
 by_cases e:j=i
 ·subst e
  rw [List.getElem?_set_self hi] at hy
  injection hy with hy
  rw [← hy,hv]
 ·rw [List.getElem?_set_ne (by omega)] at hy
  exact h j y (by omega) hy
theorem down_mod {l:List Nat} (h:Lim l) {W x q:Nat} (hx:l[W]? =some x) (hq:q<32):val l % (4294967296 ^ W*2 ^ q)=val (l.take W)+4294967296 ^ W*(x % 2 ^ q):=by
 rw [Nat.mod_mul,take_mod h,drop_div h,drop_cons_at hx]
 obtain ⟨r,hr⟩:=pow2_split hq
 simp only [val]
 rw [hr,Nat.mul_assoc,Nat.add_mul_mod_self_left]
theorem and_mask {x q:Nat} (hx:x<4294967296) (hq:q<32):bits BinOp.and IntKind.u32 (x:Int) ((2 ^ q - 1) % 4294967296)=((x % 2 ^ q:Nat):Int):=by
 have h1:2 ^ q≤2 ^ 31:=Nat.pow_le_pow_right (by decide) (by omega)
 have h2:0<2 ^ q:=Nat.two_pow_pos q
 have e:((2:Int) ^ q - 1) % 4294967296=((2 ^ q - 1:Nat):Int):=by
  have e1:(2:Int) ^ q=((2 ^ q:Nat):Int):=by rw [Int.natCast_pow];rfl
  rw [e1];omega
 rw [e,bits_and_u32_nat _ _ hx (by omega),Nat.and_two_pow_sub_one_eq_mod]
set_option maxHeartbeats 8000000 in
theorem down_any {w:World} {p:Option Addr} {n c:Nat} (A:Nat) (s:Nat) (hn:(digs A).length=n) (hn0:n≤2000000) (hs:s≤128000000) (h:LR w p c (digs A)):
 Calls Tryz.prog 227 #[.slice p n c, .int .i64 (s:Int)] w fun e w'=>∃ p' c',e= .returned (.tuple #[.slice p' (digs (A / 2 ^ s)).length c', .bool (decide (A % 2 ^ s≠0))])∧Fr [] w w'∧LR w' p' c' (digs (A / 2 ^ s)):=by
 obtain ⟨hlc,hc⟩:=h.clen
 generalize hl:digs A=l at*
 have Hl:=hid hl
 subst hn
 have Hh:=hid h
 have H:=Hp.start [] w
 obtain ⟨W,hW⟩:∃ W,s / 32=W:=⟨_,rfl⟩
 obtain ⟨q,hq⟩:∃ q,s % 32=q:=⟨_,rfl⟩
 have hq32:q<32:=by omega
 have HS:Hid (s=32*W+q):=hid (by omega)
 have HW:Hid ((s:Int) / 32=(W:Int)):=hid (by omega)
 have HQ:Hid ((s:Int) % 32=(q:Int)):=hid (by omega)
 have HP:Hid (2 ^ s=4294967296 ^ W*2 ^ q):=hid (by rw [HS.out,Nat.pow_add,powB])
 have hVA:val l=A:=by rw [← hl,val_digs]
 have HVA:=hid hVA
 have hAlt:A<4294967296 ^ l.length:=by rw [← hVA];exact val_lt h.lim
 have HAlt:=hid hAlt
 clear hW hq hl h hVA hAlt
 by_cases hov:l.length≤W
 ·have HZ:Hid (A / 2 ^ s=0∧A % 2 ^ s=A):=hid (by
   have h1:4294967296 ^ l.length≤4294967296 ^ W:=Nat.pow_le_pow_right (by decide) hov
   have h2:4294967296 ^ W≤2 ^ s:=by rw [HP.out];exact Nat.le_mul_of_pos_right _ (Nat.two_pow_pos q)
   have h3:A<2 ^ s:=by have:=HAlt.out;omega
   exact ⟨Nat.div_eq_of_lt h3,Nat.mod_eq_of_lt h3⟩)
  have hWs:(l.length:Int)≤(s:Int) / 32:=by have:=HW.out;omega
  by_cases h0:l.length≤0
  ·have HD:Hid (decide (A % 2 ^ s≠0)=false):=hid (decide_eq_false (by
    rw [HZ.out.2]
    have h1:=HAlt.out
    rw [show l.length=0 by omega] at h1
    simp at h1
    omega))
   go_enter Tryz.func227,Tryz.ntmps227
   go_wp2_with (first | refine x_q H ?_ | refine x_cm (fun h=> ?_) (fun h=> ?_) | (revert H;refine x_g ?_;intro g w1 hg hf H;(try clear hf)) | (revert H;refine x_s ?_;intro w1 hf H;(try clear hf)))
   refine bodyPost_ret (results_tmp2 rfl _ _ _) rfl ?_
   rw [HZ.out.1,HD.out,digs_zero]
   exact ⟨none,0,rfl,H.fr,LR.zero _⟩
  ·have hpos:0<l.length:=by omega
   have HD:Hid (decide (A % 2 ^ s≠0)=true):=hid (decide_eq_true (by
    rw [HZ.out.2]
    intro e
    have h1:=Hl.out
    rw [e,digs_zero] at h1
    rw [← h1] at hpos
    simp at hpos))
   clear h0
   go_enter Tryz.func227,Tryz.ntmps227
   go_wp2_with (first | refine x_q H ?_ | refine x_cm (fun h=> ?_) (fun h=> ?_) | (revert H;refine x_g ?_;intro g w1 hg hf H;(try clear hf)) | (revert H;refine x_s ?_;intro w1 hf H;(try clear hf)))
   refine bodyPost_ret (results_tmp2 rfl _ _ _) rfl ?_
   rw [HZ.out.1,HD.out,digs_zero]
   exact ⟨none,0,rfl,H.fr,LR.zero _⟩
 ·have hWl:W<l.length:=by omega
  have hWs:(s:Int) / 32<(l.length:Int):=by have:=HW.out;omega
  clear hov
  have HT:=hid (Hh.out.pre (n:=W) (by omega))
  have htl:(l.take W).length=W:=by rw [List.length_take];omega
  have Htl:=hid htl
  clear htl
  obtain ⟨x,hx⟩:∃ x,l[W]? =some x:=⟨_,List.getElem?_eq_getElem hWl⟩
  have hxv:=limbs_at hx
  have hxB:=Hh.out.lim.at hx
  have Hx:=hid hx
  clear hx
  obtain ⟨b0,off,rfl,hb0,hcell⟩:=Hh.out.rd.rng (limbs_ne (i:=W) hWl)
  have H1:=H.pushRng (b:=b0) (off:=off) hb0 (by simp) hcell
  clear H hcell
  have H:=H1
  clear H1
  go_enter Tryz.func227,Tryz.ntmps227
  go_upto_region 4 with (first | refine x_q H ?_ | refine x_cm (fun h=> ?_) (fun h=> ?_) | (revert H;(first | (refine x_g ?_;intro g w1 hg hf H) | (refine x_s ?_;intro w1 hf H));(try clear hf)))
  rw [HW.out,HQ.out]
  clear hWs
  have HF:Hid (A % 2 ^ s=val (l.take W)+4294967296 ^ W*(x % 2 ^ q)):=hid (by
   rw [HP.out,← HVA.out];exact down_mod Hh.out.lim Hx.out hq32)
  have HB:Hid (bits BinOp.and IntKind.u32 (x:Int) ((2 ^ q - 1) % 4294967296)=((x % 2 ^ q:Nat):Int)):=hid (and_mask hxB hq32)
  go_cut [8] (fun s8 wx=>s8= .bool (decide (A % 2 ^ s≠0))∧Hp [] w wx [])
  case first=>
   by_cases hz:val (l.take W)=0
   ·have HD:=hid (decide_eq_false (p:=val (l.take W)≠0) (by omega))
    have HZ1:Hid (bits BinOp.and IntKind.u32 (x:Int) ((2 ^ q - 1) % 4294967296)≠0→decide (A % 2 ^ s≠0)=true):=hid (fun h=>decide_eq_true (by
     rw [HB.out] at h
     rw [HF.out,hz,Nat.zero_add]
     intro e
     rcases Nat.mul_eq_zero.1 e with e | e
     ·exact absurd e (Nat.ne_of_gt (Nat.pow_pos (by decide)))
     ·rw [e] at h;exact h rfl))
    have HZ2:Hid (¬ bits BinOp.and IntKind.u32 (x:Int) ((2 ^ q - 1) % 4294967296)≠0→decide (A % 2 ^ s≠0)=false):=hid (fun h=>decide_eq_false (by
     rw [HB.out] at h
     rw [HF.out,hz,Nat.zero_add]
     have:x % 2 ^ q=0:=by omega
     rw [this]
     simp))
    clear hz
    go_wp2_with (first | refine x_q H ?_ | refine x_cm (fun h=> ?_) (fun h=> ?_) | (revert H;refine x_g ?_;intro g w1 hg hf H;(try clear hf)) | (revert H;refine x_s ?_;intro w1 hf H;(try clear hf)))
    (refine x_c H (containsNz_any (l.take W) (by rw [Htl.out]) (by simpa using HT.out.fr H.fr)) ?_;clear H;rintro e w1 ⟨rfl,hF⟩ H)
    rw [HD.out]
    go_wp2_with (first | refine x_q H ?_ | refine x_cm (fun h=> ?_) (fun h=> ?_) | (revert H;refine x_g ?_;intro g w1 hg hf H;(try clear hf)) | (revert H;refine x_s ?_;intro w1 hf H;(try clear hf)))
    ·go_meet
     case rel=>exact ⟨by rw [HZ1.out (by assumption)],H.sub (by repeat first | exact List.Sublist.refl _ | exact List.nil_sublist _ | apply List.Sublist.cons_cons | apply List.Sublist.cons)⟩
    ·go_meet
     case rel=>exact ⟨by rw [HZ2.out (by assumption)],H.sub (by repeat first | exact List.Sublist.refl _ | exact List.nil_sublist _ | apply List.Sublist.cons_cons | apply List.Sublist.cons)⟩
   ·have HD:=hid (decide_eq_true (p:=val (l.take W)≠0) hz)
    have Hz:Hid (decide (A % 2 ^ s≠0)=true):=hid (decide_eq_true (by rw [HF.out];omega))
    clear hz
    go_wp2_with (first | refine x_q H ?_ | refine x_cm (fun h=> ?_) (fun h=> ?_) | (revert H;refine x_g ?_;intro g w1 hg hf H;(try clear hf)) | (revert H;refine x_s ?_;intro w1 hf H;(try clear hf)))
    (refine x_c H (containsNz_any (l.take W) (by rw [Htl.out]) (by simpa using HT.out.fr H.fr)) ?_;clear H;rintro e w1 ⟨rfl,hF⟩ H)
    rw [HD.out]
    go_wp2_with (first | refine x_q H ?_ | refine x_cm (fun h=> ?_) (fun h=> ?_) | (revert H;refine x_g ?_;intro g w1 hg hf H;(try clear hf)) | (revert H;refine x_s ?_;intro w1 hf H;(try clear hf)))
    go_meet
    case rel=>exact ⟨by rw [Hz.out],H.sub (by repeat first | exact List.Sublist.refl _ | exact List.nil_sublist _ | apply List.Sublist.cons_cons | apply List.Sublist.cons)⟩
  case rest=>
   clear H hxv hb0
   obtain ⟨rfl,H⟩:=hcut
   generalize hst:decide (A % 2 ^ s≠0)=sticky at H ⊢
   have Hst:=hid hst
   clear hst
   go_wp2_with (first | refine x_q H ?_ | refine x_cm (fun h=> ?_) (fun h=> ?_) | (revert H;refine x_g ?_;intro g w1 hg hf H;(try clear hf)) | (revert H;refine x_s ?_;intro w1 hf H;(try clear hf)))
   rw [show ((l.length:Int) - (W:Int)).toNat=l.length - W by omega,zeros_limbs] at H
   rw [show ((l.length:Int) - (W:Int)).toNat=l.length - W by omega]
   go_loopw [46] (fun s46 wr=>∃ (i:Nat) (o:List Nat),i≤l.length - W∧s46= .int .i64 (i:Int)∧Hid (o.length=l.length - W)∧Hid (Lim o)∧Hid (∀ j y,j<i→o[j]? =some y→y=A / 2 ^ s / 4294967296 ^ j % 4294967296)∧Hp [] w wr [.blk g (limbs o) 162]) (fun v _ =>(l.length - W) - (intOf v).toNat)
   case atStart=>exact ⟨0,List.replicate (l.length - W) 0,Nat.zero_le _,rfl,hid List.length_replicate,hid (Lim.zeros _),hid (fun j y hj=>absurd hj (Nat.not_lt_zero _)),H⟩
   case round=>
    clear H
    obtain ⟨i,o,hi,rfl,Hol,Hlo,Hv,H⟩:=hrel
    by_cases hin:i<l.length - W
    ·obtain ⟨x1,hx1⟩:∃ x1,l[W+i]? =some x1:=⟨_,List.getElem?_eq_getElem (by omega)⟩
     have hx1v:(limbs l)[((W:Int)+(i:Int)).toNat]? =some (.int .u32 (x1:Int)):=by rw [show ((W:Int)+(i:Int)).toNat=W+i by omega];exact limbs_at hx1
     have hx1B:=Hh.out.lim.at hx1
     have Hx1:=hid hx1
     clear hx1
     obtain ⟨b1,off1,he1,hb1,hcell1⟩:=Hh.out.rd.rng (limbs_ne (i:=W+i) (by omega))
     injection he1 with he1
     injection he1 with he1 he2 _
     subst he1 he2
     have H1:=H.pushRng (b:=b0) (off:=off) hb1 (by simp) hcell1
     clear H hcell1
     have H:=H1
     clear H1
     have hio:i<o.length:=by rw [Hol.out];omega
     by_cases hnext:W+i+1<l.length
     ·obtain ⟨y,hy⟩:∃ y,l[W+i+1]? =some y:=⟨_,List.getElem?_eq_getElem hnext⟩
      have hyv:(limbs l)[((W:Int)+(i:Int)+1).toNat]? =some (.int .u32 (y:Int)):=by rw [show ((W:Int)+(i:Int)+1).toNat=W+i+1 by omega];exact limbs_at hy
      have hyB:=Hh.out.lim.at hy
      have Hy:=hid hy
      clear hy
      go_wp2_with (first | refine x_q H ?_ | refine x_cm (fun h=> ?_) (fun h=> ?_) | refine x_e (ev_over rfl rfl) ?_ | refine x_e (ev_orK rfl rfl rfl) ?_ | (revert H;refine x_g ?_;intro g w1 hg hf H;(try clear hf)) | (revert H;refine x_s ?_;intro w1 hf H;(try clear hf)))
      rw [word_two hx1B hyB q,limbs_set] at H
      go_roundw
      case rel=>exact ⟨i+1,o.set i ((x1+y*4294967296) / 2 ^ q % 4294967296),by omega,by go_num,hid (by rw [List.length_set];exact Hol.out),hid (Hlo.out.set _ (Nat.mod_lt _ (by decide))),hid (set_upto hio Hv.out (by rw [HP.out,← HVA.out,down_dig Hh.out.lim hq32 (drop_two Hh.out.lim Hx1.out Hy.out)])),H.sub (by repeat first | exact List.Sublist.refl _ | exact List.nil_sublist _ | apply List.Sublist.cons_cons | apply List.Sublist.cons)⟩
      case measure=>(simp [intOf];try omega)
     ·go_wp2_with (first | refine x_q H ?_ | refine x_cm (fun h=> ?_) (fun h=> ?_) | refine x_e (ev_over rfl rfl) ?_ | refine x_e (ev_orK rfl rfl rfl) ?_ | (revert H;refine x_g ?_;intro g w1 hg hf H;(try clear hf)) | (revert H;refine x_s ?_;intro w1 hf H;(try clear hf)))
      rw [word_one hx1B q,limbs_set] at H
      go_roundw
      case rel=>exact ⟨i+1,o.set i (x1 / 2 ^ q % 4294967296),by omega,by go_num,hid (by rw [List.length_set];exact Hol.out),hid (Hlo.out.set _ (Nat.mod_lt _ (by decide))),hid (set_upto hio Hv.out (by rw [HP.out,← HVA.out,down_dig Hh.out.lim hq32 (drop_one Hh.out.lim Hx1.out (by omega))])),H.sub (by repeat first | exact List.Sublist.refl _ | exact List.nil_sublist _ | apply List.Sublist.cons_cons | apply List.Sublist.cons)⟩
      case measure=>(simp [intOf];try omega)
    ·have HV:Hid (val o=A / 2 ^ s):=hid (by
      rw [digits_val (N:=A / 2 ^ s) (fun j y hj=>Hv.out j y (by have:=(List.getElem?_eq_some_iff.1 hj).1;rw [Hol.out] at this;omega) hj),Hol.out]
      apply Nat.mod_eq_of_lt
      have h1:=HAlt.out
      rw [show l.length=W+(l.length - W) by omega,Nat.pow_add] at h1
      rw [HP.out,← Nat.div_div_eq_div_mul]
      exact Nat.lt_of_le_of_lt (Nat.div_le_self _ _) (Nat.div_lt_of_lt_mul h1))
     go_wp2_with (first | refine x_q H ?_ | refine x_cm (fun h=> ?_) (fun h=> ?_) | (revert H;refine x_g ?_;intro g w1 hg hf H;(try clear hf)) | (revert H;refine x_s ?_;intro w1 hf H;(try clear hf)))
     have hL:LR _ (some ⟨g,0,none⟩) (l.length - W) o:=LR.of_blk (pad:=[]) (by rw [List.append_nil];exact H.at g) Hlo.out (by rw [Hol.out];exact Nat.le_refl _) (by unfold maxLen;omega)
     have HL:=hid hL
     refine Calls.mono (trim_any o Hol.out HL.out) ?_
     rintro e w1 ⟨rfl,hF⟩
     have HL2:=hid (hL.fr hF).trim
     have H1:=H.step hF (by simp)
     clear H hF hL HL
     have H:=H1
     clear H1
     go_wp2_with (first | refine x_q H ?_ | refine x_cm (fun h=> ?_) (fun h=> ?_) | (revert H;refine x_g ?_;intro g w1 hg hf H;(try clear hf)) | (revert H;refine x_s ?_;intro w1 hf H;(try clear hf)))
     refine bodyPost_ret (results_tmp2 rfl _ _ _) rfl ?_
     rw [HV.out] at HL2
     exact ⟨_,_,by rw [HV.out,Hst.out];rfl,H.fr,HL2.out⟩
end Go.Proofs.YtoiebebjgnpkmaaGreatDoor
