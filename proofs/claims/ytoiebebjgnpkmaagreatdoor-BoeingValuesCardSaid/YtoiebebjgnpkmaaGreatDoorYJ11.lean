import Derived.Test.YtoiebebjgnpkmaaGreatDoorYJ10
namespace Go.Proofs.YtoiebebjgnpkmaaGreatDoor
open Go.RowKit
set_option linter.unusedSimpArgs false
set_option linter.unusedVariables false
set_option maxHeartbeats 4000000
set_option maxRecDepth 100000
section
variable {P:Program} {w:World} {a:Act} {o:Oper}
end
theorem or_nat64 {m n s x:Nat} (hm:m<2 ^ s) (hn:n=x*2 ^ s) (h:m+n<18446744073709551616):bits .or .u64 (m:Int) (n:Int)=((m+n:Nat):Int):=by
 have h1:(BitVec.ofInt 64 (m:Int)).toNat=m:=by
  rw [BitVec.ofInt_natCast,BitVec.toNat_ofNat];exact Nat.mod_eq_of_lt (by omega)
 have h2:(BitVec.ofInt 64 (n:Int)).toNat=n:=by
  rw [BitVec.ofInt_natCast,BitVec.toNat_ofNat];exact Nat.mod_eq_of_lt (by omega)
 show IntKind.u64.wrap ((BitVec.ofInt 64 (m:Int)||| BitVec.ofInt 64 (n:Int)).toNat:Int)=_
 have e:m||| n=m+n:=by
  rw [hn,Nat.mul_comm x,Nat.or_comm,← Nat.two_pow_add_eq_or_of_lt hm]
  omega
 rw [BitVec.toNat_or,h1,h2,e]
 exact wrap_inr (by simp only [inr];omega)
theorem two_lt {l:List Nat} (h:Lim l) (hl:l.length≤2):val l<18446744073709551616:=by
 have h1:=val_lt h
 have h2:4294967296 ^ l.length≤4294967296 ^ 2:=Nat.pow_le_pow_right (by decide) hl
 have h3:(4294967296:Nat) ^ 2=18446744073709551616:=by decide
 omega
theorem two_ge {A:Nat} (h:2<(digs A).length):18446744073709551616≤A:=by
 have h0:A≠0:=fun e=>by rw [e,digs_zero] at h;simp at h
 have h1:=digs_ge h0
 have h2:4294967296 ^ 2≤4294967296 ^ ((digs A).length - 1):=Nat.pow_le_pow_right (by decide) (by omega)
 have h3:(4294967296:Nat) ^ 2=18446744073709551616:=by decide
 omega
def intV (z:Int):Value:=if -9223372036854775808≤z∧z≤9223372036854775807 then .tuple #[.int .i64 z, .bool true] else .tuple #[.int .i64 0, .bool false]
set_option maxHeartbeats 8000000 in
theorem int_any {w:World} {p:Option Addr} {n c:Nat} (neg:Bool) (l:List Nat) (hl:l.length=n) (hn:n≤1000000) (h:LR w p c l) (hz:2<(digs (val l)).length∨(-9223372036854775808≤zv neg l∧zv neg l≤9223372036854775807)):
 Calls Tryz.prog 69 #[.agg #[.bool neg, .slice p n c]] w fun e w'=>e= .returned (intV (zv neg l))∧Fr [] w w':=by
 subst hl
 have Hh:=hid h
 have hA:=hid (h.trim)
 have Hz:=hid hz
 clear hz
 have hzv:Hid (zv neg l=if neg then -((val l:Nat):Int) else (val l:Int)):=hid rfl
 have H:=Hp.start [] w
 clear h
 obtain ⟨A,hAe⟩:∃ A,val l=A:=⟨_,rfl⟩
 have Hv:=hid hAe
 rw [hAe] at hzv hA Hz
 clear hAe
 by_cases h2:2<(digs A).length
 ·have hr:=hid (two_ge h2)
  go_enter Tryz.func69,Tryz.ntmps69
  go_wp2_with (first | refine x_q H ?_ | refine x_cm (fun h=> ?_) (fun h=> ?_) | (revert H;refine x_g ?_;intro g w1 hg hf H;(try clear hf)) | (revert H;refine x_s ?_;intro w1 hf H;(try clear hf)))
  (refine x_c H (trim_any l rfl (Hh.out.fr H.fr)) ?_;clear H;rintro e w1 ⟨rfl,hF⟩ H;skip)
  rw [Hv.out]
  go_wp2_with (first | refine x_q H ?_ | refine x_cm (fun h=> ?_) (fun h=> ?_) | (revert H;refine x_g ?_;intro g w1 hg hf H;(try clear hf)) | (revert H;refine x_s ?_;intro w1 hf H;(try clear hf)))
  ((try simp only [Exit.inBlock,Exit.then]);refine bodyPost_ret (results_tmp2 rfl _ _ _) rfl ?_)
  refine ⟨?_,H.fr⟩
  have h3:=hzv.out
  have h4:=hr.out
  have:¬ (-9223372036854775808≤zv neg l∧zv neg l≤9223372036854775807):=by rw [h3];cases neg<;>simp<;>omega
  rw [intV,if_neg this]
  rfl
 ·have hA64:=two_lt (digs_lim A) (by omega)
  rw [val_digs] at hA64
  go_enter Tryz.func69,Tryz.ntmps69
  go_wp2_with (first | refine x_q H ?_ | refine x_cm (fun h=> ?_) (fun h=> ?_) | (revert H;refine x_g ?_;intro g w1 hg hf H;(try clear hf)) | (revert H;refine x_s ?_;intro w1 hf H;(try clear hf)))
  (refine x_c H (trim_any l rfl (Hh.out.fr H.fr)) ?_;clear H;rintro e w1 ⟨rfl,hF⟩ H;skip)
  rw [Hv.out]
  go_wp2_with (first | refine x_q H ?_ | refine x_cm (fun h=> ?_) (fun h=> ?_) | (revert H;refine x_g ?_;intro g w1 hg hf H;(try clear hf)) | (revert H;refine x_s ?_;intro w1 hf H;(try clear hf)))
  go_loopw [5,16] (fun s5 s16 wr=>∃ i u:Nat,i≤(digs A).length∧s16= .int .i64 (i:Int)∧s5= .int .u64 (u:Int)∧Hid (u=val ((digs A).take i))∧Hp [] w wr [.blk g [.bool neg, .slice p l.length c] 112]) (fun _ v _ =>(digs A).length - (intOf v).toNat)
  case atStart=>exact ⟨0,0,Nat.zero_le _,rfl,rfl,hid rfl,H⟩
  case round=>
   clear H
   obtain ⟨i,u,hi,rfl,rfl,Hu,H⟩:=hrel
   by_cases hin:i<(digs A).length
   ·obtain ⟨x,hx⟩:∃ x,(digs A)[i]? =some x:=⟨_,List.getElem?_eq_getElem hin⟩
    have hxv:=limbs_at hx
    have hxB:=hA.out.lim.at hx
    have Hx:=hid hx
    obtain ⟨b0,off,rfl,hb0,hcell⟩:=hA.out.rd.rng (limbs_ne (i:=i) hin)
    have H1:=H.pushRng (b:=b0) (off:=off) hb0 (by simp) hcell
    clear H hcell
    have H:=H1
    clear H1
    have hi1:i≤1:=by omega
    obtain ⟨z,hz⟩:∃ z,x*4294967296 ^ i=z:=⟨_,rfl⟩
    have hsum:Hid (val ((digs A).take (i+1))=u+z):=hid (by rw [val_take_succ hx,← Hu.out,← hz,Nat.mul_comm])
    have hS64:u+z<18446744073709551616:=by
     rw [← hsum.out]
     exact two_lt ((digs_lim A).take _) (by rw [List.length_take];omega)
    have hz64:z<18446744073709551616:=by omega
    have hor:bits .or .u64 (u:Int) (z:Int)=((u+z:Nat):Int):=or_nat64 (s:=32*i) (x:=x) (by
     rw [Hu.out,← powB]
     have h1:=val_lt ((digs_lim A).take i)
     rwa [List.length_take,Nat.min_eq_left hi] at h1) (by rw [← hz,powB]) hS64
    have HOR:Hid (bits .or .u64 (u:Int) (IntKind.u64.wrap ((x:Int)*2 ^ (32*i)))=((u+z:Nat):Int)):=hid (by
     rw [wrapN z (by rw [← hz,powB,Int.natCast_mul,Int.natCast_pow];rfl) hz64,hor])
    clear hx hor hz
    go_wp2_with (first | refine x_q H ?_ | refine x_cm (fun h=> ?_) (fun h=> ?_) | (revert H;refine x_g ?_;intro g w1 hg hf H;(try clear hf)) | (revert H;refine x_s ?_;intro w1 hf H;(try clear hf)))
    go_roundw
    case rel=>exact ⟨i+1,u+z,by omega,by go_num,by rw [HOR.out],hid hsum.out.symm,H.sub (by repeat first | exact List.Sublist.refl _ | exact List.nil_sublist _ | apply List.Sublist.cons_cons | apply List.Sublist.cons)⟩
    case measure=>(simp [intOf];try omega)
   ·have hu:u=A:=by rw [Hu.out,List.take_of_length_le (by omega),val_digs]
    subst hu
    have hii:i=(digs u).length:=by omega
    have h3:=hzv.out
    have fin:∀ z:Int,zv neg l=z→ -9223372036854775808≤z∧z≤9223372036854775807→(Value.tuple #[.int .i64 z, .bool true])=intV (zv neg l):=fun z e hz=>by rw [e,intV,if_pos hz]
    have bad:¬ (-9223372036854775808≤zv neg l∧zv neg l≤9223372036854775807)→(Value.tuple #[.int .i64 0, .bool false])=intV (zv neg l):=fun hz=>by rw [intV,if_neg hz]
    have FIN:=hid fin
    have BAD:=hid bad
    have H3:=hid h3
    have HZ:=hid (Hz.out.resolve_left (by omega))
    clear fin bad h3 hzv hii
    by_cases h63:u≤9223372036854775808
    ·by_cases hlt:u<9223372036854775808
     ·by_cases hu0:u=0
      ·cases neg
       ·go_wp2_with (first | refine x_q H ?_ | refine x_cm (fun h=> ?_) (fun h=> ?_) | (revert H;refine x_g ?_;intro g w1 hg hf H;(try clear hf)) | (revert H;refine x_s ?_;intro w1 hf H;(try clear hf)))
        ((try simp only [Exit.inBlock,Exit.then]);refine bodyPost_ret (results_tmp2 rfl _ _ _) rfl ?_)
        refine ⟨?_,H.fr⟩
        rw [← FIN.out _ (by simpa using H3.out) (by omega)];rfl
       ·go_wp2_with (first | refine x_q H ?_ | refine x_cm (fun h=> ?_) (fun h=> ?_) | (revert H;refine x_g ?_;intro g w1 hg hf H;(try clear hf)) | (revert H;refine x_s ?_;intro w1 hf H;(try clear hf)))
        ((try simp only [Exit.inBlock,Exit.then]);refine bodyPost_ret (results_tmp2 rfl _ _ _) rfl ?_)
        refine ⟨?_,H.fr⟩
        rw [← FIN.out (0:Int) (by have:=H3.out;simp at this;omega) (by omega)];rfl
      ·cases neg
       ·go_wp2_with (first | refine x_q H ?_ | refine x_cm (fun h=> ?_) (fun h=> ?_) | (revert H;refine x_g ?_;intro g w1 hg hf H;(try clear hf)) | (revert H;refine x_s ?_;intro w1 hf H;(try clear hf)))
        ((try simp only [Exit.inBlock,Exit.then]);refine bodyPost_ret (results_tmp2 rfl _ _ _) rfl ?_)
        refine ⟨?_,H.fr⟩
        rw [← FIN.out _ (by simpa using H3.out) (by omega)];rfl
       ·go_wp2_with (first | refine x_q H ?_ | refine x_cm (fun h=> ?_) (fun h=> ?_) | (revert H;refine x_g ?_;intro g w1 hg hf H;(try clear hf)) | (revert H;refine x_s ?_;intro w1 hf H;(try clear hf)))
        ((try simp only [Exit.inBlock,Exit.then]);refine bodyPost_ret (results_tmp2 rfl _ _ _) rfl ?_)
        refine ⟨?_,H.fr⟩
        rw [← FIN.out (-((u:Int) - 1) - 1) (by have:=H3.out;simp at this;omega) (by omega)];rfl
     ·cases neg
      ·exact absurd HZ.out (by have:=H3.out;simp at this;omega)
      ·go_wp2_with (first | refine x_q H ?_ | refine x_cm (fun h=> ?_) (fun h=> ?_) | (revert H;refine x_g ?_;intro g w1 hg hf H;(try clear hf)) | (revert H;refine x_s ?_;intro w1 hf H;(try clear hf)))
       ((try simp only [Exit.inBlock,Exit.then]);refine bodyPost_ret (results_tmp2 rfl _ _ _) rfl ?_)
       refine ⟨?_,H.fr⟩
       rw [← FIN.out (-((u:Int) - 1) - 1) (by have:=H3.out;simp at this;omega) (by omega)];rfl
    ·cases neg
     ·exact absurd HZ.out (by have:=H3.out;simp at this;omega)
     ·exact absurd HZ.out (by have:=H3.out;simp at this;omega)
end Go.Proofs.YtoiebebjgnpkmaaGreatDoor
