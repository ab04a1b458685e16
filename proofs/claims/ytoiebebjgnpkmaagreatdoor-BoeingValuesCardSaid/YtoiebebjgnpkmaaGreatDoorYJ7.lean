import Derived.Test.YtoiebebjgnpkmaaGreatDoorYJ0
import Derived.Test.YtoiebebjgnpkmaaGreatDoorYJ6
import Derived.Deep.DeepCutAuto
import Derived.Deep.CutBlock
import Derived.Shelf.Small.Bits
namespace Go.Proofs.YtoiebebjgnpkmaaGreatDoor
open Go.RowKit
set_option linter.unusedSimpArgs false
set_option linter.unusedVariables false
set_option maxHeartbeats 4000000
set_option maxRecDepth 100000
theorem zv_mul (na nb:Bool) (la lb:List Nat):zv (!(na==nb)) (digs (val la*val lb))=zv na la*zv nb lb:=by
 rw [zv_digs];unfold zv;cases na<;>cases nb<;>simp [Int.neg_mul,Int.mul_neg]
theorem mul_any {w:World} {p q:Option Addr} {n m c d:Nat} (na nb:Bool) (la lb:List Nat) (hn:la.length=n) (hm:lb.length=m) (hn0:n≤400000) (hm0:m≤400000) (h:LR w p c la) (k:LR w q d lb):
 Calls Tryz.prog 146 #[.agg #[.bool na, .slice p n c], .agg #[.bool nb, .slice q m d]] w fun e w'=>Big e w w' (zv na la*zv nb lb):=by
 subst hn hm
 have Hh:=hid h
 have Hk:=hid k
 have hla:=digs_len_le h.lim
 have hlb:=digs_len_le k.lim
 have H:=Hp.start [] w
 have HZ:=hid (zv_mul na nb la lb)
 have Hb1:=hid (show na=nb→(!(na==nb))=false from fun h=>by subst h;cases na<;>rfl)
 clear h k
 cases na<;>cases nb
 ·go_enter Tryz.func146,Tryz.ntmps146
  ((try simp only [Int.not_lt,Int.not_le] at*);revert H;refine W08de ?_ <;>unhygienic intros)
  (revert H;refine w_p 13 (.st 0 (.st 1 (.st 2 (.st 3 (.st 4 (.st 5 (.st 6 (.st 8 (.st 9 (.ld 7 (.ld 10 (.ld 11 (.ld 12 (.ld 13 .done)))))))))))))) ?_;intro w1 H)
  iterate 9 refine p_q ?_
  ((refine p_c H rfl rfl Tryz.func117 (trim_any la rfl (Hh.out.fr H.fr)) ?_;clear H;rintro e w1 ⟨rfl,hF⟩ H;refine p_r ?_);skip)
  ((refine p_c H rfl rfl Tryz.func117 (trim_any lb rfl (Hk.out.fr H.fr)) ?_;clear H;rintro e w1 ⟨rfl,hF⟩ H;refine p_r ?_);skip)
  ((refine p_c H rfl rfl Tryz.func116 (times_any (digs (val la)) (digs (val lb)) rfl rfl (by omega) (by omega) (Hh.out.trim.fr H.fr) (Hk.out.trim.fr H.fr)) ?_;clear H;rintro e w1 ⟨p5,c5,rfl,hF,hL⟩ H;refine p_r ?_);have HL5:=hid hL;clear hL)
  ((refine p_c H rfl rfl Tryz.func118 (big_any false _ rfl HL5.out) ?_;clear H;rintro e w1 ⟨p6,c6,rfl,hF,hL⟩ H;refine p_r ?_);have HL6:=hid hL;clear hL)
  (revert H;refine p_s2 ?_;intro w1 hf H hk;have hk2:=hid hk;clear hk;(try clear hf))
  (refine pl_done ?_)
  all_goals
   ((try simp only [Int.not_lt,Int.not_le] at*);revert H;refine W08de ?_ <;>unhygienic intros)
   refine c_post H rfl rfl rfl ?_
   have hz:zv false (digs (val (digs (val la))*val (digs (val lb))))=zv false la*zv false lb:=(by rw [val_digs,val_digs];exact HZ.out)
   rw [hz] at HL6
   refine ⟨p6,c6, ?_,H.fr,hk2.out _ _ _ HL6.out⟩
   rw [hz]
 ·go_enter Tryz.func146,Tryz.ntmps146
  ((try simp only [Int.not_lt,Int.not_le] at*);revert H;refine W08de ?_ <;>unhygienic intros)
  (revert H;refine w_p 13 (.st 0 (.st 1 (.st 2 (.st 3 (.st 4 (.st 5 (.st 6 (.st 8 (.st 9 (.ld 7 (.ld 10 (.ld 11 (.ld 12 (.ld 13 .done)))))))))))))) ?_;intro w1 H)
  iterate 9 refine p_q ?_
  ((refine p_c H rfl rfl Tryz.func117 (trim_any la rfl (Hh.out.fr H.fr)) ?_;clear H;rintro e w1 ⟨rfl,hF⟩ H;refine p_r ?_);skip)
  ((refine p_c H rfl rfl Tryz.func117 (trim_any lb rfl (Hk.out.fr H.fr)) ?_;clear H;rintro e w1 ⟨rfl,hF⟩ H;refine p_r ?_);skip)
  ((refine p_c H rfl rfl Tryz.func116 (times_any (digs (val la)) (digs (val lb)) rfl rfl (by omega) (by omega) (Hh.out.trim.fr H.fr) (Hk.out.trim.fr H.fr)) ?_;clear H;rintro e w1 ⟨p5,c5,rfl,hF,hL⟩ H;refine p_r ?_);have HL5:=hid hL;clear hL)
  ((refine p_c H rfl rfl Tryz.func118 (big_any true _ rfl HL5.out) ?_;clear H;rintro e w1 ⟨p6,c6,rfl,hF,hL⟩ H;refine p_r ?_);have HL6:=hid hL;clear hL)
  (revert H;refine p_s2 ?_;intro w1 hf H hk;have hk2:=hid hk;clear hk;(try clear hf))
  (refine pl_done ?_)
  all_goals
   ((try simp only [Int.not_lt,Int.not_le] at*);revert H;refine W08de ?_ <;>unhygienic intros)
   refine c_post H rfl rfl rfl ?_
   have hz:zv true (digs (val (digs (val la))*val (digs (val lb))))=zv false la*zv true lb:=(by rw [val_digs,val_digs];exact HZ.out)
   rw [hz] at HL6
   refine ⟨p6,c6, ?_,H.fr,hk2.out _ _ _ HL6.out⟩
   rw [hz]
 ·go_enter Tryz.func146,Tryz.ntmps146
  ((try simp only [Int.not_lt,Int.not_le] at*);revert H;refine W08de ?_ <;>unhygienic intros)
  (revert H;refine w_p 13 (.st 0 (.st 1 (.st 2 (.st 3 (.st 4 (.st 5 (.st 6 (.st 8 (.st 9 (.ld 7 (.ld 10 (.ld 11 (.ld 12 (.ld 13 .done)))))))))))))) ?_;intro w1 H)
  iterate 9 refine p_q ?_
  ((refine p_c H rfl rfl Tryz.func117 (trim_any la rfl (Hh.out.fr H.fr)) ?_;clear H;rintro e w1 ⟨rfl,hF⟩ H;refine p_r ?_);skip)
  ((refine p_c H rfl rfl Tryz.func117 (trim_any lb rfl (Hk.out.fr H.fr)) ?_;clear H;rintro e w1 ⟨rfl,hF⟩ H;refine p_r ?_);skip)
  ((refine p_c H rfl rfl Tryz.func116 (times_any (digs (val la)) (digs (val lb)) rfl rfl (by omega) (by omega) (Hh.out.trim.fr H.fr) (Hk.out.trim.fr H.fr)) ?_;clear H;rintro e w1 ⟨p5,c5,rfl,hF,hL⟩ H;refine p_r ?_);have HL5:=hid hL;clear hL)
  ((refine p_c H rfl rfl Tryz.func118 (big_any true _ rfl HL5.out) ?_;clear H;rintro e w1 ⟨p6,c6,rfl,hF,hL⟩ H;refine p_r ?_);have HL6:=hid hL;clear hL)
  (revert H;refine p_s2 ?_;intro w1 hf H hk;have hk2:=hid hk;clear hk;(try clear hf))
  (refine pl_done ?_)
  all_goals
   ((try simp only [Int.not_lt,Int.not_le] at*);revert H;refine W08de ?_ <;>unhygienic intros)
   refine c_post H rfl rfl rfl ?_
   have hz:zv true (digs (val (digs (val la))*val (digs (val lb))))=zv true la*zv false lb:=(by rw [val_digs,val_digs];exact HZ.out)
   rw [hz] at HL6
   refine ⟨p6,c6, ?_,H.fr,hk2.out _ _ _ HL6.out⟩
   rw [hz]
 ·go_enter Tryz.func146,Tryz.ntmps146
  ((try simp only [Int.not_lt,Int.not_le] at*);revert H;refine W08de ?_ <;>unhygienic intros)
  (revert H;refine w_p 13 (.st 0 (.st 1 (.st 2 (.st 3 (.st 4 (.st 5 (.st 6 (.st 8 (.st 9 (.ld 7 (.ld 10 (.ld 11 (.ld 12 (.ld 13 .done)))))))))))))) ?_;intro w1 H)
  iterate 9 refine p_q ?_
  ((refine p_c H rfl rfl Tryz.func117 (trim_any la rfl (Hh.out.fr H.fr)) ?_;clear H;rintro e w1 ⟨rfl,hF⟩ H;refine p_r ?_);skip)
  ((refine p_c H rfl rfl Tryz.func117 (trim_any lb rfl (Hk.out.fr H.fr)) ?_;clear H;rintro e w1 ⟨rfl,hF⟩ H;refine p_r ?_);skip)
  ((refine p_c H rfl rfl Tryz.func116 (times_any (digs (val la)) (digs (val lb)) rfl rfl (by omega) (by omega) (Hh.out.trim.fr H.fr) (Hk.out.trim.fr H.fr)) ?_;clear H;rintro e w1 ⟨p5,c5,rfl,hF,hL⟩ H;refine p_r ?_);have HL5:=hid hL;clear hL)
  ((refine p_c H rfl rfl Tryz.func118 (big_any false _ rfl HL5.out) ?_;clear H;rintro e w1 ⟨p6,c6,rfl,hF,hL⟩ H;refine p_r ?_);have HL6:=hid hL;clear hL)
  (revert H;refine p_s2 ?_;intro w1 hf H hk;have hk2:=hid hk;clear hk;(try clear hf))
  (refine pl_done ?_)
  all_goals
   ((try simp only [Int.not_lt,Int.not_le] at*);revert H;refine W08de ?_ <;>unhygienic intros)
   refine c_post H rfl rfl rfl ?_
   have hz:zv false (digs (val (digs (val la))*val (digs (val lb))))=zv true la*zv true lb:=(by rw [val_digs,val_digs];exact HZ.out)
   rw [hz] at HL6
   refine ⟨p6,c6, ?_,H.fr,hk2.out _ _ _ HL6.out⟩
   rw [hz]
end Go.Proofs.YtoiebebjgnpkmaaGreatDoor
namespace Go.Proofs.YtoiebebjgnpkmaaGreatDoor
open Go.RowKit
set_option linter.unusedSimpArgs false
set_option linter.unusedVariables false
set_option maxHeartbeats 4000000
set_option maxRecDepth 100000
theorem digs_two {a b:List Nat} (ha:Lim a) (hb:Lim b) {x:Nat} (hx:x≤val a+val b):(digs x).length≤a.length+b.length+1:=by
 apply digs_len_of
 have h1:=val_lt ha
 have h2:=val_lt hb
 have h3:4294967296 ^ a.length≤4294967296 ^ (a.length+b.length):=Nat.pow_le_pow_right (by decide) (by omega)
 have h4:4294967296 ^ b.length≤4294967296 ^ (a.length+b.length):=Nat.pow_le_pow_right (by decide) (by omega)
 rw [Nat.pow_succ]
 omega
theorem digs_zero_len {a:Nat} (h:(digs a).length≤0):a=0:=digs_nil.1 (List.eq_nil_of_length_eq_zero (by omega))
theorem digs_len_pos {a:Nat} (h:a≠0):0<(digs a).length:=by
 apply Classical.byContradiction
 intro hn
 exact h (digs_zero_len (by omega))
theorem sign_zero' {n:Bool} {l:List Nat} (h:(digs (val l)).length≤0):Int.sign (zv n l)=0:=by
 have:=digs_zero_len h
 unfold zv;rw [this];cases n<;>rfl
theorem sign_pos' {l:List Nat} (h:0<(digs (val l)).length):Int.sign (zv false l)=1:=by
 have:val l≠0:=fun e=>by rw [e,digs_zero] at h;simp at h
 unfold zv;exact Int.sign_eq_one_of_pos (by simp;omega)
theorem sign_neg' {l:List Nat} (h:0<(digs (val l)).length):Int.sign (zv true l)= -1:=by
 have:val l≠0:=fun e=>by rw [e,digs_zero] at h;simp at h
 unfold zv;exact Int.sign_eq_neg_one_of_neg (by simp;omega)
theorem sign_any {w:World} {p:Option Addr} {n c:Nat} (neg:Bool) (l:List Nat) (hl:l.length=n) (hn:n≤1000000) (h:LR w p c l):
 Calls Tryz.prog 189 #[.agg #[.bool neg, .slice p n c]] w fun e w'=>e= .returned (.int .i64 (Int.sign (zv neg l)))∧Fr [] w w':=by
 have Hh:=hid h
 subst hl
 have hle:=digs_len_le h.lim
 have H:=Hp.start [] w
 clear h
 rcases Nat.lt_or_ge 0 (digs (val l)).length with h0 | h0
 ·cases neg
  ·have Hs:=hid (sign_pos' h0)
   go_enter Tryz.func189,Tryz.ntmps189
   (revert H;refine W08de ?_ <;>unhygienic intros)
   (refine x_c H (trim_any l rfl (Hh.out.fr H.fr)) ?_;clear H;rintro e w1 ⟨rfl,hF⟩ H)
   (revert H;refine W08de ?_ <;>unhygienic intros)
   go_ret
   exact ⟨by rw [Hs.out];rfl,H.fr⟩
  ·have Hs:=hid (sign_neg' h0)
   go_enter Tryz.func189,Tryz.ntmps189
   (revert H;refine W08de ?_ <;>unhygienic intros)
   (refine x_c H (trim_any l rfl (Hh.out.fr H.fr)) ?_;clear H;rintro e w1 ⟨rfl,hF⟩ H)
   (revert H;refine W08de ?_ <;>unhygienic intros)
   go_ret
   exact ⟨by rw [Hs.out];rfl,H.fr⟩
 ·have Hs:=hid (sign_zero' (n:=neg) h0)
  go_enter Tryz.func189,Tryz.ntmps189
  (revert H;refine W08de ?_ <;>unhygienic intros)
  (refine x_c H (trim_any l rfl (Hh.out.fr H.fr)) ?_;clear H;rintro e w1 ⟨rfl,hF⟩ H)
  (revert H;refine W08de ?_ <;>unhygienic intros)
  go_ret
  exact ⟨by rw [Hs.out];rfl,H.fr⟩
theorem sign_le (z:Int): -1≤Int.sign z∧Int.sign z≤1:=by
 rcases Int.lt_trichotomy z 0 with h | h | h
 ·rw [Int.sign_eq_neg_one_of_neg h];decide
 ·rw [h];decide
 ·rw [Int.sign_eq_one_of_pos h];decide
theorem cmp_signs {x y:Int} (h:Int.sign x≠Int.sign y):cmpZ x y=cmpZ (Int.sign x) (Int.sign y):=by
 rcases Int.lt_trichotomy x 0 with h1 | h1 | h1<;>rcases Int.lt_trichotomy y 0 with h2 | h2 | h2<;>first
  | (exfalso;apply h;first | rw [Int.sign_eq_neg_one_of_neg h1,Int.sign_eq_neg_one_of_neg h2] | rw [h1,h2] | rw [Int.sign_eq_one_of_pos h1,Int.sign_eq_one_of_pos h2];done)
  | (first | rw [Int.sign_eq_neg_one_of_neg h1] | rw [h1] | rw [Int.sign_eq_one_of_pos h1]
     first | rw [Int.sign_eq_neg_one_of_neg h2] | rw [h2] | rw [Int.sign_eq_one_of_pos h2]
     first | exact cmpZ_lt (by omega) | exact cmpZ_gt (by omega))
theorem cmp_same {na nb:Bool} {la lb:List Nat} (h:Int.sign (zv na la)=Int.sign (zv nb lb)):Int.sign (zv na la)*cmpZ (val la) (val lb)=cmpZ (zv na la) (zv nb lb):=by
 rcases Int.lt_trichotomy (zv na la) 0 with h1 | h1 | h1
 ·rw [Int.sign_eq_neg_one_of_neg h1] at h ⊢
  have h2:zv nb lb<0:=Int.sign_eq_neg_one_iff_neg.1 h.symm
  unfold zv at*
  cases na<;>cases nb<;>simp at* <;>unfold cmpZ<;>(repeat' split)<;>omega
 ·rw [h1] at h ⊢
  have h2:zv nb lb=0:=Int.sign_eq_zero_iff_zero.1 h.symm
  rw [h2]
  show 0*_ =cmpZ 0 0
  rw [cmpZ_eq,Int.zero_mul]
 ·rw [Int.sign_eq_one_of_pos h1] at h ⊢
  have h2:0<zv nb lb:=Int.sign_eq_one_iff_pos.1 h.symm
  unfold zv at*
  cases na<;>cases nb<;>simp at* <;>unfold cmpZ<;>(repeat' split)<;>omega
theorem cmpZ_le (x y:Int): -1≤cmpZ x y∧cmpZ x y≤1:=by unfold cmpZ;(repeat' split)<;>omega
theorem cmp_any {w:World} {p q:Option Addr} {n m c d:Nat} (na nb:Bool) (la lb:List Nat) (hn:la.length=n) (hm:lb.length=m) (hn0:n≤1000000) (hm0:m≤1000000) (h:LR w p c la) (k:LR w q d lb):
 Calls Tryz.prog 183 #[.agg #[.bool na, .slice p n c], .agg #[.bool nb, .slice q m d]] w fun e w'=>e= .returned (.int .i64 (cmpZ (zv na la) (zv nb lb)))∧Fr [] w w':=by
 subst hn hm
 have Hh:=hid h
 have Hk:=hid k
 have H:=Hp.start [] w
 clear h k
 go_enter Tryz.func183,Tryz.ntmps183
 go_upto_region 1 with (first | refine x_q H ?_ | refine x_cm (fun h=> ?_) (fun h=> ?_) | (revert H;(first | (refine x_g ?_;intro g w1 hg hf H) | (refine x_s ?_;intro w1 hf H));(try clear hf)))
 go_cut [2,3,5,6] (fun s2 s3 s5 s6 wx=>∃ g1 g2:Nat,s2= .pointer (some ⟨g1,0,none⟩)∧s3= .pointer (some ⟨g2,0,none⟩)∧s5= .int .i64 (Int.sign (zv na la))∧s6= .int .i64 (Int.sign (zv nb lb))∧Hp [] w wx [.blk g2 [.bool nb, .slice q lb.length d] 112, .blk g1 [.bool na, .slice p la.length c] 112])
 case first=>
  (revert H;refine w_p 6 (.st 0 (.st 2 (.ld 1 (.ld 3 (.st 4 (.st 5 .done)))))) ?_;intro w1 H)
  iterate 2 refine p_q ?_
  ((refine p_c H rfl rfl Tryz.func189 (sign_any na la rfl hn0 (Hh.out.fr H.fr)) ?_;clear H;rintro e w1 ⟨rfl,hF⟩ H;refine p_r ?_);skip)
  ((refine p_c H rfl rfl Tryz.func189 (sign_any nb lb rfl hm0 (Hk.out.fr H.fr)) ?_;clear H;rintro e w1 ⟨rfl,hF⟩ H;refine p_r ?_);skip)
  iterate 2 refine p_q ?_
  (refine pl_done ?_)
  all_goals
   (revert H;refine W08de ?_ <;>unhygienic intros)
   go_meet
   case rel=>exact ⟨_,_,rfl,rfl,rfl,rfl,H⟩
 case rest=>
  clear H
  obtain ⟨g1,g2,rfl,rfl,rfl,rfl,H⟩:=hcut
  have hs1:=sign_le (zv na la)
  have hs2:=sign_le (zv nb lb)
  rcases Int.lt_trichotomy (Int.sign (zv na la)) (Int.sign (zv nb lb)) with hlt | heq | hgt
  ·have Hs:Hid (cmpZ (zv na la) (zv nb lb)= -1):=hid (by rw [cmp_signs (by omega),cmpZ_lt hlt])
   (revert H;refine W08de ?_ <;>unhygienic intros)
   go_ret
   exact ⟨by rw [Hs.out];rfl,H.fr⟩
  ·have Hs:=hid (cmp_same heq)
   have hle1:Int.sign (zv na la)≤Int.sign (zv nb lb):=by omega
   have hle2:Int.sign (zv nb lb)≤Int.sign (zv na la):=by omega
   have hz:=cmpZ_le (val la) (val lb)
   have hi:inr IntKind.i64 (Int.sign (zv na la)*cmpZ (val la) (val lb)):=by
    rw [Hs.out]
    have:=cmpZ_le (zv na la) (zv nb lb)
    show (-9223372036854775808:Int)≤_ ∧_ ≤(9223372036854775807:Int)
    omega
   clear heq
   (revert H;refine W08de ?_ <;>unhygienic intros)
   (revert H;refine w_p 10 (.st 0 (.st 1 (.st 2 (.st 4 (.st 5 (.ld 3 (.ld 6 (.ld 7 (.st 8 (.st 9 .done)))))))))) ?_;intro w1 H)
   iterate 5 refine p_q ?_
   ((refine p_c H rfl rfl Tryz.func117 (trim_any la rfl (Hh.out.fr H.fr)) ?_;clear H;rintro e w1 ⟨rfl,hF⟩ H;refine p_r ?_);skip)
   ((refine p_c H rfl rfl Tryz.func117 (trim_any lb rfl (Hk.out.fr H.fr)) ?_;clear H;rintro e w1 ⟨rfl,hF⟩ H;refine p_r ?_);skip)
   ((refine p_c H rfl rfl Tryz.func229 (compare_any (val la) (val lb) rfl rfl (Hh.out.trim.fr H.fr) (Hk.out.trim.fr H.fr)) ?_;clear H;rintro e w1 ⟨rfl,hF⟩ H;refine p_r ?_);skip)
   iterate 2 refine p_q ?_
   (refine pl_done ?_)
   all_goals
    (revert H;refine W08de ?_ <;>unhygienic intros)
    go_ret
    exact ⟨by rw [← Hs.out];rfl,H.fr⟩
  ·have Hs:Hid (cmpZ (zv na la) (zv nb lb)=1):=hid (by rw [cmp_signs (by omega),cmpZ_gt hgt])
   (revert H;refine W08de ?_ <;>unhygienic intros)
   go_ret
   exact ⟨by rw [Hs.out];rfl,H.fr⟩
end Go.Proofs.YtoiebebjgnpkmaaGreatDoor
namespace Go.Proofs.YtoiebebjgnpkmaaGreatDoor
open Go.RowKit
set_option linter.unusedSimpArgs false
set_option linter.unusedVariables false
set_option maxHeartbeats 4000000
set_option maxRecDepth 100000
theorem zv_two (neg:Bool) (M:Nat) (hM:M<18446744073709551616):zv neg [M % 4294967296,M / 4294967296]=if neg then -(M:Int) else (M:Int):=by
 have:val [M % 4294967296,M / 4294967296]=M:=by simp only [val];omega
 unfold zv;rw [this]
theorem two_lr {w:World} {g:Nat} {M:Nat} {x y:Int} {t:TypeId} (h:w.heap[g]? =some (.cells [[Value.int .u32 x],[Value.int .u32 y]].flatten.toArray t (0,0))) (hM:M<18446744073709551616) (hx:x=((M % 4294967296:Nat):Int)) (hy:y=((M / 4294967296:Nat):Int)):LR w (some ⟨g,0,none⟩) 2 [M % 4294967296,M / 4294967296]:=by
 subst hx hy
 exact LR.of_blk (pad:=[]) (by simpa [limbs] using h) (Lim.cons (by omega) (Lim.cons (by omega) Lim.nil)) (by simp) (by unfold maxLen;omega)
theorem fromInt_any (w:World) (z:Int) (hz:inr .i64 z):
 Calls Tryz.prog 180 #[.int .i64 z] w fun e w'=>Big e w w' z:=by
 have H:=Hp.start [] w
 have hz': -9223372036854775808≤z∧z≤9223372036854775807:=hz
 by_cases h0:z<0
 ·have HD:=hid (decide_eq_true h0)
  go_enter Tryz.func180,Tryz.ntmps180
  go_wp2_with (first | refine x_q H ?_ | refine x_cm (fun h=> ?_) (fun h=> ?_) | refine x_e (ev_low rfl rfl) ?_ | refine x_e (ev_high rfl rfl) ?_ | (refine is_buildSlice rfl ?_;refine wl_rw rfl (fun K hK=>c_sN H rfl (by repeat first | exact .nil _ | apply Parts.tmp (by rfl) (by rfl) | apply Parts.con (by rfl)) rfl (by intro c hc;simp only [List.mem_cons,List.not_mem_nil,or_false] at hc;(try (rcases hc with rfl | rfl | rfl | rfl | rfl | rfl | rfl | rfl<;>rfl))) (by decide) (by decide) (fun g w1 hg hf H1=>hK _ _ ?_));(clear hK K);(clear H;have H:=H1;clear H1;(try dsimp only at H);(try clear hf));(simp only [nrm,↓reduceIte,Nat.reduceAdd])) | (revert H;refine x_g ?_;intro g w1 hg hf H;(try clear hf)) | (revert H;refine x_s ?_;intro w1 hf H;(try clear hf)))
  obtain ⟨M,hMz⟩:∃ M:Nat,z= -(M:Int):=⟨(-z).toNat,by omega⟩
  have hM:M<18446744073709551616:=by omega
  have e:IntKind.u64.wrap (-(z % 18446744073709551616))=(M:Int):=by rw [IntKind.wrap_u64];omega
  have HZ:Hid (zv true [M % 4294967296,M / 4294967296]=z):=hid (by rw [zv_two _ _ hM,hMz];rfl)
  clear hMz
  refine Calls.mono (big_any true [M % 4294967296,M / 4294967296] rfl  (two_lr (H.at g) hM (by rw [e,low_nat hM]) (by rw [e];omega))) ?_
  rintro e w1 ⟨p3,c3,rfl,hF,hL⟩
  rw [HZ.out] at hL ⊢
  have HB2:=hid hL
  have H1:=H.step hF (by simp)
  clear H hF hL
  have H:=H1
  clear H1
  go_wp2_with (first | refine x_q H ?_ | refine x_cm (fun h=> ?_) (fun h=> ?_) | (revert H;refine x_s2 ?_;intro w1 hf H hk;have hk2:=hid hk;clear hk;(try clear hf)) | (revert H;refine x_g ?_;intro g w1 hg hf H;(try clear hf)) | (revert H;refine x_s ?_;intro w1 hf H;(try clear hf)))
  refine c_post H rfl rfl rfl ?_
  exact ⟨p3,c3,by rw [HD.out],H.fr,hk2.out _ _ _ HB2.out⟩
 ·have HD:=hid (decide_eq_false h0)
  go_enter Tryz.func180,Tryz.ntmps180
  go_wp2_with (first | refine x_q H ?_ | refine x_cm (fun h=> ?_) (fun h=> ?_) | refine x_e (ev_low rfl rfl) ?_ | refine x_e (ev_high rfl rfl) ?_ | (refine is_buildSlice rfl ?_;refine wl_rw rfl (fun K hK=>c_sN H rfl (by repeat first | exact .nil _ | apply Parts.tmp (by rfl) (by rfl) | apply Parts.con (by rfl)) rfl (by intro c hc;simp only [List.mem_cons,List.not_mem_nil,or_false] at hc;(try (rcases hc with rfl | rfl | rfl | rfl | rfl | rfl | rfl | rfl<;>rfl))) (by decide) (by decide) (fun g w1 hg hf H1=>hK _ _ ?_));(clear hK K);(clear H;have H:=H1;clear H1;(try dsimp only at H);(try clear hf));(simp only [nrm,↓reduceIte,Nat.reduceAdd])) | (revert H;refine x_g ?_;intro g w1 hg hf H;(try clear hf)) | (revert H;refine x_s ?_;intro w1 hf H;(try clear hf)))
  obtain ⟨M,hMz⟩:∃ M:Nat,z=(M:Int):=⟨z.toNat,by omega⟩
  have hM:M<18446744073709551616:=by omega
  have HZ:Hid (zv false [M % 4294967296,M / 4294967296]=z):=hid (by rw [zv_two _ _ hM,hMz];rfl)
  have e1:z % 4294967296=((M % 4294967296:Nat):Int):=by omega
  have e2:z / 4294967296=((M / 4294967296:Nat):Int):=by omega
  clear hMz
  refine Calls.mono (big_any false [M % 4294967296,M / 4294967296] rfl  (two_lr (H.at g) hM e1 e2)) ?_
  rintro e w1 ⟨p3,c3,rfl,hF,hL⟩
  rw [HZ.out] at hL ⊢
  have HB2:=hid hL
  have H1:=H.step hF (by simp)
  clear H hF hL
  have H:=H1
  clear H1
  go_wp2_with (first | refine x_q H ?_ | refine x_cm (fun h=> ?_) (fun h=> ?_) | (revert H;refine x_s2 ?_;intro w1 hf H hk;have hk2:=hid hk;clear hk;(try clear hf)) | (revert H;refine x_g ?_;intro g w1 hg hf H;(try clear hf)) | (revert H;refine x_s ?_;intro w1 hf H;(try clear hf)))
  refine c_post H rfl rfl rfl ?_
  exact ⟨p3,c3,by rw [HD.out],H.fr,hk2.out _ _ _ HB2.out⟩
end Go.Proofs.YtoiebebjgnpkmaaGreatDoor
namespace Go.Proofs.YtoiebebjgnpkmaaGreatDoor
open Go.RowKit
set_option linter.unusedSimpArgs false
set_option linter.unusedVariables false
set_option maxHeartbeats 4000000
set_option maxRecDepth 100000
theorem drop_cons_at {α:Type} {l:List α} {i:Nat} {x:α} (h:l[i]? =some x):l.drop i=x::l.drop (i+1):=by
 obtain ⟨hi,e⟩:=List.getElem?_eq_some_iff.1 h
 rw [List.drop_eq_getElem_cons hi,e]
set_option maxHeartbeats 8000000 in
theorem short_any {w:World} {p:Option Addr} {n c:Nat} (a:List Nat) (dv:Nat) (hn:a.length=n) (hn0:n≤1000000) (h:LR w p c a) (hd0:0<dv) (hdB:dv<4294967296):
 Calls Tryz.prog 185 #[.slice p n c, .int .u32 (dv:Int)] w fun e w'=>∃ p' c',e= .returned (.tuple #[.slice p' (digs (val a / dv)).length c', .int .u32 ((val a % dv:Nat):Int)])∧Fr [] w w'∧LR w' p' c' (digs (val a / dv)):=by
 subst hn
 have Hh:=hid h
 clear h
 have H:=Hp.start [] w
 go_enter Tryz.func185,Tryz.ntmps185
 (revert H;refine W08de ?_ <;>unhygienic intros)
 rw [show ((a.length:Int)).toNat=a.length by omega,zeros_limbs] at H
 go_loopw [7,8] (fun s7 s8 wr=>∃ (i r:Nat) (o:List Nat),i≤a.length∧s7= .int .u64 r∧s8= .int .i64 ((i:Int) - 1)∧r<dv∧Hid (o.length=a.length)∧Hid (Lim o)∧Hid (val (a.drop i)=dv*val (o.drop i)+r)∧Hp [] w wr [.blk g (limbs o) 162]) (fun _ v _ =>(intOf v+1).toNat)
 case atStart=>exact ⟨a.length,0,List.replicate a.length 0,Nat.le_refl _,rfl,rfl,hd0,hid List.length_replicate,hid (Lim.zeros _),hid (by rw [List.drop_eq_nil_of_le (Nat.le_refl _),List.drop_eq_nil_of_le (by rw [List.length_replicate];exact Nat.le_refl _)];simp [val]),H⟩
 case round=>
  clear H
  obtain ⟨i,r,o,hi,rfl,rfl,hr,Hol,Hlo,Hv,H⟩:=hrel
  by_cases h0:i=0
  ·have HV:Hid (val a=dv*val o+r):=hid (by
    have:=Hv.out
    rwa [h0,List.drop_zero,List.drop_zero] at this)
   have h0':(i:Int) - 1<0:=by omega
   clear h0
   (revert H;refine W08de ?_ <;>unhygienic intros)
   have hL:LR _ (some ⟨g,0,none⟩) a.length o:=LR.of_blk (pad:=[]) (by rw [List.append_nil];exact H.at g) Hlo.out (by rw [Hol.out];exact Nat.le_refl _) (by unfold maxLen;omega)
   have HL:=hid hL
   have HQ:Hid (val o=val a / dv):=hid (by rw [HV.out,Nat.mul_add_div hd0,Nat.div_eq_of_lt hr,Nat.add_zero])
   have HR:Hid (val a % dv=r):=hid (by rw [HV.out,Nat.mul_add_mod,Nat.mod_eq_of_lt hr])
   refine Calls.mono (trim_any o Hol.out HL.out) ?_
   rintro e w1 ⟨rfl,hF⟩
   have HL2:=hid (hL.fr hF).trim
   have H1:=H.step hF (by simp)
   clear H hF hL HL
   have H:=H1
   clear H1
   (revert H;refine W08de ?_ <;>unhygienic intros)
   refine bodyPost_ret (results_tmp2 rfl _ _ _) rfl ?_
   rw [HQ.out] at HL2
   exact ⟨_,_,by rw [HQ.out,HR.out];rfl,H.fr,HL2.out⟩
  ·obtain ⟨j,rfl⟩:∃ j,i=j+1:=⟨i - 1,by omega⟩
   obtain ⟨x,hx⟩:∃ x,a[j]? =some x:=⟨_,List.getElem?_eq_getElem (by omega)⟩
   have hxv:=limbs_at hx
   have hxB:=Hh.out.lim.at hx
   have Hx:=hid hx
   clear hx h0
   obtain ⟨b0,off,rfl,hb0,hcell⟩:=Hh.out.rd.rng (limbs_ne (i:=j) (by omega))
   have H1:=H.pushRng (b:=b0) (off:=off) hb0 (by simp) hcell
   clear H hcell
   have H:=H1
   clear H1
   have e1:(((j+1:Nat):Int) - 1)=(j:Int):=by omega
   rw [e1]
   clear e1
   have hjo:j<o.length:=by rw [Hol.out];omega
   obtain ⟨ov,hov⟩:∃ ov,o[j]? =some ov:=⟨_,List.getElem?_eq_getElem hjo⟩
   have hovv:=limbs_at hov
   have hlim:=short_limb hr hxB
   have Hlim:=hid hlim
   clear hov hlim
   (revert H;refine W45a6 ?_ <;>unhygienic intros)
   have e1:((r:Int)*4294967296+(x:Int)) / (dv:Int) % 4294967296=(((r*4294967296+x) / dv:Nat):Int):=by
    have e2:((r:Int)*4294967296+(x:Int)) / (dv:Int)=(((r*4294967296+x) / dv:Nat):Int):=by rw [Int.natCast_ediv];congr 1
    rw [e2]
    have h:=Hlim.out
    generalize (r*4294967296+x) / dv=q at h ⊢
    omega
   have e3:((r:Int)*4294967296+(x:Int)) % (dv:Int)=(((r*4294967296+x) % dv:Nat):Int):=by rw [Int.natCast_emod];congr 1
   rw [e1,limbs_set] at H
   rw [e3]
   go_roundw
   case rel=>exact ⟨j,(r*4294967296+x) % dv,o.set j ((r*4294967296+x) / dv),by omega,rfl,rfl,Nat.mod_lt _ hd0,hid (by rw [List.length_set];exact Hol.out),hid (Hlo.out.set _ Hlim.out),hid (by rw [drop_set _ _ _ hjo,drop_cons_at Hx.out];simp only [val];exact short_round Hv.out),H.sub (by repeat first | exact List.Sublist.refl _ | exact List.nil_sublist _ | apply List.Sublist.cons_cons | apply List.Sublist.cons)⟩
   case measure=>(simp [intOf];try omega)
end Go.Proofs.YtoiebebjgnpkmaaGreatDoor
namespace Go.Proofs
open Go.Shelf
set_option linter.unusedSimpArgs false
set_option linter.unusedVariables false
def Tryz.lays128_ren:Go.Shelf.Ren:=⟨fun | 128=>245 | n=>n,fun | 51=>162 | 3=>3 | 4=>4 | 46=>135 | 5=>5 | 9=>9 | n=>n,fun | n=>n⟩
theorem Tryz.lays128:Go.Proofs.Lays.n128 Tryz.prog Tryz.lays128_ren:={
 mixed:=by kernel_rfl
 f128:=Tryz.func245.trans (congrArg some (by kernel_rfl))
 t3:=Tryz.underlying3
 a3:=Tryz.isAgg3
 z3:=Tryz.sizeOf3
 v3:=Tryz.zeroValue3
 t4:=Tryz.underlying4
 a4:=Tryz.isAgg4
 z4:=Tryz.sizeOf4
 v4:=Tryz.zeroValue4
 t5:=Tryz.underlying5
 a5:=Tryz.isAgg5
 z5:=Tryz.sizeOf5
 v5:=Tryz.zeroValue5
 t9:=Tryz.underlying9
 a9:=Tryz.isAgg9
 z9:=Tryz.sizeOf9
 v9:=Tryz.zeroValue9
 t46:=Tryz.underlying135
 a46:=Tryz.isAgg135
 z46:=Tryz.sizeOf135
 v46:=Tryz.zeroValue135
 t51:=Tryz.underlying162
 a51:=Tryz.isAgg162
 z51:=Tryz.sizeOf162
 v51:=Tryz.zeroValue162}
theorem Tryz.bits_Len32 (x:Int) (w:World) (h0:0≤x) (h1:x≤4294967295):
 Calls Tryz.prog 245 #[.int .u32 x] w fun e w'=>e= .returned (.int .i64 (Lib.bitLen x.toNat))∧w'=w:=Any.bits_Len32 Tryz.lays128 x w h0 h1
def Tryz.lays133_ren:Go.Shelf.Ren:=⟨fun | 133=>247 | 128=>245 | n=>n,fun | 51=>162 | 3=>3 | 4=>4 | 46=>135 | 5=>5 | 9=>9 | n=>n,fun | n=>n⟩
theorem Tryz.lays133:Go.Proofs.Lays.n133 Tryz.prog Tryz.lays133_ren:={
 mixed:=by kernel_rfl
 f128:=Tryz.func245.trans (congrArg some (by kernel_rfl))
 f133:=Tryz.func247.trans (congrArg some (by kernel_rfl))
 t3:=Tryz.underlying3
 a3:=Tryz.isAgg3
 z3:=Tryz.sizeOf3
 v3:=Tryz.zeroValue3
 t4:=Tryz.underlying4
 a4:=Tryz.isAgg4
 z4:=Tryz.sizeOf4
 v4:=Tryz.zeroValue4
 t5:=Tryz.underlying5
 a5:=Tryz.isAgg5
 z5:=Tryz.sizeOf5
 v5:=Tryz.zeroValue5
 t9:=Tryz.underlying9
 a9:=Tryz.isAgg9
 z9:=Tryz.sizeOf9
 v9:=Tryz.zeroValue9
 t46:=Tryz.underlying135
 a46:=Tryz.isAgg135
 z46:=Tryz.sizeOf135
 v46:=Tryz.zeroValue135
 t51:=Tryz.underlying162
 a51:=Tryz.isAgg162
 z51:=Tryz.sizeOf162
 v51:=Tryz.zeroValue162}
theorem Tryz.bits_LeadingZeros32 (x:Int) (w:World) (h0:0≤x) (h1:x≤4294967295):
 Calls Tryz.prog 247 #[.int .u32 x] w fun e w'=>e= .returned (.int .i64 (32 - (Lib.bitLen x.toNat:Int)))∧w'=w:=Any.bits_LeadingZeros32 Tryz.lays133 x w h0 h1
end Go.Proofs
namespace Go.Proofs.YtoiebebjgnpkmaaGreatDoor
set_option linter.unusedSimpArgs false
set_option linter.unusedVariables false
open Go.RowKit
theorem bl_half {x:Nat} (h:x≠0):bl x=1+bl (x / 2):=by
 by_cases h1:x=1
 ·subst h1;rfl
 ·obtain ⟨a1,a2⟩:=bl_ge (n:=x / 2) (by omega)
  have a3:=bl_lt (x / 2)
  have e:2 ^ bl (x / 2)=2*2 ^ (bl (x / 2) - 1):=by
   obtain ⟨k,hk⟩:∃ k,bl (x / 2)=k+1:=⟨bl (x / 2) - 1,by omega⟩
   rw [hk,Nat.pow_succ,Nat.add_sub_cancel,Nat.mul_comm]
  rw [Nat.add_comm]
  apply bl_of
  ·omega
  ·rw [Nat.pow_succ];omega
theorem bitLen_bl:∀ (f x:Nat),x<2 ^ f→Lib.bitLenAux f x=bl x
 | 0,x,h=>by
  have:x=0:=by simpa using h
  subst this;rfl
 | f+1,x,h=>by
  unfold Lib.bitLenAux
  by_cases h0:x=0
  ·subst h0;rfl
  ·rw [if_neg h0,bitLen_bl f (x / 2) (by rw [Nat.pow_succ] at h;omega),bl_half h0]
theorem bl_32 {x:Nat} (h:x<4294967296):bl x≤32:=by
 apply Classical.byContradiction
 intro hn
 have h0:x≠0:=fun e=>by rw [e,bl_zero] at hn;omega
 obtain ⟨a1,_⟩:=bl_ge h0
 have:2 ^ 32≤2 ^ (bl x - 1):=Nat.pow_le_pow_right (by decide) (by omega)
 omega
theorem Fr.same {T:List Nat} (w:World):Fr T w w:=(Hp.start T w).fr
theorem len32_any (w:World) {x:Nat} (h:x<4294967296):Calls Tryz.prog 245 #[.int .u32 (x:Int)] w fun e w'=>e= .returned (.int .i64 (bl x:Int))∧Fr [] w w':=by
 refine Calls.mono (Go.Proofs.Tryz.bits_Len32 (x:Int) w (by omega) (by omega)) ?_
 rintro e w' ⟨rfl,rfl⟩
 refine ⟨?_,Fr.same _⟩
 have:Lib.bitLen ((x:Int)).toNat=bl x:=by rw [Int.toNat_natCast];exact bitLen_bl 64 x (by omega)
 rw [this]
theorem lead32_any (w:World) {x:Nat} (h:x<4294967296):Calls Tryz.prog 247 #[.int .u32 (x:Int)] w fun e w'=>e= .returned (.int .i64 ((32 - bl x:Nat):Int))∧Fr [] w w':=by
 refine Calls.mono (Go.Proofs.Tryz.bits_LeadingZeros32 (x:Int) w (by omega) (by omega)) ?_
 rintro e w' ⟨rfl,rfl⟩
 refine ⟨?_,Fr.same _⟩
 have:Lib.bitLen ((x:Int)).toNat=bl x:=by rw [Int.toNat_natCast];exact bitLen_bl 64 x (by omega)
 have h2:=bl_32 h
 rw [this,show (32:Int) - (bl x:Int)=((32 - bl x:Nat):Int) by omega]
end Go.Proofs.YtoiebebjgnpkmaaGreatDoor
namespace Go.Proofs.YtoiebebjgnpkmaaGreatDoor
open Go.RowKit
set_option linter.unusedSimpArgs false
set_option linter.unusedVariables false
set_option maxHeartbeats 4000000
set_option maxRecDepth 100000
theorem bits_or_u32_nat (a b:Nat) (ha:a<4294967296) (hb:b<4294967296):bits .or .u32 (a:Int) (b:Int)=((a||| b:Nat):Int):=by
 have hx:a||| b<2 ^ 32:=Nat.or_lt_two_pow (by omega) (by omega)
 have h1:(BitVec.ofInt 32 (a:Int)).toNat=a:=by
  rw [BitVec.ofInt_natCast,BitVec.toNat_ofNat];exact Nat.mod_eq_of_lt (by omega)
 have h2:(BitVec.ofInt 32 (b:Int)).toNat=b:=by
  rw [BitVec.ofInt_natCast,BitVec.toNat_ofNat];exact Nat.mod_eq_of_lt (by omega)
 show IntKind.u32.wrap ((BitVec.ofInt 32 (a:Int)||| BitVec.ofInt 32 (b:Int)).toNat:Int)=_
 rw [BitVec.toNat_or,h1,h2]
 exact wrap_inr (by simp only [inr];omega)
theorem up_alg (W i q x T:Nat):4294967296 ^ W*(2 ^ q*T)+4294967296 ^ (W+i)*(x*2 ^ q)=4294967296 ^ W*(2 ^ q*(T+4294967296 ^ i*x)):=by
 rw [Nat.pow_add,Nat.mul_add,Nat.mul_add,Nat.mul_assoc,Nat.mul_comm x,Nat.mul_left_comm (4294967296 ^ i)]
set_option maxHeartbeats 8000000 in
theorem up_any {w:World} {p:Option Addr} {n c:Nat} (a:List Nat) (s:Nat) (hn:a.length=n) (hn0:n≤1000000) (hs:s≤64000000) (h:LR w p c a):
 Calls Tryz.prog 226 #[.slice p n c, .int .i64 (s:Int)] w fun e w'=>∃ p' c',e= .returned (.slice p' (digs (val a*2 ^ s)).length c')∧Fr [] w w'∧LR w' p' c' (digs (val a*2 ^ s)):=by
 subst hn
 have Hh:=hid h
 clear h
 have H:=Hp.start [] w
 by_cases ha:a.length≤0
 ·have e:val a=0:=by rw [List.eq_nil_of_length_eq_zero (show a.length=0 by omega)];rfl
  have He:=hid e
  clear e
  go_enter Tryz.func226,Tryz.ntmps226
  ((try simp only [Int.not_lt,Int.not_le] at*);revert H;refine W08de ?_ <;>unhygienic intros)
  go_ret
  rw [He.out,Nat.zero_mul,digs_zero]
  exact ⟨none,0,rfl,H.fr,LR.zero _⟩
 obtain ⟨W,hW⟩:∃ W,s / 32=W:=⟨_,rfl⟩
 obtain ⟨q,hq⟩:∃ q,s % 32=q:=⟨_,rfl⟩
 have ha1:0<a.length:=by omega
 have hq32:q<32:=by omega
 have HS:Hid (s=32*W+q):=hid (by omega)
 have HW:Hid ((s:Int) / 32=(W:Int)):=hid (by omega)
 have HQ:Hid ((s:Int) % 32=(q:Int)):=hid (by omega)
 clear ha hW hq
 go_enter Tryz.func226,Tryz.ntmps226
 ((try simp only [Int.not_lt,Int.not_le] at*);revert H;refine W08de ?_ <;>unhygienic intros)
 rw [show ((s:Int) / 32+(a.length:Int)+1).toNat=W+a.length+1 by have:=HW.out;omega,zeros_limbs] at H
 have hq2:0<2 ^ q:=Nat.two_pow_pos q
 rw [HW.out,HQ.out]
 go_loopw [27] (fun s27 wr=>∃ (i o:Nat) (l:List Nat),i≤a.length∧s27= .int .i64 (i:Int)∧o<2 ^ q∧Hid (l.length=W+a.length+1)∧Hid (Lim l)∧Hid (val l=4294967296 ^ W*(2 ^ q*val (a.take i)))∧Hid (l[W+i]? =some o)∧Hid (∀ k,W+i<k→k<W+a.length+1→l[k]? =some 0)∧Hp [] w wr [.blk g (limbs l) 162]) (fun v _ =>a.length - (intOf v).toNat)
 case atStart=>exact ⟨0,0,List.replicate (W+a.length+1) 0,Nat.zero_le _,rfl,hq2,hid List.length_replicate,hid (Lim.zeros _),hid (by rw [val_zeros];simp [val]),hid (by rw [List.getElem?_replicate,if_pos (by omega)]),hid (fun k _ hk=>by rw [List.getElem?_replicate,if_pos hk]),H⟩
 case round=>
  clear H
  obtain ⟨i,o,l,hi,rfl,ho,Hll,Hlim,Hv,Ho,Hz,H⟩:=hrel
  by_cases hin:i<a.length
  ·obtain ⟨x,hx⟩:∃ x,a[i]? =some x:=⟨_,List.getElem?_eq_getElem hin⟩
   have hxv:=limbs_at hx
   have hxB:=Hh.out.lim.at hx
   have Hx:=hid hx
   clear hx
   obtain ⟨b0,off,rfl,hb0,hcell⟩:=Hh.out.rd.rng (limbs_ne (i:=i) hin)
   have H1:=H.pushRng (b:=b0) (off:=off) hb0 (by simp) hcell
   clear H hcell
   have H:=H1
   clear H1
   have ht64:x*2 ^ q<18446744073709551616:=by
    have h1:2 ^ q≤2 ^ 31:=Nat.pow_le_pow_right (by decide) (by omega)
    have h2:x*2 ^ q≤4294967296*2 ^ 31:=Nat.mul_le_mul (by omega) h1
    omega
   have hov:(limbs l)[((W:Int)+(i:Int)).toNat]? =some (.int .u32 (o:Int)):=by rw [show ((W:Int)+(i:Int)).toNat=W+i by omega];exact limbs_at Ho.out
   have hll:l.length=W+a.length+1:=Hll.out
   have hW1:W+i+1<l.length:=by omega
   have hW2:W≤64000000:=by have:=HS.out;omega
   clear hll
   have hqB:2 ^ q≤2147483648:=Nat.pow_le_pow_right (show 0<2 by decide) (show q≤31 by omega)
   have E1:Hid (IntKind.u64.wrap ((x:Int)*2 ^ q)=((x*2 ^ q:Nat):Int)):=hid (wrapN _ (by rw [Int.natCast_mul,Int.natCast_pow];rfl) ht64)
   have E2:Hid (bits BinOp.or IntKind.u32 (o:Int) ((x*2 ^ q % 4294967296:Nat):Int)=((x*2 ^ q % 4294967296+o:Nat):Int)):=hid (by
    rw [bits_or_u32_nat _ _ (by omega) (Nat.mod_lt _ (by decide)),Nat.or_comm,up_or hq32 hxB ho])
   have E3:=hid (low_nat ht64)
   have Hs1:=hid (up_sum hq32 hxB ho)
   have Ht1:=hid (up_high (p:=q) hxB)
   have H64:=hid ht64
   clear ht64
   ((try simp only [Int.not_lt,Int.not_le] at*);revert H;refine We1b0 ?_ <;>unhygienic intros)
   have E4:((x*2 ^ q:Nat):Int) / 4294967296 % 4294967296=((x*2 ^ q / 4294967296:Nat):Int):=by
    have:=Ht1.out
    have:=hqB
    omega
   rw [E1.out,E3.out,E2.out,E4,show ((W:Int)+(i:Int)).toNat=W+i by omega,show ((W:Int)+(i:Int)+1).toNat=W+i+1 by omega,limbs_set,limbs_set] at H
   go_roundw
   case rel=>exact ⟨i+1,x*2 ^ q / 4294967296,(l.set (W+i) (x*2 ^ q % 4294967296+o)).set (W+i+1) (x*2 ^ q / 4294967296),by omega,by go_num,Ht1.out,hid (by rw [List.length_set,List.length_set];exact Hll.out),hid ((Hlim.out.set _ Hs1.out).set _ (by have:=Ht1.out;omega)),hid (by rw [up_round Ho.out (Hz.out _ (by omega) (by omega)) Hv.out,val_take_succ Hx.out];exact up_alg ..),hid (by rw [show W+(i+1)=W+i+1 by omega,List.getElem?_set_self (by rw [List.length_set];exact hW1)]),hid (fun k hk1 hk2=>by rw [List.getElem?_set_ne (by omega),List.getElem?_set_ne (by omega)];exact Hz.out k (by omega) hk2),H.sub (by repeat first | exact List.Sublist.refl _ | exact List.nil_sublist _ | apply List.Sublist.cons_cons | apply List.Sublist.cons)⟩
   case measure=>(simp [intOf];try omega)
  ·have e:i=a.length:=by omega
   have HV:Hid (val l=val a*2 ^ s):=hid (by
    rw [Hv.out,e,List.take_of_length_le (Nat.le_refl _),HS.out,Nat.pow_add,powB,Nat.mul_comm (val a),Nat.mul_assoc])
   clear e
   have hll:l.length=W+a.length+1:=Hll.out
   have hW2:W≤64000000:=by have:=HS.out;omega
   ((try simp only [Int.not_lt,Int.not_le] at*);revert H;refine W08de ?_ <;>unhygienic intros)
   have hL:LR _ (some ⟨g,0,none⟩) (W+a.length+1) l:=LR.of_blk (pad:=[]) (by rw [List.append_nil];exact H.at g) Hlim.out (by omega) (by unfold maxLen;omega)
   have HL:=hid hL
   refine Calls.mono (trim_any l hll HL.out) ?_
   rintro e w1 ⟨rfl,hF⟩
   have HL2:=hid (hL.fr hF).trim
   have H1:=H.step hF (by simp)
   clear H hF hL HL
   have H:=H1
   clear H1
   ((try simp only [Int.not_lt,Int.not_le] at*);revert H;refine W08de ?_ <;>unhygienic intros)
   go_ret
   rw [HV.out] at HL2
   exact ⟨_,_,by rw [HV.out];rfl,H.fr,HL2.out⟩
end Go.Proofs.YtoiebebjgnpkmaaGreatDoor
