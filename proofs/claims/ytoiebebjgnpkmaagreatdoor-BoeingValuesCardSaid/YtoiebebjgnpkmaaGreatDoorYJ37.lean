import Derived.Test.YtoiebebjgnpkmaaGreatDoorYJ0
import Derived.Test.YtoiebebjgnpkmaaGreatDoorYJ21
import Derived.Test.YtoiebebjgnpkmaaGreatDoorYJ36
import Derived.Test.YtoiebebjgnpkmaaGreatDoorYJ29
import Derived.Test.YtoiebebjgnpkmaaGreatDoorYJ31
import Derived.Test.YtoiebebjgnpkmaaGreatDoorYJ22
import Derived.Test.YtoiebebjgnpkmaaGreatDoorYJ46
import Derived.Test.YtoiebebjgnpkmaaGreatDoorYJ26
namespace Go.Proofs.YtoiebebjgnpkmaaGreatDoor
open Go.RowKit
set_option linter.unusedSimpArgs false
set_option linter.unusedVariables false
set_option maxHeartbeats 8000000
set_option maxRecDepth 100000
theorem sgnF_lt {neg:Bool} {f:Nat} (h:f<9223372036854775808):sgnF neg f<18446744073709551616:=by unfold sgnF;split<;>omega
theorem overF_lt (neg:Bool) (mode:Int):overF neg mode<18446744073709551616:=by unfold overF;refine sgnF_lt ?_;split<;>omega
theorem packF_lt (neg:Bool) (mode:Int) {n:Nat} (u:Int) (h:n≤9007199254740992):packF neg mode n u<18446744073709551616:=by
 by_cases h1:n<4503599627370496
 ·rw [pack_small h1];exact sgnF_lt (by omega)
 ·by_cases h2:n=9007199254740992
  ·subst h2
   rw [pack_full]
   split
   ·exact overF_lt _ _
   ·exact sgnF_lt (by omega)
  ·rw [pack_big (by omega) h2]
   split
   ·exact overF_lt _ _
   ·exact sgnF_lt (by omega)
theorem rndF_lt (neg:Bool) (mode:Int) {N D:Nat} (e:Int) (hN:0<N) (hD:0<D):rndF neg mode N D e<18446744073709551616:=by
 obtain ⟨u,hu⟩:∃ u,max (lg N D+e - 52) (-1074)=u:=⟨_,rfl⟩
 have h1:=(rnd_unit hN hD hu).1
 have h2:=(rm_bounds neg mode (N*2 ^ (e - u).toNat) (D*2 ^ (u - e).toNat)).2
 unfold rndF
 simp only [hu]
 exact packF_lt _ _ _ (by omega)
theorem dpz_lt (M:Nat) (s:List UInt8) (mode:Int):(dpz M s mode).1<18446744073709551616:=by
 unfold dpz
 split
 ·decide
 ·split
  ·decide
  ·split
   ·decide
   ·unfold dval
    split
    ·exact sgnF_lt (by decide)
    ·rename_i h0
     unfold dvF
     exact rndF_lt _ _ _ (Nat.mul_pos (Nat.pos_of_ne_zero h0) (ten_pos _)) (ten_pos _)
theorem isFin_any (w:World) {b:Nat} (hb:b<18446744073709551616) {z:Bool} (hz:Hid (finF b=z)):
 Calls Tryz.prog 38 #[.int .u64 (b:Int)] w fun r w'=>r= .returned (.bool z)∧Fr [] w w':=by
 have H:=Hp.start [] w
 obtain ⟨x,hx0⟩:∃ x,b / 4503599627370496 % 2048=x:=⟨_,rfl⟩
 obtain ⟨y,hy0⟩:∃ y,b % 4503599627370496=y:=⟨_,rfl⟩
 have hx:=hid hx0
 have hy:=hid hy0
 have hzz:=hz.out
 unfold finF at hzz
 rw [hx0] at hzz
 clear hx0 hy0 hz
 by_cases hn:x=2047
 ·have HZ:Hid (z=false):=hid (by rw [← hzz,hn];rfl)
  have hn':(x:Int)=2047:=by omega
  clear hzz
  go_enter Tryz.func38,Tryz.ntmps38
  (revert H;refine W678e ?_ <;>unhygienic intros)
  (refine x_c H (partsI_any _ hb hx hy) ?_;clear H;rintro e w1 ⟨rfl,hF⟩ H;replace hF:=hF.kp;skip)
  (revert H;refine W678e ?_ <;>unhygienic intros)
  go_ret
  exact ⟨by rw [HZ.out];first | rfl | skip,H.fr⟩
 ·have HZ:Hid (z=true):=hid (by rw [← hzz];simpa using hn)
  have hn':¬ (x:Int)=2047:=by omega
  clear hzz
  go_enter Tryz.func38,Tryz.ntmps38
  (revert H;refine W678e ?_ <;>unhygienic intros)
  (refine x_c H (partsI_any _ hb hx hy) ?_;clear H;rintro e w1 ⟨rfl,hF⟩ H;replace hF:=hF.kp;skip)
  (revert H;refine W678e ?_ <;>unhygienic intros)
  go_ret
  exact ⟨by rw [HZ.out];first | rfl | skip,H.fr⟩
theorem rl_one {w:World} {neg b:Bool} {p:Option Addr} {k c kk M:Nat} {e:Int} (h:Bv w (.agg #[.bool b, .slice p k c]) (M:Int) kk) (hM:0<M) (hb:bl M≤100000) (he: -1000000≤e∧e≤1000000):Rl w (.agg #[.bool neg, .bool b, .slice p k c, .int .i64 e, .bool false]) neg M 1 e:=
 ⟨b,p,k,c,0,M,e,false,rfl,h.c,hM,Nat.one_pos,by simp,by omega,by omega,by simp [Nat.mod_one], .inl (by simp [Nat.mod_one]),hb,he.1,he.2⟩
theorem dyOf_any {w:World} {b:Bool} {p:Option Addr} {n c kk:Nat} {m e:Int} (h:Bv w (.agg #[.bool b, .slice p n c]) m kk) (hk:kk≤60000) (hm:m≠0) (hb:bl m.natAbs≤60000) (he: -60000≤e∧e≤60000):
 Calls Tryz.prog 218 #[.agg #[.bool false, .bool b, .slice p n c, .int .i64 e]] w fun r w'=>∃ v1,r= .returned v1∧Fr [] w w'∧Rl w' v1 b m.natAbs 1 e:=by
 have HB:=hid h
 clear h
 have H:=Hp.start [] w
 go_enter Tryz.func218,Tryz.ntmps218
 (revert H;refine W678e ?_ <;>unhygienic intros)
 (revert H;refine w_pF 9 (.st 0 (.st 1 (.st 2 (.st 3 (.st 4 (.st 6 (.st 7 (.ld 5 (.st 8 (.ld 9 .done)))))))))) ?_;intro w1 hf H;(first | replace hf:=hf.kp | clear hf))
 iterate 4 refine p_q ?_
 (refine p_l ?_)
 iterate 2 refine p_q ?_
 ((refine p_c H rfl rfl Tryz.func233 (abs_ar (bv HB).ar (by omega)) ?_;clear H;rintro e w1 ⟨v5,rfl,hF,hB⟩ H;refine p_r ?_;replace hF:=hF.kp);obtain ⟨b5,p5,m5,c5,rfl⟩:=hB.form;have HB5:=hid hB;clear hB)
 refine p_q ?_
 (revert H;refine p_sF ?_;intro w1 hf H hk;clear hf;change Kp _ _ at hk)
 (refine pl_done ?_)
 all_goals
  (revert H;refine W678e ?_ <;>unhygienic intros)
  refine c_post H rfl rfl rfl ?_
  exact ⟨_,rfl,H.fr,rl_one (bv HB5) (by omega) (by omega) (by omega)⟩
theorem signD_is {w:World} {v:Value} {x e:Int} (h:Dn w v x e) (hb:bl x.natAbs≤65536) (hx:bl x.natAbs+e≤65536) (he: -65536≤e) (hT:La w) {s:Int} (hs:Hid (Int.sign x=s)):
 Calls Tryz.prog 197 #[v] w fun r w'=>r= .returned (.int .i64 s)∧Fr [] w w':=by
 rw [← hs.out];exact signD_any h hb hx he hT
theorem roundF_any {w:World} {v:Value} {x e:Int} (mode:Int) (h:Dn w v x e) (hb:bl x.natAbs≤40000) (he: -20000≤e∧e≤20000) (hT:La w) {X:Nat} (hX:Hid (X=if x=0 then 0 else rndF (decide (x<0)) mode x.natAbs 1 e)):
 Calls Tryz.prog 168 #[v, .int .i64 mode] w fun r w'=>r= .returned (.int .u64 (X:Int))∧Fr [] w w':=by
 have HD:=hid h
 obtain ⟨m1,e1,b1,p1,n1,c1,rfl,h1,h2⟩:=h
 have HT:=hid hT
 clear h1 h2 hT
 have H:=Hp.start [] w
 go_enter Tryz.func168,Tryz.ntmps168
 (revert H;refine W678e ?_ <;>unhygienic intros)
 (refine x_c H (normD_any (dn HD) (by omega) (by omega) (by omega) (HT.out.fr H.fr)) ?_;clear H;rintro e w1 ⟨v3,rfl,hF,hD⟩ H;replace hF:=hF.kp;have HD3:=hid hD;obtain ⟨m3,e3,b3,p3,n3,c3,rfl,hN,hB⟩:=hD;have HN3:=hid hN;have HB3:=hid hB;clear hN hB)
 have hl3:=HN3.out.le
 by_cases hx:x=0
 ·have HX0:Hid (X=0):=hid (by rw [hX.out,if_pos hx])
  have hsg:Hid (Int.sign x=0):=hid (by rw [hx];rfl)
  clear hX
  (revert H;refine W678e ?_ <;>unhygienic intros)
  (refine x_c H (signD_is (dn HD3) (by omega) (by omega) (by omega) (HT.out.fr H.fr) hsg) ?_;clear H;rintro e w1 ⟨rfl,hF⟩ H;replace hF:=hF.kp;skip)
  (revert H;refine W678e ?_ <;>unhygienic intros)
  go_ret
  exact ⟨by rw [HX0.out];rfl,H.fr⟩
 ·have HM0:=hid (HN3.out.ne hx)
  obtain ⟨s,hs0⟩:∃ s,Int.sign x=s:=⟨_,rfl⟩
  have hsg:=hid hs0
  have hsn:¬ s=0:=by rw [← hs0];intro h0;exact hx (Int.sign_eq_zero_iff_zero.1 h0)
  have HX3:Hid (X=rndF b3 mode m3.natAbs 1 e3):=hid (by
   have e1:=(bv_bool HB3.out).trans HN3.out.neg
   have e2:=rnd_nm b3 mode HN3.out (Nm.refl (x:=1) (e:=0) (by decide)) hx (by decide)
   rw [Int.sub_zero,Int.sub_zero] at e2
   rw [hX.out,if_neg hx,← e1]
   exact e2.symm)
  clear hX hs0
  (revert H;refine W678e ?_ <;>unhygienic intros)
  (refine x_c H (signD_is (dn HD3) (by omega) (by omega) (by omega) (HT.out.fr H.fr) hsg) ?_;clear H;rintro e w1 ⟨rfl,hF⟩ H;replace hF:=hF.kp;skip)
  (revert H;refine W678e ?_ <;>unhygienic intros)
  (refine x_c H (dyOf_any (bv HB3) (by omega) HM0.out (by omega) (by omega)) ?_;clear H;rintro e w1 ⟨v4,rfl,hF,hR⟩ H;replace hF:=hF.kp;have HR:=hid hR;clear hR)
  (revert H;refine W678e ?_ <;>unhygienic intros)
  (refine x_c H (rounded_any mode HR.out (HT.out.fr H.fr)) ?_;clear H;rintro e w1 ⟨rfl,hF⟩ H;replace hF:=hF.kp;skip)
  (revert H;refine W678e ?_ <;>unhygienic intros)
  go_ret
  exact ⟨by rw [HX3.out];rfl,H.fr⟩
end Go.Proofs.YtoiebebjgnpkmaaGreatDoor
namespace Go.Proofs.YtoiebebjgnpkmaaGreatDoor
open Go.RowKit
set_option linter.unusedSimpArgs false
set_option linter.unusedVariables false
set_option maxHeartbeats 8000000
set_option maxRecDepth 100000
attribute [local irreducible] wpList Code.wp Plan.wp
theorem within_any (w:World) (x lo hi:Int) {b:Bool} (hb:Hid (decide (lo≤x∧x≤hi)=b)):
 Calls Tryz.prog 35 #[.int .i64 x, .int .i64 lo, .int .i64 hi] w fun e w'=>e= .returned (.bool b)∧Fr [] w w':=by
 have H:=Hp.start [] w
 go_enter Tryz.func35,Tryz.ntmps35
 by_cases h1:lo≤x
 ·by_cases h2:x≤hi
  ·have HB:Hid (b=true):=hid (by rw [← hb.out];simp [h1,h2])
   ((try simp only [Int.not_lt,Int.not_le] at*);revert H;refine W2af9 ?_ <;>unhygienic intros)
   (refine bodyPost_ret (results_tmp rfl _ _ _) rfl ?_)
   exact ⟨by rw [HB.out];rfl,H.fr⟩
  ·have HB:Hid (b=false):=hid (by rw [← hb.out];simp [h2])
   ((try simp only [Int.not_lt,Int.not_le] at*);revert H;refine W2af9 ?_ <;>unhygienic intros)
   (refine bodyPost_ret (results_tmp rfl _ _ _) rfl ?_)
   exact ⟨by rw [HB.out];rfl,H.fr⟩
 ·have HB:Hid (b=false):=hid (by rw [← hb.out];simp [h1])
  ((try simp only [Int.not_lt,Int.not_le] at*);revert H;refine W2af9 ?_ <;>unhygienic intros)
  (refine bodyPost_ret (results_tmp rfl _ _ _) rfl ?_)
  exact ⟨by rw [HB.out];rfl,H.fr⟩
section
variable {P:Program} {a:Act} {o:Oper} {w:World}
end
end Go.Proofs.YtoiebebjgnpkmaaGreatDoor
namespace Go.Proofs.YtoiebebjgnpkmaaGreatDoor
set_option linter.unusedSimpArgs false
set_option linter.unusedVariables false
def okM (m n:Nat) (L:List En):Prop:=L.Pairwise apE∧∀ x∈L,x.1<m∧x.2.1<n∧finF x.2.2=true∧x.2.2<18446744073709551616
theorem okM.perm {m n:Nat} {L S:List En} (h:okM m n L) (p:L.Perm S):okM m n S:=⟨perm_ap p h.1,fun x hx=>h.2 x (p.mem_iff.2 hx)⟩
end Go.Proofs.YtoiebebjgnpkmaaGreatDoor
namespace Go.Proofs.YtoiebebjgnpkmaaGreatDoor
set_option linter.unusedSimpArgs false
set_option linter.unusedVariables false
def nzF:Nat:=9223372036854775808
def cleanF (b:Nat):Nat:=if b=nzF then 0 else b
theorem cleanF_lt {b:Nat} (h:b<18446744073709551616):cleanF b<18446744073709551616:=by unfold cleanF;split<;>omega
theorem cleanF_fin {b:Nat} (h:finF b=true):finF (cleanF b)=true:=by
 unfold cleanF;split
 ·decide
 ·exact h
theorem Nm.zero {x e m e':Int} (h:Nm x e m e') (hm:m=0):x=0:=by
 rcases h with ⟨h,_⟩ | ⟨h,t,h2,_⟩
 ·exact h
 ·rw [hm,Int.zero_mul] at h2;exact h2
theorem Nm.zero' {x e m e':Int} (h:Nm x e m e') (hx:x=0):m=0:=by
 rcases h with ⟨_,h,_⟩ | ⟨h,_⟩
 ·exact h
 ·exact absurd hx h
theorem round_clean {b:Nat} (hb:b<18446744073709551616) (hf:finF b=true) {x2 e2 m e':Int} (h:Nm (sg (decide (9223372036854775808≤b)) (manF (b % 9223372036854775808))) (expoF (b % 9223372036854775808)) m e') (g:Nm x2 e2 m e'):
 cleanF b=if x2=0 then 0 else rndF (decide (x2<0)) 0 x2.natAbs 1 e2:=by
 by_cases h0:b % 9223372036854775808=0
 ·have e0:manF (b % 9223372036854775808)=0:=by rw [h0];rfl
  have hm:m=0:=h.zero' (by rw [e0,sg_zero])
  rw [if_pos (g.zero hm)]
  unfold cleanF nzF
  split
  ·rfl
  ·omega
 ·have hfin:b % 9223372036854775808<9218868437227405312:=by
   unfold finF at hf
   simp only [bne_iff_ne,ne_eq] at hf
   omega
  have hp:0<manF (b % 9223372036854775808):=manF_pos (by omega)
  have hx:sg (decide (9223372036854775808≤b)) (manF (b % 9223372036854775808))≠0:=by
   intro k
   have:=sg_eq_zero.1 k
   omega
  have hm:m≠0:=h.ne hx
  have hx2:x2≠0:=fun k=>hm (g.zero' k)
  have hd:decide (x2<0)=decide (9223372036854775808≤b):=by
   rw [← g.neg,h.neg]
   unfold sg
   by_cases k:9223372036854775808≤b
   ·simp only [k,decide_true,if_true];simp;omega
   ·simp only [k,decide_false,Bool.false_eq_true,if_false];simp
  rw [if_neg hx2,hd]
  have r1:=rnd_nm (decide (9223372036854775808≤b)) 0 g (Nm.refl (x:=1) (e:=0) (by decide)) hx2 (by decide)
  have r2:=rnd_nm (decide (9223372036854775808≤b)) 0 h (Nm.refl (x:=1) (e:=0) (by decide)) hx (by decide)
  rw [Int.sub_zero,Int.sub_zero] at r1 r2
  rw [sg_abs] at r2
  have r3:=rnd_back (decide (9223372036854775808≤b)) 0 (b:=b % 9223372036854775808) (by omega) hfin
  have r4:rndF (decide (9223372036854775808≤b)) 0 x2.natAbs 1 e2=sgnF (decide (9223372036854775808≤b)) (b % 9223372036854775808):=r1.symm.trans (r2.trans r3)
  rw [r4]
  unfold cleanF nzF sgnF
  by_cases k:9223372036854775808≤b
  ·rw [if_neg (by omega),if_pos (by simpa using k)];omega
  ·rw [if_neg (by omega),if_neg (by simpa using k)];omega
end Go.Proofs.YtoiebebjgnpkmaaGreatDoor
