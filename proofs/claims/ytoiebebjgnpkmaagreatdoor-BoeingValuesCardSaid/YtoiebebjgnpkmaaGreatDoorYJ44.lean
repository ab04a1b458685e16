import Derived.Test.YtoiebebjgnpkmaaGreatDoorYJ0
import Derived.Test.YtoiebebjgnpkmaaGreatDoorYJ20
import Derived.Test.YtoiebebjgnpkmaaGreatDoorYJ26
import Derived.Test.YtoiebebjgnpkmaaGreatDoorYJ46
import Derived.Test.YtoiebebjgnpkmaaGreatDoorYJ31
import Derived.Test.YtoiebebjgnpkmaaGreatDoorYJ35
namespace Go.Proofs.YtoiebebjgnpkmaaGreatDoor
open Go.RowKit
set_option linter.unusedSimpArgs false
set_option linter.unusedVariables false
set_option maxHeartbeats 8000000
set_option maxRecDepth 100000
attribute [local irreducible] wpList Code.wp Plan.wp
theorem left_is {w:World} {u:Value} {x z:Int} {n:Nat} (k:Nat) (hz:Hid (z=(k:Int))) (h:Av w u x n) (hn:n≤200000) (hk:k≤1048576):
 Calls Tryz.prog 221 #[u, .int .i64 z] w fun e w'=>∃ v1,e= .returned v1∧Fr [] w w'∧Bv w' v1 (x*2 ^ k) (bl (x*2 ^ k).natAbs):=by
 rw [hz.out];exact left_any k h hn hk
theorem nm_min {x e m e':Int} (h:Nm x e m e') {z:Int} (hz:min 0 e'=z):Nm (m*2 ^ (e' - z).toNat) z m e':=by
 by_cases h0:m=0
 ·have he:e'=0:=by
   rcases h with ⟨_,_,h⟩ | ⟨hx,t,h2,_⟩
   ·exact h
   ·rw [h0,Int.zero_mul] at h2;exact absurd h2 hx
  refine .inl ⟨by rw [h0,Int.zero_mul],h0, ?_⟩
  exact he
 ·refine .inr ⟨?_,(e' - z).toNat,rfl,by omega⟩
  intro k
  rcases Int.mul_eq_zero.1 k with k | k
  ·exact h0 k
  ·exact absurd k (Int.ne_of_gt (two_pos _))
theorem bl_shift {m:Int} {k n:Nat} (h:bl m.natAbs≤n):bl (m*2 ^ k).natAbs≤n+k+1:=by
 have e:(m*2 ^ k).natAbs=m.natAbs*2 ^ k:=by rw [Int.natAbs_mul,Int.natAbs_pow];rfl
 have h1:=bl_prod m.natAbs (2 ^ k)
 rw [bl_two] at h1
 rw [e]
 omega
set_option maxHeartbeats 32000000 in
theorem sum1_any {w:World} {g c:Nat} {b:Bool} {p:Option Addr} {n cc:Nat} {x e e1:Int} (hg:g<w.heap.size) (hc:∀ j u,([.bool false, .bool b, .slice p n cc, .int .i64 e1]:List Value)[j]? =some u→w.cell? ⟨g,0+j,none⟩=some u) (hD:Dn w (.agg #[.bool false, .bool b, .slice p n cc, .int .i64 e1]) x e) (hb:bl x.natAbs≤64) (he: -2000≤e∧e≤2000) (hT:La w):
 Calls Tryz.prog 169 #[.slice (some ⟨g,0,none⟩) 1 c] w fun r w'=>∃ v1 x2 e2 m e',r= .returned v1∧Fr [] w w'∧Dn w' v1 x2 e2∧Nm x e m e'∧Nm x2 e2 m e'∧bl x2.natAbs≤4500∧ -2000≤e2∧e2≤2000:=by
 have HT:=hid hT
 have HD:=hid hD
 have H:=((Hp.start [] w).pushRng (b:=g) (off:=0) hg (by simp) hc).newRow 5 (e:=188) (sz:=4)
 clear hT hD hc
 go_enter Tryz.func169,Tryz.ntmps169
 (revert H;refine W3ded ?_ <;>unhygienic intros)
 go_loopw [3,4,14] (fun s3 s4 s14 wr=>∃ (k:Nat) (z4:Int) (v:Value) (S:List Nat) (cs:List Value),s3=v∧s4= .int .i64 z4∧s14= .int .i64 (k:Int)∧k≤1∧Hp [] w wr [.obj 5 S (RowAt 188 4 v k cs S), .rng g 0 [.bool false, .bool b, .slice p n cc, .int .i64 e1], .blk g0 [.bool false, .bool false, .slice none 0 0, .int .i64 0] 188]∧((k=0∧z4=0∧v= .slice none 0 0∧cs=[])∨(k=1∧∃ (m2 e2:Int) (b2:Bool) (p2:Option Addr) (n2 c2:Nat),cs=[.bool false, .bool b2, .slice p2 n2 c2, .int .i64 e2]∧Hid (Nm x e m2 e2)∧Hid (Bv wr (.agg #[.bool b2, .slice p2 n2 c2]) m2 (bl m2.natAbs))∧Hid (min 0 e2=z4)))) (fun _ _ v _ =>1 - (intOf v).toNat)
 case atStart=>exact ⟨0,0,_,_,_,rfl,rfl,rfl,by omega,H.arr (by repeat (first | exact Pm.nil _ | (apply Pm.cons;· (repeat first | exact Rm.here _ | apply Rm.there)))), .inl ⟨rfl,rfl,rfl,rfl⟩⟩
 case round=>
  clear H
  obtain ⟨k,z4,v,S,cs,hv,rfl,rfl,hk1,H,hcase⟩:=hrel
  subst hv
  rcases hcase with ⟨rfl,rfl,rfl,rfl⟩ | ⟨rfl,m2,e2,b2,p2,n2,c2,rfl,HN2,HB2,HZ⟩
  ·have hFk:=H.fr.kp
   obtain rfl:S=[]:=by
    obtain ⟨_,⟨h,_⟩ | ⟨_,_,_,_,h,_⟩⟩:=H.rowo 5
    ·exact h
    ·cases h
   have hpre:([.bool false, .bool b, .slice p n cc, .int .i64 e1]:List Value)<+:List.drop 0 [.bool false, .bool b, .slice p n cc, .int .i64 e1]:=List.prefix_rfl
   (revert H;refine W3ded ?_ <;>unhygienic intros)
   (refine x_c H (norm_dn (dn HD) (by omega) (by omega) (by omega) (HT.out.fr H.fr)) ?_;clear H;rintro e w1 ⟨v6,rfl,hF,hD⟩ H;replace hF:=hF.kp;obtain ⟨m6,e6,b6,p6,n6,c6,rfl,hN,hB⟩:=hD;have HN6:=hid hN;have HB6:=hid hB;clear hN hB)
   obtain ⟨z,hz0⟩:∃ z,min 0 e6=z:=⟨_,rfl⟩
   have HZ:=hid hz0
   clear hz0
   (revert H;refine W1574 ?_ <;>unhygienic intros)
   go_roundw
   case rel=>exact ⟨1,z,_,S',_,rfl,rfl,rfl,by omega,H.arr (by repeat (first | exact Pm.nil _ | (apply Pm.cons;· (repeat first | exact Rm.here _ | apply Rm.there)))), .inr ⟨rfl,m6,e6,b6,p6,n6,c6,rfl,HN6,hid (bv HB6),HZ⟩⟩
   case measure=>(simp [intOf];try omega)
  ·obtain ⟨gv,cv,rfl,rfl⟩:=(H.rowo 5).some (by omega)
   have hl2:=HN2.out.le
   have hz4:=HZ.out
   have hzb: -2000≤z4∧z4≤0∧z4≤e2∧e2 - z4≤2100:=by omega
   obtain ⟨K,hK0⟩:∃ K,(e2 - z4).toNat=K:=⟨_,rfl⟩
   have hKl:K≤2100:=by omega
   have HK:=hid (show e2 - z4=(K:Int) by omega)
   have hbK:=bl_shift (m:=m2) (k:=K) (n:=64) (by omega)
   have HNX:=hid (show Nm (m2*2 ^ K) z4 m2 e2 by rw [← hK0];exact nm_min HN2.out HZ.out)
   clear hz4 hK0 HZ
   obtain ⟨X,hX⟩:∃ X,m2*2 ^ K=X:=⟨_,rfl⟩
   rw [hX] at hbK HNX
   have HX:=hid hX
   clear hX
   (revert H;refine W3ded ?_ <;>unhygienic intros)
   go_loopw [37] (fun s37 wr=>∃ (k:Nat) (b7:Bool) (p7:Option Addr) (n7 c7:Nat),s37= .int .i64 (k:Int)∧k≤1∧Hp [] w wr [.blk g1 [.bool b7, .slice p7 n7 c7] 112, .obj 5 [gv] (RowAt 188 4 (.slice (some ⟨gv,0,none⟩) 1 cv) 1 [.bool false, .bool b2, .slice p2 n2 c2, .int .i64 e2] [gv]), .blk g0 [.bool false, .bool false, .slice none 0 0, .int .i64 0] 188]∧Hid (Bv wr (.agg #[.bool b2, .slice p2 n2 c2]) m2 (bl m2.natAbs))∧((k=0∧b7=false∧p7=none∧n7=0∧c7=0)∨(k=1∧Hid (Bv wr (.agg #[.bool b7, .slice p7 n7 c7]) X (bl X.natAbs))))) (fun v _ =>1 - (intOf v).toNat)
   case atStart=>exact ⟨0,_,_,_,_,rfl,by omega,H.arr (by repeat (first | exact Pm.nil _ | (apply Pm.cons;· (repeat first | exact Rm.here _ | apply Rm.there)))),hid (bv HB2), .inl ⟨rfl,rfl,rfl,rfl,rfl⟩⟩
   case round=>
    clear H HB2
    obtain ⟨k,b7,p7,n7,c7,rfl,hk7,H,HB2,hcase⟩:=hrel
    rcases hcase with ⟨rfl,rfl,rfl,rfl,rfl⟩ | ⟨rfl,HB7⟩
    ·have hFk:=H.fr.kp
     (revert H;refine W645f ?_ <;>unhygienic intros)
     have HB7:=hid (bv_zero w1)
     (revert H;refine w_pF 9 (.st 0 (.st 1 (.st 2 (.st 3 (.st 4 (.st 5 (.st 6 (.ld 7 (.ld 8 (.ld 9 .done)))))))))) ?_;intro w1 hf H;(first | replace hf:=hf.kp | clear hf))
     (refine p_l ?_)
     refine p_q ?_
     (refine p_l ?_)
     iterate 4 refine p_q ?_
     ((refine p_c H rfl rfl Tryz.func221 (left_is K HK (bv HB2).ar (by omega) (by omega)) ?_;clear H;rintro e w1 ⟨v8,rfl,hF,hB⟩ H;refine p_r ?_;replace hF:=hF.kp);rw [HX.out] at hB;obtain ⟨b8,p8,m8,c8,rfl⟩:=hB.form;have HB8:=hid hB;clear hB)
     ((refine p_c H rfl rfl Tryz.func188 (add_ar (bv_zero _).ar (bv HB8).ar (by omega) (by omega)) ?_;clear H;rintro e w1 ⟨v9,rfl,hF,hB⟩ H;refine p_r ?_;replace hF:=hF.kp);obtain ⟨b9,p9,m9,c9,rfl⟩:=hB.form;have HB9:=hid hB;clear hB)
     (revert H;refine p_s2 ?_;intro w1 hf H hk;clear hf;change Kp _ _ at hk)
     (refine pl_done ?_)
     all_goals
      (revert H;refine W3ded ?_ <;>unhygienic intros)
      go_roundw
      case rel=>exact ⟨1,_,_,_,_,rfl,by omega,H.arr (by repeat (first | exact Pm.nil _ | (apply Pm.cons;· (repeat first | exact Rm.here _ | apply Rm.there)))),hid (bv HB2), .inr ⟨rfl,hid (by have h:=(bv HB9).c;rw [Int.zero_add] at h;exact h)⟩⟩
      case measure=>(simp [intOf];try omega)
    ·(revert H;refine W3ded ?_ <;>unhygienic intros)
     (refine x_c H (make_any (bv HB7).ar (by omega) (by omega) (by omega) (HT.out.fr H.fr)) ?_;clear H;rintro e w1 ⟨v10,rfl,hF,hD⟩ H;replace hF:=hF.kp;obtain ⟨m10,e10,b10,p10,n10,c10,rfl,hN,hB⟩:=hD;have HN10:=hid hN;have HB10:=hid hB;clear hN hB)
     (revert H;refine W3ded ?_ <;>unhygienic intros)
     refine c_post H rfl rfl rfl ?_
     exact ⟨_,X,z4,m2,e2,rfl,H.fr,⟨_,_,_,_,_,_,rfl,HN10.out,bv HB10⟩,HN2.out,HNX.out,by omega,by omega,by omega⟩
end Go.Proofs.YtoiebebjgnpkmaaGreatDoor
namespace Go.Proofs.YtoiebebjgnpkmaaGreatDoor
open Go.RowKit
set_option linter.unusedSimpArgs false
set_option linter.unusedVariables false
set_option maxHeartbeats 8000000
set_option maxRecDepth 100000
section
variable {P:Program} {Q:Exit→Act→World→Prop} {w w0:World} {lo:List Oper} {o:Oper} {T:List Nat} {l:List Ent} {L:List Value} {ds:List Deferred} {S:World→Prop} {fi i:Nat} {k:Plan}
theorem p_ldq {v:Value} {L':List Value} (h:k.wp P lo.toArray Q S fi ⟨L'.toArray,ds⟩ w) (hi:lo[i]? =some o:=by rfl) (hw:Region.wanted o (yielded lo.toArray L.toArray)=true:=by rfl)
 (he:Hp T w0 w l→(execOp (Act.mk L.toArray ds).eval o).run P w= .ok (.value v) w:=by
  intro H
  refine g_ld rfl ?_
  first | exact c_ld H rfl rfl | exact c_ld0 H rfl rfl | exact c_ln H rfl rfl | exact c_lf H rfl rfl)
 (hs:putL L o.dst v=L':=by ((try simp only [nrm,putL_s,putL_n,↓reduceIte,Nat.reduceAdd]);(try exact rfl)))
 (hS:i≠fi→Hp T w0 w l→S w:=by intro hne H1;first | exact absurd rfl hne | exact trivial | exact H1.sub (by repeat first | exact List.Sublist.refl _ | exact List.nil_sublist _ | apply List.Sublist.cons_cons | apply List.Sublist.cons))
 (H:Hp T w0 w l):Plan.wp P lo.toArray Q S fi (.ld i k) ⟨L.toArray,ds⟩ w:=
 pl_rw hi hw fun K hK=>wp_of_run (he H) (hK _ _ (fun hne=>hS hne H) (by rw [put_eq,hs];exact h))
end
theorem ev_negZ {P:Program} {w:World} {a:Act} {o:Oper} {t:TypeId} {x:Operand} (ho:o.op= .unOp .neg t x) {n:Int} (hx:a.eval x= .int .i64 n) (hn:inr .i64 (-n):=by simp only [inr];omega):(execOp a.eval o).run P w= .ok (.value (.int .i64 (-n))) w:=by
 have e:IntKind.i64.wrap (-n)= -n:=wrap_inr hn
 unfold execOp
 simp [ho,hx,Op.unary,Op.intArith,e]
theorem nm_pos {X:Nat} {e m e':Int} (h:Nm (X:Int) e m e') (hX:0<X):∃ M t:Nat,m=(M:Int)∧X=M*2 ^ t∧e'=e+t∧0<M:=by
 obtain ⟨t,h1,h2,_⟩:=h.abs (by omega)
 have hs:m.sign=1:=h.sign.trans (Int.sign_eq_one_of_pos (by omega))
 have hm:0<m:=Int.sign_eq_one_iff_pos.1 hs
 refine ⟨m.natAbs,t,by omega, ?_,h2,by omega⟩
 rw [Int.natAbs_natCast] at h1
 exact h1
theorem shiftN_any {w:World} {u:Value} {m:Nat} {z:Int} {n:Nat} (k:Nat) (hz:z=(k:Int)) (h:Av w u (m:Int) n) (hn:n≤200000) (hk:k≤1048576):
 Calls Tryz.prog 181 #[u, .int .i64 z] w fun e w'=>∃ v1,e= .returned (.tuple #[v1, .int .i64 0])∧Fr [] w w'∧Bv w' v1 ((m*2 ^ k:Nat):Int) (bl (m*2 ^ k)):=by
 subst hz
 refine Calls.mono (shiftUp_ar k h hn hk) ?_
 rintro e w' ⟨v1,rfl,hF,hB⟩
 have e1:(m:Int)*2 ^ k=((m*2 ^ k:Nat):Int):=by rw [Int.natCast_mul,Int.natCast_pow];rfl
 have hB:=hB.c
 rw [e1,Int.natAbs_natCast] at hB
 exact ⟨v1,rfl,hF,hB⟩
theorem ofA_any (w:World) {b:Nat} (hb:b<9218868437227405312) (hT:La w):
 Calls Tryz.prog 167 #[.int .u64 (b:Int)] w fun r w'=>∃ v1,r= .returned v1∧Fr [] w w'∧Dn w' v1 (manF b:Int) (expoF b):=by
 have h:=ofF_any w (b:=b) (by omega) (by omega) hT
 rw [decide_eq_false (by omega),Nat.mod_eq_of_lt (show b<9223372036854775808 by omega)] at h
 exact h
theorem frac_up {X M t k:Nat} {E:Int} (h:X=M*2 ^ t) (hk:E+t=(k:Int)):M*2 ^ k*2 ^ (-E).toNat=X*2 ^ E.toNat*1:=by
 rw [h,Nat.mul_one,Nat.mul_assoc,Nat.mul_assoc,← Nat.pow_add,← Nat.pow_add]
 congr 2;omega
theorem frac_dn {X M t k:Nat} {E:Int} (h:X=M*2 ^ t) (hk: -(E+t)=(k:Int)):M*2 ^ (-E).toNat=X*2 ^ E.toNat*2 ^ k:=by
 rw [h,Nat.mul_assoc,Nat.mul_assoc,← Nat.pow_add,← Nat.pow_add]
 congr 2;omega
theorem one_shift (k:Nat):1*2 ^ k=2 ^ k:=Nat.one_mul _
set_option maxHeartbeats 16000000 in
theorem fraction_any (w:World) {b z:Nat} (hb:b<18446744073709551616) (hk:kindF b≠3) (hz:Hid (b % 9223372036854775808=z)) (h0:0<z) (hz1:z<9218868437227405312) (hT:La w):
 Calls Tryz.prog 135 #[.int .u64 (b:Int)] w fun r w'=>∃ v1 v2,r= .returned (.tuple #[v1,v2])∧Fr [] w w'∧∃ N D:Nat,Bv w' v1 (N:Int) (bl N)∧Bv w' v2 (D:Int) (bl D)∧0<N∧0<D∧N*dF z=nF z*D∧bl N≤1100∧bl D≤1100:=by
 obtain ⟨hm1,hm2,hm3⟩:=man_bounds hz1
 have hmp:=manF_pos h0
 have HT:=hid hT
 have HK:=hid hk
 have HND:Hid (dF z=2 ^ (-expoF z).toNat∧nF z=manF z*2 ^ (expoF z).toNat):=hid ⟨rfl,rfl⟩
 obtain ⟨X,hX⟩:∃ X,manF z=X:=⟨_,rfl⟩
 obtain ⟨E,hE⟩:∃ X,expoF z=X:=⟨_,rfl⟩
 rw [hX,hE] at HND
 rw [hX] at hm1 hmp
 rw [hE] at hm2 hm3
 have HX:=hid hX
 have HE:=hid hE
 clear hX hE hT hk
 have H:=Hp.start [] w
 go_enter Tryz.func135,Tryz.ntmps135
 ((try simp only [Int.not_lt,Int.not_le] at*);revert H;refine W678e ?_ <;>unhygienic intros)
 (refine x_c H (absF_any _ hb HK.out hz) ?_;clear H;rintro e w1 ⟨rfl,hF⟩ H;replace hF:=hF.kp;skip)
 ((try simp only [Int.not_lt,Int.not_le] at*);revert H;refine W678e ?_ <;>unhygienic intros)
 (refine x_c H (ofA_any _ hz1 (HT.out.fr H.fr)) ?_;clear H;rintro e w1 ⟨v3,rfl,hF,hD⟩ H;replace hF:=hF.kp;rw [HX.out,HE.out] at hD;obtain ⟨m3,e3,b3,p3,n3,c3,rfl,hN,hB⟩:=hD;have HN3:=hid hN;have HB3:=hid hB;clear hN hB)
 have hle:=HN3.out.le
 rw [Int.natAbs_natCast] at hle
 have hbX:bl X≤53:=bl_le (by omega)
 obtain ⟨M,t,rfl,hXM,he',hM0⟩:=nm_pos HN3.out hmp
 rw [Int.natAbs_natCast] at hle HB3
 have hXM:=hid hXM
 have HE':=hid he'
 have het: -1074≤e3∧e3≤1024:=by have:=bl_pos (show M≠0 by omega);omega
 have hbM:bl M≤53:=by omega
 clear he' HN3 hle
 ((try simp only [Int.not_lt,Int.not_le] at*);revert H;refine W678e ?_ <;>unhygienic intros)
 (refine x_c H (fromInt_ar _ 1 (by simp only [inr];omega)) ?_;clear H;rintro e w1 ⟨v4,rfl,hF,hB⟩ H;replace hF:=hF.kp;obtain ⟨b4,p4,m4,c4,rfl⟩:=hB.form;have HB4:=hid hB;clear hB)
 by_cases hp:0≤e3
 ·obtain ⟨k,hk⟩:=Int.eq_ofNat_of_zero_le hp
  have HKK:=hid hk
  have hk2:k≤1024:=by omega
  have hbs:bl (M*2 ^ k)=bl M+k:=bl_mul_pow (by omega) k
  have HR:=hid (frac_up (k:=k) hXM.out (by rw [← HE'.out];exact hk))
  have hMk:0<M*2 ^ k:=Nat.mul_pos hM0 (pow2_pos k)
  clear hk
  ((try simp only [Int.not_lt,Int.not_le] at*);revert H;refine W678e ?_ <;>unhygienic intros)
  (refine x_c H (shiftN_any k HKK.out (bv HB3).ar (by omega) (by omega)) ?_;clear H;rintro e w1 ⟨v5,rfl,hF,hB⟩ H;replace hF:=hF.kp;obtain ⟨b5,p5,m5,c5,rfl⟩:=hB.form;have HB5:=hid hB;clear hB)
  ((try simp only [Int.not_lt,Int.not_le] at*);revert H;refine W678e ?_ <;>unhygienic intros)
  (revert H;refine w_pF 3 (.ld2 0 (.ld2 1 (.ld 2 (.ld 3 .done)) 2 (.ld 1 (.ld 3 .done))) 1 (.ld 0 (.ld 2 (.ld 3 .done)))) ?_ (hs:=(List.nil_sublist _));intro w1 hf H;(first | replace hf:=hf.kp | clear hf))
  (refine pl_ld2 ?_ ?_)
  (refine p_ldq (H:=H) ?_)
  (refine pl_ld2 ?_ ?_)
  (refine p_ldq (H:=H) ?_)
  (revert H;refine p_sF ?_;intro w1 hf H hk;clear hf;change Kp _ _ at hk)
  (revert H;refine p_sF ?_;intro w1 hf H hk;clear hf;change Kp _ _ at hk)
  (refine pl_done ?_)
  rotate_left
  (revert H;refine p_sF ?_;intro w1 hf H hk;clear hf;change Kp _ _ at hk)
  (refine p_ldq (H:=H) ?_)
  (revert H;refine p_sF ?_;intro w1 hf H hk;clear hf;change Kp _ _ at hk)
  (refine pl_done ?_)
  rotate_left
  (refine p_ldq (H:=H) ?_)
  (refine p_ldq (H:=H) ?_)
  (revert H;refine p_sF ?_;intro w1 hf H hk;clear hf;change Kp _ _ at hk)
  (revert H;refine p_sF ?_;intro w1 hf H hk;clear hf;change Kp _ _ at hk)
  (refine pl_done ?_)
  rotate_left
  all_goals
   ((try simp only [Int.not_lt,Int.not_le] at*);revert H;refine W678e ?_ <;>unhygienic intros)
   refine c_postCC H rfl rfl rfl rfl rfl ?_
   exact ⟨_,_,rfl,H.fr,M*2 ^ k,1,bv HB5,(bv HB4).c,hMk,by omega,by rw [HND.out.1,HND.out.2];exact HR.out,by omega,by decide⟩
 ·obtain ⟨k,hk⟩:=Int.eq_ofNat_of_zero_le (show 0≤ -e3 by omega)
  have HKK:=hid hk
  have hk2:k≤1074:=by omega
  have hbs:bl (2 ^ k)=k+1:=bl_two k
  have HR:=hid (frac_dn (k:=k) hXM.out (by rw [← HE'.out];exact hk))
  have hMk:0<2 ^ k:=pow2_pos k
  have HO:=hid (one_shift k)
  clear hk
  ((try simp only [Int.not_lt,Int.not_le] at*);revert H;refine W678e ?_ <;>unhygienic intros)
  (refine x_c H (shiftN_any (m:=1) k HKK.out (bv HB4).ar (by omega) (by omega)) ?_;clear H;rintro e w1 ⟨v5,rfl,hF,hB⟩ H;replace hF:=hF.kp;rw [HO.out] at hB;obtain ⟨b5,p5,m5,c5,rfl⟩:=hB.form;have HB5:=hid hB;clear hB)
  ((try simp only [Int.not_lt,Int.not_le] at*);revert H;refine W678e ?_ <;>unhygienic intros)
  (revert H;refine w_pF 4 (.st 0 (.ld2 1 (.ld2 2 (.ld 3 (.ld 4 .done)) 3 (.ld 2 (.ld 4 .done))) 2 (.ld 1 (.ld 3 (.ld 4 .done))))) ?_ (hs:=(List.nil_sublist _));intro w1 hf H;(first | replace hf:=hf.kp | clear hf))
  refine p_q ?_
  (refine pl_ld2 ?_ ?_)
  (refine p_ldq (H:=H) ?_)
  (refine pl_ld2 ?_ ?_)
  (refine p_ldq (H:=H) ?_)
  (revert H;refine p_sF ?_;intro w1 hf H hk;clear hf;change Kp _ _ at hk)
  (revert H;refine p_sF ?_;intro w1 hf H hk;clear hf;change Kp _ _ at hk)
  (refine pl_done ?_)
  rotate_left
  (revert H;refine p_sF ?_;intro w1 hf H hk;clear hf;change Kp _ _ at hk)
  (refine p_ldq (H:=H) ?_)
  (revert H;refine p_sF ?_;intro w1 hf H hk;clear hf;change Kp _ _ at hk)
  (refine pl_done ?_)
  rotate_left
  (refine p_ldq (H:=H) ?_)
  (refine p_ldq (H:=H) ?_)
  (revert H;refine p_sF ?_;intro w1 hf H hk;clear hf;change Kp _ _ at hk)
  (revert H;refine p_sF ?_;intro w1 hf H hk;clear hf;change Kp _ _ at hk)
  (refine pl_done ?_)
  rotate_left
  all_goals
   ((try simp only [Int.not_lt,Int.not_le] at*);revert H;refine W678e ?_ <;>unhygienic intros)
   refine c_postCC H rfl rfl rfl rfl rfl ?_
   exact ⟨_,_,rfl,H.fr,M,2 ^ k,bv HB3,bv HB5,hM0,hMk,by rw [HND.out.1,HND.out.2];exact HR.out,by omega,by omega⟩
theorem up_pos (N k:Nat):upN N (k:Int)=N*10 ^ k:=by unfold upN;rw [Int.toNat_natCast]
theorem dn_pos (D k:Nat):dnD D (k:Int)=D:=by unfold dnD;rw [show (-(k:Int)).toNat=0 by omega];simp
theorem up_neg {N k:Nat} {n:Int} (h: -n=(k:Int)):upN N n=N:=by unfold upN;rw [show n.toNat=0 by omega];simp
theorem dn_neg {D k:Nat} {n:Int} (h: -n=(k:Int)):dnD D n=D*10 ^ k:=by unfold dnD;rw [h,Int.toNat_natCast]
theorem powerY_any (w:World) {z:Int} (n:Nat) (hz:z=(n:Int)) (hn:n≤5000):
 Calls Tryz.prog 147 #[.int .i64 z] w fun e w'=>∃ v1,e= .returned v1∧Fr [] w w'∧Bv w' v1 ((10 ^ n:Nat):Int) (bl (10 ^ n)):=by
 subst hz
 exact power_any w n hn
set_option maxHeartbeats 16000000 in
theorem scaled_any {w:World} {u v:Value} {N D:Nat} (n:Int) (hu:Bv w u (N:Int) (bl N)) (hv:Bv w v (D:Int) (bl D)) (hN:bl N≤10000) (hD:bl D≤10000) (hn: -3000≤n∧n≤3000):
 Calls Tryz.prog 139 #[u,v, .int .i64 n] w fun r w'=>∃ v1 v2,r= .returned (.tuple #[v1,v2])∧Fr [] w w'∧Bv w' v1 ((upN N n:Nat):Int) (bl (upN N n))∧Bv w' v2 ((dnD D n:Nat):Int) (bl (dnD D n)):=by
 obtain ⟨b1,p1,m1,c1,rfl⟩:=hu.form
 obtain ⟨b2,p2,m2,c2,rfl⟩:=hv.form
 have HB1:=hid hu
 have HB2:=hid hv
 clear hu hv
 have H:=Hp.start [] w
 by_cases h0:0≤n
 ·obtain ⟨k,rfl⟩:=Int.eq_ofNat_of_zero_le h0
  have hbt:=bl_ten k
  rw [up_pos,dn_pos]
  obtain ⟨T,hT⟩:∃ T,10 ^ k=T:=⟨_,rfl⟩
  have HTT:=hid hT
  rw [hT] at hbt ⊢
  clear hT
  go_enter Tryz.func139,Tryz.ntmps139
  ((try simp only [Int.not_lt,Int.not_le] at*);revert H;refine W678e ?_ <;>unhygienic intros)
  (revert H;refine w_pF 6 (.st 0 (.st 1 (.st 4 (.ld 2 (.ld 3 (.ld 5 (.ld 6 .done))))))) ?_ (hs:=(.cons _ (.cons _ (List.Sublist.refl _))));intro w1 hf H;(first | replace hf:=hf.kp | clear hf))
  iterate 3 refine p_q ?_
  ((refine p_c H rfl rfl Tryz.func147 (power_any _ k (by omega)) ?_;clear H;rintro e w1 ⟨v3,rfl,hF,hB⟩ H;refine p_r ?_;replace hF:=hF.kp);rw [HTT.out] at hB;obtain ⟨b3,p3,m3,c3,rfl⟩:=hB.form;have HB3:=hid hB;clear hB)
  ((refine p_c H rfl rfl Tryz.func146 (mul_ar (bv HB1).ar (bv HB3).ar (by omega) (by omega)) ?_;clear H;rintro e w1 ⟨v4,rfl,hF,hB⟩ H;refine p_r ?_;replace hF:=hF.kp);replace hB:=hB.c;rw [← Int.natCast_mul,Int.natAbs_natCast] at hB;obtain ⟨b4,p4,m4,c4,rfl⟩:=hB.form;have HB4:=hid hB;clear hB)
  (revert H;refine p_sF ?_;intro w1 hf H hk;clear hf;change Kp _ _ at hk)
  (revert H;refine p_sF ?_;intro w1 hf H hk;clear hf;change Kp _ _ at hk)
  (refine pl_done ?_)
  all_goals
   ((try simp only [Int.not_lt,Int.not_le] at*);revert H;refine W678e ?_ <;>unhygienic intros)
   refine c_postCC H rfl rfl rfl rfl rfl ?_
   exact ⟨_,_,rfl,H.fr,bv HB4,bv HB2⟩
 ·obtain ⟨k,hk⟩:=Int.eq_ofNat_of_zero_le (show 0≤ -n by omega)
  have hbt:=bl_ten k
  rw [up_neg hk,dn_neg hk]
  obtain ⟨T,hT⟩:∃ T,10 ^ k=T:=⟨_,rfl⟩
  have HTT:=hid hT
  rw [hT] at hbt ⊢
  have HKK:=hid hk
  have hk5:k≤3000:=by omega
  clear hT hk
  go_enter Tryz.func139,Tryz.ntmps139
  ((try simp only [Int.not_lt,Int.not_le] at*);revert H;refine W678e ?_ <;>unhygienic intros)
  (revert H;refine w_pF 7 (.st 0 (.st 1 (.st 2 (.st 3 (.ld 4 (.ld 5 (.ld 6 (.ld 7 .done)))))))) ?_ (hs:=(.cons _ (.cons _ (List.Sublist.refl _))));intro w1 hf H;(first | replace hf:=hf.kp | clear hf))
  iterate 3 refine p_q ?_
  (refine p_e rfl (fun w H=>ev_negZ rfl rfl) ?_)
  ((refine p_c H rfl rfl Tryz.func147 (powerY_any _ k HKK.out (by omega)) ?_;clear H;rintro e w1 ⟨v3,rfl,hF,hB⟩ H;refine p_r ?_;replace hF:=hF.kp);rw [HTT.out] at hB;obtain ⟨b3,p3,m3,c3,rfl⟩:=hB.form;have HB3:=hid hB;clear hB)
  ((refine p_c H rfl rfl Tryz.func146 (mul_ar (bv HB2).ar (bv HB3).ar (by omega) (by omega)) ?_;clear H;rintro e w1 ⟨v4,rfl,hF,hB⟩ H;refine p_r ?_;replace hF:=hF.kp);replace hB:=hB.c;rw [← Int.natCast_mul,Int.natAbs_natCast] at hB;obtain ⟨b4,p4,m4,c4,rfl⟩:=hB.form;have HB4:=hid hB;clear hB)
  (revert H;refine p_sF ?_;intro w1 hf H hk;clear hf;change Kp _ _ at hk)
  (revert H;refine p_sF ?_;intro w1 hf H hk;clear hf;change Kp _ _ at hk)
  (refine pl_done ?_)
  all_goals
   ((try simp only [Int.not_lt,Int.not_le] at*);revert H;refine W678e ?_ <;>unhygienic intros)
   refine c_postCC H rfl rfl rfl rfl rfl ?_
   exact ⟨_,_,rfl,H.fr,bv HB1,bv HB4⟩
end Go.Proofs.YtoiebebjgnpkmaaGreatDoor
namespace Go.Proofs.YtoiebebjgnpkmaaGreatDoor
open Go.RowKit
set_option linter.unusedSimpArgs false
set_option linter.unusedVariables false
set_option maxHeartbeats 8000000
set_option maxRecDepth 100000
theorem rm_lt {X Y:Nat} (h:2*(X % Y)<Y):rm false 0 X Y=X / Y:=by
 unfold rm
 split
 ·rfl
 ·rw [show cmpN (2*(X % Y)) Y= -1 by unfold cmpN;rw [if_pos h],rup_near,if_neg (by simp)]
theorem rm_gt {X Y:Nat} (h:Y<2*(X % Y)):rm false 0 X Y=X / Y+1:=by
 unfold rm
 rw [if_neg (by omega),show cmpN (2*(X % Y)) Y=1 by unfold cmpN;rw [if_neg (by omega),if_neg (by omega)],rup_near,if_pos (by simp)]
theorem rm_eq {X Y:Nat} (hY:0<Y) (h:2*(X % Y)=Y):rm false 0 X Y=if X / Y % 2=1 then X / Y+1 else X / Y:=by
 unfold rm
 rw [if_neg (by omega),show cmpN (2*(X % Y)) Y=0 by unfold cmpN;rw [if_neg (by omega),if_pos h],rup_near]
 simp
theorem tzP {n:Nat} (h0:n≠0) (h:n % 2≠1):∃ j,tz n=j+1:=by
 have e:n=2*(n / 2):=by omega
 exact ⟨tz (n / 2),by rw [e,tz_even (by omega)];congr 2;omega⟩
set_option maxHeartbeats 16000000 in
theorem nearest_any {w:World} {u v:Value} {X Y:Nat} (hu:Bv w u (X:Int) (bl X)) (hv:Bv w v (Y:Int) (bl Y)) (hX:bl X≤60000) (hY:bl Y≤60000) (hY0:0<Y) (hT:La w):
 Calls Tryz.prog 138 #[u,v] w fun r w'=>∃ v1,r= .returned v1∧Fr [] w w'∧Bv w' v1 ((rm false 0 X Y:Nat):Int) (bl (rm false 0 X Y)):=by
 obtain ⟨b1,p1,m1,c1,rfl⟩:=hu.form
 obtain ⟨b2,p2,m2,c2,rfl⟩:=hv.form
 have HB1:=hid hu
 have HB2:=hid hv
 have HT:=hid hT
 have hyz:(Y:Int)≠0:=by omega
 have HYZ:=hid hyz
 have hq:=bl_mono (Nat.div_le_self X Y)
 have hrY:X % Y<Y:=Nat.mod_lt _ hY0
 have hr:=bl_mono (Nat.le_of_lt hrY)
 have HC:=hid (show (2*(X % Y)<Y∧rm false 0 X Y=X / Y∧cmpZ (((X % Y)+(X % Y):Nat):Int) (Y:Int)= -1)∨(Y<2*(X % Y)∧rm false 0 X Y=X / Y+1∧cmpZ (((X % Y)+(X % Y):Nat):Int) (Y:Int)=1)∨(2*(X % Y)=Y∧(rm false 0 X Y=if X / Y % 2=1 then X / Y+1 else X / Y)∧cmpZ (((X % Y)+(X % Y):Nat):Int) (Y:Int)=0) by
  rcases Nat.lt_trichotomy (2*(X % Y)) Y with h | h | h
  ·exact .inl ⟨h,rm_lt h,cmpZ_lt (by omega)⟩
  ·exact .inr (.inr ⟨h,rm_eq hY0 h,by rw [show (((X % Y)+(X % Y):Nat):Int)=(Y:Int) by omega];exact cmpZ_eq _⟩)
  ·exact .inr (.inl ⟨h,rm_gt h,cmpZ_gt (by omega)⟩))
 have HQ:Hid ((X:Int) / (Y:Int)=((X / Y:Nat):Int)):=hid (Int.natCast_ediv X Y).symm
 have HR:Hid ((X:Int) % (Y:Int)=((X % Y:Nat):Int)):=hid (Int.natCast_emod X Y).symm
 obtain ⟨R,hR⟩:∃ R,rm false 0 X Y=R:=⟨_,rfl⟩
 obtain ⟨q,hqq⟩:∃ R,X / Y=R:=⟨_,rfl⟩
 obtain ⟨r,hrr⟩:∃ R,X % Y=R:=⟨_,rfl⟩
 rw [hR,hqq,hrr] at HC
 rw [hqq] at HQ hq
 rw [hrr] at HR hr hrY
 rw [hR]
 have hrr2:bl (r+r)≤bl r+1:=bl_le (by have:=bl_lt r;rw [Nat.pow_succ];omega)
 clear hu hv hT hyz hR hqq hrr
 have H:=Hp.start [] w
 go_enter Tryz.func138,Tryz.ntmps138
 ((try simp only [Int.not_lt,Int.not_le] at*);revert H;refine W678e ?_ <;>unhygienic intros)
 (refine x_c H (divMod_ar (HB1.out.fr H.fr).ar (HB2.out.fr H.fr).ar (by omega) (by omega) HYZ.out) ?_;clear H;rintro e w1 ⟨v3,v4,rfl,hF,hB,hB2⟩ H;replace hF:=hF.kp;replace hB:=hB.c;replace hB2:=hB2.c;rw [HQ.out,Int.natAbs_natCast] at hB;rw [HR.out,Int.natAbs_natCast] at hB2;obtain ⟨b3,p3,m3,c3,rfl⟩:=hB.form;have HB3:=hid hB;clear hB;obtain ⟨b4,p4,m4,c4,rfl⟩:=hB2.form;have HB4:=hid hB2;clear hB2)
 ((try simp only [Int.not_lt,Int.not_le] at*);revert H;refine W678e ?_ <;>unhygienic intros)
 (revert H;refine w_pF 6 (.st 0 (.st 1 (.st 3 (.ld 2 (.ld 4 (.st 5 .done)))))) ?_;intro w1 hf H;(first | replace hf:=hf.kp | clear hf))
 iterate 3 refine p_q ?_
 ((refine p_c H rfl rfl Tryz.func188 (add_ar (bv HB4).ar (bv HB4).ar (by omega) (by omega)) ?_;clear H;rintro e w1 ⟨v5,rfl,hF,hB⟩ H;refine p_r ?_;replace hF:=hF.kp);replace hB:=hB.c;rw [← Int.natCast_add,Int.natAbs_natCast] at hB;obtain ⟨b5,p5,m5,c5,rfl⟩:=hB.form;have HB5:=hid hB;clear hB)
 ((refine p_c H rfl rfl Tryz.func183 (cmp_ar (bv HB5).ar (HB2.out.fr H.fr).ar (by omega) (by omega)) ?_;clear H;rintro e w1 ⟨rfl,hF⟩ H;refine p_r ?_;replace hF:=hF.kp);skip)
 refine p_q ?_
 (refine pl_done ?_)
 all_goals
  rcases HC.out with ⟨_,h2,h3⟩ | ⟨_,h2,h3⟩ | ⟨_,h2,h3⟩
  ·rw [h3]
   have HX3:=hid h2
   clear h2 h3 HC
   ((try simp only [Int.not_lt,Int.not_le] at*);revert H;refine W678e ?_ <;>unhygienic intros)
   refine c_post H rfl rfl rfl ?_
   exact ⟨_,rfl,H.fr,by rw [HX3.out];exact bv HB3⟩
  ·rw [h3]
   have HX3:=hid h2
   clear h2 h3 HC
   ((try simp only [Int.not_lt,Int.not_le] at*);revert H;refine W678e ?_ <;>unhygienic intros)
   (revert H;refine w_pF 3 (.st 0 (.ld 1 (.ld 2 (.ld 3 .done)))) ?_;intro w1 hf H;(first | replace hf:=hf.kp | clear hf))
   refine p_q ?_
   ((refine p_c H rfl rfl Tryz.func180 (fromInt_ar _ 1 (by simp only [inr];omega)) ?_;clear H;rintro e w1 ⟨v6,rfl,hF,hB⟩ H;refine p_r ?_;replace hF:=hF.kp);obtain ⟨b6,p6,m6,c6,rfl⟩:=hB.form;have HB6:=hid hB;clear hB)
   ((refine p_c H rfl rfl Tryz.func188 (add_ar (bv HB3).ar (bv HB6).ar (by omega) (by omega)) ?_;clear H;rintro e w1 ⟨v7,rfl,hF,hB⟩ H;refine p_r ?_;replace hF:=hF.kp);replace hB:=hB.c;rw [show (q:Int)+1=((q+1:Nat):Int) from rfl,Int.natAbs_natCast] at hB;obtain ⟨b7,p7,m7,c7,rfl⟩:=hB.form;have HB7:=hid hB;clear hB)
   (revert H;refine p_sF ?_;intro w1 hf H hk;clear hf;change Kp _ _ at hk)
   (refine pl_done ?_)
   all_goals
    ((try simp only [Int.not_lt,Int.not_le] at*);revert H;refine W678e ?_ <;>unhygienic intros)
    refine c_post H rfl rfl rfl ?_
    exact ⟨_,rfl,H.fr,by rw [HX3.out];exact bv HB7⟩
  ·rw [h3]
   by_cases n1:q % 2=1
   ·have HX3:=hid (h2.trans (if_pos n1))
    have HZ:=hid (tz_odd n1)
    have HN0:=hid (show (q:Int)≠0 by omega)
    clear n1 h2 h3 HC
    ((try simp only [Int.not_lt,Int.not_le] at*);revert H;refine W678e ?_ <;>unhygienic intros)
    (refine x_c H (sign_nz (bv HB3).ar (by omega) HN0.out) ?_;clear H;rintro e w1 ⟨s4,rfl,hs4,hF⟩ H;replace hF:=hF.kp;skip)
    ((try simp only [Int.not_lt,Int.not_le] at*);revert H;refine W678e ?_ <;>unhygienic intros)
    (refine x_c H (trailing_ar (bv HB3).ar (by omega) (HT.out.fr H.fr).1) ?_;clear H;rintro e w1 ⟨rfl,hF⟩ H;replace hF:=hF.kp;rw [Int.natAbs_natCast,HZ.out])
    ((try simp only [Int.not_lt,Int.not_le] at*);revert H;refine W678e ?_ <;>unhygienic intros)
    (revert H;refine w_pF 3 (.st 0 (.ld 1 (.ld 2 (.ld 3 .done)))) ?_;intro w1 hf H;(first | replace hf:=hf.kp | clear hf))
    refine p_q ?_
    ((refine p_c H rfl rfl Tryz.func180 (fromInt_ar _ 1 (by simp only [inr];omega)) ?_;clear H;rintro e w1 ⟨v6,rfl,hF,hB⟩ H;refine p_r ?_;replace hF:=hF.kp);obtain ⟨b6,p6,m6,c6,rfl⟩:=hB.form;have HB6:=hid hB;clear hB)
    ((refine p_c H rfl rfl Tryz.func188 (add_ar (bv HB3).ar (bv HB6).ar (by omega) (by omega)) ?_;clear H;rintro e w1 ⟨v7,rfl,hF,hB⟩ H;refine p_r ?_;replace hF:=hF.kp);replace hB:=hB.c;rw [show (q:Int)+1=((q+1:Nat):Int) from rfl,Int.natAbs_natCast] at hB;obtain ⟨b7,p7,m7,c7,rfl⟩:=hB.form;have HB7:=hid hB;clear hB)
    (revert H;refine p_sF ?_;intro w1 hf H hk;clear hf;change Kp _ _ at hk)
    (refine pl_done ?_)
    all_goals
     ((try simp only [Int.not_lt,Int.not_le] at*);revert H;refine W678e ?_ <;>unhygienic intros)
     refine c_post H rfl rfl rfl ?_
     exact ⟨_,rfl,H.fr,by rw [HX3.out];exact bv HB7⟩
   ·have HX3:=hid (h2.trans (if_neg n1))
    by_cases n0:q=0
    ·have HN0:=hid (show (q:Int)=0 by omega)
     clear n1 n0 h2 h3 HC
     ((try simp only [Int.not_lt,Int.not_le] at*);revert H;refine W678e ?_ <;>unhygienic intros)
     (refine x_c H (sign_is0 (bv HB3).ar (by omega) HN0.out) ?_;clear H;rintro e w1 ⟨rfl,hF⟩ H;replace hF:=hF.kp;skip)
     ((try simp only [Int.not_lt,Int.not_le] at*);revert H;refine W678e ?_ <;>unhygienic intros)
     refine c_post H rfl rfl rfl ?_
     exact ⟨_,rfl,H.fr,by rw [HX3.out];exact bv HB3⟩
    ·have HN0:=hid (show (q:Int)≠0 by omega)
     obtain ⟨j,hj⟩:=tzP n0 n1
     have HZ:=hid hj
     clear n1 n0 hj h2 h3 HC
     ((try simp only [Int.not_lt,Int.not_le] at*);revert H;refine W678e ?_ <;>unhygienic intros)
     (refine x_c H (sign_nz (bv HB3).ar (by omega) HN0.out) ?_;clear H;rintro e w1 ⟨s4,rfl,hs4,hF⟩ H;replace hF:=hF.kp;skip)
     ((try simp only [Int.not_lt,Int.not_le] at*);revert H;refine W678e ?_ <;>unhygienic intros)
     (refine x_c H (trailing_ar (bv HB3).ar (by omega) (HT.out.fr H.fr).1) ?_;clear H;rintro e w1 ⟨rfl,hF⟩ H;replace hF:=hF.kp;rw [Int.natAbs_natCast,HZ.out])
     ((try simp only [Int.not_lt,Int.not_le] at*);revert H;refine W678e ?_ <;>unhygienic intros)
     refine c_post H rfl rfl rfl ?_
     exact ⟨_,rfl,H.fr,by rw [HX3.out];exact bv HB3⟩
end Go.Proofs.YtoiebebjgnpkmaaGreatDoor
