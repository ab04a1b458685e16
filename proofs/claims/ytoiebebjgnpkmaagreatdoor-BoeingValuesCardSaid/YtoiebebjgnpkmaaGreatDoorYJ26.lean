import Derived.Test.YtoiebebjgnpkmaaGreatDoorYJ30
import Derived.Test.YtoiebebjgnpkmaaGreatDoorYJ12
namespace Go.Proofs.YtoiebebjgnpkmaaGreatDoor
open Go.RowKit
set_option linter.unusedSimpArgs false
set_option linter.unusedVariables false
def La (w:World):Prop:=TabAt 6 Lib.deBruijn32tab w∧Lib.TabIs Tryz.prog w "internal/strconv.uint64pow10" .u64 Lib.pow10Tab
theorem La.fr {w w':World} (h:La w) (k:Fr [] w w'):La w':=⟨TabAt.fr h.1 k,TabIs.fr h.2 k⟩
def Nm (x e m e':Int):Prop:=(x=0∧m=0∧e'=0)∨(x≠0∧∃ t:Nat,x=m*2 ^ t∧e'=e+t)
theorem Nm.refl {x e:Int} (h:x≠0):Nm x e x e:= .inr ⟨h,0,by simp,by simp⟩
theorem Nm.ne {x e m e':Int} (h:Nm x e m e') (hx:x≠0):m≠0:=by
 rcases h with ⟨h,_⟩ | ⟨_,t,h,_⟩
 ·exact absurd h hx
 ·rintro rfl;simp at h;exact hx h
theorem Nm.trans {x e m e' k e'':Int} (h:Nm x e m e') (g:Nm m e' k e''):Nm x e k e'':=by
 rcases h with ⟨h1,h2,h3⟩ | ⟨h1,t,h2,h3⟩
 ·rcases g with ⟨g1,g2,g3⟩ | ⟨g1,_⟩
  ·exact .inl ⟨h1,g2,g3⟩
  ·exact absurd h2 g1
 ·rcases g with ⟨g1,g2,g3⟩ | ⟨g1,s,g2,g3⟩
  ·exact absurd g1 ((Nm.inr' h1 h2 h3).ne h1)
  ·refine .inr ⟨h1,s+t, ?_,by omega⟩
   rw [h2,g2,Int.mul_assoc,← Int.pow_add]
 where Nm.inr' {x e m e':Int} {t:Nat} (h1:x≠0) (h2:x=m*2 ^ t) (h3:e'=e+t):Nm x e m e':= .inr ⟨h1,t,h2,h3⟩
theorem two_pos (t:Nat):(0:Int)<2 ^ t:=Int.pow_pos (by decide)
theorem Nm.sign {x e m e':Int} (h:Nm x e m e'):Int.sign m=Int.sign x:=by
 rcases h with ⟨h1,h2,h3⟩ | ⟨h1,t,h2,h3⟩
 ·rw [h1,h2]
 ·rw [h2,Int.sign_mul,Int.sign_eq_one_of_pos (two_pos t),Int.mul_one]
theorem Nm.neg {x e m e':Int} (h:Nm x e m e'):decide (m<0)=decide (x<0):=by
 have hs:=h.sign
 have h1:= @Int.sign_neg_iff
 by_cases hm:m<0
 ·have:x<0:=Int.sign_neg_iff.1 (hs ▸ Int.sign_neg_iff.2 hm)
  simp [hm,this]
 ·have:¬ x<0:=fun hx=>hm (Int.sign_neg_iff.1 (hs ▸ Int.sign_neg_iff.2 hx))
  simp [hm,this]
theorem Nm.abs {x e m e':Int} (h:Nm x e m e') (hx:x≠0):∃ t:Nat,x.natAbs=m.natAbs*2 ^ t∧e'=e+t∧bl x.natAbs=bl m.natAbs+t:=by
 have hm:=h.ne hx
 rcases h with ⟨h1,h2,h3⟩ | ⟨h1,t,h2,h3⟩
 ·exact absurd h1 hx
 ·have e0:x.natAbs=m.natAbs*2 ^ t:=by rw [h2,abs_shift]
  exact ⟨t,e0,h3,by rw [e0,bl_mul_pow (by omega)]⟩
theorem tz_split:∀ n:Nat,n≠0→∃ q,n=q*2 ^ tz n:=by
 intro n
 induction n using Nat.strongRecOn with
 | _ n ih=>
  intro h0
  by_cases h1:n % 2=1
  ·exact ⟨n,by rw [tz_odd h1];simp⟩
  ·obtain ⟨q,hq⟩:=ih (n / 2) (by omega) (by omega)
   refine ⟨q, ?_⟩
   have e:n=2*(n / 2):=by omega
   have e2:tz n=tz (n / 2)+1:=by rw [e,tz_even (by omega)];congr 2;omega
   rw [e2,Nat.pow_succ,← Nat.mul_assoc,← hq]
   omega
theorem Nm.norm {x e:Int} (hx:x≠0):Nm x e (x / 2 ^ tz x.natAbs) (e+tz x.natAbs):=by
 refine .inr ⟨hx,tz x.natAbs, ?_,rfl⟩
 obtain ⟨q,hq⟩:=tz_split x.natAbs (by omega)
 generalize tz x.natAbs=t at hq ⊢
 have hd:((2:Int) ^ t)∣x:=by
  have e1:((2:Int) ^ t)=((2 ^ t:Nat):Int):=by rw [Int.natCast_pow];rfl
  rw [e1,Int.ofNat_dvd_left]
  exact ⟨q,by rw [hq,Nat.mul_comm]⟩
 exact (Int.ediv_mul_cancel hd).symm
theorem dl_bl (z:Int):dl z≤bl z.natAbs:=by
 apply dl_le
 have h:=bl_lt z.natAbs
 exact Nat.lt_of_lt_of_le h (Nat.pow_le_pow_left (by decide) _)
theorem Bv.c {w:World} {v:Value} {z:Int} {n:Nat} (h:Bv w v z n):Bv w v z (bl z.natAbs):=⟨h.1,dl_bl z⟩
theorem bl_mono {m n:Nat} (h:m≤n):bl m≤bl n:=bl_le (Nat.lt_of_le_of_lt h (bl_lt n))
theorem bl_prod (m n:Nat):bl (m*n)≤bl m+bl n:=bl_le (by
 rw [Nat.pow_add]
 exact Nat.mul_lt_mul'' (bl_lt m) (bl_lt n))
theorem bl_pos {n:Nat} (h:n≠0):1≤bl n:=(bl_ge h).2
theorem bl_two (n:Nat):bl (2 ^ n)=n+1:=bl_of (Nat.le_refl _) (Nat.pow_lt_pow_right (by decide) (by omega))
def Dn (w:World) (v:Value) (x e:Int):Prop:=∃ m e' b p n c,v= .agg #[.bool false, .bool b, .slice p n c, .int .i64 e']∧Nm x e m e'∧Bv w (.agg #[.bool b, .slice p n c]) m (bl m.natAbs)
theorem dn {w w':World} {v:Value} {x e:Int} (h:Hid (Dn w v x e)) (k:Kp w w':=by repeat first | assumption | exact Kp.refl _ | refine Kp.trans ?_ (by assumption)):Dn w' v x e:=by
 obtain ⟨m,e',b,p,n,c,rfl,h1,h⟩:=h.out
 exact ⟨m,e',b,p,n,c,rfl,h1,bv (hid h) k⟩
theorem Nm.le {x e m e':Int} (h:Nm x e m e'):bl m.natAbs≤bl x.natAbs∧(e'=0∨(e≤e'∧e'+bl m.natAbs=e+bl x.natAbs)):=by
 by_cases hx:x=0
 ·rcases h with ⟨h1,h2,h3⟩ | ⟨h1,_⟩
  ·rw [h1,h2,h3];exact ⟨Nat.le_refl _, .inl rfl⟩
  ·exact absurd hx h1
 ·obtain ⟨t,h1,h2,h3⟩:=h.abs hx
  omega
def Rl (w:World) (v:Value) (neg:Bool) (N D:Nat) (E:Int):Prop:=∃ (b:Bool) (p:Option Addr) (k c n m:Nat) (ex:Int) (more:Bool),v= .agg #[.bool neg, .bool b, .slice p k c, .int .i64 ex, .bool more]∧Bv w (.agg #[.bool b, .slice p k c]) (m:Int) (bl m)∧0<N∧0<D∧N*2 ^ n / D=m∧m≠0∧ex=E - n∧more=decide (N*2 ^ n % D≠0)∧(N*2 ^ n % D=0∨54≤bl m)∧bl m≤100000∧ -1000000≤ex∧ex≤1000000
theorem and_nat (a b:Nat) (ha:a<18446744073709551616) (hb:b<18446744073709551616):bits .and .u64 (a:Int) (b:Int)=((a&&& b:Nat):Int):=by
 have hx:a&&& b<2 ^ 64:=Nat.and_lt_two_pow _ (by omega)
 have h1:(BitVec.ofInt 64 (a:Int)).toNat=a:=by
  rw [BitVec.ofInt_natCast,BitVec.toNat_ofNat];exact Nat.mod_eq_of_lt (by omega)
 have h2:(BitVec.ofInt 64 (b:Int)).toNat=b:=by
  rw [BitVec.ofInt_natCast,BitVec.toNat_ofNat];exact Nat.mod_eq_of_lt (by omega)
 show IntKind.u64.wrap ((BitVec.ofInt 64 (a:Int)&&& BitVec.ofInt 64 (b:Int)).toNat:Int)=_
 rw [BitVec.toNat_and,h1,h2]
 exact wrap_inr (by simp only [inr];omega)
theorem or_nat (a b:Nat) (ha:a<18446744073709551616) (hb:b<18446744073709551616):bits .or .u64 (a:Int) (b:Int)=((a||| b:Nat):Int):=by
 have hx:a||| b<2 ^ 64:=Nat.or_lt_two_pow (by omega) (by omega)
 have h1:(BitVec.ofInt 64 (a:Int)).toNat=a:=by
  rw [BitVec.ofInt_natCast,BitVec.toNat_ofNat];exact Nat.mod_eq_of_lt (by omega)
 have h2:(BitVec.ofInt 64 (b:Int)).toNat=b:=by
  rw [BitVec.ofInt_natCast,BitVec.toNat_ofNat];exact Nat.mod_eq_of_lt (by omega)
 show IntKind.u64.wrap ((BitVec.ofInt 64 (a:Int)||| BitVec.ofInt 64 (b:Int)).toNat:Int)=_
 rw [BitVec.toNat_or,h1,h2]
 exact wrap_inr (by simp only [inr];omega)
theorem and_top {b:Nat} (h:b<18446744073709551616):b&&& 9223372036854775808=if 9223372036854775808≤b then 9223372036854775808 else 0:=by
 have e:(9223372036854775808:Nat)=2 ^ 63:=by decide
 have h1:b.testBit 63=decide (9223372036854775808≤b):=by
  rw [Nat.testBit_eq_decide_div_mod_eq,← e]
  by_cases hb:9223372036854775808≤b
  ·rw [decide_eq_true hb,show b / 9223372036854775808 % 2=1 by omega];rfl
  ·rw [decide_eq_false hb,show b / 9223372036854775808 % 2=0 by omega];rfl
 apply Nat.eq_of_testBit_eq
 intro i
 rw [Nat.testBit_and]
 by_cases hi:63=i
 ·subst hi
  rw [h1]
  by_cases hb:9223372036854775808≤b
  ·rw [decide_eq_true hb,if_pos hb];simp
  ·rw [decide_eq_false hb,if_neg hb];simp
 ·have h2:Nat.testBit 9223372036854775808 i=false:=by rw [e,Nat.testBit_two_pow];simp [hi]
  rw [h2]
  split
  ·rw [h2];simp
  ·simp
theorem or_top {b:Nat} (h:b<9223372036854775808):b||| 9223372036854775808=b+9223372036854775808:=by
 have h1:=Nat.two_pow_add_eq_or_of_lt (i:=63) (b:=b) (by simpa using h) 1
 have e:(2:Nat) ^ 63=9223372036854775808:=by decide
 rw [e] at h1
 rw [Nat.or_comm,Nat.add_comm]
 simpa using h1.symm
section
variable {P:Program} {w:World} {a:Act} {o:Oper} {t t':TypeId} {x y:Operand}
theorem ev_bits {op:BinOp} (ho:o.op= .binOp op t x y t') (hop:op= .and∨op= .or) {m n z:Nat} (hx:a.eval x= .int .u64 (m:Int)) (hy:a.eval y= .int .u64 (n:Int)) (hz:bits op .u64 (m:Int) (n:Int)=(z:Int)):(execOp a.eval o).run P w= .ok (.value (.int .u64 (z:Int))) w:=by
 rcases hop with rfl | rfl
 ·exact ev_bin ho hx hy (fun w=>by
   show (pure (Value.int .u64 (bits .and .u64 (m:Int) (n:Int))):Sem Value).run P w=_
   rw [hz];rfl)
 ·exact ev_bin ho hx hy (fun w=>by
   show (pure (Value.int .u64 (bits .or .u64 (m:Int) (n:Int))):Sem Value).run P w=_
   rw [hz];rfl)
theorem ev_m11 (ho:o.op= .binOp .and t x (.const (.int .u64 2047)) t') {m:Nat} (hx:a.eval x= .int .u64 (m:Int)) (hm:m<18446744073709551616:=by omega):(execOp a.eval o).run P w= .ok (.value (.int .u64 ((m % 2048:Nat):Int))) w:=
 ev_bits ho (.inl rfl) hx (n:=2047) rfl (by rw [and_nat _ _ hm (by decide)];exact congrArg _ (Nat.and_two_pow_sub_one_eq_mod m 11))
theorem ev_m52 (ho:o.op= .binOp .and t x (.const (.int .u64 4503599627370495)) t') {m:Nat} (hx:a.eval x= .int .u64 (m:Int)) (hm:m<18446744073709551616:=by omega):(execOp a.eval o).run P w= .ok (.value (.int .u64 ((m % 4503599627370496:Nat):Int))) w:=
 ev_bits ho (.inl rfl) hx (n:=4503599627370495) rfl (by rw [and_nat _ _ hm (by decide)];exact congrArg _ (Nat.and_two_pow_sub_one_eq_mod m 52))
theorem ev_m63 (ho:o.op= .binOp .and t x (.const (.int .u64 9223372036854775808)) t') {m:Nat} (hx:a.eval x= .int .u64 (m:Int)) (hm:m<18446744073709551616:=by omega):(execOp a.eval o).run P w= .ok (.value (.int .u64 ((if 9223372036854775808≤m then 9223372036854775808 else 0:Nat):Int))) w:=
 ev_bits ho (.inl rfl) hx (n:=9223372036854775808) rfl (by rw [and_nat _ _ hm (by decide),and_top hm])
theorem ev_o63 (ho:o.op= .binOp .or t x (.const (.int .u64 9223372036854775808)) t') {m:Nat} (hx:a.eval x= .int .u64 (m:Int)) (hm:m<9223372036854775808:=by omega):(execOp a.eval o).run P w= .ok (.value (.int .u64 ((m+9223372036854775808:Nat):Int))) w:=
 ev_bits ho (.inr rfl) hx (n:=9223372036854775808) rfl (by rw [or_nat _ _ (by omega) (by decide),or_top hm])
theorem ev_s52 {kk:IntKind} (ho:o.op= .binOp .shr t x (.const (.int kk 52)) t') {m:Nat} (hx:a.eval x= .int .u64 (m:Int)):(execOp a.eval o).run P w= .ok (.value (.int .u64 ((m / 4503599627370496:Nat):Int))) w:=by
 have e1:(eqGuard .shr t x (.const (.int kk 52)) (.int .u64 (m:Int)) (.int kk 52)).run P w= .ok () w:=by unfold eqGuard;simp
 have hn:a.eval (.const (.int kk 52))= .int kk 52:=rfl
 unfold execOp
 simp only [ho,hx,hn,Sem.run_bind,e1,Result.andThen_ok,binOp]
 rw [shift_shr_any _ _ _ _ (by decide)]
 have e2:(m:Int) / 2 ^ min (52:Int).toNat IntKind.u64.bits=((m / 4503599627370496:Nat):Int):=by
  have:(2:Int) ^ min (52:Int).toNat IntKind.u64.bits=4503599627370496:=by decide
  rw [this];omega
 rw [e2]
 rfl
theorem ev_l52 {kk:IntKind} (ho:o.op= .binOp .shl t x (.const (.int kk 52)) t') {m:Nat} (hx:a.eval x= .int .u64 (m:Int)) (hm:m<2048:=by omega):(execOp a.eval o).run P w= .ok (.value (.int .u64 ((m*4503599627370496:Nat):Int))) w:=by
 have e1:(eqGuard .shl t x (.const (.int kk 52)) (.int .u64 (m:Int)) (.int kk 52)).run P w= .ok () w:=by unfold eqGuard;simp
 have hn:a.eval (.const (.int kk 52))= .int kk 52:=rfl
 unfold execOp
 simp only [ho,hx,hn,Sem.run_bind,e1,Result.andThen_ok,binOp]
 rw [shift_shl_any _ _ _ _ (by decide)]
 have e2:IntKind.u64.wrap ((m:Int)*2 ^ min (52:Int).toNat IntKind.u64.bits)=((m*4503599627370496:Nat):Int):=by
  have:(2:Int) ^ min (52:Int).toNat IntKind.u64.bits=4503599627370496:=by decide
  rw [this,wrap_inr (by simp only [inr];omega)];omega
 rw [e2]
 rfl
theorem ev_o52 (ho:o.op= .binOp .or t x y t') {m n:Nat} (hx:a.eval x= .int .u64 ((m*4503599627370496:Nat):Int)) (hy:a.eval y= .int .u64 (n:Int)) (hm:m<2048:=by omega) (hn:n<4503599627370496:=by omega):(execOp a.eval o).run P w= .ok (.value (.int .u64 ((m*4503599627370496+n:Nat):Int))) w:=
 ev_bits ho (.inr rfl) hx hy (by
  rw [or_nat _ _ (by omega) (by omega)]
  have h1:=Nat.two_pow_add_eq_or_of_lt (i:=52) (b:=n) (by simpa using hn) m
  have e:(2:Nat) ^ 52=4503599627370496:=by decide
  rw [e,Nat.mul_comm] at h1
  rw [← h1])
end
theorem ev_dyad {w:World} {a:Act} {o:Oper} {x y:Operand} (ho:o.op= .build 188 #[(1,x),(2,y)]) {b:Bool} {p:Option Addr} {n c:Nat} {k:IntKind} {e:Int} (hx:a.eval x= .agg #[.bool b, .slice p n c]) (hy:a.eval y= .int k e):(execOp a.eval o).run Tryz.prog w= .ok (.value (.agg #[.bool false, .bool b, .slice p n c, .int k e])) w:=by
 have hb:Tryz.prog.built 188 [(1, .agg #[.bool b, .slice p n c]),(2, .int k e)]=some #[.bool false, .bool b, .slice p n c, .int k e]:=by kernel_rfl
 have e1:(#[(1,x),(2,y)].map fun (i,x)=>(i,a.eval x)).toList=[(1, .agg #[.bool b, .slice p n c]),(2, .int k e)]:=by simp [hx,hy]
 unfold execOp
 simp only [ho,Sem.run_bind]
 rw [run_build w 188 _ _ (by rw [e1];exact hb)]
 rfl
theorem rnd_of (neg:Bool) (mode:Int) {N D n m:Nat} {e ex u:Int} (hN:0<N) (hD:0<D) (hm:N*2 ^ n / D=m) (h0:m≠0) (hex:ex=e - n) (hu:max (ex+bl m - 1 - 52) (-1074)=u) (hmore:N*2 ^ n % D=0∨54≤bl m):
 ∃ k,(if ex<u then mcut neg mode m (u - ex).toNat (decide (N*2 ^ n % D≠0)) else m*2 ^ (ex - u).toNat)=k∧k≤9007199254740992∧rndF neg mode N D e=packF neg mode k u∧(k<4503599627370496→u= -1074):=by
 have hl:=lg_eq hN hD (n:=n) (by rw [hm];exact h0)
 rw [hm] at hl
 have hu2:max (lg N D+e - 52) (-1074)=u:=by omega
 obtain ⟨a1,a2⟩:=rnd_unit hN hD hu2
 have hb:=rm_bounds neg mode (N*2 ^ (e - u).toNat) (D*2 ^ (u - e).toNat)
 have hk:(if ex<u then mcut neg mode m (u - ex).toNat (decide (N*2 ^ n % D≠0)) else m*2 ^ (ex - u).toNat)=rm neg mode (N*2 ^ (e - u).toNat) (D*2 ^ (u - e).toNat):=by
  split
  ·next h=>rw [← hm];exact mcut_rm neg mode hD (by omega) (by omega)
  ·next h=>
   rcases hmore with hr | hr
   ·rw [← hm];exact rm_left neg mode N D hD hr (by omega)
   ·omega
 refine ⟨_,hk,by omega, ?_,fun h=>a2 (by omega)⟩
 unfold rndF
 simp only []
 rw [hu2]
theorem rnd_nm (neg:Bool) (mode:Int) {x e m e' y f k f':Int} (h:Nm x e m e') (g:Nm y f k f') (hx:x≠0) (hy:y≠0):rndF neg mode m.natAbs k.natAbs (e' - f')=rndF neg mode x.natAbs y.natAbs (e - f):=by
 have hm:=h.ne hx
 have hk:=g.ne hy
 obtain ⟨t,h1,h2,_⟩:=h.abs hx
 obtain ⟨s,g1,g2,_⟩:=g.abs hy
 rw [h1,g1,rndF_left neg mode _ (by omega) (Nat.mul_pos (by omega) (pow2_pos s)),rndF_right neg mode _ (by omega) (by omega)]
 congr 1
 omega
def kindF (b:Nat):Int:=if b / 4503599627370496 % 2048=2047 then (if b % 4503599627370496=0 then 2 else 3) else if b / 4503599627370496 % 2048=0∧b % 4503599627370496=0 then 0 else 1
end Go.Proofs.YtoiebebjgnpkmaaGreatDoor
namespace Go.Proofs.YtoiebebjgnpkmaaGreatDoor
open Go.RowKit
set_option linter.unusedSimpArgs false
set_option linter.unusedVariables false
set_option maxHeartbeats 8000000
set_option maxRecDepth 100000
theorem sign_nz {w:World} {u:Value} {x:Int} {n:Nat} (h:Av w u x n) (hn:n≤200000) (hx:x≠0):
 Calls Tryz.prog 189 #[u] w fun e w'=>∃ s:Int,e= .returned (.int .i64 s)∧s≠0∧Fr [] w w':=
 Calls.mono (sign_ar h hn) (fun e w' hb=>⟨_,hb.1,fun h0=>hx (Int.sign_eq_zero_iff_zero.1 h0),hb.2⟩)
theorem left_any {w:World} {u:Value} {x:Int} {n:Nat} (k:Nat) (h:Av w u x n) (hn:n≤200000) (hk:k≤1048576):
 Calls Tryz.prog 221 #[u, .int .i64 (k:Int)] w fun e w'=>∃ v1,e= .returned v1∧Fr [] w w'∧Bv w' v1 (x*2 ^ k) (bl (x*2 ^ k).natAbs):=by
 obtain ⟨b1,p1,m1,c1,rfl⟩:=h.form
 have HA1:=hid h
 clear h
 have H:=Hp.start [] w
 go_enter Tryz.func221,Tryz.ntmps221
 go_wp2_with (first | refine x_q H ?_ | refine x_cm (fun h=> ?_) (fun h=> ?_) | refine x_l H ?_ | refine x_e (ev_dyad rfl rfl rfl) ?_ | (revert H;refine x_sF ?_;intro w1 hf H hk;clear hf;change Kp _ _ at hk) | (revert H;refine x_g ?_;intro g w1 hg hf H;replace hf:=hf.kp) | (revert H;refine x_s ?_;intro w1 hf H;clear hf))
 (refine x_c H (shiftUp_ar k (av HA1) hn hk) ?_;clear H;rintro e w1 ⟨v3,rfl,hF,hB⟩ H;replace hF:=hF.kp;obtain ⟨b3,p3,m3,c3,rfl⟩:=hB.form;have HB3:=hid hB;clear hB)
 go_wp2_with (first | refine x_q H ?_ | refine x_cm (fun h=> ?_) (fun h=> ?_) | refine x_l H ?_ | refine x_e (ev_dyad rfl rfl rfl) ?_ | (revert H;refine x_sF ?_;intro w1 hf H hk;clear hf;change Kp _ _ at hk) | (revert H;refine x_g ?_;intro g w1 hg hf H;replace hf:=hf.kp) | (revert H;refine x_s ?_;intro w1 hf H;clear hf))
 refine c_post H rfl rfl rfl ?_
 exact ⟨_,rfl,H.fr,(bv HB3).c⟩
theorem right_any {w:World} {u:Value} {x:Int} {n:Nat} (k:Nat) (h:Av w u x n) (hn:n≤200000) (hk:k≤1048576):
 Calls Tryz.prog 242 #[u, .int .i64 (k:Int)] w fun e w'=>∃ v1,e= .returned v1∧Fr [] w w'∧Bv w' v1 (x / 2 ^ k) (bl (x / 2 ^ k).natAbs):=by
 obtain ⟨b1,p1,m1,c1,rfl⟩:=h.form
 have HA1:=hid h
 clear h
 have H:=Hp.start [] w
 go_enter Tryz.func242,Tryz.ntmps242
 go_wp2_with (first | refine x_q H ?_ | refine x_cm (fun h=> ?_) (fun h=> ?_) | refine x_l H ?_ | refine x_e (ev_dyad rfl rfl rfl) ?_ | (revert H;refine x_sF ?_;intro w1 hf H hk;clear hf;change Kp _ _ at hk) | (revert H;refine x_g ?_;intro g w1 hg hf H;replace hf:=hf.kp) | (revert H;refine x_s ?_;intro w1 hf H;clear hf))
 rename_i ga wa hga hfa xa ya
 go_loopw [1] (fun s1 wr=>s1= .int .i64 (k:Int)∧Hp [] w wr [.blk g [.bool false, .slice none 0 0] 112, .blk ga [.bool b1, .slice p1 m1 c1] 112]) (fun _ _ =>0)
 case atStart=>exact ⟨rfl,H⟩
 case round=>
  clear H
  obtain ⟨rfl,H⟩:=hrel
  go_wp2_with (first | refine x_q H ?_ | refine x_cm (fun h=> ?_) (fun h=> ?_) | refine x_l H ?_ | refine x_e (ev_dyad rfl rfl rfl) ?_ | (revert H;refine x_sF ?_;intro w1 hf H hk;clear hf;change Kp _ _ at hk) | (revert H;refine x_g ?_;intro g w1 hg hf H;replace hf:=hf.kp) | (revert H;refine x_s ?_;intro w1 hf H;clear hf))
  (refine x_c H (shiftDown_ar k (HA1.out.fr H.fr) hn hk) ?_;clear H;rintro e w1 ⟨v3,rfl,hF,hB⟩ H;replace hF:=hF.kp;obtain ⟨b3,p3,m3,c3,rfl⟩:=hB.form;have HB3:=hid hB;clear hB)
  go_wp2_with (first | refine x_q H ?_ | refine x_cm (fun h=> ?_) (fun h=> ?_) | refine x_l H ?_ | refine x_e (ev_dyad rfl rfl rfl) ?_ | (revert H;refine x_sF ?_;intro w1 hf H hk;clear hf;change Kp _ _ at hk) | (revert H;refine x_g ?_;intro g w1 hg hf H;replace hf:=hf.kp) | (revert H;refine x_s ?_;intro w1 hf H;clear hf))
  refine c_post H rfl rfl rfl ?_
  exact ⟨_,rfl,H.fr,(bv HB3).c⟩
theorem normd_any {w:World} {b:Bool} {p:Option Addr} {m c:Nat} {x e:Int} {n:Nat} (h:Av w (.agg #[.bool b, .slice p m c]) x n) (hn:n≤200000) (hx:bl x.natAbs+e≤65536) (he: -65536≤e) (hT:La w):
 Calls Tryz.prog 219 #[.agg #[.bool false, .bool b, .slice p m c, .int .i64 e]] w fun r w'=>∃ v1,r= .returned (.tuple #[v1, .bool true])∧Fr [] w w'∧Dn w' v1 x e:=by
 have HT:=hid hT
 have HA1:=hid h
 have hdl:=h.dl
 clear h hT
 have H:=Hp.start [] w
 by_cases h0:x=0
 ·have HZ:=hid h0
  subst h0
  go_enter Tryz.func219,Tryz.ntmps219
  go_wp2_with (first | refine x_q H ?_ | refine x_cm (fun h=> ?_) (fun h=> ?_) | refine x_l H ?_ | refine x_e (ev_dyad rfl rfl rfl) ?_ | (revert H;refine x_sF ?_;intro w1 hf H hk;clear hf;change Kp _ _ at hk) | (revert H;refine x_g ?_;intro g w1 hg hf H;replace hf:=hf.kp) | (revert H;refine x_s ?_;intro w1 hf H;clear hf))
  (refine x_c H (norm_ar (av HA1) hn) ?_;clear H;rintro e w1 ⟨v3,rfl,hF,hB⟩ H;replace hF:=hF.kp;obtain ⟨b3,p3,m3,c3,rfl⟩:=hB.form;have HB3:=hid hB;clear hB)
  go_wp2_with (first | refine x_q H ?_ | refine x_cm (fun h=> ?_) (fun h=> ?_) | refine x_l H ?_ | refine x_e (ev_dyad rfl rfl rfl) ?_ | (revert H;refine x_sF ?_;intro w1 hf H hk;clear hf;change Kp _ _ at hk) | (revert H;refine x_g ?_;intro g w1 hg hf H;replace hf:=hf.kp) | (revert H;refine x_s ?_;intro w1 hf H;clear hf))
  (refine x_c H (sign_is0 (bv HB3).ar hn rfl) ?_;clear H;rintro e w1 ⟨rfl,hF⟩ H;replace hF:=hF.kp;skip)
  go_wp2_with (first | refine x_q H ?_ | refine x_cm (fun h=> ?_) (fun h=> ?_) | refine x_l H ?_ | refine x_e (ev_dyad rfl rfl rfl) ?_ | (revert H;refine x_sF ?_;intro w1 hf H hk;clear hf;change Kp _ _ at hk) | (revert H;refine x_g ?_;intro g w1 hg hf H;replace hf:=hf.kp) | (revert H;refine x_s ?_;intro w1 hf H;clear hf))
  refine c_postCT H rfl rfl rfl rfl ?_
  exact ⟨_,rfl,H.fr,0,0,false,none,0,0,rfl, .inl ⟨rfl,rfl,rfl⟩,(bv_zero _)⟩
 ·have HX:=hid h0
  have hz1:=tz_le _ _ (bl_lt x.natAbs)
  have hz2:tz x.natAbs≤1048576:=by omega
  clear h0
  go_enter Tryz.func219,Tryz.ntmps219
  go_wp2_with (first | refine x_q H ?_ | refine x_cm (fun h=> ?_) (fun h=> ?_) | refine x_l H ?_ | refine x_e (ev_dyad rfl rfl rfl) ?_ | (revert H;refine x_sF ?_;intro w1 hf H hk;clear hf;change Kp _ _ at hk) | (revert H;refine x_g ?_;intro g w1 hg hf H;replace hf:=hf.kp) | (revert H;refine x_s ?_;intro w1 hf H;clear hf))
  (refine x_c H (norm_ar (av HA1) hn) ?_;clear H;rintro e w1 ⟨v3,rfl,hF,hB⟩ H;replace hF:=hF.kp;obtain ⟨b3,p3,m3,c3,rfl⟩:=hB.form;have HB3:=hid hB;clear hB)
  go_wp2_with (first | refine x_q H ?_ | refine x_cm (fun h=> ?_) (fun h=> ?_) | refine x_l H ?_ | refine x_e (ev_dyad rfl rfl rfl) ?_ | (revert H;refine x_sF ?_;intro w1 hf H hk;clear hf;change Kp _ _ at hk) | (revert H;refine x_g ?_;intro g w1 hg hf H;replace hf:=hf.kp) | (revert H;refine x_s ?_;intro w1 hf H;clear hf))
  (refine x_c H (sign_nz (bv HB3).ar hn HX.out) ?_;clear H;rintro e w1 ⟨s4,rfl,hs4,hF⟩ H;replace hF:=hF.kp;skip)
  go_wp2_with (first | refine x_q H ?_ | refine x_cm (fun h=> ?_) (fun h=> ?_) | refine x_l H ?_ | refine x_e (ev_dyad rfl rfl rfl) ?_ | (revert H;refine x_sF ?_;intro w1 hf H hk;clear hf;change Kp _ _ at hk) | (revert H;refine x_g ?_;intro g w1 hg hf H;replace hf:=hf.kp) | (revert H;refine x_s ?_;intro w1 hf H;clear hf))
  (refine x_c H (trailing_ar (bv HB3).ar hn (HT.out.fr H.fr).1) ?_;clear H;rintro e w1 ⟨rfl,hF⟩ H;replace hF:=hF.kp;skip)
  go_wp2_with (first | refine x_q H ?_ | refine x_cm (fun h=> ?_) (fun h=> ?_) | refine x_l H ?_ | refine x_e (ev_dyad rfl rfl rfl) ?_ | (revert H;refine x_sF ?_;intro w1 hf H hk;clear hf;change Kp _ _ at hk) | (revert H;refine x_g ?_;intro g w1 hg hf H;replace hf:=hf.kp) | (revert H;refine x_s ?_;intro w1 hf H;clear hf))
  (revert H;refine w_pF 13 (.st 0 (.st 1 (.st 2 (.ld 3 (.st 4 (.st 5 (.st 6 (.st 7 (.st 8 (.st 9 (.st 10 (.st 11 (.st 12 .done))))))))))))) ?_;intro w1 hf H;(first | replace hf:=hf.kp | clear hf))
  iterate 3 refine p_q ?_
  ((refine p_c H rfl rfl Tryz.func182 (bitLen_ar (bv HB3).ar hn) ?_;clear H;rintro e w1 ⟨rfl,hF⟩ H;refine p_r ?_;replace hF:=hF.kp);skip)
  iterate 3 refine p_q ?_
  iterate 5 (first | refine p_q ?_ | refine p_n ?_)
  refine p_q ?_
  (refine pl_done ?_)
  all_goals
   go_wp2_with (first | refine x_q H ?_ | refine x_cm (fun h=> ?_) (fun h=> ?_) | refine x_l H ?_ | refine x_e (ev_dyad rfl rfl rfl) ?_ | (revert H;refine x_sF ?_;intro w1 hf H hk;clear hf;change Kp _ _ at hk) | (revert H;refine x_g ?_;intro g w1 hg hf H;replace hf:=hf.kp) | (revert H;refine x_s ?_;intro w1 hf H;clear hf))
   (revert H;refine w_pF 8 (.st 0 (.st 1 (.st 3 (.st 4 (.st 5 (.st 6 (.ld 2 (.st 7 (.ldf 8 (.st 9 .done)))))))))) ?_;intro w1 hf H;(first | replace hf:=hf.kp | clear hf))
   iterate 6 refine p_q ?_
   ((refine p_c H rfl rfl Tryz.func242 (right_any (tz x.natAbs) (bv HB3).ar hn hz2) ?_;clear H;rintro e w1 ⟨v5,rfl,hF,hB⟩ H;refine p_r ?_;replace hF:=hF.kp);obtain ⟨b5,p5,m5,c5,rfl⟩:=hB.form;have HB5:=hid hB;clear hB)
   (refine p_e rfl (fun w H=>ev_dyad rfl rfl rfl) ?_)
   (revert H;refine p_sFf ?_;intro w1 hf H hk;clear hf;change Kp _ _ at hk)
   refine p_q ?_
   (refine pl_done ?_)
   all_goals
    go_wp2_with (first | refine x_q H ?_ | refine x_cm (fun h=> ?_) (fun h=> ?_) | refine x_l H ?_ | refine x_e (ev_dyad rfl rfl rfl) ?_ | (revert H;refine x_sF ?_;intro w1 hf H hk;clear hf;change Kp _ _ at hk) | (revert H;refine x_g ?_;intro g w1 hg hf H;replace hf:=hf.kp) | (revert H;refine x_s ?_;intro w1 hf H;clear hf))
    refine c_postCT H rfl rfl rfl rfl ?_
    exact ⟨_,rfl,H.fr,_,_,_,_,_,_,rfl,Nm.norm HX.out,bv HB5⟩
theorem norm_dn {w:World} {v:Value} {x e:Int} (h:Dn w v x e) (hb:bl x.natAbs≤65536) (hx:bl x.natAbs+e≤65536) (he: -65536≤e) (hT:La w):
 Calls Tryz.prog 219 #[v] w fun r w'=>∃ v1,r= .returned (.tuple #[v1, .bool true])∧Fr [] w w'∧Dn w' v1 x e:=by
 obtain ⟨m,e',b,p,n,c,rfl,h1,h2⟩:=h
 have hl:=h1.le
 refine Calls.mono (normd_any h2.ar (by omega) (by omega) (by omega) hT) ?_
 rintro r w' ⟨v1,rfl,hF,m2,e2,b2,p2,n2,c2,rfl,g1,g2⟩
 exact ⟨_,rfl,hF,_,_,_,_,_,_,rfl,h1.trans g1,g2⟩
theorem make_any {w:World} {u:Value} {x e:Int} {n:Nat} (h:Av w u x n) (hn:n≤200000) (hx:bl x.natAbs+e≤65536) (he: -65536≤e) (hT:La w):
 Calls Tryz.prog 195 #[u, .int .i64 e] w fun r w'=>∃ v1,r= .returned v1∧Fr [] w w'∧Dn w' v1 x e:=by
 obtain ⟨b1,p1,m1,c1,rfl⟩:=h.form
 have HA1:=hid h
 have HT:=hid hT
 clear h hT
 have H:=Hp.start [] w
 go_enter Tryz.func195,Tryz.ntmps195
 go_wp2_with (first | refine x_q H ?_ | refine x_cm (fun h=> ?_) (fun h=> ?_) | refine x_l H ?_ | refine x_e (ev_dyad rfl rfl rfl) ?_ | (revert H;refine x_sF ?_;intro w1 hf H hk;clear hf;change Kp _ _ at hk) | (revert H;refine x_g ?_;intro g w1 hg hf H;replace hf:=hf.kp) | (revert H;refine x_s ?_;intro w1 hf H;clear hf))
 (refine x_c H (normd_any (av HA1) hn hx he (HT.out.fr H.fr)) ?_;clear H;rintro e w1 ⟨v3,rfl,hF,hD⟩ H;replace hF:=hF.kp;obtain ⟨m3,e3,b3,p3,n3,c3,rfl,hN,hB⟩:=hD;have HN3:=hid hN;have HB3:=hid hB;clear hN hB)
 go_wp2_with (first | refine x_q H ?_ | refine x_cm (fun h=> ?_) (fun h=> ?_) | refine x_l H ?_ | refine x_e (ev_dyad rfl rfl rfl) ?_ | (revert H;refine x_sF ?_;intro w1 hf H hk;clear hf;change Kp _ _ at hk) | (revert H;refine x_g ?_;intro g w1 hg hf H;replace hf:=hf.kp) | (revert H;refine x_s ?_;intro w1 hf H;clear hf))
 refine c_post H rfl rfl rfl ?_
 exact ⟨_,rfl,H.fr,_,_,_,_,_,_,rfl,HN3.out,bv HB3⟩
theorem fromBig_any {w:World} {u:Value} {x:Int} {n:Nat} (h:Av w u x n) (hn:n≤200000) (hx:bl x.natAbs≤65536) (hT:La w):
 Calls Tryz.prog 145 #[u] w fun r w'=>∃ v1,r= .returned v1∧Fr [] w w'∧Dn w' v1 x 0:=by
 obtain ⟨b1,p1,m1,c1,rfl⟩:=h.form
 have HA1:=hid h
 have HT:=hid hT
 clear h hT
 have H:=Hp.start [] w
 go_enter Tryz.func145,Tryz.ntmps145
 go_wp2_with (first | refine x_q H ?_ | refine x_cm (fun h=> ?_) (fun h=> ?_) | refine x_l H ?_ | refine x_e (ev_dyad rfl rfl rfl) ?_ | (revert H;refine x_sF ?_;intro w1 hf H hk;clear hf;change Kp _ _ at hk) | (revert H;refine x_g ?_;intro g w1 hg hf H;replace hf:=hf.kp) | (revert H;refine x_s ?_;intro w1 hf H;clear hf))
 (refine x_c H (make_any (av HA1) hn (by omega) (by omega) (HT.out.fr H.fr)) ?_;clear H;rintro e w1 ⟨v3,rfl,hF,hD⟩ H;replace hF:=hF.kp;obtain ⟨m3,e3,b3,p3,n3,c3,rfl,hN,hB⟩:=hD;have HN3:=hid hN;have HB3:=hid hB;clear hN hB)
 go_wp2_with (first | refine x_q H ?_ | refine x_cm (fun h=> ?_) (fun h=> ?_) | refine x_l H ?_ | refine x_e (ev_dyad rfl rfl rfl) ?_ | (revert H;refine x_sF ?_;intro w1 hf H hk;clear hf;change Kp _ _ at hk) | (revert H;refine x_g ?_;intro g w1 hg hf H;replace hf:=hf.kp) | (revert H;refine x_s ?_;intro w1 hf H;clear hf))
 refine c_post H rfl rfl rfl ?_
 exact ⟨_,rfl,H.fr,_,_,_,_,_,_,rfl,HN3.out,bv HB3⟩
theorem fromIntD_any (w:World) (z:Int) (hz:inr .i64 z) (hT:La w):
 Calls Tryz.prog 143 #[.int .i64 z] w fun r w'=>∃ v1,r= .returned v1∧Fr [] w w'∧Dn w' v1 z 0:=by
 have HT:=hid hT
 clear hT
 have hb:bl z.natAbs≤64:=bl_le (by have: -9223372036854775808≤z∧z≤9223372036854775807:=hz;omega)
 have H:=Hp.start [] w
 go_enter Tryz.func143,Tryz.ntmps143
 go_wp2_with (first | refine x_q H ?_ | refine x_cm (fun h=> ?_) (fun h=> ?_) | refine x_l H ?_ | refine x_e (ev_dyad rfl rfl rfl) ?_ | (revert H;refine x_sF ?_;intro w1 hf H hk;clear hf;change Kp _ _ at hk) | (revert H;refine x_g ?_;intro g w1 hg hf H;replace hf:=hf.kp) | (revert H;refine x_s ?_;intro w1 hf H;clear hf))
 (refine x_c H (fromInt_ar _ z hz) ?_;clear H;rintro e w1 ⟨v2,rfl,hF,hB⟩ H;replace hF:=hF.kp;obtain ⟨b2,p2,m2,c2,rfl⟩:=hB.form;have HB2:=hid hB;clear hB)
 go_wp2_with (first | refine x_q H ?_ | refine x_cm (fun h=> ?_) (fun h=> ?_) | refine x_l H ?_ | refine x_e (ev_dyad rfl rfl rfl) ?_ | (revert H;refine x_sF ?_;intro w1 hf H hk;clear hf;change Kp _ _ at hk) | (revert H;refine x_g ?_;intro g w1 hg hf H;replace hf:=hf.kp) | (revert H;refine x_s ?_;intro w1 hf H;clear hf))
 (refine x_c H (make_any (bv HB2).ar (by omega) (by omega) (by omega) (HT.out.fr H.fr)) ?_;clear H;rintro e w1 ⟨v3,rfl,hF,hD⟩ H;replace hF:=hF.kp;obtain ⟨m3,e3,b3,p3,n3,c3,rfl,hN,hB⟩:=hD;have HN3:=hid hN;have HB3:=hid hB;clear hN hB)
 go_wp2_with (first | refine x_q H ?_ | refine x_cm (fun h=> ?_) (fun h=> ?_) | refine x_l H ?_ | refine x_e (ev_dyad rfl rfl rfl) ?_ | (revert H;refine x_sF ?_;intro w1 hf H hk;clear hf;change Kp _ _ at hk) | (revert H;refine x_g ?_;intro g w1 hg hf H;replace hf:=hf.kp) | (revert H;refine x_s ?_;intro w1 hf H;clear hf))
 refine c_post H rfl rfl rfl ?_
 exact ⟨_,rfl,H.fr,_,_,_,_,_,_,rfl,HN3.out,bv HB3⟩
theorem normD_any {w:World} {v:Value} {x e:Int} (h:Dn w v x e) (hb:bl x.natAbs≤65536) (hx:bl x.natAbs+e≤65536) (he: -65536≤e) (hT:La w):
 Calls Tryz.prog 196 #[v] w fun r w'=>∃ v1,r= .returned v1∧Fr [] w w'∧Dn w' v1 x e:=by
 have HD:=hid h
 obtain ⟨m1,e1,b1,p1,n1,c1,rfl,h1,h2⟩:=h
 have HT:=hid hT
 clear h1 h2 hT
 have H:=Hp.start [] w
 go_enter Tryz.func196,Tryz.ntmps196
 go_wp2_with (first | refine x_q H ?_ | refine x_cm (fun h=> ?_) (fun h=> ?_) | refine x_l H ?_ | refine x_e (ev_dyad rfl rfl rfl) ?_ | (revert H;refine x_sF ?_;intro w1 hf H hk;clear hf;change Kp _ _ at hk) | (revert H;refine x_g ?_;intro g w1 hg hf H;replace hf:=hf.kp) | (revert H;refine x_s ?_;intro w1 hf H;clear hf))
 (refine x_c H (norm_dn (dn HD) hb hx he (HT.out.fr H.fr)) ?_;clear H;rintro e w1 ⟨v3,rfl,hF,hD⟩ H;replace hF:=hF.kp;obtain ⟨m3,e3,b3,p3,n3,c3,rfl,hN,hB⟩:=hD;have HN3:=hid hN;have HB3:=hid hB;clear hN hB)
 go_wp2_with (first | refine x_q H ?_ | refine x_cm (fun h=> ?_) (fun h=> ?_) | refine x_l H ?_ | refine x_e (ev_dyad rfl rfl rfl) ?_ | (revert H;refine x_sF ?_;intro w1 hf H hk;clear hf;change Kp _ _ at hk) | (revert H;refine x_g ?_;intro g w1 hg hf H;replace hf:=hf.kp) | (revert H;refine x_s ?_;intro w1 hf H;clear hf))
 refine c_post H rfl rfl rfl ?_
 exact ⟨_,rfl,H.fr,_,_,_,_,_,_,rfl,HN3.out,bv HB3⟩
theorem signD_any {w:World} {v:Value} {x e:Int} (h:Dn w v x e) (hb:bl x.natAbs≤65536) (hx:bl x.natAbs+e≤65536) (he: -65536≤e) (hT:La w):
 Calls Tryz.prog 197 #[v] w fun r w'=>r= .returned (.int .i64 (Int.sign x))∧Fr [] w w':=by
 have HD:=hid h
 obtain ⟨m1,e1,b1,p1,n1,c1,rfl,h1,h2⟩:=h
 have HT:=hid hT
 clear h1 h2 hT
 have H:=Hp.start [] w
 go_enter Tryz.func197,Tryz.ntmps197
 go_wp2_with (first | refine x_q H ?_ | refine x_cm (fun h=> ?_) (fun h=> ?_) | refine x_l H ?_ | refine x_e (ev_dyad rfl rfl rfl) ?_ | (revert H;refine x_sF ?_;intro w1 hf H hk;clear hf;change Kp _ _ at hk) | (revert H;refine x_g ?_;intro g w1 hg hf H;replace hf:=hf.kp) | (revert H;refine x_s ?_;intro w1 hf H;clear hf))
 (refine x_c H (norm_dn (dn HD) hb hx he (HT.out.fr H.fr)) ?_;clear H;rintro e w1 ⟨v3,rfl,hF,hD⟩ H;replace hF:=hF.kp;obtain ⟨m3,e3,b3,p3,n3,c3,rfl,hN,hB⟩:=hD;have HN3:=hid hN;have HB3:=hid hB;clear hN hB)
 have hl:=HN3.out.le
 go_wp2_with (first | refine x_q H ?_ | refine x_cm (fun h=> ?_) (fun h=> ?_) | refine x_l H ?_ | refine x_e (ev_dyad rfl rfl rfl) ?_ | (revert H;refine x_sF ?_;intro w1 hf H hk;clear hf;change Kp _ _ at hk) | (revert H;refine x_g ?_;intro g w1 hg hf H;replace hf:=hf.kp) | (revert H;refine x_s ?_;intro w1 hf H;clear hf))
 (refine x_c H (sign_ar (bv HB3).ar (by omega)) ?_;clear H;rintro e w1 ⟨rfl,hF⟩ H;replace hF:=hF.kp;skip)
 go_wp2_with (first | refine x_q H ?_ | refine x_cm (fun h=> ?_) (fun h=> ?_) | refine x_l H ?_ | refine x_e (ev_dyad rfl rfl rfl) ?_ | (revert H;refine x_sF ?_;intro w1 hf H hk;clear hf;change Kp _ _ at hk) | (revert H;refine x_g ?_;intro g w1 hg hf H;replace hf:=hf.kp) | (revert H;refine x_s ?_;intro w1 hf H;clear hf))
 go_ret
 exact ⟨by rw [← HN3.out.sign];rfl,H.fr⟩
end Go.Proofs.YtoiebebjgnpkmaaGreatDoor
