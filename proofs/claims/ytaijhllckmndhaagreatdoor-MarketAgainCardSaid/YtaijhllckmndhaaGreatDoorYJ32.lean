import Derived.Test.YtaijhllckmndhaaGreatDoorYJ0
import Derived.Test.YtaijhllckmndhaaGreatDoorYJ21
import Derived.Test.YtaijhllckmndhaaGreatDoorYJ24
import Derived.Test.YtaijhllckmndhaaGreatDoorYJ22
import Derived.Test.YtaijhllckmndhaaGreatDoorYJ31
import Derived.Test.YtaijhllckmndhaaGreatDoorYJ27
import Derived.Test.YtaijhllckmndhaaGreatDoorYJ3
namespace Go.Proofs.YtaijhllckmndhaaGreatDoor
set_option linter.all false
set_option maxHeartbeats 64000000
set_option maxRecDepth 100000
section
open Go.RowKit
def La(w:World):Prop:=TabAt 6 Lib.deBruijn32tab w∧Lib.TabIs Tryz.prog w "internal/strconv.uint64pow10" .u64 Lib.pow10Tab
def La.fr{w w':World}(h:La w)(k:Fr [] w w'):La w':=⟨TabAt.fr h.1 k,TabIs.fr h.2 k⟩
def Nm(x e m e':Int):Prop:=(x=0∧m=0∧e'=0)∨(x≠0∧∃t:Nat,x=m*2^t∧e'=e+t)
def Nm.refl{x e:Int}(h:x≠0):Nm x e x e:= .inr ⟨h,0,by simp,by simp⟩
def Nm.ne{x e m e':Int}(h:Nm x e m e')(hx:x≠0):m≠0:=by
 rcases h with⟨h,_⟩|⟨_,t,h,_⟩
 ·exact absurd h hx
 ·rintro rfl;simp at h;exact hx h
def Nm.trans{x e m e' k e'':Int}(h:Nm x e m e')(g:Nm m e' k e''):Nm x e k e'':=by
 rcases h with⟨h1,h2,h3⟩|⟨h1,t,h2,h3⟩
 ·rcases g with⟨g1,g2,g3⟩|⟨g1,_⟩
  ·exact .inl ⟨h1,g2,g3⟩
  ·exact absurd h2 g1
 ·rcases g with⟨g1,g2,g3⟩|⟨g1,s,g2,g3⟩
  ·exact absurd g1 ((Nm.inr' h1 h2 h3).ne h1)
  ·refine .inr ⟨h1,s+t,?_,by omega⟩;rw[h2,g2,Int.mul_assoc,←Int.pow_add]
 where Nm.inr' {x e m e':Int} {t:Nat} (h1:x≠0) (h2:x=m*2^t) (h3:e'=e+t):Nm x e m e':= .inr ⟨h1,t,h2,h3⟩
def zhQ(t:Nat):(0:Int)<2^t:=Int.pow_pos yf
def Nm.sign{x e m e':Int}(h:Nm x e m e'):Int.sign m=Int.sign x:=by
 rcases h with⟨h1,h2,h3⟩|⟨h1,t,h2,h3⟩
 ·rw[h1,h2]
 ·rw[h2,Int.sign_mul,Int.sign_eq_one_of_pos (zhQ t),Int.mul_one]
def Nm.neg{x e m e':Int}(h:Nm x e m e'):decide (m<0)=decide (x<0):=by
 have hs:=h.sign;have h1:=@Int.sign_neg_iff
 by_cases hm:m<0
 ·have:x<0:=Int.sign_neg_iff.1 (hs ▸ Int.sign_neg_iff.2 hm)
  simp[hm,this]
 ·have:¬x<0:=fun hx=>hm (Int.sign_neg_iff.1 (hs ▸ Int.sign_neg_iff.2 hx))
  simp[hm,this]
def Nm.abs{x e m e':Int}(h:Nm x e m e')(hx:x≠0):∃t:Nat,x.natAbs=m.natAbs*2^t∧e'=e+t∧bl x.natAbs=bl m.natAbs+t:=by
 have hm:=h.ne hx
 rcases h with⟨h1,h2,h3⟩|⟨h1,t,h2,h3⟩
 ·exact absurd h1 hx
 ·have e0:x.natAbs=m.natAbs*2^t:=by rw[h2,zn4]
  exact⟨t,e0,h3,by rw[e0,zdm yb]⟩
def zkf:∀n:Nat,n≠0→∃q,n=q*2^tz n:=by
 intro n
 induction n using Nat.strongRecOn with
 | _ n ih=>
  intro h0
  by_cases h1:n%2=1
  ·exact⟨n,by rw[zc1 h1];simp⟩
  ·obtain⟨q,hq⟩:=ih (n/2) yb yb;refine⟨q,?_⟩;have e:n=2*(n/2):=by omega
   have e2:tz n=tz (n/2)+1:=by rw[e,zb1 yb];congr 2;omega
   rw[e2,Nat.pow_succ,←Nat.mul_assoc,←hq]
   omega
def Nm.norm{x e:Int}(hx:x≠0):Nm x e (x/2^tz x.natAbs) (e+tz x.natAbs):=by
 refine .inr ⟨hx,tz x.natAbs,?_,rfl⟩;obtain⟨q,hq⟩:=zkf x.natAbs yb;generalize tz x.natAbs=t at hq ⊢
 have hd:((2:Int)^t)∣x:=by
  have e1:((2:Int)^t)=((2^t:Nat):Int):=by rw[Int.natCast_pow];rfl
  rw[e1,Int.ofNat_dvd_left];exact⟨q,by rw[hq,Nat.mul_comm]⟩
 exact(Int.ediv_mul_cancel hd).symm
def zl0(z:Int):dl z≤bl z.natAbs:=by
 apply ziV
 have h:=zay z.natAbs;exact Nat.lt_of_lt_of_le h (Nat.pow_le_pow_left yf _)
def Bv.c{w:World}{v:Value}{z:Int}{n:Nat}(h:Bv w v z n):Bv w v z (bl z.natAbs):=⟨h.1,zl0 z⟩
def zbe{m n:Nat}(h:m≤n):bl m≤bl n:=zbC (Nat.lt_of_le_of_lt h (zay n))
def zcK(m n:Nat):bl (m*n)≤bl m+bl n:=zbC (by
 rw[Nat.pow_add]
 exact Nat.mul_lt_mul'' (zay m) (zay n))
def zgV{n:Nat}(h:n≠0):1≤bl n:=(zb5 h).2
def zjg(n:Nat):bl (2^n)=n+1:=zha (Nat.le_refl _) (Nat.pow_lt_pow_right yf yb)
def Dn(w:World)(v:Value)(x e:Int):Prop:=∃m e' b p n c,v= .agg #[.bool false, .bool b, .slice p n c, .int .i64 e']∧Nm x e m e'∧Bv w (.agg #[.bool b, .slice p n c]) m (bl m.natAbs)
def dn{w w':World}{v:Value}{x e:Int}(h:Hid (Dn w v x e))(k:Kp w w':=by repeat first|assumption|exact Kp.refl _|refine Kp.trans ?_ yo):Dn w' v x e:=by
 obtain⟨m,e',b,p,n,c,rfl,h1,h⟩:=h.out;exact⟨m,e',b,p,n,c,rfl,h1,bv (hid h) k⟩
def Nm.le{x e m e':Int}(h:Nm x e m e'):bl m.natAbs≤bl x.natAbs∧(e'=0∨(e≤e'∧e'+bl m.natAbs=e+bl x.natAbs)):=by
 by_cases hx:x=0
 ·rcases h with⟨h1,h2,h3⟩|⟨h1,_⟩
  ·rw[h1,h2,h3];exact⟨Nat.le_refl _, .inl rfl⟩
  ·exact absurd hx h1
 ·obtain⟨t,h1,h2,h3⟩:=h.abs hx
  omega
def Rl(w:World)(v:Value)(neg:Bool)(N D:Nat)(E:Int):Prop:=∃(b:Bool) (p:Option Addr) (k c n m:Nat) (ex:Int) (more:Bool),v= .agg #[.bool neg, .bool b, .slice p k c, .int .i64 ex, .bool more]∧Bv w (.agg #[.bool b, .slice p k c]) (m:Int) (bl m)∧0<N∧0<D∧N*2^n/D=m∧m≠0∧ex=E-n∧more=decide (N*2^n%D≠0)∧(N*2^n%D=0∨54≤bl m)∧bl m≤100000∧ -1000000≤ex∧ex≤1000000
def zhO(a b:Nat)(ha:a<18446744073709551616)(hb:b<18446744073709551616):bits .and .u64 (a:Int) (b:Int)=((a&&& b:Nat):Int):=by
 have hx:a&&& b<2^64:=Nat.and_lt_two_pow _ yb
 have h1:(BitVec.ofInt 64 (a:Int)).toNat=a:=by
  rw[BitVec.ofInt_natCast,BitVec.toNat_ofNat];exact Nat.mod_eq_of_lt yb
 have h2:(BitVec.ofInt 64 (b:Int)).toNat=b:=by
  rw[BitVec.ofInt_natCast,BitVec.toNat_ofNat];exact Nat.mod_eq_of_lt yb
 show IntKind.u64.wrap ((BitVec.ofInt 64 (a:Int)&&& BitVec.ofInt 64 (b:Int)).toNat:Int)=_
 rw[BitVec.toNat_and,h1,h2];exact zX yl
def zjb(a b:Nat)(ha:a<18446744073709551616)(hb:b<18446744073709551616):bits .or .u64 (a:Int) (b:Int)=((a||| b:Nat):Int):=by
 have hx:a||| b<2^64:=Nat.or_lt_two_pow yb yb
 have h1:(BitVec.ofInt 64 (a:Int)).toNat=a:=by
  rw[BitVec.ofInt_natCast,BitVec.toNat_ofNat];exact Nat.mod_eq_of_lt yb
 have h2:(BitVec.ofInt 64 (b:Int)).toNat=b:=by
  rw[BitVec.ofInt_natCast,BitVec.toNat_ofNat];exact Nat.mod_eq_of_lt yb
 show IntKind.u64.wrap ((BitVec.ofInt 64 (a:Int)||| BitVec.ofInt 64 (b:Int)).toNat:Int)=_
 rw[BitVec.toNat_or,h1,h2];exact zX yl
def ztc{b:Nat}(h:b<18446744073709551616):b&&& 9223372036854775808=if 9223372036854775808≤b then 9223372036854775808 else 0:=by
 have e:(9223372036854775808:Nat)=2^63:=by decide
 have h1:b.testBit 63=decide (9223372036854775808≤b):=by
  rw[Nat.testBit_eq_decide_div_mod_eq,←e]
  by_cases hb:9223372036854775808≤b
  ·rw[decide_eq_true hb,show b/9223372036854775808%2=1 by omega];rfl
  ·rw[decide_eq_false hb,show b/9223372036854775808%2=0 by omega];rfl
 apply Nat.eq_of_testBit_eq
 intro i;rw[Nat.testBit_and]
 by_cases hi:63=i
 ·subst hi;rw[h1]
  by_cases hb:9223372036854775808≤b
  ·rw[decide_eq_true hb,if_pos hb];simp
  ·rw[decide_eq_false hb,if_neg hb];simp
 ·have h2:Nat.testBit 9223372036854775808 i=false:=by rw[e,Nat.testBit_two_pow];simp[hi]
  rw[h2]
  split
  ·rw[h2];simp
  ·simp
def zur{b:Nat}(h:b<9223372036854775808):b||| 9223372036854775808=b+9223372036854775808:=by
 have h1:=Nat.two_pow_add_eq_or_of_lt (i:=63) (b:=b) yM 1;have e:(2:Nat)^63=9223372036854775808:=by decide
 rw[e]at h1;rw[Nat.or_comm,Nat.add_comm]
 simpa using h1.symm
section
variable {P:Program} {w:World} {a:Act} {o:Oper} {t t':TypeId} {x y:Operand}
def zdr{op:BinOp}(ho:o.op= .binOp op t x y t')(hop:op= .and∨op= .or){m n z:Nat}(hx:a.eval x= .int .u64 (m:Int))(hy:a.eval y= .int .u64 (n:Int))(hz:bits op .u64 (m:Int) (n:Int)=(z:Int)):(execOp a.eval o).run P w= .ok (.value (.int .u64 (z:Int))) w:=by
 rcases hop with rfl|rfl
 ·exact za1 ho hx hy (fun w=>by
   show(pure (Value.int .u64 (bits .and .u64 (m:Int) (n:Int))):Sem Value).run P w=_
   rw[hz];rfl)
 ·exact za1 ho hx hy (fun w=>by
   show(pure (Value.int .u64 (bits .or .u64 (m:Int) (n:Int))):Sem Value).run P w=_
   rw[hz];rfl)
def zvG(ho:o.op= .binOp .and t x (.const (.int .u64 2047)) t'){m:Nat}(hx:a.eval x= .int .u64 (m:Int))(hm:m<18446744073709551616:=by omega):(execOp a.eval o).run P w= .ok (.value (.int .u64 ((m%2048:Nat):Int))) w:=
 zdr ho (.inl rfl) hx (n:=2047) rfl (by rw[zhO _ _ hm yf];exact congrArg _ (Nat.and_two_pow_sub_one_eq_mod m 11))
def zvE(ho:o.op= .binOp .and t x (.const (.int .u64 4503599627370495)) t'){m:Nat}(hx:a.eval x= .int .u64 (m:Int))(hm:m<18446744073709551616:=by omega):(execOp a.eval o).run P w= .ok (.value (.int .u64 ((m%4503599627370496:Nat):Int))) w:=
 zdr ho (.inl rfl) hx (n:=4503599627370495) rfl (by rw[zhO _ _ hm yf];exact congrArg _ (Nat.and_two_pow_sub_one_eq_mod m 52))
def ztC(ho:o.op= .binOp .and t x (.const (.int .u64 9223372036854775808)) t'){m:Nat}(hx:a.eval x= .int .u64 (m:Int))(hm:m<18446744073709551616:=by omega):(execOp a.eval o).run P w= .ok (.value (.int .u64 ((if 9223372036854775808≤m then 9223372036854775808 else 0:Nat):Int))) w:=
 zdr ho (.inl rfl) hx (n:=9223372036854775808) rfl (by rw[zhO _ _ hm yf,ztc hm])
def zvB(ho:o.op= .binOp .or t x (.const (.int .u64 9223372036854775808)) t'){m:Nat}(hx:a.eval x= .int .u64 (m:Int))(hm:m<9223372036854775808:=by omega):(execOp a.eval o).run P w= .ok (.value (.int .u64 ((m+9223372036854775808:Nat):Int))) w:=
 zdr ho (.inr rfl) hx (n:=9223372036854775808) rfl (by rw[zjb _ _ yb yf,zur hm])
def zvK{kk:IntKind}(ho:o.op= .binOp .shr t x (.const (.int kk 52)) t'){m:Nat}(hx:a.eval x= .int .u64 (m:Int)):(execOp a.eval o).run P w= .ok (.value (.int .u64 ((m/4503599627370496:Nat):Int))) w:=by
 have e1:(eqGuard .shr t x (.const (.int kk 52)) (.int .u64 (m:Int)) (.int kk 52)).run P w= .ok () w:=by unfold eqGuard;simp
 have hn:a.eval (.const (.int kk 52))= .int kk 52:=rfl;unfold execOp;simp only[ho,hx,hn,Sem.run_bind,e1,Result.andThen_ok,binOp];rw[shift_shr_any _ _ _ _ yf]
 have e2:(m:Int)/2^min (52:Int).toNat IntKind.u64.bits=((m/4503599627370496:Nat):Int):=by
  have:(2:Int)^min (52:Int).toNat IntKind.u64.bits=4503599627370496:=by decide
  rw[this];omega
 rw[e2]
 rfl
def ztv{kk:IntKind}(ho:o.op= .binOp .shl t x (.const (.int kk 52)) t'){m:Nat}(hx:a.eval x= .int .u64 (m:Int))(hm:m<2048:=by omega):(execOp a.eval o).run P w= .ok (.value (.int .u64 ((m*4503599627370496:Nat):Int))) w:=by
 have e1:(eqGuard .shl t x (.const (.int kk 52)) (.int .u64 (m:Int)) (.int kk 52)).run P w= .ok () w:=by unfold eqGuard;simp
 have hn:a.eval (.const (.int kk 52))= .int kk 52:=rfl;unfold execOp;simp only[ho,hx,hn,Sem.run_bind,e1,Result.andThen_ok,binOp];rw[shift_shl_any _ _ _ _ yf]
 have e2:IntKind.u64.wrap ((m:Int)*2^min (52:Int).toNat IntKind.u64.bits)=((m*4503599627370496:Nat):Int):=by
  have:(2:Int)^min (52:Int).toNat IntKind.u64.bits=4503599627370496:=by decide
  rw[this,zX yl];omega
 rw[e2]
 rfl
def ztU(ho:o.op= .binOp .or t x y t'){m n:Nat}(hx:a.eval x= .int .u64 ((m*4503599627370496:Nat):Int))(hy:a.eval y= .int .u64 (n:Int))(hm:m<2048:=by omega)(hn:n<4503599627370496:=by omega):(execOp a.eval o).run P w= .ok (.value (.int .u64 ((m*4503599627370496+n:Nat):Int))) w:=
 zdr ho (.inr rfl) hx hy (by
  rw[zjb _ _ yb yb];have h1:=Nat.two_pow_add_eq_or_of_lt (i:=52) (b:=n) (by simpa using hn) m;have e:(2:Nat)^52=4503599627370496:=by decide
  rw[e,Nat.mul_comm]at h1
  rw[←h1])
end
def zlA{w:World}{a:Act}{o:Oper}{x y:Operand}(ho:o.op= .build 123 #[(1,x),(2,y)]){b:Bool}{p:Option Addr}{n c:Nat}{k:IntKind}{e:Int}(hx:a.eval x= .agg #[.bool b, .slice p n c])(hy:a.eval y= .int k e):(execOp a.eval o).run Tryz.prog w= .ok (.value (.agg #[.bool false, .bool b, .slice p n c, .int k e])) w:=by
 have hb:Tryz.prog.built 123 [(1, .agg #[.bool b, .slice p n c]),(2, .int k e)]=some #[.bool false, .bool b, .slice p n c, .int k e]:=by kernel_rfl
 have e1:(#[(1,x),(2,y)].map fun(i,x)=>(i,a.eval x)).toList=[(1, .agg #[.bool b, .slice p n c]),(2, .int k e)]:=by simp[hx,hy]
 unfold execOp;simp only[ho,Sem.run_bind];rw[run_build w 123 _ _ (by rw[e1];exact hb)]
 rfl
def zum(neg:Bool)(mode:Int){N D n m:Nat}{e ex u:Int}(hN:0<N)(hD:0<D)(hm:N*2^n/D=m)(h0:m≠0)(hex:ex=e-n)(hu:max (ex+bl m-1-52) (-1074)=u)(hmore:N*2^n%D=0∨54≤bl m):
 ∃k,(if ex<u then zfs neg mode m (u-ex).toNat (decide (N*2^n%D≠0))else m*2^(ex-u).toNat)=k∧k≤9007199254740992∧zK neg mode N D e=zab neg mode k u∧(k<4503599627370496→u= -1074):=by
 have hl:=znh hN hD (n:=n) (by rw[hm];exact h0);rw[hm]at hl;have hu2:max (lg N D+e-52) (-1074)=u:=by omega
 obtain⟨a1,a2⟩:=zgg hN hD hu2;have hb:=zcp neg mode (N*2^(e-u).toNat) (D*2^(u-e).toNat)
 have hk:(if ex<u then zfs neg mode m (u-ex).toNat (decide (N*2^n%D≠0))else m*2^(ex-u).toNat)=rm neg mode (N*2^(e-u).toNat) (D*2^(u-e).toNat):=by
  split
  ·next h=>rw[←hm];exact zs2 neg mode hD yb yb
  ·next h=>
   rcases hmore with hr|hr
   ·rw[←hm];exact zsw neg mode N D hD hr yb
   ·omega
 refine⟨_,hk,by omega,?_,fun h=>a2 yb⟩;unfold zK;simp only[];rw[hu2]
def zgM(neg:Bool)(mode:Int){x e m e' y f k f':Int}(h:Nm x e m e')(g:Nm y f k f')(hx:x≠0)(hy:y≠0):zK neg mode m.natAbs k.natAbs (e'-f')=zK neg mode x.natAbs y.natAbs (e-f):=by
 have hm:=h.ne hx;have hk:=g.ne hy;obtain⟨t,h1,h2,_⟩:=h.abs hx;obtain⟨s,g1,g2,_⟩:=g.abs hy;rw[h1,g1,zpp neg mode _ yb (Nat.mul_pos yb (zu s)),zmA neg mode _ yb yb]
 congr 1
 omega
def zax(b:Nat):Int:=if b/4503599627370496%2048=2047 then(if b%4503599627370496=0 then 2 else 3)else if b/4503599627370496%2048=0∧b%4503599627370496=0 then 0 else 1
end
section
variable {w:World} {u v:Value} {x e:Int} {n:Nat}
open Go.RowKit
def zbv(h:Av w u x n)(hn:n≤200000)(hx:x≠0):
 Calls Tryz.prog 211 #[u] w fun e w'=>∃s:Int,e= .returned (.int .i64 s)∧s≠0∧Fr [] w w':=
 Calls.mono (zhL h hn) (fun e w' hb=>⟨_,hb.1,fun h0=>hx (Int.sign_eq_zero_iff_zero.1 h0),hb.2⟩)
def zko(k:Nat)(h:Av w u x n)(hn:n≤200000)(hk:k≤1048576):
 Calls Tryz.prog 259 #[u, .int .i64 (k:Int)] w fun e w'=>∃v1,e= .returned v1∧Fr [] w w'∧Bv w' v1 (x*2^k) (bl (x*2^k).natAbs):=by
 obtain⟨b1,p1,m1,c1,rfl⟩:=h.form;have HA1:=hid h;clear h;have H:=Hp.start [] w
 go_enter Tryz.func259,Tryz.ntmps259
 revert H;refine W15 ?_;intro _ _ _ _ _ g w1 hg H hf _ _ _ _;(refine x_c H (zeu k (av HA1) hn hk) ?_;clear H;rintro e w1 ⟨v3,rfl,hF,hB⟩ H;replace hF:=hF.kp;obtain⟨b3,p3,m3,c3,rfl⟩:=hB.form;have HB3:=hid hB;clear hB);simp only[Int.not_lt,Int.not_le]at*;revert H;refine W15 ?_;intro _ _ w1 H hk;refine zk H rfl rfl rfl ?_;exact⟨_,rfl,H.fr,(bv HB3).c⟩
def zfb(k:Nat)(h:Av w u x n)(hn:n≤200000)(hk:k≤1048576):
 Calls Tryz.prog 214 #[u, .int .i64 (k:Int)] w fun e w'=>∃v1,e= .returned v1∧Fr [] w w'∧Bv w' v1 (x/2^k) (bl (x/2^k).natAbs):=by
 obtain⟨b1,p1,m1,c1,rfl⟩:=h.form;have HA1:=hid h;clear h;have H:=Hp.start [] w
 go_enter Tryz.func214,Tryz.ntmps214
 revert H;refine W15 ?_;intro _ _ _ _ _ g w1 hg H hf _ _;rename_i ga wa hga hfa xa ya
 go_loopw [1] (fun s1 wr=>s1= .int .i64 (k:Int)∧Hp [] w wr [.blk g [.bool false, .slice none 0 0] 118, .blk ga [.bool b1, .slice p1 m1 c1] 118]) (fun _ _=>0)
 case atStart=>exact⟨rfl,H⟩
 case round=>
  clear H;obtain⟨rfl,H⟩:=hrel;revert H;refine W15 ?_;intro H _ _ _ _ _ _ _;(refine x_c H (zjM k (HA1.out.fr H.fr) hn hk) ?_;clear H;rintro e w1 ⟨v3,rfl,hF,hB⟩ H;replace hF:=hF.kp;obtain⟨b3,p3,m3,c3,rfl⟩:=hB.form;have HB3:=hid hB;clear hB);simp only[Int.not_lt,Int.not_le]at*;revert H;refine W15 ?_;intro _ _ w1 H hk;refine zk H rfl rfl rfl ?_;exact⟨_,rfl,H.fr,(bv HB3).c⟩
def zfw{b:Bool}{p:Option Addr}{m c:Nat}(h:Av w (.agg #[.bool b, .slice p m c]) x n)(hn:n≤200000)(hx:bl x.natAbs+e≤65536)(he: -65536≤e)(hT:La w):
 Calls Tryz.prog 143 #[.agg #[.bool false, .bool b, .slice p m c, .int .i64 e]] w fun r w'=>∃v1,r= .returned (.tuple #[v1, .bool true])∧Fr [] w w'∧Dn w' v1 x e:=by
 have HT:=hid hT;have HA1:=hid h;have hdl:=h.dl;clear h hT;have H:=Hp.start [] w
 by_cases h0:x=0
 ·have HZ:=hid h0;subst h0
  go_enter Tryz.func143,Tryz.ntmps143
  simp only[Int.not_lt,Int.not_le]at*;revert H;refine W15 ?_;intro _ _ _ _ _ g w1 hg H hf _ _ _ _;(refine x_c H (zhI (av HA1) hn) ?_;clear H;rintro e w1 ⟨v3,rfl,hF,hB⟩ H;replace hF:=hF.kp;obtain⟨b3,p3,m3,c3,rfl⟩:=hB.form;have HB3:=hid hB;clear hB);simp only[Int.not_lt,Int.not_le]at*;revert H;refine W15 ?_;intro g _ hg hf w1 H hk _ _ _ _ _ _;(refine xK H (zdF (bv HB3).ar hn rfl) ?_;clear H;intro w1 hF H);simp only[Int.not_lt,Int.not_le]at*;revert H;refine W15 ?_;intro w1 H hk;refine zi H rfl rfl rfl rfl ?_;exact⟨_,rfl,H.fr,0,0,false,none,0,0,rfl, .inl ⟨rfl,rfl,rfl⟩,(zbq _)⟩
 ·have HX:=hid h0;have hz1:=zlK _ _ (zay x.natAbs);have hz2:tz x.natAbs≤1048576:=by omega
  clear h0
  go_enter Tryz.func143,Tryz.ntmps143
  revert H;refine W15 ?_;intro _ _ _ _ _ g w1 hg H hf _ _ _ _;(refine x_c H (zhI (av HA1) hn) ?_;clear H;rintro e w1 ⟨v3,rfl,hF,hB⟩ H;replace hF:=hF.kp;obtain⟨b3,p3,m3,c3,rfl⟩:=hB.form;have HB3:=hid hB;clear hB);simp only[Int.not_lt,Int.not_le]at*;revert H;refine W15 ?_;intro g _ hg hf w1 H hk _ _ _ _ _ _;(refine x_c H (zbv (bv HB3).ar hn HX.out) ?_;clear H;rintro e w1 ⟨s4,rfl,hs4,hF⟩ H;replace hF:=hF.kp;skip);simp only[Int.not_lt,Int.not_le]at*;revert H;refine W15 ?_;intro H _ _ _ _;(refine xK H (zbK (bv HB3).ar hn (HT.out.fr H.fr).1) ?_;clear H;intro w1 hF H);simp only[Int.not_lt,Int.not_le]at*;revert H;refine W15 ?_;intro H _ _ _ _
  (revert H;refine zR 13 (.st 0 (.st 1 (.st 2 (.ld 3 (.st 4 (.st 5 (.st 6 (.st 7 (.st 8 (.st 9 (.st 10 (.st 11 (.st 12 .done))))))))))))) ?_;intro w1 hf H;(first|replace hf:=hf.kp|clear hf))
  iterate 3 refine p_q ?_
  ((refine p_c H rfl rfl Tryz.func213 (zbi (bv HB3).ar hn) ?_;clear H;rintro e w1 ⟨rfl,hF⟩ H;refine p_r ?_;replace hF:=hF.kp);skip)
  iterate 3 refine p_q ?_
  iterate 5 (first|refine p_q ?_|refine p_n ?_)
  refine p_q ?_;(refine zf ?_)
  all_goals
   revert H;refine W15 ?_;intro H _ _
   (revert H;refine zR 8 (.st 0 (.st 1 (.st 3 (.st 4 (.st 5 (.st 6 (.ld 2 (.st 7 (.ldf 8 (.st 9 .done)))))))))) ?_;intro w1 hf H;(first|replace hf:=hf.kp|clear hf))
   iterate 6 refine p_q ?_
   ((refine p_c H rfl rfl Tryz.func214 (zfb (tz x.natAbs) (bv HB3).ar hn hz2) ?_;clear H;rintro e w1 ⟨v5,rfl,hF,hB⟩ H;refine p_r ?_;replace hF:=hF.kp);obtain⟨b5,p5,m5,c5,rfl⟩:=hB.form;have HB5:=hid hB;clear hB)
   (refine p_e rfl (fun w H=>zlA rfl rfl rfl) ?_)
   (revert H;refine zmV ?_;intro w1 hf H hk;clear hf;change Kp _ _ at hk)
   refine p_q ?_;(refine zf ?_)
   all_goals
    revert H;refine W15 ?_;intro H;refine zi H rfl rfl rfl rfl ?_;exact⟨_,rfl,H.fr,_,_,_,_,_,_,rfl,Nm.norm HX.out,bv HB5⟩
def zhK(h:Dn w v x e)(hb:bl x.natAbs≤65536)(hx:bl x.natAbs+e≤65536)(he: -65536≤e)(hT:La w):
 Calls Tryz.prog 143 #[v] w fun r w'=>∃v1,r= .returned (.tuple #[v1, .bool true])∧Fr [] w w'∧Dn w' v1 x e:=by
 obtain⟨m,e',b,p,n,c,rfl,h1,h2⟩:=h;have hl:=h1.le;refine Calls.mono (zfw h2.ar yb yb yb hT) ?_;rintro r w' ⟨v1,rfl,hF,m2,e2,b2,p2,n2,c2,rfl,g1,g2⟩;exact⟨_,rfl,hF,_,_,_,_,_,_,rfl,h1.trans g1,g2⟩
def zcj(h:Av w u x n)(hn:n≤200000)(hx:bl x.natAbs+e≤65536)(he: -65536≤e)(hT:La w):
 Calls Tryz.prog 141 #[u, .int .i64 e] w fun r w'=>∃v1,r= .returned v1∧Fr [] w w'∧Dn w' v1 x e:=by
 obtain⟨b1,p1,m1,c1,rfl⟩:=h.form;have HA1:=hid h;have HT:=hid hT;clear h hT;have H:=Hp.start [] w
 go_enter Tryz.func141,Tryz.ntmps141
 revert H;refine W15 ?_;intro _ _ _ _ _ g w1 hg H hf _ _ _ _;(refine x_c H (zfw (av HA1) hn hx he (HT.out.fr H.fr)) ?_;clear H;rintro e w1 ⟨v3,rfl,hF,hD⟩ H;replace hF:=hF.kp;obtain⟨m3,e3,b3,p3,n3,c3,rfl,hN,hB⟩:=hD;have HN3:=hid hN;have HB3:=hid hB;clear hN hB);simp only[Int.not_lt,Int.not_le]at*;revert H;refine W15 ?_;intro g _ hg hf _ _ w1 H hk;refine zk H rfl rfl rfl ?_;exact⟨_,rfl,H.fr,_,_,_,_,_,_,rfl,HN3.out,bv HB3⟩
def za4(h:Av w u x n)(hn:n≤200000)(hx:bl x.natAbs≤65536)(hT:La w):
 Calls Tryz.prog 119 #[u] w fun r w'=>∃v1,r= .returned v1∧Fr [] w w'∧Dn w' v1 x 0:=by
 obtain⟨b1,p1,m1,c1,rfl⟩:=h.form;have HA1:=hid h;have HT:=hid hT;clear h hT;have H:=Hp.start [] w
 go_enter Tryz.func119,Tryz.ntmps119
 revert H;refine W15 ?_;intro _ _ _ _ _ g w1 hg H hf _ _ _ _;(refine x_c H (zcj (av HA1) hn yb yb (HT.out.fr H.fr)) ?_;clear H;rintro e w1 ⟨v3,rfl,hF,hD⟩ H;replace hF:=hF.kp;obtain⟨m3,e3,b3,p3,n3,c3,rfl,hN,hB⟩:=hD;have HN3:=hid hN;have HB3:=hid hB;clear hN hB);simp only[Int.not_lt,Int.not_le]at*;revert H;refine W15 ?_;intro w1 H hk;refine zk H rfl rfl rfl ?_;exact⟨_,rfl,H.fr,_,_,_,_,_,_,rfl,HN3.out,bv HB3⟩
def zfm(w:World)(z:Int)(hz:inr .i64 z)(hT:La w):
 Calls Tryz.prog 184 #[.int .i64 z] w fun r w'=>∃v1,r= .returned v1∧Fr [] w w'∧Dn w' v1 z 0:=by
 have HT:=hid hT;clear hT;have hb:bl z.natAbs≤64:=zbC (by have: -9223372036854775808≤z∧z≤9223372036854775807:=hz;omega);have H:=Hp.start [] w
 go_enter Tryz.func184,Tryz.ntmps184
 revert H;refine W15 ?_;intro _ g w1 hg H hf _ _ _ _;(refine x_c H (zO _ z hz) ?_;clear H;rintro e w1 ⟨v2,rfl,hF,hB⟩ H;replace hF:=hF.kp;obtain⟨b2,p2,m2,c2,rfl⟩:=hB.form;have HB2:=hid hB;clear hB);simp only[Int.not_lt,Int.not_le]at*;revert H;refine W15 ?_;intro H _ _;(refine x_c H (zcj (bv HB2).ar yb yb yb (HT.out.fr H.fr)) ?_;clear H;rintro e w1 ⟨v3,rfl,hF,hD⟩ H;replace hF:=hF.kp;obtain⟨m3,e3,b3,p3,n3,c3,rfl,hN,hB⟩:=hD;have HN3:=hid hN;have HB3:=hid hB;clear hN hB);simp only[Int.not_lt,Int.not_le]at*;revert H;refine W15 ?_;intro w1 H hk;refine zk H rfl rfl rfl ?_;exact⟨_,rfl,H.fr,_,_,_,_,_,_,rfl,HN3.out,bv HB3⟩
def zfn(h:Dn w v x e)(hb:bl x.natAbs≤65536)(hx:bl x.natAbs+e≤65536)(he: -65536≤e)(hT:La w):
 Calls Tryz.prog 179 #[v] w fun r w'=>∃v1,r= .returned v1∧Fr [] w w'∧Dn w' v1 x e:=by
 have HD:=hid h;obtain⟨m1,e1,b1,p1,n1,c1,rfl,h1,h2⟩:=h;have HT:=hid hT;clear h1 h2 hT;have H:=Hp.start [] w
 go_enter Tryz.func179,Tryz.ntmps179
 revert H;refine W15 ?_;intro _ _ _ _ _ g w1 hg H hf _ _ _ _;(refine x_c H (zhK (dn HD) hb hx he (HT.out.fr H.fr)) ?_;clear H;rintro e w1 ⟨v3,rfl,hF,hD⟩ H;replace hF:=hF.kp;obtain⟨m3,e3,b3,p3,n3,c3,rfl,hN,hB⟩:=hD;have HN3:=hid hN;have HB3:=hid hB;clear hN hB);simp only[Int.not_lt,Int.not_le]at*;revert H;refine W15 ?_;intro _ _ w1 H hk;refine zk H rfl rfl rfl ?_;exact⟨_,rfl,H.fr,_,_,_,_,_,_,rfl,HN3.out,bv HB3⟩
def zfe(h:Dn w v x e)(hb:bl x.natAbs≤65536)(hx:bl x.natAbs+e≤65536)(he: -65536≤e)(hT:La w):
 Calls Tryz.prog 180 #[v] w fun r w'=>r= .returned (.int .i64 (Int.sign x))∧Fr [] w w':=by
 have HD:=hid h;obtain⟨m1,e1,b1,p1,n1,c1,rfl,h1,h2⟩:=h;have HT:=hid hT;clear h1 h2 hT;have H:=Hp.start [] w
 go_enter Tryz.func180,Tryz.ntmps180
 revert H;refine W15 ?_;intro _ g w1 hg H hf _ _ _ _;(refine x_c H (zhK (dn HD) hb hx he (HT.out.fr H.fr)) ?_;clear H;rintro e w1 ⟨v3,rfl,hF,hD⟩ H;replace hF:=hF.kp;obtain⟨m3,e3,b3,p3,n3,c3,rfl,hN,hB⟩:=hD;have HN3:=hid hN;have HB3:=hid hB;clear hN hB);have hl:=HN3.out.le;simp only[Int.not_lt,Int.not_le]at*;revert H;refine W15 ?_;intro w1 H hk _ _ _ _;(refine xK H (zhL (bv HB3).ar yb) ?_;clear H;intro w1 hF H);simp only[Int.not_lt,Int.not_le]at*;revert H;refine W15 ?_;intro H
 go_ret
 exact⟨by rw[←HN3.out.sign];rfl,H.fr⟩
end
def zri{x e m e' Z:Int}(h:Nm x e m e')(hodd:x=0∨m.natAbs%2=1)(hZ:x*2^e.toNat=Z*2^(-e).toNat):0≤e'∧Z=m*2^e'.toNat:=by
 have hp:∀n:Nat,(2:Int)^n≠0:=fun n=>Int.ne_of_gt (Int.pow_pos yf)
 rcases h with⟨h1,h2,h3⟩|⟨h1,t,h2,h3⟩
 ·subst h1 h2 h3;refine⟨Int.le_refl _,?_⟩;rw[Int.zero_mul]at hZ ⊢
  rcases Int.mul_eq_zero.1 hZ.symm with g|g
  ·exact g
  ·exact absurd g (hp _)
 ·have ho:=hodd.resolve_left h1;have key:m*2^(t+e.toNat)=Z*2^(-e).toNat:=by rw[Int.pow_add,←Int.mul_assoc,←h2];exact hZ
  by_cases hneg:e'<0
  ·exfalso
   obtain⟨A,hA⟩:∃A,t+e.toNat=A:=⟨_,rfl⟩;obtain⟨B,hB⟩:∃B,(-e).toNat-A-1=B:=⟨_,rfl⟩;have h4:(-e).toNat=A+(B+1):=by omega
   rw[hA,h4,Int.pow_add,Int.pow_succ]at key
   have h5:m=Z*2^B*2:=by
    have:m*2^A=Z*2^B*2*2^A:=by rw[key];simp only[Int.mul_assoc,Int.mul_comm,Int.mul_left_comm]
    exact Int.eq_of_mul_eq_mul_right (hp _) this
   rw[h5,Int.natAbs_mul]at ho
   simp at ho
  ·refine⟨by omega,?_⟩;have h4:t+e.toNat=e'.toNat+(-e).toNat:=by omega
   rw[h4,Int.pow_add,←Int.mul_assoc]at key;exact(Int.eq_of_mul_eq_mul_right (hp _) key).symm
section
open Go.RowKit
attribute [local irreducible] wpList Code.wp Plan.wp
def zbG(sym j i:Nat):List En:=((List.range i).filter fun i=>may sym i j).map fun i=>(i,j,0)
def zaJ(sym m:Nat)(j:Nat):List En:=(List.range j).flatMap fun j=>zbG sym j m
def zoO(sym j i:Nat):zbG sym j (i+1)=zbG sym j i++if may sym i j=true then [(i,j,0)]else []:=by
 unfold zbG;rw[List.range_succ,List.filter_append,List.map_append]
 congr 1
 by_cases h:may sym i j=true<;>simp[h]
def zc8(sym m j:Nat):zaJ sym m (j+1)=zaJ sym m j++zbG sym j m:=by
 unfold zaJ;rw[List.range_succ,List.flatMap_append]
 simp
def zid(sym j i:Nat):(zbG sym j i).length≤i:=by
 unfold zbG;rw[List.length_map];exact Nat.le_trans (List.length_filter_le _ _) (by rw[List.length_range];exact Nat.le_refl _)
def zov(sym m j:Nat):(zaJ sym m j).length≤j*m:=by
 induction j with
 | zero=>simp[zaJ]
 | succ j ih=>rw[zc8,List.length_append,Nat.succ_mul];have:=zid sym j m;omega
def zfE(sym m n:Nat):zaJ sym m n=(zbd sym m n).map fun p=>(p.1,p.2,0):=by
 unfold zaJ zbd zbG;rw[List.map_flatMap]
 congr 1
 funext j
 rw[List.map_map]
 rfl
def ziJ(w:World)(h:Hd)(hs2:h.sym≤2)(m n:Nat)(hm:m≤200)(hn:n≤200):
 Calls Tryz.prog 72 #[zbO h, .int .i64 (m:Int), .int .i64 (n:Int)] w fun e w'=>∃v,e= .returned v∧Fr [] w w'∧w'.ownsRow w.heap.size 75 3 v (zaJ h.sym m n).length ((zaJ h.sym m n).flatMap eC):=by
 obtain⟨arr,field,sym⟩:=h;simp only at hs2;unfold zbO;have H:=(Hp.start [] w).newRow 0 (e:=75) (sz:=3)
 go_enter Tryz.func72,Tryz.ntmps72
 revert H;refine W55 ?_;intro _ g w1 hg H hf _ _
 go_loopw [7,11] (fun s7 s11 wr=>∃(j:Nat) (v:Value) (S:List Nat),s11= .int .i64 (j:Int)∧j≤n∧s7=v∧Hp [] w wr [.blk g [.int .i64 0, .int .i64 0, .slice none 0 0, .slice none 0 0, .slice none 0 0, .bool arr, .int .i64 (field:Int), .int .i64 (sym:Int)] 30, .obj 0 S (RowAt 75 3 v (zaJ sym m j).length ((zaJ sym m j).flatMap eC) S)]) (fun _ v _=>n-(intOf v).toNat)
 case atStart=>exact⟨0,_,_,rfl,Nat.zero_le _,rfl,H⟩
 case round=>
  clear H;obtain⟨j,v,S,rfl,hj,hv,H⟩:=hrel;obtain⟨p5,c5,he,_,hc5,_⟩:=(H.rowo 0).form;unfold maxLen at hc5;subst he;subst hv;have hX:=zov sym m j
  by_cases hlt:j<n
  ·have hjm:j*m≤40000:=by calc j*m≤200*200:=Nat.mul_le_mul yb yb
    _≤40000:=by decide
   revert H;refine W55 ?_;intro H _ _ _
   go_loopw [7,15] (fun s7 s15 wr=>∃(i:Nat) (v:Value) (S:List Nat),s15= .int .i64 (i:Int)∧i≤m∧s7=v∧Hp [] w wr [.blk g [.int .i64 0, .int .i64 0, .slice none 0 0, .slice none 0 0, .slice none 0 0, .bool arr, .int .i64 (field:Int), .int .i64 (sym:Int)] 30, .obj 0 S (RowAt 75 3 v (zaJ sym m j++zbG sym j i).length ((zaJ sym m j++zbG sym j i).flatMap eC) S)]) (fun _ v _=>m-(intOf v).toNat)
   case atStart=>exact⟨0,_,S,rfl,Nat.zero_le _,rfl,by rw[show zbG sym j 0=[]from rfl,List.append_nil];exact H⟩
   case round=>
    clear H;obtain⟨i,v,S,rfl,hi,hv,H⟩:=hrel;obtain⟨p6,c6,he,_,hc6,_⟩:=(H.rowo 0).form;unfold maxLen at hc6;subst he;subst hv;have hY:=zid sym j i;have hXY:(zaJ sym m j++zbG sym j i).length≤40200:=by rw[List.length_append];omega
    obtain⟨Y,hYe⟩:∃Y,zaJ sym m j++zbG sym j i=Y:=⟨_,rfl⟩;have HY:=hid hYe;rw[hYe]at hXY H ⊢;clear hYe hX hY
    by_cases hlt2:i<m
    ·obtain⟨b,hb0⟩:∃b,may sym i j=b:=⟨_,rfl⟩;have hb:=hid hb0;have hnx:=hid (zoO sym j i);rw[hb0]at hnx;clear hb0;revert H;refine W55 ?_;intro H _ _ _ _ _ _ _;(refine xA H (zbW _ sym i j hs2 hb) ?_;clear H;intro w1 H)
     cases b
     ·replace hnx:=hid (show zbG sym j (i+1)=zbG sym j i by rw[hnx.out,if_neg yf,List.append_nil]);simp only[Int.not_lt,Int.not_le]at*;revert H;refine W55 ?_;intro H
      go_roundw
      case rel=>exact⟨i+1,_,S,rfl,by omega,rfl,by rw[hnx.out,HY.out];exact H⟩
      case measure=>(simp[intOf];try omega)
     ·replace hnx:=hid (show zbG sym j (i+1)=zbG sym j i++[(i,j,0)] by rw[hnx.out,if_pos rfl]);simp only[Int.not_lt,Int.not_le]at*;revert H;refine W56 ?_;intro g _ hg hf p1 c1 w1 S' H
      go_roundw
      case rel=>exact⟨i+1,_,S',rfl,by omega,rfl,by rw[hnx.out,←List.append_assoc,HY.out,List.length_append,List.flatMap_append];exact H.sub yd⟩
      case measure=>(simp[intOf];try omega)
    ·have e:i=m:=by omega
     subst e;revert H;refine W55 ?_;intro H _ _ _
     go_roundw
     case rel=>exact⟨j+1,_,S,rfl,by omega,rfl,by rw[zc8,HY.out];exact H⟩
     case measure=>(simp[intOf];try omega)
  ·have e:j=n:=by omega
   subst e;revert H;refine W55 ?_;intro H _ _ _;(refine bodyPost_ret (results_tmp rfl _ _ _) rfl ?_);exact⟨_,rfl,H.fr,RowAt.owns (H.rowo 0) (fun x hx=>(H.home 0 x hx).resolve_left yg)⟩
end
end Go.Proofs.YtaijhllckmndhaaGreatDoor
