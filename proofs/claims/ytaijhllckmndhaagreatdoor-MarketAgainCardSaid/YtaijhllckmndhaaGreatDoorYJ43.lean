import Derived.Test.YtaijhllckmndhaaGreatDoorYJ0
import Derived.Test.YtaijhllckmndhaaGreatDoorYJ27
import Derived.Test.YtaijhllckmndhaaGreatDoorYJ42
import Derived.Test.YtaijhllckmndhaaGreatDoorYJ41
import Derived.Test.YtaijhllckmndhaaGreatDoorYJ35
import Derived.Test.YtaijhllckmndhaaGreatDoorYJ33
import Derived.Test.YtaijhllckmndhaaGreatDoorYJ21
import Derived.Test.YtaijhllckmndhaaGreatDoorYJ19
namespace Go.Proofs.YtaijhllckmndhaaGreatDoor
set_option linter.all false
set_option maxHeartbeats 64000000
set_option maxRecDepth 100000
section
variable {neg b:Bool} {n c kk X:Nat} {w:World} {p:Option Addr} {e x en:Int} {v:Value} {s:List UInt8}
open Go.RowKit
def zeq{f:Nat}(h:f<9223372036854775808):zJ neg f<18446744073709551616:=by unfold zJ;split<;>omega
def zkE(neg:Bool)(mode:Int):zaK neg mode<18446744073709551616:=by unfold zaK;refine zeq ?_;split<;>omega
def zru(neg:Bool)(mode:Int)(u:Int)(h:n≤9007199254740992):zab neg mode n u<18446744073709551616:=by
 by_cases h1:n<4503599627370496
 ·rw[zeB h1];exact zeq yb
 ·by_cases h2:n=9007199254740992
  ·subst h2;rw[pack_full]
   split
   ·exact zkE _ _
   ·exact zeq yb
  ·rw[zdC yb h2]
   split
   ·exact zkE _ _
   ·exact zeq yb
def zlB(neg:Bool)(mode:Int){N D:Nat}(e:Int)(hN:0<N)(hD:0<D):zK neg mode N D e<18446744073709551616:=by
 obtain⟨u,hu⟩:∃u,max (lg N D+e-52) (-1074)=u:=⟨_,rfl⟩;have h1:=(zgg hN hD hu).1;have h2:=(zcp neg mode (N*2^(e-u).toNat) (D*2^(u-e).toNat)).2;unfold zK;simp only[hu];exact zru _ _ _ yb
def znE(M:Nat)(s:List UInt8)(mode:Int):(dpz M s mode).1<18446744073709551616:=by
 unfold dpz
 split
 ·decide
 ·split
  ·decide
  ·split
   ·decide
   ·unfold zck
    split
    ·exact zeq yf
    ·rename_i h0;unfold dvF;exact zlB _ _ _ (Nat.mul_pos (Nat.pos_of_ne_zero h0) (zD _)) (zD _)
def zlj(z:Int):zdc z<18446744073709551616:=by
 unfold zdc
 split
 ·decide
 ·exact zlB _ _ _ yb yf
def zbX(w:World){b:Nat}(hb:b<18446744073709551616){z:Bool}(hz:Hid (zS b=z)):
 Calls Tryz.prog 89 #[.int .u64 (b:Int)] w fun r w'=>r= .returned (.bool z)∧Fr [] w w':=by
 have H:=Hp.start [] w;obtain⟨x,hx0⟩:∃x,b/4503599627370496%2048=x:=⟨_,rfl⟩;obtain⟨y,hy0⟩:∃y,b%4503599627370496=y:=⟨_,rfl⟩;have hx:=hid hx0;have hy:=hid hy0;have hzz:=hz.out;unfold zS at hzz;rw[hx0]at hzz;clear hx0 hy0 hz
 by_cases hn:x=2047
 ·have HZ:Hid (z=false):=hid (by rw[←hzz,hn];rfl);have hn':(x:Int)=2047:=by omega
  clear hzz
  go_enter Tryz.func89,Tryz.ntmps89
  revert H;refine W15 ?_;intro H _ _ _ _ _;(refine xK H (zaD _ hb hx hy) ?_;clear H;intro w1 hF H);simp only[Int.not_lt,Int.not_le]at*;revert H;refine W15 ?_;intro H
  go_ret
  exact⟨by rw[HZ.out];first|rfl|skip,H.fr⟩
 ·have HZ:Hid (z=true):=hid (by rw[←hzz];simpa using hn);have hn':¬(x:Int)=2047:=by omega
  clear hzz
  go_enter Tryz.func89,Tryz.ntmps89
  revert H;refine W15 ?_;intro H _ _ _ _ _;(refine xK H (zaD _ hb hx hy) ?_;clear H;intro w1 hF H);simp only[Int.not_lt,Int.not_le]at*;revert H;refine W15 ?_;intro H
  go_ret
  exact⟨by rw[HZ.out];first|rfl|skip,H.fr⟩
def ztY{k M:Nat}(h:Bv w (.agg #[.bool b, .slice p k c]) (M:Int) kk)(hM:0<M)(hb:bl M≤100000)(he: -1000000≤e∧e≤1000000):Rl w (.agg #[.bool neg, .bool b, .slice p k c, .int .i64 e, .bool false]) neg M 1 e:=
 ⟨b,p,k,c,0,M,e,false,rfl,h.c,hM,Nat.one_pos,by simp,by omega,by omega,by simp[Nat.mod_one], .inl (by simp[Nat.mod_one]),hb,he.1,he.2⟩
def zp4{m:Int}(h:Bv w (.agg #[.bool b, .slice p n c]) m kk)(hk:kk≤60000)(hm:m≠0)(hb:bl m.natAbs≤60000)(he: -60000≤e∧e≤60000):
 Calls Tryz.prog 182 #[.agg #[.bool false, .bool b, .slice p n c, .int .i64 e]] w fun r w'=>∃v1,r= .returned v1∧Fr [] w w'∧Rl w' v1 b m.natAbs 1 e:=by
 have HB:=hid h;clear h;have H:=Hp.start [] w
 go_enter Tryz.func182,Tryz.ntmps182
 revert H;refine W15 ?_;intro _ _ _ _ _ g w1 hg H hf _ _
 (revert H;refine zR 9 (.st 0 (.st 1 (.st 2 (.st 3 (.st 4 (.st 6 (.st 7 (.ld 5 (.st 8 (.ld 9 .done)))))))))) ?_;intro w1 hf H;(first|replace hf:=hf.kp|clear hf))
 iterate 4 refine p_q ?_
 (refine p_l ?_)
 iterate 2 refine p_q ?_
 ((refine p_c H rfl rfl Tryz.func245 (zfd (bv HB).ar yb) ?_;clear H;rintro e w1 ⟨v5,rfl,hF,hB⟩ H;refine p_r ?_;replace hF:=hF.kp);obtain⟨b5,p5,m5,c5,rfl⟩:=hB.form;have HB5:=hid hB;clear hB)
 refine p_q ?_
 (revert H;refine zZ ?_;intro w1 hf H hk;clear hf;change Kp _ _ at hk)
 (refine zf ?_)
 all_goals
  revert H;refine W15 ?_;intro H;refine zk H rfl rfl rfl ?_;exact⟨_,rfl,H.fr,ztY (bv HB5) yb yb yb⟩
def zj5(h:Dn w v x e)(hb:bl x.natAbs≤65536)(hx:bl x.natAbs+e≤65536)(he: -65536≤e)(hT:La w){s:Int}(hs:Hid (Int.sign x=s)):
 Calls Tryz.prog 180 #[v] w fun r w'=>r= .returned (.int .i64 s)∧Fr [] w w':=by
 rw[←hs.out];exact zfe h hb hx he hT
def zcB(mode:Int)(h:Dn w v x e)(hb:bl x.natAbs≤40000)(he: -20000≤e∧e≤20000)(hT:La w)(hX:Hid (X=if x=0 then 0 else zK (decide (x<0)) mode x.natAbs 1 e)):
 Calls Tryz.prog 118 #[v, .int .i64 mode] w fun r w'=>r= .returned (.int .u64 (X:Int))∧Fr [] w w':=by
 have HD:=hid h;obtain⟨m1,e1,b1,p1,n1,c1,rfl,h1,h2⟩:=h;have HT:=hid hT;clear h1 h2 hT;have H:=Hp.start [] w
 go_enter Tryz.func118,Tryz.ntmps118
 revert H;refine W15 ?_;intro _ g w1 hg H hf _ _ _ _;(refine x_c H (zfn (dn HD) yb yb yb (HT.out.fr H.fr)) ?_;clear H;rintro e w1 ⟨v3,rfl,hF,hD⟩ H;replace hF:=hF.kp;have HD3:=hid hD;obtain⟨m3,e3,b3,p3,n3,c3,rfl,hN,hB⟩:=hD;have HN3:=hid hN;have HB3:=hid hB;clear hN hB);have hl3:=HN3.out.le
 by_cases hx:x=0
 ·have HX0:Hid (X=0):=hid (by rw[hX.out,if_pos hx]);have hsg:Hid (Int.sign x=0):=hid (by rw[hx];rfl);clear hX;simp only[Int.not_lt,Int.not_le]at*;revert H;refine W15 ?_;intro w1 H hk _ _ _ _ _ _;(refine xK H (zj5 (dn HD3) yb yb yb (HT.out.fr H.fr) hsg) ?_;clear H;intro w1 hF H);simp only[Int.not_lt,Int.not_le]at*;revert H;refine W15 ?_;intro H
  go_ret
  exact⟨by rw[HX0.out];rfl,H.fr⟩
 ·have HM0:=hid (HN3.out.ne hx);obtain⟨s,hs0⟩:∃s,Int.sign x=s:=⟨_,rfl⟩;have hsg:=hid hs0;have hsn:¬s=0:=by rw[←hs0];intro h0;exact hx (Int.sign_eq_zero_iff_zero.1 h0)
  have HX3:Hid (X=zK b3 mode m3.natAbs 1 e3):=hid (by
   have e1:=(zhV HB3.out).trans HN3.out.neg;have e2:=zgM b3 mode HN3.out (Nm.refl (x:=1) (e:=0) yf) hx yf;rw[Int.sub_zero,Int.sub_zero]at e2;rw[hX.out,if_neg hx,←e1]
   exact e2.symm)
  clear hX hs0;simp only[Int.not_lt,Int.not_le]at*;revert H;refine W15 ?_;intro w1 H hk _ _ _ _ _ _;(refine xK H (zj5 (dn HD3) yb yb yb (HT.out.fr H.fr) hsg) ?_;clear H;intro w1 hF H);simp only[Int.not_lt,Int.not_le]at*;revert H;refine W15 ?_;intro H _ _ _ _;(refine x_c H (zp4 (bv HB3) yb HM0.out yb yb) ?_;clear H;rintro e w1 ⟨v4,rfl,hF,hR⟩ H;replace hF:=hF.kp;have HR:=hid hR;clear hR);simp only[Int.not_lt,Int.not_le]at*;revert H;refine W15 ?_;intro H _ _;(refine xK H (zf0 mode HR.out (HT.out.fr H.fr)) ?_;clear H;intro w1 hF H);simp only[Int.not_lt,Int.not_le]at*;revert H;refine W15 ?_;intro H
  go_ret
  exact⟨by rw[HX3.out];rfl,H.fr⟩
def zj4(w:World){z:Int}(h:Hid (pz s=(z,en)))(hs:s.length≤2000000):
 Calls Tryz.prog 117 #[ze s] w fun e w'=>∃v1,e= .returned (.tuple #[v1, .int .i64 en])∧Fr [] w w'∧Bv w' v1 z 1024:=by
 have e1:z=(pz s).1:=by rw[h.out]
 have e2:en=(pz s).2:=by rw[h.out]
 rw[e1,e2];exact zh5 w s hs
def zif(w:World)(h:Hid (dpz 1024 s 0=(X,en)))(hT:La w):
 Calls Tryz.prog 120 #[ze s, .int .i64 0] w fun r w'=>r= .returned (.tuple #[.int .u64 (X:Int), .int .i64 en])∧Fr [] w w':=by
 have e1:X=(dpz 1024 s 0).1:=by rw[h.out]
 have e2:en=(dpz 1024 s 0).2:=by rw[h.out]
 rw[e1,e2];exact zgJ w s 0 hT
def ziu(w:World)(s:List UInt8)(field:Nat)(hf2:field≤2)(hs:s.length≤2000000)(hT:La w){o:Option Nat}(ho:Hid (zai field s=o)):
 Calls Tryz.prog 74 #[ze s, .int .i64 (field:Int)] w fun e w'=>∃f b,e= .returned (.tuple #[.int .u64 ((f:Nat):Int), .bool b])∧Fr [] w w'∧f<18446744073709551616∧b=o.isSome∧∀f',o=some f'→f'=f:=by
 have HT:=hid hT;clear hT;have H:=Hp.start [] w
 by_cases h1:field=1
 ·subst h1;obtain⟨z,en,hz0⟩:∃z en,pz s=(z,en):=⟨_,_,rfl⟩
  have hfv:o=if en=0∧zS (zdc z)=true then some (zdc z)else none:=by
   rw[←ho.out];unfold zai;rw[if_pos rfl,hz0]
  have HFV:=hid hfv;have HZ:=hid hz0;obtain⟨X,hX0⟩:∃X,zdc z=X:=⟨_,rfl⟩;have hXl:X<18446744073709551616:=by rw[←hX0];exact zlj z
  have HX:=hid (show X=if z=0 then 0 else zK (decide (z<0)) 0 z.natAbs 1 0 by rw[←hX0];rfl);obtain⟨fz,hfz0⟩:∃b,zS X=b:=⟨_,rfl⟩;have HFZ:=hid hfz0;clear hz0 hfv ho
  go_enter Tryz.func74,Tryz.ntmps74
  by_cases hen:en=0
  ·subst hen;have HO:Hid (o=if fz=true then some X else none):=hid (by rw[HFV.out,hX0,hfz0];simp);clear HFV hX0 hfz0;revert H;refine W67 ?_;intro H _ _ _ _ _ _ _;(refine x_c H (zj4 _ HZ hs) ?_;clear H;rintro e w1 ⟨v3,rfl,hF,hB⟩ H;replace hF:=hF.kp;obtain⟨b3,p3,m3,c3,rfl⟩:=hB.form;have HB3:=hid hB;clear hB);simp only[Int.not_lt,Int.not_le]at*;revert H;refine W67 ?_;intro g _ hg hf w1 H hk _ _ _ _;have hbl:=zjj HB3.out.2;(refine x_c H (za4 (bv HB3).ar yb yb (HT.out.fr H.fr)) ?_;clear H;rintro e w1 ⟨v4,rfl,hF,hD⟩ H;replace hF:=hF.kp;have HD4:=hid hD;obtain⟨m4,e4,b4,p4,n4,c4,rfl,hN,hB⟩:=hD;have HN4:=hid hN;have HB4:=hid hB;clear hN hB);simp only[Int.not_lt,Int.not_le]at*;revert H;refine W67 ?_;intro H _ _;(refine xK H (zcB 0 (dn HD4) yb yb (HT.out.fr H.fr) HX) ?_;clear H;intro w1 hF H);simp only[Int.not_lt,Int.not_le]at*;revert H;refine W67 ?_;intro H _ _ _ _
   (refine xK H (zbX _ hXl HFZ) ?_;clear H;intro w1 hF H)
   cases fz
   ·simp only[Int.not_lt,Int.not_le]at*;revert H;refine W67 ?_;intro H;refine bodyPost_ret (results_tmp2 rfl _ _ _) rfl ?_;refine⟨X,false,rfl,H.fr,hXl,by rw[HO.out];rfl,fun f' h=>?_⟩;rw[HO.out]at h;cases h
   ·simp only[Int.not_lt,Int.not_le]at*;revert H;refine W67 ?_;intro H;refine bodyPost_ret (results_tmp2 rfl _ _ _) rfl ?_;refine⟨X,true,rfl,H.fr,hXl,by rw[HO.out];rfl,fun f' h=>?_⟩;rw[HO.out]at h;cases h;rfl
  ·have HO:Hid (o=none):=hid (by rw[HFV.out,if_neg (fun k=>hen k.1)]);clear HFV hX0 hfz0;revert H;refine W67 ?_;intro H _ _ _ _ _ _ _;(refine x_c H (zj4 _ HZ hs) ?_;clear H;rintro e w1 ⟨v3,rfl,hF,hB⟩ H;replace hF:=hF.kp;obtain⟨b3,p3,m3,c3,rfl⟩:=hB.form;have HB3:=hid hB;clear hB);simp only[Int.not_lt,Int.not_le]at*;revert H;refine W67 ?_;intro g _ hg hf w1 H hk _ _ _ _;have hbl:=zjj HB3.out.2;(refine x_c H (za4 (bv HB3).ar yb yb (HT.out.fr H.fr)) ?_;clear H;rintro e w1 ⟨v4,rfl,hF,hD⟩ H;replace hF:=hF.kp;have HD4:=hid hD;obtain⟨m4,e4,b4,p4,n4,c4,rfl,hN,hB⟩:=hD;have HN4:=hid hN;have HB4:=hid hB;clear hN hB);simp only[Int.not_lt,Int.not_le]at*;revert H;refine W67 ?_;intro H _ _;(refine xK H (zcB 0 (dn HD4) yb yb (HT.out.fr H.fr) HX) ?_;clear H;intro w1 hF H);simp only[Int.not_lt,Int.not_le]at*;revert H;refine W67 ?_;intro H;refine bodyPost_ret (results_tmp2 rfl _ _ _) rfl ?_
   refine⟨X,false,rfl,H.fr,hXl,by rw[HO.out];rfl,fun f' h=>?_⟩;rw[HO.out]at h;cases h
 ·have h1':¬(field:Int)=1:=by omega
  obtain⟨X,en,hz0⟩:∃X en,dpz 1024 s 0=(X,en):=⟨_,_,rfl⟩
  have hfv:o=if en=0∧zS X=true then some X else none:=by
   rw[←ho.out];unfold zai;rw[if_neg h1,hz0]
  have HFV:=hid hfv;have HZ:=hid hz0;have hXl:X<18446744073709551616:=by have:=znE 1024 s 0;rw[hz0]at this;exact this
  obtain⟨fz,hfz0⟩:∃b,zS X=b:=⟨_,rfl⟩;have HFZ:=hid hfz0;clear hz0 hfv ho
  go_enter Tryz.func74,Tryz.ntmps74
  by_cases hen:en=0
  ·subst hen;have HO:Hid (o=if fz=true then some X else none):=hid (by rw[HFV.out,hfz0];simp);clear HFV hfz0;revert H;refine W67 ?_;intro H _ _ _ _ _;(refine xK H (zif _ HZ (HT.out.fr H.fr)) ?_;clear H;intro w1 hF H);simp only[Int.not_lt,Int.not_le]at*;revert H;refine W67 ?_;intro H _ _ _ _;(refine xK H (zbX _ hXl HFZ) ?_;clear H;intro w1 hF H)
   cases fz
   ·simp only[Int.not_lt,Int.not_le]at*;revert H;refine W67 ?_;intro H;refine bodyPost_ret (results_tmp2 rfl _ _ _) rfl ?_;refine⟨X,false,rfl,H.fr,hXl,by rw[HO.out];rfl,fun f' h=>?_⟩;rw[HO.out]at h;cases h
   ·simp only[Int.not_lt,Int.not_le]at*;revert H;refine W67 ?_;intro H;refine bodyPost_ret (results_tmp2 rfl _ _ _) rfl ?_;refine⟨X,true,rfl,H.fr,hXl,by rw[HO.out];rfl,fun f' h=>?_⟩;rw[HO.out]at h;cases h;rfl
  ·have HO:Hid (o=none):=hid (by rw[HFV.out,if_neg (fun k=>hen k.1)]);clear HFV hfz0;revert H;refine W67 ?_;intro H _ _ _ _ _;(refine xK H (zif _ HZ (HT.out.fr H.fr)) ?_;clear H;intro w1 hF H);simp only[Int.not_lt,Int.not_le]at*;revert H;refine W67 ?_;intro H;refine bodyPost_ret (results_tmp2 rfl _ _ _) rfl ?_;refine⟨X,false,rfl,H.fr,hXl,by rw[HO.out];rfl,fun f' h=>?_⟩;rw[HO.out]at h;cases h
end
section
open Go.RowKit
attribute [local irreducible] wpList Code.wp Plan.wp
def zbl(w:World)(x lo hi:Int){b:Bool}(hb:Hid (decide (lo≤x∧x≤hi)=b)):
 Calls Tryz.prog 63 #[.int .i64 x, .int .i64 lo, .int .i64 hi] w fun e w'=>e= .returned (.bool b)∧Fr [] w w':=by
 have H:=Hp.start [] w
 go_enter Tryz.func63,Tryz.ntmps63
 by_cases h1:lo≤x
 ·by_cases h2:x≤hi
  ·have HB:Hid (b=true):=hid (by rw[←hb.out];simp[h1,h2]);revert H;refine W55 ?_;intro H;(refine bodyPost_ret (results_tmp rfl _ _ _) rfl ?_);exact⟨by rw[HB.out];rfl,H.fr⟩
  ·have HB:Hid (b=false):=hid (by rw[←hb.out];simp[h2]);simp only[Int.not_lt,Int.not_le]at*;revert H;refine W55 ?_;intro H;(refine bodyPost_ret (results_tmp rfl _ _ _) rfl ?_);exact⟨by rw[HB.out];rfl,H.fr⟩
 ·have HB:Hid (b=false):=hid (by rw[←hb.out];simp[h1]);simp only[Int.not_lt,Int.not_le]at*;revert H;refine W55 ?_;intro H;(refine bodyPost_ret (results_tmp rfl _ _ _) rfl ?_);exact⟨by rw[HB.out];rfl,H.fr⟩
def zte(m n:Nat)(hm:m<18446744073709551616)(hn:n<18446744073709551616):bits .xor .u64 (m:Int) (n:Int)=((m ^^^ n:Nat):Int):=by
 have h1:(BitVec.ofInt 64 (m:Int)).toNat=m:=by
  rw[BitVec.ofInt_natCast,BitVec.toNat_ofNat];exact Nat.mod_eq_of_lt yb
 have h2:(BitVec.ofInt 64 (n:Int)).toNat=n:=by
  rw[BitVec.ofInt_natCast,BitVec.toNat_ofNat];exact Nat.mod_eq_of_lt yb
 have h3:m ^^^ n<18446744073709551616:=Nat.xor_lt_two_pow (n:=64) yb yb
 show IntKind.u64.wrap ((BitVec.ofInt 64 (m:Int) ^^^ BitVec.ofInt 64 (n:Int)).toNat:Int)=_
 rw[BitVec.toNat_xor,h1,h2];exact zdO _ rfl h3
def zss(m:Nat)(hm:m<18446744073709551616):m ^^^ 9223372036854775808=zbV m:=by
 have hb:∀i,i<63→Nat.testBit 9223372036854775808 i=false:=by
  intro i hi;exact Nat.testBit_two_pow_of_ne (n:=63) yb
 unfold zbV
 by_cases h:m<9223372036854775808
 ·rw[if_pos h];have e:=Nat.two_pow_add_eq_or_of_lt (i:=63) (b:=m) yM 1;have e2:(2:Nat)^63*1=9223372036854775808:=by decide
  rw[e2]at e;rw[Nat.add_comm,e]
  apply Nat.eq_of_testBit_eq
  intro i;rw[Nat.testBit_xor,Nat.testBit_or]
  by_cases hi:i<63
  ·rw[hb i hi];simp
  ·have hmi:m.testBit i=false:=Nat.testBit_lt_two_pow (Nat.lt_of_lt_of_le (show m<2^63 by simpa using h) (Nat.pow_le_pow_right yf yb));rw[hmi];simp
 ·rw[if_neg h];obtain⟨k,rfl⟩:∃k,m=9223372036854775808+k:=⟨m-9223372036854775808,by omega⟩;have hk:k<9223372036854775808:=by omega
  have e:=Nat.two_pow_add_eq_or_of_lt (i:=63) (b:=k) (by simpa using hk) 1;have e2:(2:Nat)^63*1=9223372036854775808:=by decide
  rw[e2]at e;rw[Nat.add_sub_cancel_left,e]
  apply Nat.eq_of_testBit_eq
  intro i;rw[Nat.testBit_xor,Nat.testBit_or]
  by_cases hi:i<63
  ·rw[hb i hi];simp
  ·have hmi:k.testBit i=false:=Nat.testBit_lt_two_pow (Nat.lt_of_lt_of_le (show k<2^63 by simpa using hk) (Nat.pow_le_pow_right yf yb));rw[hmi];simp
section
variable {P:Program} {a:Act} {o:Oper} {w:World}
def zvy{t t':TypeId}{x y:Operand}(ho:o.op= .binOp .xor t x y t'){m r:Nat}(hx:a.eval x= .int .u64 (m:Int))(hy:a.eval y= .int .u64 9223372036854775808)(hm:m<18446744073709551616)(hr:Hid (zbV m=r)):(execOp a.eval o).run P w= .ok (.value (.int .u64 (r:Int))) w:=
 za1 ho hx hy (fun w=>by
  show(pure (Value.int .u64 (bits .xor .u64 (m:Int) ((9223372036854775808:Nat):Int))):Sem Value).run P w=_
  rw[zte _ _ hm yf,zss _ hm,hr.out]
  rfl)
end
def zjs(w:World){b r:Nat}{k:Int}(hb:b<18446744073709551616)(hk:Hid (zax b=k))(hk3:¬k=3)(hr:Hid (zbV b=r)):
 Calls Tryz.prog 76 #[.int .u64 (b:Int)] w fun e w'=>e= .returned (.int .u64 (r:Int))∧Fr [] w w':=by
 have H:=Hp.start [] w;have HD:Hid (decide (zax b=3)=false):=hid (by rw[hk.out];exact decide_eq_false hk3)
 go_enter Tryz.func76,Tryz.ntmps76
 revert H;refine W55 ?_;intro _ _ _ _ _ g w1 hg H hf _ _;refine x_c H (zjl hb (H.blkCell (.head _) (o:=0) rfl)) ?_;clear H;rintro e w1 ⟨rfl,hF⟩ H;clear hF;rw[HD.out];simp only[Int.not_lt,Int.not_le]at*;revert H;refine W68 ?_;intro H;(refine bodyPost_ret (results_tmp rfl _ _ _) rfl ?_);exact⟨rfl,H.fr⟩
end
section
variable {f sym i j m n:Nat} {x:En} {L:List En}
def zrB(h:f<18446744073709551616):zS (zbV f)=zS f:=by
 unfold zS zbV
 split
 ·rename_i k;have e:(f+9223372036854775808)/4503599627370496%2048=f/4503599627370496%2048:=by omega
  rw[e]
 ·rename_i k;have e:(f-9223372036854775808)/4503599627370496%2048=f/4503599627370496%2048:=by omega
  rw[e]
def zts(h:f<18446744073709551616):zbV f<18446744073709551616:=by unfold zbV;split<;>omega
def zjY(h:zS f=true):¬zax f=3:=by
 unfold zS at h;unfold zax;simp only[bne_iff_ne,ne_eq]at h;rw[if_neg h]
 split<;>decide
def okE(sym m n:Nat)(x:En):Prop:=x.1<m∧x.2.1<n∧may sym x.1 x.2.1=true∧zS x.2.2=true∧x.2.2<18446744073709551616
def zfB(h:may sym i j=true):sym=0∨j<i∨(sym=1∧i=j):=by
 unfold may at h;simp only[Bool.or_eq_true,beq_iff_eq,decide_eq_true_eq,Bool.and_eq_true]at h
 rcases h with(h|h)|h
 ·exact .inl h
 ·exact .inr (.inl h)
 ·exact .inr (.inr h)
def ztf(h:may sym i j=true)(hi:1≤i)(hj:1≤j):may sym (i-1) (j-1)=true:=by
 unfold may
 rcases zfB h with k|k|⟨k,k2⟩
 ·simp[k]
 ·have:j-1<i-1:=by omega
  simp[this]
 ·subst k2;simp[k]
def zlq{field:Nat}{s:List UInt8}(h:zai field s=some f):zS f=true∧f<18446744073709551616:=by
 unfold zai at h
 split at h
 ·split at h
  ·rename_i k;cases h;exact⟨k.2,zlj _⟩
  ·cases h
 ·split at h
  ·rename_i k;cases h;exact⟨k.2,znE _ _ _⟩
  ·cases h
def zs3{p:Nat×Nat}(h:p∈zbd sym m n):p.1<m∧p.2<n∧may sym p.1 p.2=true:=by
 unfold zbd at h;rw[List.mem_flatMap]at h;obtain⟨j,hj,h⟩:=h;obtain⟨i,hi,rfl⟩:=List.mem_map.1 h;obtain⟨h1,h2⟩:=List.mem_filter.1 hi;exact⟨List.mem_range.1 h1,List.mem_range.1 hj,h2⟩
def zuc{h:Hd}{k:Nat}{w:List (List UInt8)}(hk:h.arr=true→k<(zbd h.sym m n).length)(he:one h m n k w=some x):okE h.sym m n x:=by
 unfold one at he
 split at he
 ·rename_i ha
  split at he
  ·obtain⟨f,hf,rfl⟩:=Option.map_eq_some_iff.1 he
   have h1:(zbd h.sym m n).getD k (0,0)∈zbd h.sym m n:=by
    rw[List.getD_eq_getElem?_getD,List.getElem?_eq_getElem (hk ha)];exact List.getElem_mem _
   have h2:=zs3 h1;have h3:=zlq hf;exact⟨h2.1,h2.2.1,h2.2.2,h3.1,h3.2⟩
  ·cases he
 ·split at he
  ·cases he
  ·rename_i p hp
   have hb:p.1<m∧p.2<n∧may h.sym p.1 p.2=true:=by
    unfold zdo at hp;simp only[]at hp;obtain⟨g,hp⟩:=Option.ite_none_right_eq_some.1 hp
    ·have hp:=Option.some.inj hp;subst hp;exact⟨by have:=g.2.2.2.1;have:=g.2.2.2.2.1;omega,by have:=g.2.2.2.2.2.1;have:=g.2.2.2.2.2.2.1;omega,ztf g.2.2.2.2.2.2.2 g.2.2.2.1 g.2.2.2.2.2.1⟩
   split at he
   ·have he:=Option.some.inj he;subst he;exact⟨hb.1,hb.2.1,hb.2.2,(by show zS 4607182418800017408=true;decide),(by show 4607182418800017408<18446744073709551616;decide)⟩
   ·obtain⟨f,hf,rfl⟩:=Option.map_eq_some_iff.1 he;have h3:=zlq hf;exact⟨hb.1,hb.2.1,hb.2.2,h3.1,h3.2⟩
def zsn(h:zcz L x=false):∀y∈L,apE y x:=by
 intro y hy k;unfold zcz at h;rw[List.any_eq_false]at h;exact h y hy (by simp[k.1,k.2])
def zhG{h:Hd}{m n N:Nat}:∀ {k:Nat} {L:List En} {ls:List (Nat×List (List UInt8))} {L':List En} {r:List (Nat×List (List UInt8))},(h.arr=true→L.length+k≤(zbd h.sym m n).length)→(L.Pairwise apE∧∀x∈L,okE h.sym m n x)→zac h m n N k L ls= .ok (L',r)→(L'.Pairwise apE∧∀x∈L',okE h.sym m n x)∧L'.length=L.length+k
 | 0,L,ls,L',r,_,hL,he=>by
  unfold zac at he
  cases he
  exact⟨hL,rfl⟩
 | k+1,L,[],L',r,_,hL,he=>by unfold zac at he;cases he
 | k+1,L,(i,w)::ls,L',r,hk,hL,he=>by
  unfold zac at he
  split at he
  ·cases he
  ·rename_i x hx
   split at he
   ·cases he
   ·rename_i hs;have hs':zcz L x=false:=by simpa using hs
    have:=zhG (k:=k) (L:=L++[x]) (fun ha=>by have:=hk ha;rw[List.length_append];simp only[List.length_cons,List.length_nil];omega) ⟨by
     rw[List.pairwise_append];exact⟨hL.1,List.pairwise_singleton _ _,fun a ha b hb=>by rw[List.mem_singleton]at hb;subst hb;exact zsn hs' a ha⟩,fun y hy=>by
     rcases List.mem_append.1 hy with g|g
     ·exact hL.2 y g
     ·rw[List.mem_singleton]at g;subst g;exact zuc (fun ha=>by have:=hk ha;omega) hx⟩ he
    refine⟨this.1,?_⟩;rw[this.2,List.length_append];simp only[List.length_cons,List.length_nil]
    omega
def okM(m n:Nat)(L:List En):Prop:=L.Pairwise apE∧∀x∈L,x.1<m∧x.2.1<n∧zS x.2.2=true∧x.2.2<18446744073709551616
def zlu(hL:L.Pairwise apE∧∀x∈L,okE sym m n x)(hs:sym=0∨m=n):okM m n (zz sym L):=by
 obtain⟨h1,h2⟩:=hL
 have hf:∀x∈L.filter (fun x=> !(sym==0||x.1==x.2.1)),x∈L∧¬sym=0∧x.2.1<x.1:=by
  intro x hx;obtain⟨k1,k2⟩:=List.mem_filter.1 hx;simp only[Bool.not_eq_true',Bool.or_eq_false_iff,beq_eq_false_iff_ne,ne_eq]at k2
  rcases zfB (h2 x k1).2.2.1 with g|g|⟨_,g⟩
  ·exact absurd g k2.1
  ·exact⟨k1,k2.1,g⟩
  ·exact absurd g k2.2
 unfold zz;refine⟨?_,?_⟩
 ·rw[List.pairwise_append];refine⟨h1,?_,?_⟩
  ·rw[List.pairwise_map];refine(h1.filter _).imp ?_;intro a b hab;unfold apE at*;simp only
   omega
  ·intro a ha b hb;obtain⟨y,hy,rfl⟩:=List.mem_map.1 hb;obtain⟨g1,g2,g3⟩:=hf y hy;unfold apE;simp only
   rcases zfB (h2 a ha).2.2.1 with g|g|⟨_,g⟩
   ·exact absurd g g2
   ·omega
   ·omega
 ·intro x hx
  rcases List.mem_append.1 hx with g|g
  ·have:=h2 x g;exact⟨this.1,this.2.1,this.2.2.2.1,this.2.2.2.2⟩
  ·obtain⟨y,hy,rfl⟩:=List.mem_map.1 g;obtain⟨g1,g2,g3⟩:=hf y hy;have hmn:m=n:=hs.resolve_left g2
   have:=h2 y g1
   unfold okE at this;simp only;refine⟨by omega,by omega,?_,?_⟩
   ·split
    ·rw[zrB this.2.2.2.2];exact this.2.2.2.1
    ·exact this.2.2.2.1
   ·split
    ·exact zts this.2.2.2.2
    ·exact this.2.2.2.2
def okM.perm{S:List En}(h:okM m n L)(p:L.Perm S):okM m n S:=⟨zfQ p h.1,fun x hx=>h.2 x (p.mem_iff.2 hx)⟩
def okM.entP(h:okM m n L):okM m n (entP L m n):=by
 refine⟨(zaS L m n).imp fun k=>k.ap,fun x hx=>h.2 x ?_⟩;exact(zdA h.1 (fun y hy=>⟨(h.2 y hy).1,(h.2 y hy).2.1⟩) x).1 hx
end
end Go.Proofs.YtaijhllckmndhaaGreatDoor
