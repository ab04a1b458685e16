import Derived.Test.YtaijhllckmndhaaGreatDoorYJ0
import Derived.Test.YtaijhllckmndhaaGreatDoorYJ10
import Derived.Deep.DeepCutAuto
import Derived.Deep.CutBlock
import Derived.Shelf.Small.Bits
import Derived.Shelf.Spec.TrailingZeros
namespace Go.Proofs.YtaijhllckmndhaaGreatDoor
set_option linter.all false
set_option maxHeartbeats 64000000
set_option maxRecDepth 100000
section
variable {a n c:Nat} {l:List Nat} {w:World} {p:Option Addr}
open Go.RowKit
def zrp{a b:List Nat}(ha:Lim a)(hb:Lim b){x:Nat}(hx:x≤val a+val b):(zd x).length≤a.length+b.length+1:=by
 apply zap
 have h1:=zaA ha;have h2:=zaA hb;have h3:4294967296^a.length≤4294967296^(a.length+b.length):=Nat.pow_le_pow_right yf yb;have h4:4294967296^b.length≤4294967296^(a.length+b.length):=Nat.pow_le_pow_right yf yb;rw[Nat.pow_succ]
 omega
def zdf(h:(zd a).length≤0):a=0:=zvi.1 (List.eq_nil_of_length_eq_zero yb)
def zbR(h:a≠0):0<(zd a).length:=by
 apply Classical.byContradiction
 intro hn;exact h (zdf yb)
def zlP{n:Bool}(h:(zd (val l)).length≤0):Int.sign (zv n l)=0:=by
 have:=zdf h
 unfold zv;rw[this];cases n<;>rfl
def zoY(h:0<(zd (val l)).length):Int.sign (zv false l)=1:=by
 have:val l≠0:=fun e=>by rw[e,zn]at h;simp at h
 unfold zv;exact Int.sign_eq_one_of_pos yn
def znF(h:0<(zd (val l)).length):Int.sign (zv true l)= -1:=by
 have:val l≠0:=fun e=>by rw[e,zn]at h;simp at h
 unfold zv;exact Int.sign_eq_neg_one_of_neg yn
def zgi(neg:Bool)(l:List Nat)(hl:l.length=n)(hn:n≤1000000)(h:LR w p c l):
 Calls Tryz.prog 211 #[.agg #[.bool neg, .slice p n c]] w fun e w'=>e= .returned (.int .i64 (Int.sign (zv neg l)))∧Fr [] w w':=by
 have Hh:=hid h;subst hl;have hle:=zI h.lim;have H:=Hp.start [] w;clear h
 rcases Nat.lt_or_ge 0 (zd (val l)).length with h0|h0
 ·cases neg
  ·have Hs:=hid (zoY h0)
   go_enter Tryz.func211,Tryz.ntmps211
   revert H;refine W00 ?_;intro _ g w1 hg H _ _ _ _ _ _;(refine x_c H (zt l rfl (Hh.out.fr H.fr)) ?_;clear H;rintro e w1 ⟨rfl,hF⟩ H);revert H;refine W00 ?_;intro H
   go_ret
   exact⟨by rw[Hs.out];rfl,H.fr⟩
  ·have Hs:=hid (znF h0)
   go_enter Tryz.func211,Tryz.ntmps211
   revert H;refine W00 ?_;intro _ g w1 hg H _ _ _ _ _ _;(refine x_c H (zt l rfl (Hh.out.fr H.fr)) ?_;clear H;rintro e w1 ⟨rfl,hF⟩ H);revert H;refine W00 ?_;intro H
   go_ret
   exact⟨by rw[Hs.out];rfl,H.fr⟩
 ·have Hs:=hid (zlP (n:=neg) h0)
  go_enter Tryz.func211,Tryz.ntmps211
  revert H;refine W00 ?_;intro _ g w1 hg H _ _ _ _ _ _;(refine x_c H (zt l rfl (Hh.out.fr H.fr)) ?_;clear H;rintro e w1 ⟨rfl,hF⟩ H);revert H;refine W00 ?_;intro H
  go_ret
  exact⟨by rw[Hs.out];rfl,H.fr⟩
def zly(z:Int): -1≤Int.sign z∧Int.sign z≤1:=by
 rcases Int.lt_trichotomy z 0 with h|h|h
 ·rw[Int.sign_eq_neg_one_of_neg h];decide
 ·rw[h];decide
 ·rw[Int.sign_eq_one_of_pos h];decide
def zij{x y:Int}(h:Int.sign x≠Int.sign y):zC x y=zC (Int.sign x) (Int.sign y):=by
 rcases Int.lt_trichotomy x 0 with h1|h1|h1<;>rcases Int.lt_trichotomy y 0 with h2|h2|h2<;>first
  | (exfalso;apply h;first|rw[Int.sign_eq_neg_one_of_neg h1,Int.sign_eq_neg_one_of_neg h2]|rw[h1,h2]|rw[Int.sign_eq_one_of_pos h1,Int.sign_eq_one_of_pos h2];done)
  | (first|rw[Int.sign_eq_neg_one_of_neg h1]|rw[h1]|rw[Int.sign_eq_one_of_pos h1]
     first|rw[Int.sign_eq_neg_one_of_neg h2]|rw[h2]|rw[Int.sign_eq_one_of_pos h2]
     first|exact zbr yb|exact zb2 yb)
def zq2{na nb:Bool}{la lb:List Nat}(h:Int.sign (zv na la)=Int.sign (zv nb lb)):Int.sign (zv na la)*zC (val la) (val lb)=zC (zv na la) (zv nb lb):=by
 rcases Int.lt_trichotomy (zv na la) 0 with h1|h1|h1
 ·rw[Int.sign_eq_neg_one_of_neg h1]at h ⊢;have h2:zv nb lb<0:=Int.sign_eq_neg_one_iff_neg.1 h.symm;unfold zv at*
  cases na<;>cases nb<;>simp at* <;>unfold zC<;>(repeat' split)<;>omega
 ·rw[h1]at h ⊢;have h2:zv nb lb=0:=Int.sign_eq_zero_iff_zero.1 h.symm;rw[h2]
  show 0*_=zC 0 0
  rw[zem,Int.zero_mul]
 ·rw[Int.sign_eq_one_of_pos h1]at h ⊢;have h2:0<zv nb lb:=Int.sign_eq_one_iff_pos.1 h.symm;unfold zv at*
  cases na<;>cases nb<;>simp at* <;>unfold zC<;>(repeat' split)<;>omega
def zlv(x y:Int): -1≤zC x y∧zC x y≤1:=by unfold zC;(repeat' split)<;>omega
def zsE{q:Option Addr}{m d:Nat}(na nb:Bool)(la lb:List Nat)(hn:la.length=n)(hm:lb.length=m)(hn0:n≤1000000)(hm0:m≤1000000)(h:LR w p c la)(k:LR w q d lb):
 Calls Tryz.prog 277 #[.agg #[.bool na, .slice p n c], .agg #[.bool nb, .slice q m d]] w fun e w'=>e= .returned (.int .i64 (zC (zv na la) (zv nb lb)))∧Fr [] w w':=by
 subst hn hm;have Hh:=hid h;have Hk:=hid k;have H:=Hp.start [] w;clear h k
 go_enter Tryz.func277,Tryz.ntmps277
 go_upto_region 1 with(first|refine x_q H ?_|refine zm (fun h=>?_) (fun h=>?_)|(revert H;(first|(refine x_g ?_;intro g w1 hg hf H)|(refine x_s ?_;intro w1 hf H));(try clear hf)))
 go_cut [2,3,5,6] (fun s2 s3 s5 s6 wx=>∃g1 g2:Nat,s2= .pointer (some ⟨g1,0,none⟩)∧s3= .pointer (some ⟨g2,0,none⟩)∧s5= .int .i64 (Int.sign (zv na la))∧s6= .int .i64 (Int.sign (zv nb lb))∧Hp [] w wx [.blk g2 [.bool nb, .slice q lb.length d] 118, .blk g1 [.bool na, .slice p la.length c] 118])
 case first=>
  (revert H;refine w_p 6 (.st 0 (.st 2 (.ld 1 (.ld 3 (.st 4 (.st 5 .done)))))) ?_;intro w1 H)
  iterate 2 refine p_q ?_
  ((refine p_c H rfl rfl Tryz.func211 (zgi na la rfl hn0 (Hh.out.fr H.fr)) ?_;clear H;rintro e w1 ⟨rfl,hF⟩ H;refine p_r ?_);skip)
  ((refine p_c H rfl rfl Tryz.func211 (zgi nb lb rfl hm0 (Hk.out.fr H.fr)) ?_;clear H;rintro e w1 ⟨rfl,hF⟩ H;refine p_r ?_);skip)
  iterate 2 refine p_q ?_
  (refine zf ?_)
  all_goals
   revert H;refine W00 ?_;intro H
   go_meet
   case rel=>exact⟨_,_,rfl,rfl,rfl,rfl,H⟩
 case rest=>
  clear H;obtain⟨g1,g2,rfl,rfl,rfl,rfl,H⟩:=hcut;have hs1:=zly (zv na la);have hs2:=zly (zv nb lb)
  rcases Int.lt_trichotomy (Int.sign (zv na la)) (Int.sign (zv nb lb))with hlt|heq|hgt
  ·have Hs:Hid (zC (zv na la) (zv nb lb)= -1):=hid (by rw[zij yb,zbr hlt]);revert H;refine W00 ?_;intro H _ _
   go_ret
   exact⟨by rw[Hs.out];rfl,H.fr⟩
  ·have Hs:=hid (zq2 heq);have hle1:Int.sign (zv na la)≤Int.sign (zv nb lb):=by omega
   have hle2:Int.sign (zv nb lb)≤Int.sign (zv na la):=by omega
   have hz:=zlv (val la) (val lb)
   have hi:inr IntKind.i64 (Int.sign (zv na la)*zC (val la) (val lb)):=by
    rw[Hs.out]
    have:=zlv (zv na la) (zv nb lb)
    show(-9223372036854775808:Int)≤_∧_≤(9223372036854775807:Int)
    omega
   clear heq;revert H;refine W00 ?_;intro H _ _
   (revert H;refine w_p 10 (.st 0 (.st 1 (.st 2 (.st 4 (.st 5 (.ld 3 (.ld 6 (.ld 7 (.st 8 (.st 9 .done)))))))))) ?_;intro w1 H)
   iterate 5 refine p_q ?_
   ((refine p_c H rfl rfl Tryz.func146 (zt la rfl (Hh.out.fr H.fr)) ?_;clear H;rintro e w1 ⟨rfl,hF⟩ H;refine p_r ?_);skip)
   ((refine p_c H rfl rfl Tryz.func146 (zt lb rfl (Hk.out.fr H.fr)) ?_;clear H;rintro e w1 ⟨rfl,hF⟩ H;refine p_r ?_);skip)
   ((refine p_c H rfl rfl Tryz.func300 (za5 (val la) (val lb) rfl rfl (Hh.out.trim.fr H.fr) (Hk.out.trim.fr H.fr)) ?_;clear H;rintro e w1 ⟨rfl,hF⟩ H;refine p_r ?_);skip)
   iterate 2 refine p_q ?_
   (refine zf ?_)
   all_goals
    revert H;refine W00 ?_;intro H
    go_ret
    exact⟨by rw[←Hs.out];rfl,H.fr⟩
  ·have Hs:Hid (zC (zv na la) (zv nb lb)=1):=hid (by rw[zij yb,zb2 hgt]);revert H;refine W00 ?_;intro H _ _
   go_ret
   exact⟨by rw[Hs.out];rfl,H.fr⟩
end
section
open Go.RowKit
def znI(neg:Bool)(M:Nat)(hM:M<18446744073709551616):zv neg [M%4294967296,M/4294967296]=if neg then -(M:Int)else(M:Int):=by
 have:val [M%4294967296,M/4294967296]=M:=by simp only[val];omega
 unfold zv;rw[this]
def znn{w:World}{g:Nat}{M:Nat}{x y:Int}{t:TypeId}(h:w.heap[g]? =some (.cells [[Value.int .u32 x],[Value.int .u32 y]].flatten.toArray t (0,0)))(hM:M<18446744073709551616)(hx:x=((M%4294967296:Nat):Int))(hy:y=((M/4294967296:Nat):Int)):LR w (some ⟨g,0,none⟩) 2 [M%4294967296,M/4294967296]:=by
 subst hx hy;exact LR.of_blk (pad:=[]) (by simpa[zj]using h) (Lim.cons yb (Lim.cons yb Lim.nil)) yg yk
def zkU(w:World)(z:Int)(hz:inr .i64 z):
 Calls Tryz.prog 138 #[.int .i64 z] w fun e w'=>Big e w w' z:=by
 have H:=Hp.start [] w;have hz': -9223372036854775808≤z∧z≤9223372036854775807:=hz
 by_cases h0:z<0
 ·have HD:=hid (decide_eq_true h0)
  go_enter Tryz.func138,Tryz.ntmps138
  revert H;refine W07 ?_;intro _ _ _ _ _ _ g w1 hg H _ _;obtain⟨M,hMz⟩:∃M:Nat,z= -(M:Int):=⟨(-z).toNat,by omega⟩;have hM:M<18446744073709551616:=by omega
  have e:IntKind.u64.wrap (-(z%18446744073709551616))=(M:Int):=by rw[IntKind.wrap_u64];omega
  have HZ:Hid (zv true [M%4294967296,M/4294967296]=z):=hid (by rw[znI _ _ hM,hMz];rfl);clear hMz;refine Calls.mono (zM true [M%4294967296,M/4294967296] rfl  (znn (H.at g) hM (by rw[e,zed hM]) (by rw[e];omega))) ?_;rintro e w1 ⟨p3,c3,rfl,hF,hL⟩;rw[HZ.out]at hL ⊢;have HB2:=hid hL;have H1:=H.step hF yg;clear H hF hL;have H:=H1;clear H1;simp only[Int.not_lt,Int.not_le]at*;revert H;refine W05 ?_;intro w1 H hk2;refine zk H rfl rfl rfl ?_;exact⟨p3,c3,by rw[HD.out],H.fr,hk2.out _ _ _ HB2.out⟩
 ·have HD:=hid (decide_eq_false h0)
  go_enter Tryz.func138,Tryz.ntmps138
  simp only[Int.not_lt,Int.not_le]at*;revert H;refine W07 ?_;intro _ _ _ _ _ _ g w1 hg H _ _;obtain⟨M,hMz⟩:∃M:Nat,z=(M:Int):=⟨z.toNat,by omega⟩;have hM:M<18446744073709551616:=by omega
  have HZ:Hid (zv false [M%4294967296,M/4294967296]=z):=hid (by rw[znI _ _ hM,hMz];rfl);have e1:z%4294967296=((M%4294967296:Nat):Int):=by omega
  have e2:z/4294967296=((M/4294967296:Nat):Int):=by omega
  clear hMz;refine Calls.mono (zM false [M%4294967296,M/4294967296] rfl  (znn (H.at g) hM e1 e2)) ?_;rintro e w1 ⟨p3,c3,rfl,hF,hL⟩;rw[HZ.out]at hL ⊢;have HB2:=hid hL;have H1:=H.step hF yg;clear H hF hL;have H:=H1;clear H1;simp only[Int.not_lt,Int.not_le]at*;revert H;refine W05 ?_;intro w1 H hk2;refine zk H rfl rfl rfl ?_;exact⟨p3,c3,by rw[HD.out],H.fr,hk2.out _ _ _ HB2.out⟩
end
section
open Go.RowKit
def zaq{α:Type}{l:List α}{i:Nat}{x:α}(h:l[i]? =some x):l.drop i=x::l.drop (i+1):=by
 obtain⟨hi,e⟩:=List.getElem?_eq_some_iff.1 h;rw[List.drop_eq_getElem_cons hi,e]
def znT{w:World}{p:Option Addr}{n c:Nat}(a:List Nat)(dv:Nat)(hn:a.length=n)(hn0:n≤1000000)(h:LR w p c a)(hd0:0<dv)(hdB:dv<4294967296):
 Calls Tryz.prog 147 #[.slice p n c, .int .u32 (dv:Int)] w fun e w'=>∃p' c',e= .returned (.tuple #[.slice p' (zd (val a/dv)).length c', .int .u32 ((val a%dv:Nat):Int)])∧Fr [] w w'∧LR w' p' c' (zd (val a/dv)):=by
 subst hn;have Hh:=hid h;clear h;have H:=Hp.start [] w
 go_enter Tryz.func147,Tryz.ntmps147
 revert H;refine W00 ?_;intro _ g w1 hg H _ _;rw[show((a.length:Int)).toNat=a.length by omega,za3]at H
 go_loopw [7,8] (fun s7 s8 wr=>∃(i r:Nat) (o:List Nat),i≤a.length∧s7= .int .u64 r∧s8= .int .i64 ((i:Int)-1)∧r<dv∧Hid (o.length=a.length)∧Hid (Lim o)∧Hid (val (a.drop i)=dv*val (o.drop i)+r)∧Hp [] w wr [.blk g (zj o) 160]) (fun _ v _=>(intOf v+1).toNat)
 case atStart=>exact⟨a.length,0,List.replicate a.length 0,Nat.le_refl _,rfl,rfl,hd0,hid List.length_replicate,hid (Lim.zeros _),hid (by rw[List.drop_eq_nil_of_le (Nat.le_refl _),List.drop_eq_nil_of_le (by rw[List.length_replicate];exact Nat.le_refl _)];simp[val]),H⟩
 case round=>
  clear H;obtain⟨i,r,o,hi,rfl,rfl,hr,Hol,Hlo,Hv,H⟩:=hrel
  by_cases h0:i=0
  ·have HV:Hid (val a=dv*val o+r):=hid (by
    have:=Hv.out
    rwa [h0,List.drop_zero,List.drop_zero]at this)
   have h0':(i:Int)-1<0:=by omega
   clear h0;revert H;refine W00 ?_;intro H _ _ _ _ _ _ _;have hL:LR _ (some ⟨g,0,none⟩) a.length o:=LR.of_blk (pad:=[]) yE Hlo.out yJ yk;have HL:=hid hL;have HQ:Hid (val o=val a/dv):=hid (by rw[HV.out,Nat.mul_add_div hd0,Nat.div_eq_of_lt hr,Nat.add_zero]);have HR:Hid (val a%dv=r):=hid (by rw[HV.out,Nat.mul_add_mod,Nat.mod_eq_of_lt hr]);refine Calls.mono (zt o Hol.out HL.out) ?_;rintro e w1 ⟨rfl,hF⟩;have HL2:=hid (hL.fr hF).trim;have H1:=H.step hF yg;clear H hF hL HL;have H:=H1;clear H1;revert H;refine W00 ?_;intro H;refine bodyPost_ret (results_tmp2 rfl _ _ _) rfl ?_;rw[HQ.out]at HL2;exact⟨_,_,by rw[HQ.out,HR.out];rfl,H.fr,HL2.out⟩
  ·obtain⟨j,rfl⟩:∃j,i=j+1:=⟨i-1,by omega⟩;obtain⟨x,hx⟩:∃x,a[j]? =some x:=⟨_,List.getElem?_eq_getElem yb⟩;have hxv:=limbs_at hx;have hxB:=Hh.out.lim.at hx;have Hx:=hid hx;clear hx h0;obtain⟨b0,off,rfl,hb0,hcell⟩:=Hh.out.rd.rng (zH (i:=j) yb);have H1:=H.pushRng (b:=b0) (off:=off) hb0 yg hcell;clear H hcell;have H:=H1;clear H1;have e1:(((j+1:Nat):Int)-1)=(j:Int):=by omega
   rw[e1];clear e1;have hjo:j<o.length:=by rw[Hol.out];omega
   obtain⟨ov,hov⟩:∃ov,o[j]? =some ov:=⟨_,List.getElem?_eq_getElem hjo⟩;have hovv:=limbs_at hov;have hlim:=zgE hr hxB;have Hlim:=hid hlim;clear hov hlim;revert H;refine W08 ?_;intro w1 H
   have e1:((r:Int)*4294967296+(x:Int))/(dv:Int)%4294967296=(((r*4294967296+x)/dv:Nat):Int):=by
    have e2:((r:Int)*4294967296+(x:Int))/(dv:Int)=(((r*4294967296+x)/dv:Nat):Int):=by rw[Int.natCast_ediv];congr 1
    rw[e2];have h:=Hlim.out;generalize (r*4294967296+x)/dv=q at h ⊢
    omega
   have e3:((r:Int)*4294967296+(x:Int))%(dv:Int)=(((r*4294967296+x)%dv:Nat):Int):=by rw[Int.natCast_emod];congr 1
   rw[e1,z7]at H;rw[e3]
   go_roundw
   case rel=>exact⟨j,(r*4294967296+x)%dv,o.set j ((r*4294967296+x)/dv),by omega,rfl,rfl,Nat.mod_lt _ hd0,hid yB,hid (Hlo.out.set _ Hlim.out),hid (by rw[zgC _ _ _ hjo,zaq Hx.out];simp only[val];exact zf1 Hv.out),H.sub yd⟩
   case measure=>(simp[intOf];try omega)
end
namespace Go.Proofs
open Go.Shelf
def Tryz.lays128_ren:Go.Shelf.Ren:=⟨fun| 128=>260|n=>n,fun| 51=>160| 3=>3| 4=>4| 46=>103| 5=>5| 9=>9|n=>n,fun|n=>n⟩
def Tryz.lays128:Go.Proofs.Lays.n128 Tryz.prog Tryz.lays128_ren:={
 mixed:=by kernel_rfl
 f128:=Tryz.func260.trans (congrArg some (by kernel_rfl))
 t3:=Tryz.underlying3
 a3:=Tryz.isAgg3
 z3:=Tryz.sizeOf3
 v3:=Tryz.zeroValue3
 t4:=Tryz.underlying4
 a4:=Tryz.isAgg4
 z4:=Tryz.sizeOf4
 v4:=Tryz.zeroValue4
 t5:=Tryz.underlying5
 a5:=Tryz.isAgg5
 z5:=Tryz.sizeOf5
 v5:=Tryz.zeroValue5
 t9:=Tryz.underlying9
 a9:=Tryz.isAgg9
 z9:=Tryz.sizeOf9
 v9:=Tryz.zeroValue9
 t46:=Tryz.underlying103
 a46:=Tryz.isAgg103
 z46:=Tryz.sizeOf103
 v46:=Tryz.zeroValue103
 t51:=Tryz.underlying160
 a51:=Tryz.isAgg160
 z51:=Tryz.sizeOf160
 v51:=Tryz.zeroValue160}
def Tryz.bits_Len32(x:Int)(w:World)(h0:0≤x)(h1:x≤4294967295):
 Calls Tryz.prog 260 #[.int .u32 x] w fun e w'=>e= .returned (.int .i64 (Lib.bitLen x.toNat))∧w'=w:=Any.bits_Len32 Tryz.lays128 x w h0 h1
def Tryz.lays133_ren:Go.Shelf.Ren:=⟨fun| 133=>305| 128=>260|n=>n,fun| 51=>160| 3=>3| 4=>4| 46=>103| 5=>5| 9=>9|n=>n,fun|n=>n⟩
def Tryz.lays133:Go.Proofs.Lays.n133 Tryz.prog Tryz.lays133_ren:={
 mixed:=by kernel_rfl
 f128:=Tryz.func260.trans (congrArg some (by kernel_rfl))
 f133:=Tryz.func305.trans (congrArg some (by kernel_rfl))
 t3:=Tryz.underlying3
 a3:=Tryz.isAgg3
 z3:=Tryz.sizeOf3
 v3:=Tryz.zeroValue3
 t4:=Tryz.underlying4
 a4:=Tryz.isAgg4
 z4:=Tryz.sizeOf4
 v4:=Tryz.zeroValue4
 t5:=Tryz.underlying5
 a5:=Tryz.isAgg5
 z5:=Tryz.sizeOf5
 v5:=Tryz.zeroValue5
 t9:=Tryz.underlying9
 a9:=Tryz.isAgg9
 z9:=Tryz.sizeOf9
 v9:=Tryz.zeroValue9
 t46:=Tryz.underlying103
 a46:=Tryz.isAgg103
 z46:=Tryz.sizeOf103
 v46:=Tryz.zeroValue103
 t51:=Tryz.underlying160
 a51:=Tryz.isAgg160
 z51:=Tryz.sizeOf160
 v51:=Tryz.zeroValue160}
def Tryz.bits_LeadingZeros32(x:Int)(w:World)(h0:0≤x)(h1:x≤4294967295):
 Calls Tryz.prog 305 #[.int .u32 x] w fun e w'=>e= .returned (.int .i64 (32-(Lib.bitLen x.toNat:Int)))∧w'=w:=Any.bits_LeadingZeros32 Tryz.lays133 x w h0 h1
end Go.Proofs
section
open Go.RowKit
def zrZ{x:Nat}(h:x≠0):bl x=1+bl (x/2):=by
 by_cases h1:x=1
 ·subst h1;rfl
 ·obtain⟨a1,a2⟩:=zb5 (n:=x/2) (by omega);have a3:=zay (x/2)
  have e:2^bl (x/2)=2*2^(bl (x/2)-1):=by
   obtain⟨k,hk⟩:∃k,bl (x/2)=k+1:=⟨bl (x/2)-1,by omega⟩;rw[hk,Nat.pow_succ,Nat.add_sub_cancel,Nat.mul_comm]
  rw[Nat.add_comm]
  apply zha
  ·omega
  ·rw[Nat.pow_succ];omega
def ze4:∀(f x:Nat),x<2^f→Lib.bitLenAux f x=bl x
 | 0,x,h=>by
  have:x=0:=by simpa using h
  subst this;rfl
 | f+1,x,h=>by
  unfold Lib.bitLenAux
  by_cases h0:x=0
  ·subst h0;rfl
  ·rw[if_neg h0,ze4 f (x/2) (by rw[Nat.pow_succ]at h;omega),zrZ h0]
def zhe{x:Nat}(h:x<4294967296):bl x≤32:=by
 apply Classical.byContradiction
 intro hn;have h0:x≠0:=fun e=>by rw[e,zlo]at hn;omega
 obtain⟨a1,_⟩:=zb5 h0
 have:2^32≤2^(bl x-1):=Nat.pow_le_pow_right (by decide) (by omega)
 omega
def Fr.same{T:List Nat}(w:World):Fr T w w:=(Hp.start T w).fr
def zoK(w:World){x:Nat}(h:x<4294967296):Calls Tryz.prog 260 #[.int .u32 (x:Int)] w fun e w'=>e= .returned (.int .i64 (bl x:Int))∧Fr [] w w':=by
 refine Calls.mono (Go.Proofs.Tryz.bits_Len32 (x:Int) w (by omega) (by omega)) ?_;rintro e w' ⟨rfl,rfl⟩;refine⟨?_,Fr.same _⟩
 have:Lib.bitLen ((x:Int)).toNat=bl x:=by rw[Int.toNat_natCast];exact ze4 64 x (by omega)
 rw[this]
def zmW(w:World){x:Nat}(h:x<4294967296):Calls Tryz.prog 305 #[.int .u32 (x:Int)] w fun e w'=>e= .returned (.int .i64 ((32-bl x:Nat):Int))∧Fr [] w w':=by
 refine Calls.mono (Go.Proofs.Tryz.bits_LeadingZeros32 (x:Int) w (by omega) (by omega)) ?_;rintro e w' ⟨rfl,rfl⟩;refine⟨?_,Fr.same _⟩
 have:Lib.bitLen ((x:Int)).toNat=bl x:=by rw[Int.toNat_natCast];exact ze4 64 x (by omega)
 have h2:=zhe h;rw[this,show(32:Int)-(bl x:Int)=((32-bl x:Nat):Int) by omega]
end
section
open Go.RowKit
def zgY(a b:Nat)(ha:a<4294967296)(hb:b<4294967296):bits .or .u32 (a:Int) (b:Int)=((a||| b:Nat):Int):=by
 have hx:a||| b<2^32:=Nat.or_lt_two_pow yb yb
 have h1:(BitVec.ofInt 32 (a:Int)).toNat=a:=by
  rw[BitVec.ofInt_natCast,BitVec.toNat_ofNat];exact Nat.mod_eq_of_lt yb
 have h2:(BitVec.ofInt 32 (b:Int)).toNat=b:=by
  rw[BitVec.ofInt_natCast,BitVec.toNat_ofNat];exact Nat.mod_eq_of_lt yb
 show IntKind.u32.wrap ((BitVec.ofInt 32 (a:Int)||| BitVec.ofInt 32 (b:Int)).toNat:Int)=_
 rw[BitVec.toNat_or,h1,h2];exact zX yl
def zuI(W i q x T:Nat):4294967296^W*(2^q*T)+4294967296^(W+i)*(x*2^q)=4294967296^W*(2^q*(T+4294967296^i*x)):=by
 rw[Nat.pow_add,Nat.mul_add,Nat.mul_add,Nat.mul_assoc,Nat.mul_comm x,Nat.mul_left_comm (4294967296^i)]
def zjO{w:World}{p:Option Addr}{n c:Nat}(a:List Nat)(s:Nat)(hn:a.length=n)(hn0:n≤1000000)(hs:s≤64000000)(h:LR w p c a):
 Calls Tryz.prog 215 #[.slice p n c, .int .i64 (s:Int)] w fun e w'=>∃p' c',e= .returned (.slice p' (zd (val a*2^s)).length c')∧Fr [] w w'∧LR w' p' c' (zd (val a*2^s)):=by
 subst hn;have Hh:=hid h;clear h;have H:=Hp.start [] w
 by_cases ha:a.length≤0
 ·have e:val a=0:=by rw[List.eq_nil_of_length_eq_zero (show a.length=0 by omega)];rfl
  have He:=hid e;clear e
  go_enter Tryz.func215,Tryz.ntmps215
  (try simp only[Int.not_lt,Int.not_le]at*);revert H;refine W00 ?_;intro H _ _ _
  go_ret
  rw[He.out,Nat.zero_mul,zn];exact⟨none,0,rfl,H.fr,LR.zero _⟩
 obtain⟨W,hW⟩:∃W,s/32=W:=⟨_,rfl⟩;obtain⟨q,hq⟩:∃q,s%32=q:=⟨_,rfl⟩;have ha1:0<a.length:=by omega
 have hq32:q<32:=by omega
 have HS:Hid (s=32*W+q):=hid yb;have HW:Hid ((s:Int)/32=(W:Int)):=hid yb;have HQ:Hid ((s:Int)%32=(q:Int)):=hid yb;clear ha hW hq
 go_enter Tryz.func215,Tryz.ntmps215
 (try simp only[Int.not_lt,Int.not_le]at*);revert H;refine W00 ?_;intro _ g w1 hg H _ _
 rw[show((s:Int)/32+(a.length:Int)+1).toNat=W+a.length+1 by have:=HW.out;omega,za3]at H;have hq2:0<2^q:=Nat.two_pow_pos q;rw[HW.out,HQ.out]
 go_loopw [27] (fun s27 wr=>∃(i o:Nat) (l:List Nat),i≤a.length∧s27= .int .i64 (i:Int)∧o<2^q∧Hid (l.length=W+a.length+1)∧Hid (Lim l)∧Hid (val l=4294967296^W*(2^q*val (a.take i)))∧Hid (l[W+i]? =some o)∧Hid (∀k,W+i<k→k<W+a.length+1→l[k]? =some 0)∧Hp [] w wr [.blk g (zj l) 160]) (fun v _=>a.length-(intOf v).toNat)
 case atStart=>exact⟨0,0,List.replicate (W+a.length+1) 0,Nat.zero_le _,rfl,hq2,hid List.length_replicate,hid (Lim.zeros _),hid (by rw[zda];simp[val]),hid (by rw[List.getElem?_replicate,if_pos yb]),hid (fun k _ hk=>by rw[List.getElem?_replicate,if_pos hk]),H⟩
 case round=>
  clear H;obtain⟨i,o,l,hi,rfl,ho,Hll,Hlim,Hv,Ho,Hz,H⟩:=hrel
  by_cases hin:i<a.length
  ·obtain⟨x,hx⟩:∃x,a[i]? =some x:=⟨_,List.getElem?_eq_getElem hin⟩;have hxv:=limbs_at hx;have hxB:=Hh.out.lim.at hx;have Hx:=hid hx;clear hx;obtain⟨b0,off,rfl,hb0,hcell⟩:=Hh.out.rd.rng (zH (i:=i) hin);have H1:=H.pushRng (b:=b0) (off:=off) hb0 yg hcell;clear H hcell;have H:=H1;clear H1
   have ht64:x*2^q<18446744073709551616:=by
    have h1:2^q≤2^31:=Nat.pow_le_pow_right yf yb;have h2:x*2^q≤4294967296*2^31:=Nat.mul_le_mul yb h1
    omega
   have hov:(zj l)[((W:Int)+(i:Int)).toNat]? =some (.int .u32 (o:Int)):=by rw[show((W:Int)+(i:Int)).toNat=W+i by omega];exact limbs_at Ho.out
   have hll:l.length=W+a.length+1:=Hll.out;have hW1:W+i+1<l.length:=by omega
   have hW2:W≤64000000:=by have:=HS.out;omega
   clear hll;have hqB:2^q≤2147483648:=Nat.pow_le_pow_right (show 0<2 by decide) (show q≤31 by omega);have E1:Hid (IntKind.u64.wrap ((x:Int)*2^q)=((x*2^q:Nat):Int)):=hid (zdO _ (by rw[Int.natCast_mul,Int.natCast_pow];rfl) ht64)
   have E2:Hid (bits BinOp.or IntKind.u32 (o:Int) ((x*2^q%4294967296:Nat):Int)=((x*2^q%4294967296+o:Nat):Int)):=hid (by
    rw[zgY _ _ yb (Nat.mod_lt _ yf),Nat.or_comm,zu1 hq32 hxB ho])
   have E3:=hid (zed ht64);have Hs1:=hid (ztx hq32 hxB ho);have Ht1:=hid (zsX (p:=q) hxB);have H64:=hid ht64;clear ht64
   (try simp only[Int.not_lt,Int.not_le]at*);revert H;refine W09 ?_;intro _ w1 H
   have E4:((x*2^q:Nat):Int)/4294967296%4294967296=((x*2^q/4294967296:Nat):Int):=by
    have:=Ht1.out
    have:=hqB
    omega
   rw[E1.out,E3.out,E2.out,E4,show((W:Int)+(i:Int)).toNat=W+i by omega,show((W:Int)+(i:Int)+1).toNat=W+i+1 by omega,z7,z7]at H
   go_roundw
   case rel=>exact⟨i+1,x*2^q/4294967296,(l.set (W+i) (x*2^q%4294967296+o)).set (W+i+1) (x*2^q/4294967296),by omega,by go_num,Ht1.out,hid (by rw[List.length_set,List.length_set];exact Hll.out),hid ((Hlim.out.set _ Hs1.out).set _ (by have:=Ht1.out;omega)),hid (by rw[zqJ Ho.out (Hz.out _ yb yb) Hv.out,zw Hx.out];exact zuI ..),hid (by rw[show W+(i+1)=W+i+1 by omega,List.getElem?_set_self (by rw[List.length_set];exact hW1)]),hid (fun k hk1 hk2=>by rw[List.getElem?_set_ne yb,List.getElem?_set_ne yb];exact Hz.out k yb hk2),H.sub yd⟩
   case measure=>(simp[intOf];try omega)
  ·have e:i=a.length:=by omega
   have HV:Hid (val l=val a*2^s):=hid (by
    rw[Hv.out,e,List.take_of_length_le (Nat.le_refl _),HS.out,Nat.pow_add,zeP,Nat.mul_comm (val a),Nat.mul_assoc])
   clear e;have hll:l.length=W+a.length+1:=Hll.out;have hW2:W≤64000000:=by have:=HS.out;omega
   (try simp only[Int.not_lt,Int.not_le]at*);revert H;refine W00 ?_;intro H _ _ _ _ _ _ _
   have hL:LR _ (some ⟨g,0,none⟩) (W+a.length+1) l:=LR.of_blk (pad:=[]) yE Hlim.out yb yk;have HL:=hid hL;refine Calls.mono (zt l hll HL.out) ?_;rintro e w1 ⟨rfl,hF⟩;have HL2:=hid (hL.fr hF).trim;have H1:=H.step hF yg;clear H hF hL HL;have H:=H1;clear H1
   (try simp only[Int.not_lt,Int.not_le]at*);revert H;refine W00 ?_;intro H
   go_ret
   rw[HV.out]at HL2;exact⟨_,_,by rw[HV.out];rfl,H.fr,HL2.out⟩
end
section
variable {w:World} {p:Option Addr} {n c:Nat}
open Go.RowKit
def zo1(w:World)(x:Nat):Calls Tryz.prog 274 #[.int .u32 (x:Int)] w fun e w'=>e= .returned (.bool (decide (x≠0)))∧Fr [] w w':=by
 have H:=Hp.start [] w
 by_cases h0:x=0
 ·have h0':(x:Int)≤0:=by omega
  have h1:0≤(x:Int):=by omega
  have Hd:=hid (decide_eq_false (p:=x≠0) yb);clear h0
  go_enter Tryz.func274,Tryz.ntmps274
  revert H;refine W00 ?_;intro H
  go_ret
  exact⟨by rw[Hd.out];rfl,H.fr⟩
 ·have h1:0<(x:Int):=by omega
  have Hd:=hid (decide_eq_true (p:=x≠0) h0);clear h0
  go_enter Tryz.func274,Tryz.ntmps274
  revert H;refine W00 ?_;intro H
  go_ret
  exact⟨by rw[Hd.out];rfl,H.fr⟩
def zf6(l:List Nat)(hl:l.length=n)(h:LR w p c l):
 Calls Tryz.prog 303 #[.slice p n c, .func (.func 274) #[] #[]] w fun e w'=>∃z:Int,e= .returned (.int .i64 z)∧(0≤z↔val l≠0)∧Fr [] w w':=by
 subst hl;obtain⟨hlc,hc⟩:=h.clen;have Hh:=hid h;clear h;have H:=Hp.start [] w
 go_enter Tryz.func303,Tryz.ntmps303
 revert H;refine W00 ?_;intro H _ _ _
 go_loopw [8] (fun s8 wr=>∃i:Nat,i≤l.length∧s8= .int .i64 (i:Int)∧Hid (val (l.take i)=0)∧Hp [] w wr []) (fun v _=>l.length-(intOf v).toNat)
 case atStart=>exact⟨0,Nat.zero_le _,rfl,hid rfl,H⟩
 case round=>
  clear H;obtain⟨i,hi,rfl,hv,H⟩:=hrel
  by_cases hin:i<l.length
  ·obtain⟨x,hx⟩:∃x,l[i]? =some x:=⟨_,List.getElem?_eq_getElem hin⟩;have hxv:=limbs_at hx;have Hx:=hid hx;clear hx;obtain⟨b0,off,rfl,hb0,hcell⟩:=Hh.out.rd.rng (zH (i:=i) hin);have H1:=H.pushRng (b:=b0) (off:=off) hb0 yg hcell;clear H hcell;have H:=H1;clear H1
   by_cases h0:x=0
   ·have Hd:=hid (decide_eq_false (p:=x≠0) yb);have HV:Hid (val (l.take (i+1))=0):=hid (by rw[zw Hx.out,hv.out,h0];simp);clear h0;revert H;refine W00 ?_;intro H _ _ _ _ _ _ _;(refine x_c H (zo1 _ x) ?_;clear H;rintro e w1 ⟨rfl,hF⟩ H);rw[Hd.out];revert H;refine W00 ?_;intro H
    go_roundw
    case rel=>exact⟨i+1,by omega,by go_num,HV,H.sub yd⟩
    case measure=>(simp[intOf];try omega)
   ·have Hd:=hid (decide_eq_true (p:=x≠0) h0)
    have HV:Hid (val l≠0):=hid (fun e=>h0 (by
     have:=zjy Hh.out.lim Hx.out
     rw[e]at this
     simpa using this.symm))
    clear h0;revert H;refine W00 ?_;intro H _ _ _ _ _ _ _;(refine x_c H (zo1 _ x) ?_;clear H;rintro e w1 ⟨rfl,hF⟩ H);rw[Hd.out];revert H;refine W00 ?_;intro H
    go_ret
    exact⟨(i:Int),rfl,⟨fun _=>HV.out,fun _=>by omega⟩,H.fr⟩
  ·have HV:Hid (val l=0):=hid (by rw[←hv.out,List.take_of_length_le yb]);revert H;refine W00 ?_;intro H _ _ _
   go_ret
   exact⟨-1,rfl,⟨fun h=>absurd h yf,fun h=>absurd HV.out h⟩,H.fr⟩
def zej(l:List Nat)(hl:l.length=n)(h:LR w p c l):
 Calls Tryz.prog 273 #[.slice p n c, .func (.func 274) #[] #[]] w fun e w'=>e= .returned (.bool (decide (val l≠0)))∧Fr [] w w':=by
 have Hh:=hid h;have Hl:=hid hl;clear h hl;have H:=Hp.start [] w
 by_cases h0:val l=0
 ·have Hd:=hid (decide_eq_false (p:=val l≠0) yb);have H0:=hid h0;clear h0
  go_enter Tryz.func273,Tryz.ntmps273
  revert H;refine W00 ?_;intro H _ _ _ _ _;refine Calls.mono (zf6 l Hl.out (Hh.out.fr H.fr)) ?_;rintro e w1 ⟨z,rfl,hz,hF⟩;have H1:=H.step hF yg;clear H;have H:=H1;clear H1
  have hz1:z<0:=by
   apply Classical.byContradiction
   intro hn;exact hz.1 yb H0.out
  clear hz;revert H;refine W00 ?_;intro H
  go_ret
  exact⟨by rw[Hd.out];rfl,H.fr⟩
 ·have Hd:=hid (decide_eq_true (p:=val l≠0) h0);have H0:=hid h0;clear h0
  go_enter Tryz.func273,Tryz.ntmps273
  revert H;refine W00 ?_;intro H _ _ _ _ _;refine Calls.mono (zf6 l Hl.out (Hh.out.fr H.fr)) ?_;rintro e w1 ⟨z,rfl,hz,hF⟩;have H1:=H.step hF yg;clear H;have H:=H1;clear H1;have hz1:0≤z:=hz.2 H0.out;clear hz;revert H;refine W00 ?_;intro H
  go_ret
  exact⟨by rw[Hd.out];rfl,H.fr⟩
end
section
variable {x y W q i k:Nat} {l:List Nat}
open Go.RowKit
def zpf{P:Program}{w:World}{a:Act}{o:Oper}{t t':TypeId}{x y:Operand}(ho:o.op= .binOp .or t x y t'){m n:Int}(hx:a.eval x= .int .u64 m)(hy:a.eval y= .int .u64 n)(h0:0≤n:=by omega)(h1:n<18446744073709551616:=by omega)(hm:n%4294967296=0:=by omega)(h2:0≤m:=by omega)(h3:m<4294967296:=by omega):(execOp a.eval o).run P w= .ok (.value (.int .u64 (m+n))) w:=
 za1 ho hx hy (fun w=>by
  have e:=bits_join .u64 64 yf (fun n h0 h1=>zX yl) 32 n m h0 yb yb h2 yb yb
  have e2:bits .or .u64 m n=bits .or .u64 n m:=by
   show IntKind.u64.wrap _=IntKind.u64.wrap _
   rw[BitVec.or_comm]
  show(pure (Value.int .u64 (bits .or .u64 m n)):Sem Value).run P w=_
  rw[e2,e,Int.add_comm];rfl)
def zj0(h:Lim l){Z:Nat}(hq:q<32)(hz:val (l.drop (W+i))%18446744073709551616=Z):val l/(4294967296^W*2^q)/4294967296^i%4294967296=Z/2^q%4294967296:=by
 rw[Nat.div_div_eq_div_mul,Nat.mul_assoc,Nat.mul_comm (2^q),←Nat.mul_assoc,←Nat.pow_add,←Nat.div_div_eq_div_mul,zeY h,zoN hq,hz]
def zqc(h:Lim l)(hx:l[k]? =some x)(hy:l[k+1]? =some y):val (l.drop k)%18446744073709551616=x+y*4294967296:=by
 have h1:=h.at hx;have h2:=h.at hy;rw[zaq hx,zaq hy];simp only[val]
 omega
def zrr(h:Lim l)(hx:l[k]? =some x)(hk:l.length≤k+1):val (l.drop k)%18446744073709551616=x:=by
 have h1:=h.at hx;rw[zaq hx,List.drop_eq_nil_of_le hk];simp only[val]
 omega
def zqD(hx:x<4294967296)(hy:y<4294967296)(q:Nat):bits BinOp.and IntKind.u64 (((x:Int)+(y:Int)*4294967296)/2^q) 4294967295%4294967296=(((x+y*4294967296)/2^q%4294967296:Nat):Int):=by
 have e:((x:Int)+(y:Int)*4294967296)/2^q=(((x+y*4294967296)/2^q:Nat):Int):=by
  rw[Int.natCast_ediv,Int.natCast_pow];congr 1
 have h:(x+y*4294967296)/2^q≤x+y*4294967296:=Nat.div_le_self _ _;rw[e,zed yb]
def zrc(hx:x<4294967296)(q:Nat):bits BinOp.and IntKind.u64 ((x:Int)/2^q) 4294967295%4294967296=((x/2^q%4294967296:Nat):Int):=by
 have e:(x:Int)/2^q=((x/2^q:Nat):Int):=by
  rw[Int.natCast_ediv,Int.natCast_pow];congr 1
 have h:x/2^q≤x:=Nat.div_le_self _ _;rw[e,zed yb]
def zjQ{o:List Nat}{v:Nat}{f:Nat→Nat}(hi:i<o.length)(h:∀j y,j<i→o[j]? =some y→y=f j)(hv:f i=v):∀j y,j<i+1→(o.set i v)[j]? =some y→y=f j:=by
 intro j y hj hy
 by_cases e:j=i
 ·subst e;rw[List.getElem?_set_self hi]at hy
  injection hy with hy
  rw[←hy,hv]
 ·rw[List.getElem?_set_ne yb]at hy;exact h j y yb hy
def zqa(h:Lim l)(hx:l[W]? =some x)(hq:q<32):val l%(4294967296^W*2^q)=val (l.take W)+4294967296^W*(x%2^q):=by
 rw[Nat.mod_mul,zq3 h,zeY h,zaq hx];obtain⟨r,hr⟩:=zdk hq;simp only[val];rw[hr,Nat.mul_assoc,Nat.add_mul_mod_self_left]
def zql(hx:x<4294967296)(hq:q<32):bits BinOp.and IntKind.u32 (x:Int) ((2^q-1)%4294967296)=((x%2^q:Nat):Int):=by
 have h1:2^q≤2^31:=Nat.pow_le_pow_right yf yb;have h2:0<2^q:=Nat.two_pow_pos q
 have e:((2:Int)^q-1)%4294967296=((2^q-1:Nat):Int):=by
  have e1:(2:Int)^q=((2^q:Nat):Int):=by rw[Int.natCast_pow];rfl
  rw[e1];omega
 rw[e,bits_and_u32_nat _ _ hx yb,Nat.and_two_pow_sub_one_eq_mod]
def zi7{w:World}{p:Option Addr}{n c:Nat}(A:Nat)(s:Nat)(hn:(zd A).length=n)(hn0:n≤2000000)(hs:s≤128000000)(h:LR w p c (zd A)):
 Calls Tryz.prog 216 #[.slice p n c, .int .i64 (s:Int)] w fun e w'=>∃p' c',e= .returned (.tuple #[.slice p' (zd (A/2^s)).length c', .bool (decide (A%2^s≠0))])∧Fr [] w w'∧LR w' p' c' (zd (A/2^s)):=by
 obtain⟨hlc,hc⟩:=h.clen;generalize hl:zd A=l at*;have Hl:=hid hl;subst hn;have Hh:=hid h;have H:=Hp.start [] w;obtain⟨W,hW⟩:∃W,s/32=W:=⟨_,rfl⟩;obtain⟨q,hq⟩:∃q,s%32=q:=⟨_,rfl⟩;have hq32:q<32:=by omega
 have HS:Hid (s=32*W+q):=hid yb;have HW:Hid ((s:Int)/32=(W:Int)):=hid yb;have HQ:Hid ((s:Int)%32=(q:Int)):=hid yb;have HP:Hid (2^s=4294967296^W*2^q):=hid (by rw[HS.out,Nat.pow_add,zeP]);have hVA:val l=A:=by rw[←hl,zg]
 have HVA:=hid hVA;have hAlt:A<4294967296^l.length:=by rw[←hVA];exact zaA h.lim
 have HAlt:=hid hAlt;clear hW hq hl h hVA hAlt
 by_cases hov:l.length≤W
 ·have HZ:Hid (A/2^s=0∧A%2^s=A):=hid (by
   have h1:4294967296^l.length≤4294967296^W:=Nat.pow_le_pow_right yf hov;have h2:4294967296^W≤2^s:=by rw[HP.out];exact Nat.le_mul_of_pos_right _ (Nat.two_pow_pos q)
   have h3:A<2^s:=by have:=HAlt.out;omega
   exact⟨Nat.div_eq_of_lt h3,Nat.mod_eq_of_lt h3⟩)
  have hWs:(l.length:Int)≤(s:Int)/32:=by have:=HW.out;omega
  by_cases h0:l.length≤0
  ·have HD:Hid (decide (A%2^s≠0)=false):=hid (decide_eq_false (by
    rw[HZ.out.2];have h1:=HAlt.out;rw[show l.length=0 by omega]at h1
    simp at h1
    omega))
   go_enter Tryz.func216,Tryz.ntmps216
   go_wp2_with(first|refine x_q H ?_|refine zm ?_ ?_<;>intro h|(revert H;(first|(refine x_g ?_;intro g w1 hg hf H)|(refine x_s ?_;intro w1 hf H));(try clear hf)))
   refine bodyPost_ret (results_tmp2 rfl _ _ _) rfl ?_;rw[HZ.out.1,HD.out,zn];exact⟨none,0,rfl,H.fr,LR.zero _⟩
  ·have hpos:0<l.length:=by omega
   have HD:Hid (decide (A%2^s≠0)=true):=hid (decide_eq_true (by
    rw[HZ.out.2];intro e;have h1:=Hl.out;rw[e,zn]at h1;rw[←h1]at hpos
    simp at hpos))
   clear h0
   go_enter Tryz.func216,Tryz.ntmps216
   go_wp2_with(first|refine x_q H ?_|refine zm ?_ ?_<;>intro h|(revert H;(first|(refine x_g ?_;intro g w1 hg hf H)|(refine x_s ?_;intro w1 hf H));(try clear hf)))
   refine bodyPost_ret (results_tmp2 rfl _ _ _) rfl ?_;rw[HZ.out.1,HD.out,zn];exact⟨none,0,rfl,H.fr,LR.zero _⟩
 ·have hWl:W<l.length:=by omega
  have hWs:(s:Int)/32<(l.length:Int):=by have:=HW.out;omega
  clear hov;have HT:=hid (Hh.out.pre (n:=W) yb);have htl:(l.take W).length=W:=by rw[List.length_take];omega
  have Htl:=hid htl;clear htl;obtain⟨x,hx⟩:∃x,l[W]? =some x:=⟨_,List.getElem?_eq_getElem hWl⟩;have hxv:=limbs_at hx;have hxB:=Hh.out.lim.at hx;have Hx:=hid hx;clear hx;obtain⟨b0,off,rfl,hb0,hcell⟩:=Hh.out.rd.rng (zH (i:=W) hWl);have H1:=H.pushRng (b:=b0) (off:=off) hb0 yg hcell;clear H hcell;have H:=H1;clear H1
  go_enter Tryz.func216,Tryz.ntmps216
  go_upto_region 4 with(first|refine x_q H ?_|refine zm (fun h=>?_) (fun h=>?_)|(revert H;(first|(refine x_g ?_;intro g w1 hg hf H)|(refine x_s ?_;intro w1 hf H));(try clear hf)))
  rw[HW.out,HQ.out];clear hWs
  have HF:Hid (A%2^s=val (l.take W)+4294967296^W*(x%2^q)):=hid (by
   rw[HP.out,←HVA.out];exact zqa Hh.out.lim Hx.out hq32)
  have HB:Hid (bits BinOp.and IntKind.u32 (x:Int) ((2^q-1)%4294967296)=((x%2^q:Nat):Int)):=hid (zql hxB hq32)
  go_cut [8] (fun s8 wx=>s8= .bool (decide (A%2^s≠0))∧Hp [] w wx [])
  case first=>
   by_cases hz:val (l.take W)=0
   ·have HD:=hid (decide_eq_false (p:=val (l.take W)≠0) yb)
    have HZ1:Hid (bits BinOp.and IntKind.u32 (x:Int) ((2^q-1)%4294967296)≠0→decide (A%2^s≠0)=true):=hid (fun h=>decide_eq_true (by
     rw[HB.out]at h;rw[HF.out,hz,Nat.zero_add];intro e
     rcases Nat.mul_eq_zero.1 e with e|e
     ·exact absurd e (Nat.ne_of_gt (Nat.pow_pos yf))
     ·rw[e]at h;exact h rfl))
    have HZ2:Hid (¬bits BinOp.and IntKind.u32 (x:Int) ((2^q-1)%4294967296)≠0→decide (A%2^s≠0)=false):=hid (fun h=>decide_eq_false (by
     rw[HB.out]at h;rw[HF.out,hz,Nat.zero_add]
     have:x%2^q=0:=by omega
     rw[this]
     simp))
    clear hz
    go_wp2_with(first|refine x_q H ?_|refine zm ?_ ?_<;>intro h|(revert H;(first|(refine x_g ?_;intro g w1 hg hf H)|(refine x_s ?_;intro w1 hf H));(try clear hf)))
    (refine x_c H (zej (l.take W) (by rw[Htl.out]) (by simpa using HT.out.fr H.fr)) ?_;clear H;rintro e w1 ⟨rfl,hF⟩ H);rw[HD.out]
    go_wp2_with(first|refine x_q H ?_|refine zm ?_ ?_<;>intro h|(revert H;(first|(refine x_g ?_;intro g w1 hg hf H)|(refine x_s ?_;intro w1 hf H));(try clear hf)))
    ·go_meet
     case rel=>exact⟨by rw[HZ1.out yo],H.sub yd⟩
    ·go_meet
     case rel=>exact⟨by rw[HZ2.out yo],H.sub yd⟩
   ·have HD:=hid (decide_eq_true (p:=val (l.take W)≠0) hz);have Hz:Hid (decide (A%2^s≠0)=true):=hid (decide_eq_true (by rw[HF.out];omega));clear hz
    go_wp2_with(first|refine x_q H ?_|refine zm ?_ ?_<;>intro h|(revert H;(first|(refine x_g ?_;intro g w1 hg hf H)|(refine x_s ?_;intro w1 hf H));(try clear hf)))
    (refine x_c H (zej (l.take W) (by rw[Htl.out]) (by simpa using HT.out.fr H.fr)) ?_;clear H;rintro e w1 ⟨rfl,hF⟩ H);rw[HD.out]
    go_wp2_with(first|refine x_q H ?_|refine zm ?_ ?_<;>intro h|(revert H;(first|(refine x_g ?_;intro g w1 hg hf H)|(refine x_s ?_;intro w1 hf H));(try clear hf)))
    go_meet
    case rel=>exact⟨by rw[Hz.out],H.sub yd⟩
  case rest=>
   clear H hxv hb0;obtain⟨rfl,H⟩:=hcut;generalize hst:decide (A%2^s≠0)=sticky at H ⊢;have Hst:=hid hst;clear hst
   go_wp2_with(first|refine x_q H ?_|refine zm ?_ ?_<;>intro h|(revert H;(first|(refine x_g ?_;intro g w1 hg hf H)|(refine x_s ?_;intro w1 hf H));(try clear hf)))
   rw[show((l.length:Int)-(W:Int)).toNat=l.length-W by omega,za3]at H;rw[show((l.length:Int)-(W:Int)).toNat=l.length-W by omega]
   go_loopw [46] (fun s46 wr=>∃(i:Nat) (o:List Nat),i≤l.length-W∧s46= .int .i64 (i:Int)∧Hid (o.length=l.length-W)∧Hid (Lim o)∧Hid (∀j y,j<i→o[j]? =some y→y=A/2^s/4294967296^j%4294967296)∧Hp [] w wr [.blk g (zj o) 160]) (fun v _=>(l.length-W)-(intOf v).toNat)
   case atStart=>exact⟨0,List.replicate (l.length-W) 0,Nat.zero_le _,rfl,hid List.length_replicate,hid (Lim.zeros _),hid (fun j y hj=>absurd hj (Nat.not_lt_zero _)),H⟩
   case round=>
    clear H;obtain⟨i,o,hi,rfl,Hol,Hlo,Hv,H⟩:=hrel
    by_cases hin:i<l.length-W
    ·obtain⟨x1,hx1⟩:∃x1,l[W+i]? =some x1:=⟨_,List.getElem?_eq_getElem yb⟩;have hx1v:(zj l)[((W:Int)+(i:Int)).toNat]? =some (.int .u32 (x1:Int)):=by rw[show((W:Int)+(i:Int)).toNat=W+i by omega];exact limbs_at hx1
     have hx1B:=Hh.out.lim.at hx1;have Hx1:=hid hx1;clear hx1;obtain⟨b1,off1,he1,hb1,hcell1⟩:=Hh.out.rd.rng (zH (i:=W+i) yb)
     injection he1 with he1
     injection he1 with he1 he2 _
     subst he1 he2;have H1:=H.pushRng (b:=b0) (off:=off) hb1 yg hcell1;clear H hcell1;have H:=H1;clear H1;have hio:i<o.length:=by rw[Hol.out];omega
     by_cases hnext:W+i+1<l.length
     ·obtain⟨y,hy⟩:∃y,l[W+i+1]? =some y:=⟨_,List.getElem?_eq_getElem hnext⟩;have hyv:(zj l)[((W:Int)+(i:Int)+1).toNat]? =some (.int .u32 (y:Int)):=by rw[show((W:Int)+(i:Int)+1).toNat=W+i+1 by omega];exact limbs_at hy
      have hyB:=Hh.out.lim.at hy;have Hy:=hid hy;clear hy
      go_wp2_with(first|refine x_q H ?_|refine x_e (zer rfl rfl) ?_|refine x_e (zpf rfl rfl rfl) ?_|refine zm ?_ ?_<;>intro h|(revert H;(first|(refine x_g ?_;intro g w1 hg hf H)|(refine x_s ?_;intro w1 hf H));(try clear hf)))
      rw[zqD hx1B hyB q,z7]at H
      go_roundw
      case rel=>exact⟨i+1,o.set i ((x1+y*4294967296)/2^q%4294967296),by omega,by go_num,hid yB,hid (Hlo.out.set _ (Nat.mod_lt _ yf)),hid (zjQ hio Hv.out (by rw[HP.out,←HVA.out,zj0 Hh.out.lim hq32 (zqc Hh.out.lim Hx1.out Hy.out)])),H.sub yd⟩
      case measure=>(simp[intOf];try omega)
     ·go_wp2_with(first|refine x_q H ?_|refine x_e (zer rfl rfl) ?_|refine x_e (zpf rfl rfl rfl) ?_|refine zm ?_ ?_<;>intro h|(revert H;(first|(refine x_g ?_;intro g w1 hg hf H)|(refine x_s ?_;intro w1 hf H));(try clear hf)))
      rw[zrc hx1B q,z7]at H
      go_roundw
      case rel=>exact⟨i+1,o.set i (x1/2^q%4294967296),by omega,by go_num,hid yB,hid (Hlo.out.set _ (Nat.mod_lt _ yf)),hid (zjQ hio Hv.out (by rw[HP.out,←HVA.out,zj0 Hh.out.lim hq32 (zrr Hh.out.lim Hx1.out yb)])),H.sub yd⟩
      case measure=>(simp[intOf];try omega)
    ·have HV:Hid (val o=A/2^s):=hid (by
      rw[zm4 (N:=A/2^s) (fun j y hj=>Hv.out j y (by have:=(List.getElem?_eq_some_iff.1 hj).1;rw[Hol.out]at this;omega) hj),Hol.out]
      apply Nat.mod_eq_of_lt
      have h1:=HAlt.out;rw[show l.length=W+(l.length-W) by omega,Nat.pow_add]at h1;rw[HP.out,←Nat.div_div_eq_div_mul]
      exact Nat.lt_of_le_of_lt (Nat.div_le_self _ _) (Nat.div_lt_of_lt_mul h1))
     go_wp2_with(first|refine x_q H ?_|refine zm ?_ ?_<;>intro h|(revert H;(first|(refine x_g ?_;intro g w1 hg hf H)|(refine x_s ?_;intro w1 hf H));(try clear hf)))
     have hL:LR _ (some ⟨g,0,none⟩) (l.length-W) o:=LR.of_blk (pad:=[]) yE Hlo.out yJ yk;have HL:=hid hL;refine Calls.mono (zt o Hol.out HL.out) ?_;rintro e w1 ⟨rfl,hF⟩;have HL2:=hid (hL.fr hF).trim;have H1:=H.step hF yg;clear H hF hL HL;have H:=H1;clear H1
     go_wp2_with(first|refine x_q H ?_|refine zm ?_ ?_<;>intro h|(revert H;(first|(refine x_g ?_;intro g w1 hg hf H)|(refine x_s ?_;intro w1 hf H));(try clear hf)))
     refine bodyPost_ret (results_tmp2 rfl _ _ _) rfl ?_;rw[HV.out]at HL2;exact⟨_,_,by rw[HV.out,Hst.out];rfl,H.fr,HL2.out⟩
end
end Go.Proofs.YtaijhllckmndhaaGreatDoor
