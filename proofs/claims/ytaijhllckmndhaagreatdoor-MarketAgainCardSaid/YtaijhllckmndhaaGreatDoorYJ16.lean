import Derived.Test.YtaijhllckmndhaaGreatDoorYJ0
import Derived.Test.YtaijhllckmndhaaGreatDoorYJ15
import Derived.Test.YtaijhllckmndhaaGreatDoorYJ13
import Derived.Lib.AtoiErrMem
import Derived.Deep.LoopGhost
namespace Go.Proofs.YtaijhllckmndhaaGreatDoor
set_option linter.all false
set_option maxHeartbeats 64000000
set_option maxRecDepth 100000
section
open Go.RowKit
section
variable {P:Program} {a:Act} {w:World} {o:Oper}
def zg8(s:List UInt8)(i j:Nat):(ByteArray.mk s.toArray).extract i j=⟨((s.take j).drop i).toArray⟩:=by
 apply ByteArray.ext
 simp[ByteArray.data_extract,List.extract_eq_take_drop,List.drop_take]
def zbs(s:List UInt8):(ByteArray.mk s.toArray).size=s.length:=by simp[ByteArray.size]
def zG{x:Operand}{t:TypeId}(ho:o.op= .call {callee:= .builtin .len,args:=#[x],argTypes:=#[t]}){s:List UInt8}(hx:a.eval x=ze s)[h:Sy P t]:(execOp a.eval o).run P w= .ok (.value (.int .i64 s.length)) w:=by
 have:=zoj (P:=P) (w:=w) ho (s:=⟨s.toArray⟩) hx
 rw[zbs]at this;exact this
def zmz{t:TypeId}{x y:Operand}(ho:o.op= .slice t x none (some y) none){s r:List UInt8}(hx:a.eval x=ze s){k:IntKind}{i:Int}(hy:a.eval y= .int k i)[h:Sy P t](hr:Hid (s.take i.toNat=r))(h0:0≤i:=by omega)(h1:i≤s.length:=by omega):(execOp a.eval o).run P w= .ok (.value (ze r)) w:=by
 rw[←hr.out];unfold ze at hx;have e:=run_slice_string_h (P:=P) w t ⟨s.toArray⟩ h.h k i h0 (by rw[zbs];exact h1);rw[zg8,List.drop_zero]at e;unfold execOp;simp only[ho,hx,hy,Option.map_none,Option.map_some,Sem.run_bind,run_sliceAt_string _ _ _ _ _ _ h.h,e,Result.andThen_ok,Sem.run_pure]
 rfl
def zeI{t:TypeId}{x y:Operand}(ho:o.op= .slice t x (some y) none none){s r:List UInt8}(hx:a.eval x=ze s){k:IntKind}{i:Int}(hy:a.eval y= .int k i)[h:Sy P t](hr:Hid (s.drop i.toNat=r))(h0:0≤i:=by omega)(h1:i≤s.length:=by omega):(execOp a.eval o).run P w= .ok (.value (ze r)) w:=by
 rw[←hr.out];unfold ze at hx;have e:=run_slice_string_l (P:=P) w t ⟨s.toArray⟩ h.h k i h0 (by rw[zbs];exact h1);rw[zg8,zbs,List.take_length]at e;unfold execOp;simp only[ho,hx,hy,Option.map_none,Option.map_some,Sem.run_bind,run_sliceAt_string _ _ _ _ _ _ h.h,e,Result.andThen_ok,Sem.run_pure]
 rfl
def zvc{t t':TypeId}{x y:Operand}(ho:o.op= .binOp .eql t x y t'){s:List UInt8}(hx:a.eval x=ze s)(hy:a.eval y=ze []){b:Bool}(hs:Hid ((s==[])=b)):(execOp a.eval o).run P w= .ok (.value (.bool b)) w:=by
 rw[←hs.out];exact zeV ho hx hy
def zvb{t t':TypeId}{x y:Operand}(ho:o.op= .binOp .neq t x y t'){s:List UInt8}(hx:a.eval x=ze s)(hy:a.eval y=ze []){b:Bool}(hs:Hid ((s==[])=b)):(execOp a.eval o).run P w= .ok (.value (.bool (!b))) w:=by
 rw[←hs.out];exact zeK ho hx hy
end
def zaC(w:World)(s:List UInt8)(c:UInt8){b:Bool}(hb:Hid ((s.head? ==some c)=b)):Calls Tryz.prog 172 #[ze s, .string (ByteArray.mk #[c])] w fun e w'=>e= .returned (.bool b)∧Fr [] w w':=by
 refine Calls.mono (Tryz.strings_HasPrefix ⟨s.toArray⟩ (ByteArray.mk #[c]) w) ?_;rintro e w' ⟨rfl,rfl⟩;refine⟨?_,Fr.refl _ _⟩;rw[←hb.out]
 cases s with
 | nil=>rfl
 | cons x r=>
  show Ending.returned (.bool (List.isPrefixOf [c] (x::r)))=_
  have e:List.isPrefixOf [c] (x::r)=((x::r).head? ==some c):=by
   rw[List.isPrefixOf_cons_cons,List.head?_cons,Option.some_beq_some,Bool.beq_comm]
   simp[List.isPrefixOf]
  rw[e]
def zeH(w:World)(s:List UInt8)(hs:Hid (s.all dig=true))(hn:Hid (s≠[]))(hl:s.length≤18):Calls Tryz.prog 175 #[ze s] w fun e w'=>e= .returned (.tuple #[.int .i64 (num s:Int), .nilIface])∧Fr [] w w':=by
 refine Calls.mono (Tryz.strconv_Atoi ⟨s.toArray⟩ (num s:Int) (by rw[zbs];exact hl) (zqY hs.out hn.out) w) ?_;rintro e w' ⟨rfl,t,rfl⟩;exact⟨rfl,Fr.of_below (Lib.bytesWorld_below _ _ _)⟩
def zmM(w:World)(x:Nat)(hx:x≤1114111):Calls Tryz.prog 174 #[.int .i32 (x:Int)] w fun e w'=>e= .returned (.bool (za9 x))∧∃q,w'=w.drewN q:=by
 by_cases h1:x<48
 ·have HB:=hid (show za9 x=true by unfold za9;simp;omega);have H4:=hid (show decide ((57:Int)<(x:Int))=false from decide_eq_false yb)
  go_enter Tryz.func174,Tryz.ntmps174;go_wp2;go_ret;exact⟨by rw[HB.out];first|rfl|(show Ending.returned (.bool (decide ((57:Int)<(x:Int))))=_;rw[H4.out]),0,rfl⟩
 ·by_cases h2:57<x
  ·have HB:=hid (show za9 x=true by unfold za9;simp;omega);have H4:=hid (decide_eq_true (show(57:Int)<(x:Int) by omega));have h3:¬(x:Int)<48:=by omega
   go_enter Tryz.func174,Tryz.ntmps174;go_wp2;go_ret;exact⟨by rw[HB.out];first|rfl|(show Ending.returned (.bool (decide ((57:Int)<(x:Int))))=_;rw[H4.out]),0,rfl⟩
  ·have HB:=hid (show za9 x=false by unfold za9;simp;omega);have h3:¬(x:Int)<48:=by omega
   have H4:=hid (decide_eq_false (show ¬(57:Int)<(x:Int) by omega))
   go_enter Tryz.func174,Tryz.ntmps174;go_wp2;go_ret;exact⟨by rw[HB.out];first|rfl|(show Ending.returned (.bool (decide ((57:Int)<(x:Int))))=_;rw[H4.out]),0,rfl⟩
def zbL(w:World)(s:List UInt8){b:Bool}(hb:Hid ((!(s.all dig))=b)):Calls Tryz.prog 173 #[ze s, .func (.func 174) #[] #[]] w fun e w'=>e= .returned (.bool b)∧Fr [] w w':=by
 refine Calls.mono (Tryz.strings_ContainsFunc_runes 174 #[] (fun args w=>by rfl) za9 ⟨s.toArray⟩ w (fun W x hx _=>zmM W x hx)) ?_;rintro e w' ⟨rfl,hF⟩;exact⟨by rw[zlY,hb.out],Fr.of_below hF⟩
end
section
variable {N D c:Nat} {k j:Int}
def upN(N:Nat)(x:Int):Nat:=N*10^x.toNat
def dnD(D:Nat)(x:Int):Nat:=D*10^(-x).toNat
def z1(N D:Nat)(k:Int):Prop:=dnD D (-k)≤upN N (-k)
instance (N D:Nat) (k:Int):Decidable (z1 N D k):=inferInstanceAs (Decidable (_≤_))
def zbf(N D:Nat)(k:Int):z1 N D k↔D*10^k.toNat≤N*10^(-k).toNat:=by
 unfold z1 dnD upN;rw[Int.neg_neg]
def zcE(h:z1 N D k)(hj:j≤k):z1 N D j:=by
 rw[zbf]at h ⊢;have p:=zD k.toNat;have q:=zD (-k).toNat;have h1:D*10^k.toNat*10^(-j).toNat≤N*10^(-k).toNat*10^(-j).toNat:=Nat.mul_le_mul_right _ h
 have h2:10^j.toNat*10^(-k).toNat≤10^k.toNat*10^(-j).toNat:=by
  rw[←Nat.pow_add,←Nat.pow_add];exact Nat.pow_le_pow_right yf yb
 apply Nat.le_of_mul_le_mul_right _ q
 calc D*10^j.toNat*10^(-k).toNat=D*(10^j.toNat*10^(-k).toNat):=Nat.mul_assoc _ _ _
  _≤D*(10^k.toNat*10^(-j).toNat):=Nat.mul_le_mul_left _ h2
  _=D*10^k.toNat*10^(-j).toNat:=(Nat.mul_assoc _ _ _).symm
  _≤N*10^(-k).toNat*10^(-j).toNat:=h1
  _=N*10^(-j).toNat*10^(-k).toNat:=Nat.mul_right_comm _ _ _
def zsz(h1:z1 N D k)(h2:¬z1 N D (k+1))(h3:z1 N D j)(h4:¬z1 N D (j+1)):k=j:=by
 rcases Int.lt_trichotomy k j with h|h|h
 ·exact absurd (zcE h3 yb) h2
 ·exact h
 ·exact absurd (zcE h1 yb) h4
def ziz(hc:0<c)(k:Int):z1 (c*N) (c*D) k↔z1 N D k:=by
 rw[zbf,zbf,Nat.mul_assoc,Nat.mul_assoc,Nat.mul_le_mul_left_iff hc]
def zbF(N D:Nat)(x:Int):Nat:=rm false 0 (upN N x) (dnD D x)
def zkv(hc:0<c)(x:Int):zbF (c*N) (c*D) x=zbF N D x:=by
 unfold zbF upN dnD;rw[Nat.mul_assoc,Nat.mul_assoc,zhp _ _ _ _ hc]
def zdx(neg:Bool)(c:Int)(odd:Bool):rup neg 0 c odd=(decide (0<c)||(decide (c=0)&&odd)):=by
 unfold rup;rw[if_neg yf,if_neg yf,if_neg yf]
def zfF{n:Nat}(hD:0<D)(hn:1≤n)(h1:z1 N D k)(h2:¬z1 N D (k+1)):10^(n-1)≤zbF N D (n-1-k)∧zbF N D (n-1-k)≤10^n:=by
 have hd:0<dnD D (n-1-k):=Nat.mul_pos hD (zD _);have hb:=zcp false 0 (upN N (n-1-k)) (dnD D (n-1-k));rw[zbf]at h1 h2
 have e1:dnD D (n-1-k)*10^(n-1)≤upN N (n-1-k):=by
  unfold dnD upN;have q:=zD ((-k).toNat)
  apply Nat.le_of_mul_le_mul_right _ q
  have a1:10^(-(n-1-k:Int)).toNat*10^(n-1)*10^(-k).toNat=10^k.toNat*10^((n:Int)-1-k).toNat:=by
   rw[←Nat.pow_add,←Nat.pow_add,←Nat.pow_add]
   congr 1
   omega
  calc D*10^(-(n-1-k:Int)).toNat*10^(n-1)*10^(-k).toNat=D*(10^(-(n-1-k:Int)).toNat*10^(n-1)*10^(-k).toNat):=by simp only[Nat.mul_assoc]
   _=D*10^k.toNat*10^((n:Int)-1-k).toNat:=by rw[a1,Nat.mul_assoc]
   _≤N*10^(-k).toNat*10^((n:Int)-1-k).toNat:=Nat.mul_le_mul_right _ h1
   _=N*10^((n:Int)-1-k).toNat*10^(-k).toNat:=Nat.mul_right_comm _ _ _
 have e2:upN N (n-1-k)<dnD D (n-1-k)*10^n:=by
  unfold dnD upN;have q:=zD ((-(k+1)).toNat)
  apply Nat.lt_of_mul_lt_mul_right (a:=10^(-(k+1)).toNat)
  have a1:10^(-(n-1-k:Int)).toNat*10^n*10^(-(k+1)).toNat=10^(k+1).toNat*10^((n:Int)-1-k).toNat:=by
   rw[←Nat.pow_add,←Nat.pow_add,←Nat.pow_add]
   congr 1
   omega
  have h3:N*10^(-(k+1)).toNat<D*10^(k+1).toNat:=by omega
  calc N*10^((n:Int)-1-k).toNat*10^(-(k+1)).toNat=N*10^(-(k+1)).toNat*10^((n:Int)-1-k).toNat:=Nat.mul_right_comm _ _ _
   _<D*10^(k+1).toNat*10^((n:Int)-1-k).toNat:=Nat.mul_lt_mul_of_pos_right h3 (zD _)
   _=D*(10^(-(n-1-k:Int)).toNat*10^n*10^(-(k+1)).toNat):=by rw[a1,Nat.mul_assoc]
   _=D*10^(-(n-1-k:Int)).toNat*10^n*10^(-(k+1)).toNat:=by simp only[Nat.mul_assoc]
 have f1:10^(n-1)≤upN N (n-1-k)/dnD D (n-1-k):=by
  rw[Nat.le_div_iff_mul_le hd,Nat.mul_comm];exact e1
 have f2:upN N (n-1-k)/dnD D (n-1-k)<10^n:=by
  rw[Nat.div_lt_iff_lt_mul hd,Nat.mul_comm];exact e2
 unfold zbF
 omega
end
end Go.Proofs.YtaijhllckmndhaaGreatDoor
