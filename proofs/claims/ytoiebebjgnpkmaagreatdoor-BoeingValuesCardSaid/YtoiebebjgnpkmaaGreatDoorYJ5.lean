import Derived.Test.YtoiebebjgnpkmaaGreatDoorYJ4
import Derived.Laws.MathBits
import Derived.Test.YtoiebebjgnpkmaaGreatDoorYJ0
import Derived.Test.YtoiebebjgnpkmaaGreatDoorYJ3
namespace Go.Proofs.YtoiebebjgnpkmaaGreatDoor
open Go.RowKit
set_option linter.unusedSimpArgs false
set_option linter.unusedVariables false
section
variable {P:Program} {w:World} {a:Act} {o:Oper}
theorem ev_low {t t':TypeId} {x:Operand} (ho:o.op= .binOp .and t x (.const (.int .u64 4294967295)) t') {m:Int} (hx:a.eval x= .int .u64 m) (h0:0≤m:=by omega) (h1:m<18446744073709551616:=by omega):(execOp a.eval o).run P w= .ok (.value (.int .u64 (m % 4294967296))) w:=
 ev_bin ho hx rfl (fun w=>by
  have e:=and_low32 m h0 h1
  show (pure (Value.int .u64 (bits .and .u64 m 4294967295)):Sem Value).run P w=_
  rw [e];rfl)
theorem ev_high {t t':TypeId} {x:Operand} {kk:IntKind} (ho:o.op= .binOp .shr t x (.const (.int kk 32)) t') {m:Int} (hx:a.eval x= .int .u64 m):(execOp a.eval o).run P w= .ok (.value (.int .u64 (m / 4294967296))) w:=by
 have e1:(eqGuard .shr t x (.const (.int kk 32)) (.int .u64 m) (.int kk 32)).run P w= .ok () w:=by unfold eqGuard;simp
 have hn:a.eval (.const (.int kk 32))= .int kk 32:=rfl
 unfold execOp
 simp only [ho,hx,hn,Sem.run_bind,e1,Result.andThen_ok,binOp]
 rw [shift_shr_any _ _ _ _ (by decide)]
 rfl
theorem ev_over {t t':TypeId} {x:Operand} {kk:IntKind} (ho:o.op= .binOp .shl t x (.const (.int kk 32)) t') {m:Int} (hx:a.eval x= .int .u64 m) (h0:0≤m:=by omega) (h1:m<4294967296:=by omega):(execOp a.eval o).run P w= .ok (.value (.int .u64 (m*4294967296))) w:=by
 have e1:(eqGuard .shl t x (.const (.int kk 32)) (.int .u64 m) (.int kk 32)).run P w= .ok () w:=by unfold eqGuard;simp
 have hn:a.eval (.const (.int kk 32))= .int kk 32:=rfl
 unfold execOp
 simp only [ho,hx,hn,Sem.run_bind,e1,Result.andThen_ok,binOp]
 rw [shift_shl_any _ _ _ _ (by decide)]
 have e2:IntKind.u64.wrap (m*2 ^ min (32:Int).toNat IntKind.u64.bits)=m*4294967296:=by
  have:(2:Int) ^ min (32:Int).toNat IntKind.u64.bits=4294967296:=by decide
  rw [this,wrap_inr (by simp only [inr];omega)]
 rw [e2]
 rfl
theorem ev_orJ {t t':TypeId} {x y:Operand} (ho:o.op= .binOp .or t x y t') {m n:Int} (hx:a.eval x= .int .u64 m) (hy:a.eval y= .int .u64 n) (h0:0≤m:=by omega) (h1:m<18446744073709551616:=by omega) (hm:m % 4294967296=0:=by omega) (h2:0≤n:=by omega) (h3:n<4294967296:=by omega):(execOp a.eval o).run P w= .ok (.value (.int .u64 (m+n))) w:=
 ev_bin ho hx hy (fun w=>by
  have e:=bits_join .u64 64 (by decide) (fun n h0 h1=>wrap_inr (by simp only [inr];omega)) 32 m n h0 (by omega) (by omega) h2 (by omega) (by omega)
  show (pure (Value.int .u64 (bits .or .u64 m n)):Sem Value).run P w=_
  rw [e];rfl)
theorem ev_shlV {t t':TypeId} {x y:Operand} (ho:o.op= .binOp .shl t x y t') {kk:IntKind} {m p:Nat} (hx:a.eval x= .int .u64 (m:Int)) (hy:a.eval y= .int kk (p:Int)) (h:m*2 ^ p<18446744073709551616) (hp:p<32):(execOp a.eval o).run P w= .ok (.value (.int .u64 ((m*2 ^ p:Nat):Int))) w:=by
 have e1:(eqGuard .shl t x y (.int .u64 (m:Int)) (.int kk (p:Int))).run P w= .ok () w:=by unfold eqGuard;simp
 unfold execOp
 simp only [ho,hx,hy,Sem.run_bind,e1,Result.andThen_ok,binOp]
 rw [shift_shl_any _ _ _ _ (by omega)]
 have e3:min (p:Int).toNat IntKind.u64.bits=p:=by
  rw [Int.toNat_natCast]
  have:IntKind.u64.bits=64:=rfl
  omega
 have e2:IntKind.u64.wrap ((m:Int)*2 ^ min (p:Int).toNat IntKind.u64.bits)=((m*2 ^ p:Nat):Int):=by
  rw [e3,wrap_inr]
  ·rw [Int.natCast_mul,Int.natCast_pow];rfl
  ·simp only [inr]
   have:(m:Int)*2 ^ p=((m*2 ^ p:Nat):Int):=by rw [Int.natCast_mul,Int.natCast_pow];rfl
   omega
 rw [e2]
 rfl
end
theorem Rd.rng {w:World} {p:Option Addr} {n c:Nat} {cs:List Value} (h:Rd w (.slice p n c) n cs) (hc:cs≠[]):∃ b off,p=some ⟨b,off,none⟩∧b<w.heap.size∧∀ (j:Nat) u,cs[j]? =some u→w.cell? ⟨b,off+j,none⟩=some u:=by
 obtain ⟨b,off,c',he,hb,hcell⟩:=h.addr hc
 injection he with e1 _ _
 exact ⟨b,off,e1,hb,hcell⟩
theorem upto_step {P:Nat→Prop} {i:Nat} (h:∀ j,j<i→P j) (hi:P i):∀ j,j<i+1→P j:=fun j hj=>by
 by_cases e:j=i
 ·subst e;exact hi
 ·exact h j (by omega)
theorem pre_at {cs:List Value} {pad:List Value} {i:Nat} {v:Value} (h:cs[i]? =some v):(cs++pad)[i]? =some v:=by
 rw [List.getElem?_append_left (List.getElem?_eq_some_iff.1 h).1];exact h
theorem Fr.nil {T:List Nat} {w w':World} (h:Fr [] w w'):Fr T w w':=h.mono (by simp)
structure LR (w:World) (p:Option Addr) (c:Nat) (l:List Nat):Prop where
 nil:p=none→c=0
 cap:l.length≤c
 max:c≤maxLen
 lim:Lim l
 rd:Rd w (.slice p l.length c) l.length (limbs l)
theorem LR.fr {w w':World} {p:Option Addr} {c:Nat} {l:List Nat} (h:LR w p c l) (k:Fr [] w w'):LR w' p c l:=⟨h.nil,h.cap,h.max,h.lim,h.rd.fr k (by simp)⟩
theorem LR.pre {w:World} {p:Option Addr} {c n:Nat} {l:List Nat} (h:LR w p c l) (hn:n≤l.length):LR w p c (l.take n):=by
 have hl:(l.take n).length=n:=by rw [List.length_take];omega
 refine ⟨h.nil,by have:=h.cap;omega,h.max,h.lim.take n, ?_⟩
 rw [hl,← limbs_take]
 rcases h.rd with ⟨h1,h2,p',c',e⟩ | ⟨ad,c',e,h2⟩
 ·have h0:n=0:=by omega
  subst h0
  exact .inl ⟨rfl,by simp,p,c,rfl⟩
 ·injection e with e1 e2 e3
  subst e1
  refine .inr ⟨ad,c,rfl,fun j u hj=>h2 j u ?_⟩
  rw [List.getElem?_take] at hj
  split at hj
  ·exact hj
  ·cases hj
def zv (neg:Bool) (l:List Nat):Int:=if neg then -(val l:Int) else (val l:Int)
theorem zv_abs (neg:Bool) (l:List Nat):(zv neg l).natAbs=val l:=by unfold zv;split<;>omega
def Big (e:Ending) (w w':World) (z:Int):Prop:=∃ p c,e= .returned (.agg #[.bool (decide (z<0)), .slice p (digs z.natAbs).length c])∧Fr [] w w'∧LR w' p c (digs z.natAbs)
end Go.Proofs.YtoiebebjgnpkmaaGreatDoor
namespace Go.Proofs.YtoiebebjgnpkmaaGreatDoor
open Go.RowKit
set_option linter.unusedSimpArgs false
set_option linter.unusedVariables false
set_option maxHeartbeats 4000000
set_option maxRecDepth 100000
theorem LR.len {w:World} {p:Option Addr} {c:Nat} {l:List Nat} (h:LR w p c l):l.length≤9223372036854775807:=by
 have h1:=h.cap;have h2:=h.max;unfold maxLen at h2;omega
theorem LR.clen {w:World} {p:Option Addr} {c:Nat} {l:List Nat} (h:LR w p c l):l.length≤c∧c≤9223372036854775807:=by
 have h1:=h.cap;have h2:=h.max;unfold maxLen at h2;omega
theorem trim_down {l:List Nat} (h:Lim l) {m:Nat} (hm:(digs (val l)).length≤m+1) (hx:l[m]? =some 0):(digs (val l)).length≤m:=by
 apply Classical.byContradiction
 intro hn
 have e:(digs (val l)).length=m+1:=by omega
 have h1:=digs_take h
 rw [e] at h1
 have h2:=digs_last (val l)
 rw [e,Nat.add_sub_cancel] at h2
 refine h2 0 ?_ rfl
 rw [← h1,List.getElem?_take,if_pos (by omega)]
 exact hx
theorem trim_here {l:List Nat} (h:Lim l) {m x:Nat} (hm:(digs (val l)).length≤m+1) (hx:l[m]? =some x) (h0:x≠0):(digs (val l)).length=m+1:=by
 apply Classical.byContradiction
 intro hn
 exact h0 (digs_drop h (by omega) hx)
theorem trim_any {w:World} {p:Option Addr} {n c:Nat} (l:List Nat) (hl:l.length=n) (h:LR w p c l):
 Calls Tryz.prog 117 #[.slice p n c] w fun e w'=>e= .returned (.slice p (digs (val l)).length c)∧Fr [] w w':=by
 subst hl
 obtain ⟨hlc,hc⟩:=h.clen
 have Hh:=hid h
 clear h
 have hd:=digs_len_le Hh.out.lim
 obtain ⟨k,hk⟩:∃ k,(digs (val l)).length=k:=⟨_,rfl⟩
 rw [hk] at hd ⊢
 have Hk:=hid hk
 clear hk
 have H:=Hp.start [] w
 go_enter Tryz.func117,Tryz.ntmps117
 (revert H;refine W08de ?_ <;>unhygienic intros)
 go_loopw [3] (fun s3 wr=>∃ m:Nat,m≤l.length∧k≤m∧s3= .int .i64 m∧Hp [] w wr []) (fun v _ =>(intOf v).toNat)
 case atStart=>exact ⟨l.length,Nat.le_refl _,hd,rfl,H⟩
 case round=>
  clear H
  obtain ⟨m,hm,hkm,rfl,H⟩:=hrel
  by_cases h0:m=0
  ·have e:k=m:=by omega
   subst e
   have h0':k≤0:=by omega
   clear h0
   (revert H;refine W08de ?_ <;>unhygienic intros)
   go_ret
   exact ⟨by simp,H.fr⟩
  ·obtain ⟨j,rfl⟩:∃ j,m=j+1:=⟨m - 1,by omega⟩
   obtain ⟨x,hx⟩:∃ x,l[j]? =some x:=⟨_,List.getElem?_eq_getElem (by omega)⟩
   have hxv:=limbs_at hx
   have Hx:=hid hx
   clear hx h0
   obtain ⟨b0,off,rfl,hb0,hcell⟩:=Hh.out.rd.rng (limbs_ne (i:=j) (by omega))
   have H1:=H.pushRng (b:=b0) (off:=off) hb0 (by simp) hcell
   clear H hcell
   have H:=H1
   clear H1
   have hxv2:(limbs l)[(((j+1:Nat):Int) - 1).toNat]? =some (.int .u32 (x:Int)):=by rw [show (((j+1:Nat):Int) - 1).toNat=j by omega];exact hxv
   by_cases hx0:x=0
   ·have hx0':(x:Int)≤0:=by omega
    subst hx0
    have hdn:k≤j:=by have:=trim_down Hh.out.lim (m:=j) (by rw [Hk.out];exact hkm) Hx.out;rw [Hk.out] at this;exact this
    (revert H;refine W08de ?_ <;>unhygienic intros)
    go_roundw
    case rel=>exact ⟨j,by omega,hdn,by go_num,H.sub (by repeat first | exact List.Sublist.refl _ | exact List.nil_sublist _ | apply List.Sublist.cons_cons | apply List.Sublist.cons)⟩
    case measure=>(simp [intOf];try omega)
   ·have hxp:0<(x:Int):=by omega
    have e:=trim_here Hh.out.lim (m:=j) (by rw [Hk.out];exact hkm) Hx.out hx0
    rw [Hk.out] at e
    subst e
    clear hx0
    (revert H;refine W08de ?_ <;>unhygienic intros)
    go_ret
    exact ⟨by simp,H.fr⟩
theorem LR.of_row {w:World} {e:TypeId} {v:Value} {n:Nat} {l:List Nat} {S:List Nat} (h:RowAt e 1 v n (limbs l) S w) (lm:Lim l):∃ p c,v= .slice p l.length c∧l.length=n∧LR w p c l:=by
 obtain ⟨h0,h⟩:=h
 rw [limbs_len,Nat.mul_one] at h0
 subst h0
 rcases h with ⟨_,h1,rfl⟩ | ⟨g,cap,pad,_,rfl,h2,h3,h4,h5⟩
 ·have:l=[]:=List.eq_nil_of_length_eq_zero h1
  subst this
  exact ⟨none,0,rfl,rfl,⟨fun _ =>rfl,Nat.zero_le _,by unfold maxLen;omega,lm, .inl ⟨rfl,rfl,_,_,rfl⟩⟩⟩
 ·refine ⟨_,cap,rfl,rfl,⟨fun h=>(by cases h),h2,h3,lm, .inr ⟨_,cap,rfl,fun j u hj=> ?_⟩⟩⟩
  rw [add_mk,cell_of_row w g _ _ _ _ h5,Nat.zero_add]
  simpa using pre_at (pad:=pad) hj
theorem LR.of_blk {w:World} {g c:Nat} {l:List Nat} {pad:List Value} {e:TypeId} (h:w.heap[g]? =some (.cells (limbs l++pad).toArray e (0,0))) (lm:Lim l) (hc:l.length≤c) (hm:c≤maxLen):LR w (some ⟨g,0,none⟩) c l:=
 ⟨fun h=>(by cases h),hc,hm,lm, .inr ⟨_,c,rfl,fun j u hj=>by
  rw [add_mk,cell_of_row w g _ _ _ _ h,Nat.zero_add]
  simpa using pre_at (pad:=pad) hj⟩⟩
end Go.Proofs.YtoiebebjgnpkmaaGreatDoor
namespace Go.Proofs.YtoiebebjgnpkmaaGreatDoor
open Go.RowKit
set_option linter.unusedSimpArgs false
set_option linter.unusedVariables false
set_option maxHeartbeats 4000000
set_option maxRecDepth 100000
def cmpZ (x y:Int):Int:=if x<y then -1 else if y<x then 1 else 0
theorem nanI (w:World) (x:Int):Calls Tryz.prog 129 #[.int .i64 x] w fun e w'=>e= .returned (.bool false)∧Fr [] w w':=by
 have H:=Hp.start [] w
 go_enter Tryz.func129,Tryz.ntmps129
 ((try simp only [Int.not_lt,Int.not_le] at*);revert H;refine W08de ?_ <;>unhygienic intros)
 go_ret
 exact ⟨rfl,H.fr⟩
theorem cmpI (w:World) (x y:Int):Calls Tryz.prog 216 #[.int .i64 x, .int .i64 y] w fun e w'=>e= .returned (.int .i64 (cmpZ x y))∧Fr [] w w':=by
 have H:=Hp.start [] w
 have hz:cmpZ x y=if x<y then -1 else if y<x then 1 else 0:=rfl
 by_cases h1:x<y
 ·have Hz:Hid (cmpZ x y= -1):=hid (by rw [hz,if_pos h1])
  clear hz
  go_enter Tryz.func216,Tryz.ntmps216
  ((try simp only [Int.not_lt,Int.not_le] at*);revert H;refine W08de ?_ <;>unhygienic intros)
  (refine x_c H (nanI _ x) ?_;clear H;rintro e w1 ⟨rfl,hF⟩ H)
  ((try simp only [Int.not_lt,Int.not_le] at*);revert H;refine W08de ?_ <;>unhygienic intros)
  (refine x_c H (nanI _ y) ?_;clear H;rintro e w1 ⟨rfl,hF⟩ H)
  ((try simp only [Int.not_lt,Int.not_le] at*);revert H;refine W08de ?_ <;>unhygienic intros)
  go_ret
  exact ⟨by rw [Hz.out];rfl,H.fr⟩
 ·by_cases h2:y<x
  ·have Hz:Hid (cmpZ x y=1):=hid (by rw [hz,if_neg h1,if_pos h2])
   clear hz
   go_enter Tryz.func216,Tryz.ntmps216
   ((try simp only [Int.not_lt,Int.not_le] at*);revert H;refine W08de ?_ <;>unhygienic intros)
   (refine x_c H (nanI _ x) ?_;clear H;rintro e w1 ⟨rfl,hF⟩ H)
   ((try simp only [Int.not_lt,Int.not_le] at*);revert H;refine W08de ?_ <;>unhygienic intros)
   (refine x_c H (nanI _ y) ?_;clear H;rintro e w1 ⟨rfl,hF⟩ H)
   ((try simp only [Int.not_lt,Int.not_le] at*);revert H;refine W08de ?_ <;>unhygienic intros)
   go_ret
   exact ⟨by rw [Hz.out];rfl,H.fr⟩
  ·have Hz:Hid (cmpZ x y=0):=hid (by rw [hz,if_neg h1,if_neg h2])
   clear hz
   go_enter Tryz.func216,Tryz.ntmps216
   ((try simp only [Int.not_lt,Int.not_le] at*);revert H;refine W08de ?_ <;>unhygienic intros)
   (refine x_c H (nanI _ x) ?_;clear H;rintro e w1 ⟨rfl,hF⟩ H)
   ((try simp only [Int.not_lt,Int.not_le] at*);revert H;refine W08de ?_ <;>unhygienic intros)
   (refine x_c H (nanI _ y) ?_;clear H;rintro e w1 ⟨rfl,hF⟩ H)
   ((try simp only [Int.not_lt,Int.not_le] at*);revert H;refine W08de ?_ <;>unhygienic intros)
   go_ret
   exact ⟨by rw [Hz.out];rfl,H.fr⟩
theorem nanU (w:World) (x:Int):Calls Tryz.prog 255 #[.int .u32 x] w fun e w'=>e= .returned (.bool false)∧Fr [] w w':=by
 have H:=Hp.start [] w
 go_enter Tryz.func255,Tryz.ntmps255
 ((try simp only [Int.not_lt,Int.not_le] at*);revert H;refine W08de ?_ <;>unhygienic intros)
 go_ret
 exact ⟨rfl,H.fr⟩
theorem cmpU (w:World) (x y:Int):Calls Tryz.prog 246 #[.int .u32 x, .int .u32 y] w fun e w'=>e= .returned (.int .i64 (cmpZ x y))∧Fr [] w w':=by
 have H:=Hp.start [] w
 have hz:cmpZ x y=if x<y then -1 else if y<x then 1 else 0:=rfl
 by_cases h1:x<y
 ·have Hz:Hid (cmpZ x y= -1):=hid (by rw [hz,if_pos h1])
  clear hz
  go_enter Tryz.func246,Tryz.ntmps246
  ((try simp only [Int.not_lt,Int.not_le] at*);revert H;refine W08de ?_ <;>unhygienic intros)
  (refine x_c H (nanU _ x) ?_;clear H;rintro e w1 ⟨rfl,hF⟩ H)
  ((try simp only [Int.not_lt,Int.not_le] at*);revert H;refine W08de ?_ <;>unhygienic intros)
  (refine x_c H (nanU _ y) ?_;clear H;rintro e w1 ⟨rfl,hF⟩ H)
  ((try simp only [Int.not_lt,Int.not_le] at*);revert H;refine W08de ?_ <;>unhygienic intros)
  go_ret
  exact ⟨by rw [Hz.out];rfl,H.fr⟩
 ·by_cases h2:y<x
  ·have Hz:Hid (cmpZ x y=1):=hid (by rw [hz,if_neg h1,if_pos h2])
   clear hz
   go_enter Tryz.func246,Tryz.ntmps246
   ((try simp only [Int.not_lt,Int.not_le] at*);revert H;refine W08de ?_ <;>unhygienic intros)
   (refine x_c H (nanU _ x) ?_;clear H;rintro e w1 ⟨rfl,hF⟩ H)
   ((try simp only [Int.not_lt,Int.not_le] at*);revert H;refine W08de ?_ <;>unhygienic intros)
   (refine x_c H (nanU _ y) ?_;clear H;rintro e w1 ⟨rfl,hF⟩ H)
   ((try simp only [Int.not_lt,Int.not_le] at*);revert H;refine W08de ?_ <;>unhygienic intros)
   go_ret
   exact ⟨by rw [Hz.out];rfl,H.fr⟩
  ·have Hz:Hid (cmpZ x y=0):=hid (by rw [hz,if_neg h1,if_neg h2])
   clear hz
   go_enter Tryz.func246,Tryz.ntmps246
   ((try simp only [Int.not_lt,Int.not_le] at*);revert H;refine W08de ?_ <;>unhygienic intros)
   (refine x_c H (nanU _ x) ?_;clear H;rintro e w1 ⟨rfl,hF⟩ H)
   ((try simp only [Int.not_lt,Int.not_le] at*);revert H;refine W08de ?_ <;>unhygienic intros)
   (refine x_c H (nanU _ y) ?_;clear H;rintro e w1 ⟨rfl,hF⟩ H)
   ((try simp only [Int.not_lt,Int.not_le] at*);revert H;refine W08de ?_ <;>unhygienic intros)
   go_ret
   exact ⟨by rw [Hz.out];rfl,H.fr⟩
theorem cmpZ_lt {x y:Int} (h:x<y):cmpZ x y= -1:=by unfold cmpZ;rw [if_pos h]
theorem cmpZ_gt {x y:Int} (h:y<x):cmpZ x y=1:=by unfold cmpZ;rw [if_neg (by omega),if_pos h]
theorem cmpZ_eq (x:Int):cmpZ x x=0:=by unfold cmpZ;rw [if_neg (by omega),if_neg (by omega)]
theorem cmpZ_len {a b:Nat} (h:(digs a).length≠(digs b).length):cmpZ ((digs a).length:Nat) ((digs b).length:Nat)=cmpZ a b:=by
 rcases Nat.lt_or_ge (digs a).length (digs b).length with h1 | h1
 ·rw [cmpZ_lt (by omega),cmpZ_lt (by have:=digs_len_lt h1;omega)]
 ·have h2:(digs b).length<(digs a).length:=by omega
  rw [cmpZ_gt (by omega),cmpZ_gt (by have:=digs_len_lt h2;omega)]
theorem cmpZ_at {a b:List Nat} (ha:Lim a) (hb:Lim b) (hl:a.length=b.length) {i x y:Nat} (hx:a[i]? =some x) (hy:b[i]? =some y) (hd:a.drop (i+1)=b.drop (i+1)) (hne:x≠y):cmpZ x y=cmpZ (val a) (val b):=by
 rcases Nat.lt_or_ge x y with h | h
 ·rw [cmpZ_lt (by omega),cmpZ_lt (by have:=cmp_at ha hb hl hx hy hd h;omega)]
 ·rw [cmpZ_gt (by omega),cmpZ_gt (by have:=cmp_at hb ha hl.symm hy hx hd.symm (by omega);omega)]
theorem drop_same {a b:List Nat} {i x:Nat} (hx:a[i]? =some x) (hy:b[i]? =some x) (hd:a.drop (i+1)=b.drop (i+1)):a.drop i=b.drop i:=by
 obtain ⟨h1,e1⟩:=List.getElem?_eq_some_iff.1 hx
 obtain ⟨h2,e2⟩:=List.getElem?_eq_some_iff.1 hy
 rw [List.drop_eq_getElem_cons h1,List.drop_eq_getElem_cons h2,hd,e1,e2]
theorem compare_any {w:World} {p q:Option Addr} {n m c d:Nat} (a b:Nat) (hn:(digs a).length=n) (hm:(digs b).length=m) (h:LR w p c (digs a)) (k:LR w q d (digs b)):
 Calls Tryz.prog 229 #[.slice p n c, .slice q m d] w fun e w'=>e= .returned (.int .i64 (cmpZ a b))∧Fr [] w w':=by
 obtain ⟨hlc,hc⟩:=h.clen
 obtain ⟨hlc2,hc2⟩:=k.clen
 rw [hn] at hlc
 rw [hm] at hlc2
 have Hh:=hid h
 have Hk:=hid k
 have Hn:=hid hn
 have Hm:=hid hm
 clear h k hn hm
 have H:=Hp.start [] w
 by_cases hnm:n=m
 ·have Hnm:=hid hnm
  have hnm1:n≤m:=by omega
  have hnm2:m≤n:=by omega
  clear hnm
  go_enter Tryz.func229,Tryz.ntmps229
  ((try simp only [Int.not_lt,Int.not_le] at*);revert H;refine W08de ?_ <;>unhygienic intros)
  go_loopw [5] (fun s5 wr=>∃ i:Nat,i≤n∧s5= .int .i64 ((i:Int) - 1)∧Hid ((digs a).drop i=(digs b).drop i)∧Hp [] w wr []) (fun v _ =>(intOf v+1).toNat)
  case atStart=>exact ⟨n,Nat.le_refl _,rfl,hid (by rw [List.drop_eq_nil_of_le (by rw [Hn.out];exact Nat.le_refl _),List.drop_eq_nil_of_le (by rw [Hm.out];omega)]),H⟩
  case round=>
   clear H
   obtain ⟨i,hi,rfl,hd,H⟩:=hrel
   by_cases h0:i=0
   ·have Hz:Hid (cmpZ a b=0):=hid (by
     have:=hd.out
     rw [h0,List.drop_zero,List.drop_zero] at this
     rw [digs_inj this,cmpZ_eq])
    have h0':(i:Int) - 1<0:=by omega
    clear h0
    ((try simp only [Int.not_lt,Int.not_le] at*);revert H;refine W08de ?_ <;>unhygienic intros)
    go_ret
    exact ⟨by rw [Hz.out];rfl,H.fr⟩
   ·obtain ⟨j,rfl⟩:∃ j,i=j+1:=⟨i - 1,by omega⟩
    obtain ⟨x,hx⟩:∃ x,(digs a)[j]? =some x:=⟨_,List.getElem?_eq_getElem (by rw [Hn.out];omega)⟩
    obtain ⟨y,hy⟩:∃ y,(digs b)[j]? =some y:=⟨_,List.getElem?_eq_getElem (by rw [Hm.out];omega)⟩
    have hxv:=limbs_at hx
    have hyv:=limbs_at hy
    have Hx:=hid hx
    have Hy:=hid hy
    clear hx hy h0
    have r1:=Hh.out.rd
    have r2:=Hk.out.rd
    rw [Hn.out] at r1
    rw [Hm.out] at r2
    obtain ⟨b0,off,rfl,hb0,hcell⟩:=r1.rng (limbs_ne (i:=j) (by rw [Hn.out];omega))
    obtain ⟨b1,off1,rfl,hb1,hcell1⟩:=r2.rng (limbs_ne (i:=j) (by rw [Hm.out];omega))
    have H1:=(H.pushRng (b:=b0) (off:=off) hb0 (by simp) hcell).pushRng (b:=b1) (off:=off1) hb1 (by simp) hcell1
    clear H hcell hcell1 r1 r2
    have H:=H1
    clear H1
    have e1:(((j+1:Nat):Int) - 1)=(j:Int):=by omega
    rw [e1]
    clear e1
    have hjm:j<m:=by omega
    by_cases hxy:x=y
    ·subst hxy
     have Hd:=hid (drop_same Hx.out Hy.out hd.out)
     ((try simp only [Int.not_lt,Int.not_le] at*);revert H;refine W08de ?_ <;>unhygienic intros)
     (revert H;refine w_p 9 (.st 0 (.st 1 (.st 2 (.st 3 (.st 4 (.st 5 (.st 6 (.st 7 (.st 8 .done))))))))) ?_;intro w1 H)
     iterate 9 refine p_q ?_
     (refine pl_done ?_)
     all_goals
      ((try simp only [Int.not_lt,Int.not_le] at*);revert H;refine W08de ?_ <;>unhygienic intros)
      go_roundw
      case rel=>exact ⟨j,by omega,by go_num,Hd,H.sub (by repeat first | exact List.Sublist.refl _ | exact List.nil_sublist _ | apply List.Sublist.cons_cons | apply List.Sublist.cons)⟩
      case measure=>(simp [intOf];try omega)
    ·have Hz:=hid (cmpZ_at (digs_lim a) (digs_lim b) (by rw [Hn.out,Hm.out,Hnm.out]) Hx.out Hy.out hd.out hxy)
     have hxy1:¬ (x:Int)=(y:Int):=by omega
     ((try simp only [Int.not_lt,Int.not_le] at*);revert H;refine W08de ?_ <;>unhygienic intros)
     (revert H;refine w_p 9 (.st 0 (.st 1 (.st 2 (.st 3 (.st 4 (.st 5 (.st 6 (.st 7 (.st 8 .done))))))))) ?_;intro w1 H)
     iterate 9 refine p_q ?_
     (refine pl_done ?_)
     all_goals
      ((try simp only [Int.not_lt,Int.not_le] at*);revert H;refine W08de ?_ <;>unhygienic intros)
      (revert H;refine w_p 10 (.st 0 (.st 1 (.st 2 (.st 3 (.st 4 (.st 5 (.st 6 (.st 7 (.ld 8 (.st 9 .done)))))))))) ?_;intro w1 H)
      iterate 8 refine p_q ?_
      ((refine pl_rw rfl rfl (fun K hK=>rw_call rfl Tryz.func246 (by kernel_rfl) rfl (cmpU _ x y) (fun e w1 hpost=> ?_)));obtain ⟨rfl,hF⟩:=hpost;refine ⟨_,rfl, ?_⟩;have H1:=H.step hF (by simp);refine hK _ _ (fun hne=>by first | exact absurd rfl hne | exact H1.sub (by repeat first | exact List.Sublist.refl _ | exact List.nil_sublist _ | apply List.Sublist.cons_cons | apply List.Sublist.cons)) ?_;clear hK K;(clear H;have H:=H1;clear H1);(simp only [nrm,↓reduceIte,Nat.reduceAdd]))
      refine p_q ?_
      (refine pl_done ?_)
      all_goals
       ((try simp only [Int.not_lt,Int.not_le] at*);revert H;refine W08de ?_ <;>unhygienic intros)
       go_ret
       exact ⟨by rw [Hz.out,val_digs,val_digs];rfl,H.fr⟩
 ·have hnm1:¬ (n:Int)=(m:Int):=by omega
  have Hz:=hid (cmpZ_len (a:=a) (b:=b) (by rw [Hn.out,Hm.out];exact hnm))
  rw [Hn.out,Hm.out] at Hz
  clear hnm
  go_enter Tryz.func229,Tryz.ntmps229
  ((try simp only [Int.not_lt,Int.not_le] at*);revert H;refine W08de ?_ <;>unhygienic intros)
  (refine x_c H (cmpI _ n m) ?_;clear H;rintro e w1 ⟨rfl,hF⟩ H)
  ((try simp only [Int.not_lt,Int.not_le] at*);revert H;refine W08de ?_ <;>unhygienic intros)
  go_ret
  exact ⟨by rw [← Hz.out];rfl,H.fr⟩
end Go.Proofs.YtoiebebjgnpkmaaGreatDoor
namespace Go.Proofs.YtoiebebjgnpkmaaGreatDoor
open Go.RowKit
set_option linter.unusedSimpArgs false
set_option linter.unusedVariables false
set_option maxHeartbeats 4000000
set_option maxRecDepth 100000
theorem Hp.blkObj {T:List Nat} {w0 w:World} {l:List Ent} {g:Nat} {cs:List Value} {e:TypeId} (H:Hp T w0 w (.blk g cs e::l)) (k:Nat) {Q:World→Prop} (hq:Q w) [m:Fm [g] Q]:Hp T w0 w (.obj k [g] Q::l):=H.recast (.head _) rfl ⟨hq,m.h,fun x hx=>by simp only [List.mem_singleton] at hx;subst hx;exact (H.ok _ (.head _)).2⟩
instance {e:TypeId} {sz:Nat} {v:Value} {n:Nat} {xs:List Value} {S:List Nat}:Fm S (RowAt e sz v n xs S):=⟨RowAt.firm⟩
theorem LR.trim {w:World} {p:Option Addr} {c:Nat} {l:List Nat} (h:LR w p c l):LR w p c (digs (val l)):=by
 have:=h.pre (digs_len_le h.lim)
 rwa [digs_take h.lim] at this
theorem limbs_snoc (o:List Nat) (t:Nat):limbs o++[.int .u32 (t:Int)]=limbs (o++[t]):=by simp [limbs]
theorem zeros_len (n:Nat) (v:Value):(List.replicate n [v]).flatten.length=n:=by simp
theorem plus_any {w:World} {p q:Option Addr} {n m c d:Nat} (a b:List Nat) (hn:a.length=n) (hm:b.length=m) (hn0:n≤1000000) (hm0:m≤1000000) (h:LR w p c a) (k:LR w q d b):
 Calls Tryz.prog 115 #[.slice p n c, .slice q m d] w fun e w'=>∃ p' c',e= .returned (.slice p' (digs (val a+val b)).length c')∧Fr [] w w'∧LR w' p' c' (digs (val a+val b)):=by
 subst hn hm
 have Hh:=hid h
 have Hk:=hid k
 clear h k
 have H:=Hp.start [] w
 by_cases hmn:b.length≤a.length
 ·go_enter Tryz.func115,Tryz.ntmps115
  (revert H;refine W08de ?_ <;>unhygienic intros)
  rw [show ((a.length:Int)+1).toNat=a.length+1 by omega] at H
  have H1:=H.blkObj 0 (Q:=RowAt 162 1 (.slice (some ⟨g,0,none⟩) 0 (a.length+1)) 0 [] [g]) ⟨rfl, .inr ⟨g,a.length+1,(List.replicate (a.length+1) [Value.int .u32 0]).flatten,rfl,rfl,Nat.zero_le _,by unfold maxLen;omega,by rw [List.nil_append,zeros_len,Nat.mul_one],H.at g⟩⟩
  clear H hg
  have H:=H1
  clear H1
  go_loopw [5,6,23] (fun s5 s6 s23 wr=>∃ (i:Nat) (o:List Nat) (cy:Nat) (pv:Value) (S:List Nat),i≤a.length∧s23= .int .i64 i∧s6= .int .u64 cy∧s5=pv∧Hid (o.length=i)∧Hid (Lim o)∧cy≤1∧Hid (val o+4294967296 ^ i*cy=val (a.take i)+val (b.take i))∧Hp [] w wr [.obj 0 S (RowAt 162 1 pv i (limbs o) S)]) (fun _ _ v _ =>a.length - (intOf v).toNat)
  case atStart=>exact ⟨0,[],0,_,_,Nat.zero_le _,rfl,rfl,by simp,hid rfl,hid Lim.nil,Nat.zero_le _,hid rfl,H⟩
  case round=>
   clear H
   obtain ⟨i,o,cy,pv,S,hi,rfl,rfl,hpv,Hol,Hlo,hcy,Hv,H⟩:=hrel
   obtain ⟨p5,c5,he,_⟩:=(H.rowo 0).form
   subst he
   subst hpv
   by_cases hin:i<a.length
   ·obtain ⟨x,hx⟩:∃ x,a[i]? =some x:=⟨_,List.getElem?_eq_getElem hin⟩
    have hxv:=limbs_at hx
    have hxB:=Hh.out.lim.at hx
    have Hx:=hid hx
    clear hx
    obtain ⟨b0,off,rfl,hb0,hcell⟩:=Hh.out.rd.rng (limbs_ne (i:=i) hin)
    have H1:=H.pushRng (b:=b0) (off:=off) hb0 (by simp) hcell
    clear H hcell
    have H:=H1
    clear H1
    by_cases him:i<b.length
    ·obtain ⟨y,hy⟩:∃ y,b[i]? =some y:=⟨_,List.getElem?_eq_getElem him⟩
     have hyv:=limbs_at hy
     have hyB:=Hk.out.lim.at hy
     have Hy:=hid hy
     clear hy
     obtain ⟨b1,off1,rfl,hb1,hcell1⟩:=Hk.out.rd.rng (limbs_ne (i:=i) him)
     have H1:=H.pushRng (b:=b1) (off:=off1) hb1 (by simp) hcell1
     clear H hcell1
     have H:=H1
     clear H1
     (revert H;refine W13b8 ?_ <;>unhygienic intros)
     have e1:((x:Int)+(cy:Int)+(y:Int)) % 4294967296=(((x+y+cy) % 4294967296:Nat):Int):=by omega
     rw [e1,limbs_snoc] at H
     go_roundw
     case rel=>exact ⟨i+1,o++[(x+y+cy) % 4294967296],(x+y+cy) / 4294967296,_,S',by omega,by go_num,by rw [show ((x:Int)+(cy:Int)+(y:Int)) / 4294967296=(((x+y+cy) / 4294967296:Nat):Int) by omega],rfl,hid (by rw [List.length_append,Hol.out];rfl),hid (Hlo.out.app (Lim.cons (Nat.mod_lt _ (by decide)) Lim.nil)),by omega,hid (by rw [plus_round Hol.out Hv.out rfl,val_take_succ Hx.out,val_take_succ Hy.out];omega),H.sub (by repeat first | exact List.Sublist.refl _ | exact List.nil_sublist _ | apply List.Sublist.cons_cons | apply List.Sublist.cons)⟩
     case measure=>(simp [intOf];try omega)
    ·(revert H;refine W172f ?_ <;>unhygienic intros)
     have e1:((x:Int)+(cy:Int)) % 4294967296=(((x+0+cy) % 4294967296:Nat):Int):=by omega
     rw [e1,limbs_snoc] at H
     go_roundw
     case rel=>exact ⟨i+1,o++[(x+0+cy) % 4294967296],(x+0+cy) / 4294967296,_,S',by omega,by go_num,by rw [show ((x:Int)+(cy:Int)) / 4294967296=(((x+0+cy) / 4294967296:Nat):Int) by omega],rfl,hid (by rw [List.length_append,Hol.out];rfl),hid (Hlo.out.app (Lim.cons (Nat.mod_lt _ (by decide)) Lim.nil)),by omega,hid (by rw [plus_round Hol.out Hv.out rfl,val_take_succ Hx.out,take_over (by omega)];omega),H.sub (by repeat first | exact List.Sublist.refl _ | exact List.nil_sublist _ | apply List.Sublist.cons_cons | apply List.Sublist.cons)⟩
     case measure=>(simp [intOf];try omega)
   ·have e:i=a.length:=by omega
    have Hi:=hid e
    have HV:Hid (val (o++[cy])=val a+val b):=hid (by
     have:=Hv.out
     rw [e,List.take_of_length_le (Nat.le_refl _),List.take_of_length_le (by omega)] at this
     rw [val_snoc,Hol.out,e,this])
    have Hl1:Hid (Lim (o++[cy])):=hid (Hlo.out.app (Lim.cons (by omega) Lim.nil))
    clear e
    (revert H;refine Wdab7 ?_ <;>unhygienic intros)
    rw [limbs_snoc] at H
    obtain ⟨p6,c6,e6,e7,hL⟩:=LR.of_row (H.rowo 0) Hl1.out
    injection e6 with e61 e62 e63
    subst e61 e63
    have HL:=hid hL
    refine Calls.mono (trim_any (o++[cy]) e7 HL.out) ?_
    rintro e w1 ⟨rfl,hF⟩
    have HL2:=hid (hL.fr hF).trim
    have H1:=H.step hF (by simp)
    clear H hF hL HL e7
    have H:=H1
    clear H1
    (revert H;refine W08de ?_ <;>unhygienic intros)
    go_ret
    rw [HV.out] at HL2
    exact ⟨_,_,by rw [HV.out];rfl,H.fr,HL2.out⟩
 ·have hmn2:a.length≤b.length:=by omega
  go_enter Tryz.func115,Tryz.ntmps115
  (revert H;refine W08de ?_ <;>unhygienic intros)
  rw [show ((b.length:Int)+1).toNat=b.length+1 by omega] at H
  have H1:=H.blkObj 0 (Q:=RowAt 162 1 (.slice (some ⟨g,0,none⟩) 0 (b.length+1)) 0 [] [g]) ⟨rfl, .inr ⟨g,b.length+1,(List.replicate (b.length+1) [Value.int .u32 0]).flatten,rfl,rfl,Nat.zero_le _,by unfold maxLen;omega,by rw [List.nil_append,zeros_len,Nat.mul_one],H.at g⟩⟩
  clear H hg
  have H:=H1
  clear H1
  go_loopw [5,6,23] (fun s5 s6 s23 wr=>∃ (i:Nat) (o:List Nat) (cy:Nat) (pv:Value) (S:List Nat),i≤b.length∧s23= .int .i64 i∧s6= .int .u64 cy∧s5=pv∧Hid (o.length=i)∧Hid (Lim o)∧cy≤1∧Hid (val o+4294967296 ^ i*cy=val (b.take i)+val (a.take i))∧Hp [] w wr [.obj 0 S (RowAt 162 1 pv i (limbs o) S)]) (fun _ _ v _ =>b.length - (intOf v).toNat)
  case atStart=>exact ⟨0,[],0,_,_,Nat.zero_le _,rfl,rfl,by simp,hid rfl,hid Lim.nil,Nat.zero_le _,hid rfl,H⟩
  case round=>
   clear H
   obtain ⟨i,o,cy,pv,S,hi,rfl,rfl,hpv,Hol,Hlo,hcy,Hv,H⟩:=hrel
   obtain ⟨p5,c5,he,_⟩:=(H.rowo 0).form
   subst he
   subst hpv
   by_cases hin:i<b.length
   ·obtain ⟨x,hx⟩:∃ x,b[i]? =some x:=⟨_,List.getElem?_eq_getElem hin⟩
    have hxv:=limbs_at hx
    have hxB:=Hk.out.lim.at hx
    have Hx:=hid hx
    clear hx
    obtain ⟨b0,off,rfl,hb0,hcell⟩:=Hk.out.rd.rng (limbs_ne (i:=i) hin)
    have H1:=H.pushRng (b:=b0) (off:=off) hb0 (by simp) hcell
    clear H hcell
    have H:=H1
    clear H1
    by_cases him:i<a.length
    ·obtain ⟨y,hy⟩:∃ y,a[i]? =some y:=⟨_,List.getElem?_eq_getElem him⟩
     have hyv:=limbs_at hy
     have hyB:=Hh.out.lim.at hy
     have Hy:=hid hy
     clear hy
     obtain ⟨b1,off1,rfl,hb1,hcell1⟩:=Hh.out.rd.rng (limbs_ne (i:=i) him)
     have H1:=H.pushRng (b:=b1) (off:=off1) hb1 (by simp) hcell1
     clear H hcell1
     have H:=H1
     clear H1
     (revert H;refine W13b8 ?_ <;>unhygienic intros)
     have e1:((x:Int)+(cy:Int)+(y:Int)) % 4294967296=(((x+y+cy) % 4294967296:Nat):Int):=by omega
     rw [e1,limbs_snoc] at H
     go_roundw
     case rel=>exact ⟨i+1,o++[(x+y+cy) % 4294967296],(x+y+cy) / 4294967296,_,S',by omega,by go_num,by rw [show ((x:Int)+(cy:Int)+(y:Int)) / 4294967296=(((x+y+cy) / 4294967296:Nat):Int) by omega],rfl,hid (by rw [List.length_append,Hol.out];rfl),hid (Hlo.out.app (Lim.cons (Nat.mod_lt _ (by decide)) Lim.nil)),by omega,hid (by rw [plus_round Hol.out Hv.out rfl,val_take_succ Hx.out,val_take_succ Hy.out];omega),H.sub (by repeat first | exact List.Sublist.refl _ | exact List.nil_sublist _ | apply List.Sublist.cons_cons | apply List.Sublist.cons)⟩
     case measure=>(simp [intOf];try omega)
    ·(revert H;refine W172f ?_ <;>unhygienic intros)
     have e1:((x:Int)+(cy:Int)) % 4294967296=(((x+0+cy) % 4294967296:Nat):Int):=by omega
     rw [e1,limbs_snoc] at H
     go_roundw
     case rel=>exact ⟨i+1,o++[(x+0+cy) % 4294967296],(x+0+cy) / 4294967296,_,S',by omega,by go_num,by rw [show ((x:Int)+(cy:Int)) / 4294967296=(((x+0+cy) / 4294967296:Nat):Int) by omega],rfl,hid (by rw [List.length_append,Hol.out];rfl),hid (Hlo.out.app (Lim.cons (Nat.mod_lt _ (by decide)) Lim.nil)),by omega,hid (by rw [plus_round Hol.out Hv.out rfl,val_take_succ Hx.out,take_over (by omega)];omega),H.sub (by repeat first | exact List.Sublist.refl _ | exact List.nil_sublist _ | apply List.Sublist.cons_cons | apply List.Sublist.cons)⟩
     case measure=>(simp [intOf];try omega)
   ·have e:i=b.length:=by omega
    have Hi:=hid e
    have HV:Hid (val (o++[cy])=val a+val b):=hid (by
     have:=Hv.out
     rw [e,List.take_of_length_le (Nat.le_refl _),List.take_of_length_le (by omega)] at this
     rw [val_snoc,Hol.out,e,this];exact Nat.add_comm _ _)
    have Hl1:Hid (Lim (o++[cy])):=hid (Hlo.out.app (Lim.cons (by omega) Lim.nil))
    clear e
    (revert H;refine Wdab7 ?_ <;>unhygienic intros)
    rw [limbs_snoc] at H
    obtain ⟨p6,c6,e6,e7,hL⟩:=LR.of_row (H.rowo 0) Hl1.out
    injection e6 with e61 e62 e63
    subst e61 e63
    have HL:=hid hL
    refine Calls.mono (trim_any (o++[cy]) e7 HL.out) ?_
    rintro e w1 ⟨rfl,hF⟩
    have HL2:=hid (hL.fr hF).trim
    have H1:=H.step hF (by simp)
    clear H hF hL HL e7
    have H:=H1
    clear H1
    (revert H;refine W08de ?_ <;>unhygienic intros)
    go_ret
    rw [HV.out] at HL2
    exact ⟨_,_,by rw [HV.out];rfl,H.fr,HL2.out⟩
end Go.Proofs.YtoiebebjgnpkmaaGreatDoor
