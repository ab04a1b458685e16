import Derived.Test.YtoiebebjgnpkmaaGreatDoorYJ46
import Derived.Test.YtoiebebjgnpkmaaGreatDoorYJ13
import Derived.Test.YtoiebebjgnpkmaaGreatDoorYJ17
import Derived.Test.YtoiebebjgnpkmaaGreatDoorYJ16
import Derived.Test.YtoiebebjgnpkmaaGreatDoorYJ0
import Derived.Test.YtoiebebjgnpkmaaGreatDoorYJ15
namespace Go.Proofs.YtoiebebjgnpkmaaGreatDoor
open Go.RowKit
set_option linter.unusedSimpArgs false
set_option linter.unusedVariables false
set_option maxHeartbeats 4000000
set_option maxRecDepth 100000
theorem dl_shift {x:Int} {n:Nat} (k:Nat) (hx:dl x≤n):dl (x*2 ^ k)≤n+k:=by
 apply dl_le
 have e:((2:Int) ^ k).natAbs=2 ^ k:=by rw [Int.natAbs_pow];rfl
 rw [Int.natAbs_mul,e,Nat.pow_add]
 have h1:x.natAbs<4294967296 ^ n:=Nat.lt_of_lt_of_le dl_lt (Nat.pow_le_pow_right (by decide) hx)
 have h2:2 ^ k≤4294967296 ^ k:=Nat.pow_le_pow_left (by decide) k
 exact Nat.lt_of_lt_of_le (Nat.mul_lt_mul_of_pos_right h1 (Nat.two_pow_pos k)) (Nat.mul_le_mul_left _ h2)
theorem shiftUp_ar {w:World} {u:Value} {x:Int} {n:Nat} (k:Nat) (h:Av w u x n) (hn:n≤200000) (hk:k≤1048576):
 Calls Tryz.prog 181 #[u, .int .i64 (k:Int)] w fun e w'=>∃ v1,e= .returned (.tuple #[v1, .int .i64 0])∧Fr [] w w'∧Bv w' v1 (x*2 ^ k) (n+k):=by
 have hd:=h.dl
 obtain ⟨na,la,p,c,rfl,h1,rfl,h3⟩:=h
 refine Calls.mono (shift_up k na la rfl (by omega) hk h1) ?_
 rintro e w' ⟨v1,rfl,hF,b1⟩
 exact ⟨v1,rfl,hF,b1,dl_shift k hd⟩
theorem shiftDown_ar {w:World} {u:Value} {x:Int} {n:Nat} (k:Nat) (h:Av w u x n) (hn:n≤200000) (hk:k≤1048576):
 Calls Tryz.prog 181 #[u, .int .i64 (-(k:Int))] w fun e w'=>∃ v1,e= .returned (.tuple #[v1, .int .i64 0])∧Fr [] w w'∧Bv w' v1 (x / 2 ^ k) n:=by
 have hd:=h.dl
 obtain ⟨na,la,p,c,rfl,h1,rfl,h3⟩:=h
 rcases Nat.eq_zero_or_pos k with h0 | h0
 ·subst h0
  refine Calls.mono (shift_up 0 na la rfl (by omega) (by omega) h1) ?_
  rintro e w' ⟨v1,rfl,hF,b1⟩
  have e:zv na la / 2 ^ 0=zv na la*2 ^ 0:=by rw [Int.pow_zero,Int.ediv_one,Int.mul_one]
  exact ⟨v1,rfl,hF,by rw [e];exact b1,by rw [Int.pow_zero,Int.ediv_one];exact hd⟩
 ·refine Calls.mono (shift_down k na la rfl (by omega) h0 hk h1) ?_
  rintro e w' ⟨v1,rfl,hF,b1⟩
  exact ⟨v1,rfl,hF,b1,dl_div hd⟩
theorem bitLen_ar {w:World} {u:Value} {x:Int} {n:Nat} (h:Av w u x n) (hn:n≤200000):
 Calls Tryz.prog 182 #[u] w fun e w'=>e= .returned (.int .i64 (bl x.natAbs:Int))∧Fr [] w w':=by
 obtain ⟨na,la,p,c,rfl,h1,rfl,h3⟩:=h
 rw [zv_abs]
 exact bitLen_any na la rfl (by omega) h1
theorem trailing_ar {w:World} {u:Value} {x:Int} {n:Nat} (h:Av w u x n) (hn:n≤200000) (hT:TabAt 6 Lib.deBruijn32tab w):
 Calls Tryz.prog 190 #[u] w fun e w'=>e= .returned (.int .i64 (tz x.natAbs:Int))∧Fr [] w w':=by
 obtain ⟨na,la,p,c,rfl,h1,rfl,h3⟩:=h
 rw [zv_abs]
 exact trailing_any na la rfl (by omega) h1 hT
theorem abs_shift (x:Int) (k:Nat):(x*2 ^ k).natAbs=x.natAbs*2 ^ k:=by
 have e:((2:Int) ^ k).natAbs=2 ^ k:=by rw [Int.natAbs_pow];rfl
 rw [Int.natAbs_mul,e]
theorem tz_le:∀ (n x:Nat),x<2 ^ n→tz x≤n
 | 0,x,h=>by
  have:x=0:=by simpa using h
  subst this;rw [tz_zero];exact Nat.le_refl _
 | n+1,x,h=>by
  by_cases h0:x=0
  ·subst h0;rw [tz_zero];omega
  ·by_cases h1:x % 2=1
   ·rw [tz_odd h1];omega
   ·rw [Nat.pow_succ] at h
    have e:x=2*(x / 2):=by omega
    have h2:=tz_le n (x / 2) (by omega)
    rw [e,tz_even (by omega)]
    omega
end Go.Proofs.YtoiebebjgnpkmaaGreatDoor
namespace Go.Proofs.YtoiebebjgnpkmaaGreatDoor
open Go.RowKit
set_option linter.unusedSimpArgs false
set_option linter.unusedVariables false
inductive Rm (e:Ent):List Ent→List Ent→Prop where
 | here (l:List Ent):Rm e (e::l) l
 | there {x:Ent} {l l2:List Ent} (h:Rm e l l2):Rm e (x::l) (x::l2)
theorem Rm.perm {e:Ent} {l l2:List Ent} (h:Rm e l l2):List.Perm l (e::l2):=by
 induction h with
 | here l=>exact List.Perm.refl _
 | there h ih=>exact (List.Perm.cons _ ih).trans (List.Perm.swap _ _ _)
inductive Pm:List Ent→List Ent→Prop where
 | nil (l:List Ent):Pm l []
 | cons {e:Ent} {l l2 r:List Ent} (h:Rm e l l2) (k:Pm l2 r):Pm l (e::r)
theorem Pm.sub {l r:List Ent} (h:Pm l r):∃ m,List.Perm l m∧List.Sublist r m:=by
 induction h with
 | nil l=>exact ⟨l,List.Perm.refl _,List.nil_sublist _⟩
 | cons h k ih=>
  obtain ⟨m,h1,h2⟩:=ih
  exact ⟨_,h.perm.trans (List.Perm.cons _ h1),h2.cons_cons _⟩
theorem Hp.arr {T:List Nat} {w0 w:World} {l r:List Ent} (H:Hp T w0 w l) (h:Pm l r):Hp T w0 w r:=by
 obtain ⟨m,h1,h2⟩:=h.sub
 exact (H.perm h1).sub h2
section
variable {P:Program} {w w0:World} {a:Act} {o:Oper} {T:List Nat} {l:List Ent} {K:Act→World→Prop} {Q:Exit→Act→World→Prop}
theorem ev_max {x y:Operand} {t t':TypeId} (ho:o.op= .call {callee:= .builtin .max,args:=#[x,y],argTypes:=#[t,t']}) {k:IntKind} {m n z:Int} (hx:a.eval x= .int k m) (hy:a.eval y= .int k n) (hz:max m n=z:=by first | rfl | assumption | omega):(execOp a.eval o).run P w= .ok (.value (.int k z)) w:=by
 have e:(if n>m then n else m)=z:=by rw [← hz];split<;>omega
 unfold execOp
 simp [ho,hx,hy,resolve,invoke,builtin,Builtin.max_,Builtin.max2,e]
theorem ev_min {x y:Operand} {t t':TypeId} (ho:o.op= .call {callee:= .builtin .min,args:=#[x,y],argTypes:=#[t,t']}) {k:IntKind} {m n z:Int} (hx:a.eval x= .int k m) (hy:a.eval y= .int k n) (hz:min m n=z:=by first | rfl | assumption | omega):(execOp a.eval o).run P w= .ok (.value (.int k z)) w:=by
 have e:(if n<m then n else m)=z:=by rw [← hz];split<;>omega
 unfold execOp
 simp [ho,hx,hy,resolve,invoke,builtin,Builtin.min_,Builtin.min2,e]
theorem c_lf (H:Hp T w0 w l) {t:TypeId} {x:Operand} (ho:o.op= .load t x) {b p:Nat} (hx:a.eval x= .pointer (some ⟨b,p,none⟩)) {n:Nat} [s:Ro P t n] {cs:List Value} {t':TypeId} {f:Nat→List Value→List Ent} [i:In b cs t' l f] {vs:List Value} (hv:(cs.drop p).take n=vs:=by ((try simp only [List.drop_succ_cons,List.drop_zero,List.take_succ_cons,List.take_zero]);exact rfl)) (hn:vs.length=n:=by rfl):(execOp a.eval o).run P w= .ok (.value (.agg vs.toArray)) w:=
 c_lnp H ho hx (vs:=vs) (hv:=⟨(cs.drop p).drop n,by rw [← hv];exact List.take_append_drop _ _⟩) hn
theorem over_all {cs vs:List Value} (h:cs.length=vs.length):over cs 0 vs=vs:=by
 unfold over;rw [Nat.zero_add,List.drop_of_length_le (by omega)];simp
theorem c_stF (H:Hp T w0 w l) {t:TypeId} {x y:Operand} (ho:o.op= .store t x y) {b:Nat} {vs:List Value} (hx:a.eval x= .pointer (some ⟨b,0,none⟩)) (hy:a.eval y= .agg vs.toArray) {n:Nat} [hs:Ro P t n] {cs:List Value} {t':TypeId} {f:Nat→List Value→List Ent} [hm:In b cs t' l f] (hn:vs.length=n:=by rfl) (hc:cs.length=n:=by rfl)
 (h1:∀ v∈vs,v.oneCell'=true:=by intro z hz;simp only [List.mem_cons,List.not_mem_nil,or_false] at hz;rcases hz with rfl | rfl | rfl | rfl | rfl | rfl<;>rfl) (h3:∀ u∈cs,∀ x,u≠ .int .u32 x:=by intro z hz x;simp only [List.mem_cons,List.not_mem_nil,or_false] at hz;rcases hz with rfl | rfl | rfl | rfl | rfl | rfl<;>(intro h;cases h))
 (h:∀ w',Fr [b] w w'→Hp T w0 w' (f b vs)→(∀ p c l,LR w p c l→LR w' p c l)→K (a.put o.dst undef) w'):o.wp P a w K Q:=
 c_stn H ho hx (vs:=vs) hy hn h1 (by omega) (fun w' hf H1=>h w' hf (by rw [over_all (by omega)] at H1;exact H1) (fun p c l hL=>hL.keep (H.at b) h3 hf))
end
section
variable {P:Program} {ops:Array Oper} {Q:Exit→Act→World→Prop} {w w0:World} {rest lo:List Oper} {o:Oper} {T:List Nat} {l:List Ent} {L:List Value} {ds:List Deferred} {S:World→Prop} {fi i:Nat} {k:Plan}
theorem x_l (H:Hp T w0 w l) {v:Value} {L':List Value} (h:wpList P ops Q rest ⟨L'.toArray,ds⟩ w) (hw:Region.wanted o (yielded ops L.toArray)=true:=by rfl)
 (he:Hp T w0 w l→(execOp (Act.mk L.toArray ds).eval o).run P w= .ok (.value v) w:=by intro H;refine g_ld rfl ?_;exact c_lf H rfl rfl)
 (hs:putL L o.dst v=L':=by ((try simp only [nrm,putL_s,putL_n,↓reduceIte,Nat.reduceAdd]);(try exact rfl))):wpList P ops Q (o::rest) ⟨L.toArray,ds⟩ w:=x_e (he H) h hw hs
theorem x_sF {b:Nat} {l':List Ent} {L':List Value}
 (h:∀ w',Fr [b] w w'→Hp T w0 w' l'→(∀ p c l,LR w p c l→LR w' p c l)→wpList P ops Q rest ⟨L'.toArray,ds⟩ w')
 (hw:Region.wanted o (yielded ops L.toArray)=true:=by rfl)
 (he:Hp T w0 w l→∀ K:Act→World→Prop,(∀ w',Fr [b] w w'→Hp T w0 w' l'→(∀ p c l,LR w p c l→LR w' p c l)→K (Act.put ⟨L.toArray,ds⟩ o.dst undef) w')→o.wp P ⟨L.toArray,ds⟩ w K Q:=by intro H K hK;exact c_stF H rfl rfl rfl (h:=hK))
 (hs:putL L o.dst undef=L':=by ((try simp only [nrm,putL_s,putL_n,↓reduceIte,Nat.reduceAdd]);(try exact rfl))) (H:Hp T w0 w l):wpList P ops Q (o::rest) ⟨L.toArray,ds⟩ w:=
 wl_rw hw fun K hK=>he H K fun w' h2 h3 h4=>hK _ _ (by rw [put_eq,hs];exact h w' h2 h3 h4)
theorem p_sF {b:Nat} {l':List Ent} {L':List Value}
 (h:∀ w',Fr [b] w w'→Hp T w0 w' l'→(∀ p c l,LR w p c l→LR w' p c l)→k.wp P lo.toArray Q S fi ⟨L'.toArray,ds⟩ w') (hi:lo[i]? =some o:=by rfl)
 (hw:Region.wanted o (yielded lo.toArray L.toArray)=true:=by rfl)
 (he:Hp T w0 w l→∀ K:Act→World→Prop,(∀ w',Fr [b] w w'→Hp T w0 w' l'→(∀ p c l,LR w p c l→LR w' p c l)→K (Act.put ⟨L.toArray,ds⟩ o.dst undef) w')→o.wp P ⟨L.toArray,ds⟩ w K Q:=by intro H K hK;exact c_stF H rfl rfl rfl (h:=hK))
 (hs:putL L o.dst undef=L':=by ((try simp only [nrm,putL_s,putL_n,↓reduceIte,Nat.reduceAdd]);(try exact rfl)))
 (hS:i≠fi→∀ w',Hp T w0 w' l'→S w':=by intro hne w' H1;first | exact absurd rfl hne | exact trivial | exact H1.sub (by repeat first | exact List.Sublist.refl _ | exact List.nil_sublist _ | apply List.Sublist.cons_cons | apply List.Sublist.cons))
 (H:Hp T w0 w l):Plan.wp P lo.toArray Q S fi (.ld i k) ⟨L.toArray,ds⟩ w:=
 pl_rw hi hw fun K hK=>he H K fun w' h2 h3 h4=>hK _ _ (fun hne=>hS hne w' h3) (by rw [put_eq,hs];exact h w' h2 h3 h4)
theorem p_sFf {b:Nat} {l':List Ent} {L':List Value}
 (h:∀ w',Fr [b] w w'→Hp T w0 w' l'→(∀ p c l,LR w p c l→LR w' p c l)→k.wp P lo.toArray Q (fun _ =>True) lo.toArray.size ⟨L'.toArray,ds⟩ w') (hi:lo[i]? =some o:=by rfl)
 (hw:Region.wanted o (yielded lo.toArray L.toArray)=true:=by rfl)
 (he:Hp T w0 w l→∀ K:Act→World→Prop,(∀ w',Fr [b] w w'→Hp T w0 w' l'→(∀ p c l,LR w p c l→LR w' p c l)→K (Act.put ⟨L.toArray,ds⟩ o.dst undef) w')→o.wp P ⟨L.toArray,ds⟩ w K Q:=by intro H K hK;exact c_stF H rfl rfl rfl (h:=hK))
 (hs:putL L o.dst undef=L':=by ((try simp only [nrm,putL_s,putL_n,↓reduceIte,Nat.reduceAdd]);(try exact rfl)))
 (H:Hp T w0 w l):Plan.wp P lo.toArray Q S fi (.ldf i k) ⟨L.toArray,ds⟩ w:=
 pl_rwf hi hw fun K hK=>he H K fun w' h2 h3 h4=>hK _ _ (by rw [put_eq,hs];exact h w' h2 h3 h4)
theorem p_l {v:Value} {L':List Value} (h:k.wp P lo.toArray Q S fi ⟨L'.toArray,ds⟩ w) (hi:lo[i]? =some o:=by rfl) (hw:Region.wanted o (yielded lo.toArray L.toArray)=true:=by rfl)
 (he:∀ w,S w→(execOp (Act.mk L.toArray ds).eval o).run P w= .ok (.value v) w:=by intro w H;refine g_ld rfl ?_;exact c_lf H rfl rfl)
 (hs:putL L o.dst v=L':=by ((try simp only [nrm,putL_s,putL_n,↓reduceIte,Nat.reduceAdd]);(try exact rfl))):Plan.wp P lo.toArray Q S fi (.st i k) ⟨L.toArray,ds⟩ w:=
 p_e hi he h hw hs
theorem c_postCTT (H:Hp T w0 w l) {fn:Func} {R:Ending→World→Prop} {k u u2:Nat} {ty:TypeId} (hr:fn.results=#[.cell k ty, .tmp u, .tmp u2]) {g:Nat} (hp:L[k]? =some (.pointer (some ⟨g,0,none⟩))) {cs:List Value} {t':TypeId} {f:Nat→List Value→List Ent} [i:In g cs t' l f] {n:Nat} [hs:Ro P ty n] (hn:cs.length=n) {v v2:Value} (hv:L[u]? =some v) (hv2:L[u2]? =some v2)
 (hR:R (.returned (.tuple #[.agg cs.toArray,v,v2])) w):bodyPost P fn R .ret ⟨L.toArray,[]⟩ w:=by
 refine bodyPost_ret (v:= .tuple #[.agg cs.toArray,v,v2]) ?_ rfl hR
 simp only [results,hr]
 simp [Sem.run_bind,Result.andThen,hp,hv,hv2,asAddr,run_cell H i.mem hs.h hn]
end
theorem c_ldc {P:Program} {a:Act} {w:World} {o:Oper} {t:TypeId} {x:Operand} (ho:o.op= .load t x) {ad:Addr} {v:Value} (hx:a.eval x= .pointer (some ad)) [s:Sc P t] (hc:w.cell? ad=some v):(execOp a.eval o).run P w= .ok (.value v) w:=ev_load ho hx s.h hc
end Go.Proofs.YtoiebebjgnpkmaaGreatDoor
namespace Go.Proofs.YtoiebebjgnpkmaaGreatDoor
open Go.RowKit
set_option linter.unusedSimpArgs false
set_option linter.unusedVariables false
def OwnM (v:Value) (s:List UInt8) (S:List Nat) (w:World):Prop:=
 ∃ g cap cur fz,S=[g]∧v= .slice (some ⟨g,0,none⟩) s.length cap∧w.heap[g]? =some (.cells cur 5 fz)∧(cur.size≤fz.1∨fz.2=0)∧s.length≤cap∧cur.size=cap∧cur.toList.take s.length=bytesV s
theorem OwnM.firm {v:Value} {s:List UInt8} {S:List Nat}:Firm S (OwnM v s S):=by
 refine ⟨fun w w' R k hn h=> ?_,fun w h x hx=> ?_,fun w h=> ?_⟩
 ·obtain ⟨g,cap,cur,fz,rfl,h1,h2,h3⟩:=h
  exact ⟨g,cap,cur,fz,rfl,h1,k.get h2 (hn g (by simp)),h3⟩
 ·obtain ⟨g,cap,cur,fz,rfl,h1,h2,h3⟩:=h
  simp only [List.mem_singleton] at hx;subst hx;exact lt_of_get h2
 ·obtain ⟨g,cap,cur,fz,rfl,_⟩:=h;simp
instance {v:Value} {s:List UInt8} {S:List Nat}:Fm S (OwnM v s S):=⟨OwnM.firm⟩
theorem own_cells {w:World} {g:Nat} {cur:Array Value} {fz:Nat×Nat} {e:TypeId} {s:List UInt8} (h:w.heap[g]? =some (.cells cur e fz)) (ht:cur.toList.take s.length=bytesV s):∀ (j:Nat) u,(bytesV s)[j]? =some u→w.cell? ⟨g,j,none⟩=some u:=by
 intro j u hj
 rw [← ht] at hj
 have hlt:j<s.length:=by
  have:=(List.getElem?_eq_some_iff.1 hj).1
  rw [List.length_take] at this;omega
 rw [List.getElem?_take_of_lt hlt] at hj
 simp only [World.cell?,h]
 simpa using hj
theorem OwnM.rd {v:Value} {s:List UInt8} {S:List Nat} {w:World} (h:OwnM v s S w):Rd w v s.length (bytesV s):=by
 obtain ⟨g,cap,cur,fz,rfl,rfl,h2,h3,h4,h6,h7⟩:=h
 exact .inr ⟨_,cap,rfl,fun j u hj=>by rw [add_mk,Nat.zero_add];exact own_cells h2 h7 j u hj⟩
theorem OwnM.form {v:Value} {s:List UInt8} {S:List Nat} {w:World} (h:OwnM v s S w):∃ g c,v= .slice (some ⟨g,0,none⟩) s.length c:=by
 obtain ⟨g,cap,cur,fz,rfl,rfl,_⟩:=h
 exact ⟨g,cap,rfl⟩
section
variable {P:Program} {Q:Exit→Act→World→Prop} {a:Act} {w w0:World} {o:Oper} {K:Act→World→Prop} {T:List Nat} {l:List Ent}
theorem c_sbM (H:Hp T w0 w l) {sT dT:TypeId} {x:Operand} (ho:o.op= .convert sT dT x) {s:List UInt8} (hx:a.eval x=strV s) [h1:Sy P sT] [h2:By P dT] (he:P.underlying dT=some (.slice 5)) (hu8:P.underlying 5=some (.int .u8)) (k:Nat)
 (h:∀ g w' cap,Fr [] w w'→Hp T w0 w' (.obj k [g] (OwnM (.slice (some ⟨g,0,none⟩) s.length cap) s [g])::l)→K (a.put o.dst (.slice (some ⟨g,0,none⟩) s.length cap)) w'):o.wp P a w K Q:=by
 have hr:=run_bytes_of_string (P:=P) w sT dT 5 ⟨s.toArray⟩ h1.h he hu8
 rw [ba_size] at hr
 have hF:Fr [] w (w.drew.alloc (.cells (bytesRow ⟨s.toArray⟩ (grownCap w s.length 0 5)) 5 ((bytesRow ⟨s.toArray⟩ (grownCap w s.length 0 5)).size,(bytesRow ⟨s.toArray⟩ (grownCap w s.length 0 5)).size+1))):=(Fr.drew [] w).trans (Fr.alloc [] _ _)
 refine wp_of_run (v:= .slice (some ⟨w.heap.size,0,none⟩) s.length (grownCap w s.length 0 5)) ?_ (h w.heap.size _ (grownCap w s.length 0 5) hF ?_)
 ·unfold execOp
  unfold strV at hx
  simp only [ho,hx,Sem.run_bind,hr,Result.andThen_ok,Sem.run_pure]
 ·have hge:=grownCap_ge w s.length 0 5
  have hsz:(bytesRow ⟨s.toArray⟩ (grownCap w s.length 0 5)).size=grownCap w s.length 0 5:=by
   unfold bytesRow
   simp only [Array.size_append,Array.size_map,Array.size_replicate,ba_size,List.size_toArray]
   omega
  refine H.born k hF ⟨w.heap.size,grownCap w s.length 0 5,_,_,rfl,rfl,heap_alloc_new w.drew _, .inl (Nat.le_refl _),hge,hsz, ?_⟩ OwnM.firm (by simp)
  unfold bytesRow
  rw [Array.toList_append,List.take_append_of_le_length (by simp),List.take_of_length_le (by simp)]
  simp [bytesV]
theorem OwnM.cell {g c k:Nat} {s:List UInt8} {S:List Nat} (H:Hp T w0 w l) (hm:Ent.obj k S (OwnM (.slice (some ⟨g,0,none⟩) s.length c) s S)∈l) {i:Nat} {b:UInt8} (hb:s[i]? =some b):w.cell? ⟨g,i,none⟩=some (.int .u8 b.toNat):=by
 obtain ⟨g',cap,cur,fz,h1,h2,h3,h4,h5,h6,h7⟩:=(H.ok _ hm).1
 cases h2
 exact own_cells h3 h7 i _ (by simp [bytesV,hb])
theorem OwnM.rdL {g c k n:Nat} {s:List UInt8} {S:List Nat} (H:Hp T w0 w l) (hm:Ent.obj k S (OwnM (.slice (some ⟨g,0,none⟩) s.length c) s S)∈l) (hn:s.length=n):Rd w (.slice (some ⟨g,0,none⟩) n c) s.length (bytesV s):=by
 subst hn
 exact OwnM.rd (H.ok _ hm).1
theorem c_stM {g c k:Nat} {s:List UInt8} {S:List Nat} (H:Hp T w0 w (.obj k S (OwnM (.slice (some ⟨g,0,none⟩) s.length c) s S)::l)) {t:TypeId} {x y:Operand} (b:UInt8) (ho:o.op= .store t x y) {i:Nat} {z:Int}
 (hx:a.eval x= .pointer (some ⟨g,i,none⟩)) (hy:a.eval y= .int .u8 z) (hz:z=(b.toNat:Int)) [hs:Sc P t] (hi:i<s.length)
 (h:∀ w',Fr S w w'→Hp T w0 w' (.obj k S (OwnM (.slice (some ⟨g,0,none⟩) (s.set i b).length c) (s.set i b) S)::l)→K (a.put o.dst undef) w'):o.wp P a w K Q:=by
 subst hz
 obtain ⟨g',cap,cur,fz,rfl,h2,hg,hfz,hnc,hcs,htake⟩:=(H.ok _ (.head _)).1
 cases h2
 have hic:i<cur.size:=by omega
 have hcell:w.cell? ⟨g,i,none⟩=some cur[i]:=by simp [World.cell?,hg,hic]
 have hfr:w.frozen? ⟨g,i,none⟩=false:=by
  obtain ⟨lo,hi'⟩:=fz
  simp only [World.frozen?,hg,Bool.and_eq_false_iff,decide_eq_false_iff_not]
  simp only at hfz
  omega
 have hsz:=hs.s
 have e:(Instr.storeAt t (.pointer (some ⟨g,i,none⟩)) (.int .u8 b.toNat)).run P w= .ok () (w.setCell ⟨g,i,none⟩ (.int .u8 b.toNat)):=by
  cases hq:P.info? t with
  | none=>simp [hq] at hsz
  | some ti=>
   have hz:ti.size=1:=by simpa [hq] using hsz
   have hst:(store ((⟨g,i,none⟩:Addr).add 0) (.int .u8 b.toNat)).run P w= .ok () (w.setCell ⟨g,i,none⟩ (.int .u8 b.toNat)):=by
    rw [add_mk,Nat.add_zero,run_store P w _ _ .plain rfl,hcell];simp [hfr]
   simp [Instr.storeAt,Instr.sureAddr,storeVar,sizeOf,typeInfo,hq,hz,Value.cells,storeCells,hst]
 rw [setCell_eq_setRow w g i cur _ fz _ hg] at e
 have hF:Fr [g] w (w.setRow g (cur.setIfInBounds i (.int .u8 b.toNat))):=Fr.setRow w g _
 refine wp_of_skip (w':=w.setRow g (cur.setIfInBounds i (.int .u8 b.toNat))) ?_ (h _ hF (H.upd k hF (S':=[g]) ⟨g,c,cur.setIfInBounds i (.int .u8 b.toNat),fz,rfl,by rw [List.length_set],setRow_heap w g cur _ _ _ hg,by simpa using hfz,by rw [List.length_set];exact hnc,by simpa using hcs, ?_⟩ (by simp)))
 ·unfold execOp;simp only [ho,hx,hy,Sem.run_bind,e,Result.andThen_ok,Sem.run_pure]
 ·rw [List.length_set,Array.toList_setIfInBounds,List.take_set,htake]
  simp [bytesV,List.map_set]
end
end Go.Proofs.YtoiebebjgnpkmaaGreatDoor
namespace Go.Proofs.YtoiebebjgnpkmaaGreatDoor
set_option linter.unusedSimpArgs false
set_option linter.unusedVariables false
def low1 (b:UInt8):UInt8:=if 65≤b.toNat∧b.toNat≤90 then b+32 else b
def low (s:List UInt8):List UInt8:=s.map low1
def sMM:List UInt8:=[37,37,109,97,116,114,105,120,109,97,114,107,101,116]
def sMat:List UInt8:=[109,97,116,114,105,120]
def sCoo:List UInt8:=[99,111,111,114,100,105,110,97,116,101]
def sArr:List UInt8:=[97,114,114,97,121]
def sFlds:List (List UInt8):=[[114,101,97,108],[105,110,116,101,103,101,114],[112,97,116,116,101,114,110]]
def sSyms:List (List UInt8):=[[103,101,110,101,114,97,108],[115,121,109,109,101,116,114,105,99],[115,107,101,119,45,115,121,109,109,101,116,114,105,99]]
structure Hd where
 arr:Bool
 field:Nat
 sym:Nat
def hdr (line:List UInt8):Option Hd:=
 match (mwords line).map low with
 | [a,b,c,d,e]=>
  if a=sMM∧b=sMat∧(c=sCoo∨c=sArr)∧d∈sFlds∧e∈sSyms∧¬ (c=sArr∧sFlds.idxOf d=2) then some ⟨decide (c=sArr),sFlds.idxOf d,sSyms.idxOf e⟩ else none
 | _ =>none
def skip:List (List UInt8)→Bool
 | []=>true
 | x::_ =>x.head? ==some 37
def isNum (s:List UInt8):Bool:=s.all dig&& !s.isEmpty
def finF (f:Nat):Bool:=f / 4503599627370496 % 2048 !=2047
def rndZ (z:Int):Nat:=if z=0 then 0 else rndF (decide (z<0)) 0 z.natAbs 1 0
def fval (field:Nat) (s:List UInt8):Option Nat:=
 if field=1 then (if (pz s).2=0∧finF (rndZ (pz s).1)=true then some (rndZ (pz s).1) else none)
 else (if (dpz 1024 s 0).2=0∧finF (dpz 1024 s 0).1=true then some (dpz 1024 s 0).1 else none)
def may (sym i j:Nat):Bool:=sym==0||decide (j<i)||(sym==1&&i==j)
def posOf (h:Hd) (m n:Nat) (w:List (List UInt8)):Option (Nat×Nat):=
 let i:=num (w.getD 0 []);let j:=num (w.getD 1 [])
 if w.length=(if h.field=2 then 2 else 3)∧isNum (w.getD 0 [])=true∧isNum (w.getD 1 [])=true∧1≤i∧i≤m∧1≤j∧j≤n∧may h.sym i j=true then some (i - 1,j - 1) else none
def allp (sym m n:Nat):List (Nat×Nat):=(List.range n).flatMap fun j=>((List.range m).filter fun i=>may sym i j).map fun i=>(i,j)
abbrev En:=Nat×Nat×Nat
def one (h:Hd) (m n k:Nat) (w:List (List UInt8)):Option En:=
 if h.arr then
  (if w.length=1 then (fval h.field (w.getD 0 [])).map fun f=>(((allp h.sym m n).getD k (0,0)).1,((allp h.sym m n).getD k (0,0)).2,f) else none)
 else match posOf h m n w with
  | none=>none
  | some p=>if h.field=2 then some (p.1,p.2,4607182418800017408) else (fval h.field (w.getD 2 [])).map fun f=>(p.1,p.2,f)
def pre (S:List En) (j:Nat):Nat:=(S.filter fun x=>decide (x.2.1<j)).length
end Go.Proofs.YtoiebebjgnpkmaaGreatDoor
namespace Go.Proofs.YtoiebebjgnpkmaaGreatDoor
open Go.RowKit
set_option linter.unusedSimpArgs false
set_option linter.unusedVariables false
set_option maxHeartbeats 8000000
set_option maxRecDepth 100000
theorem Hp.bornB {T:List Nat} {w0 w w':World} {l:List Ent} {q:Nat} {cs:List Value} {t:TypeId} (H:Hp T w0 w l) (hF:Fr [] w w') (hq:w.heap.size≤q) (hc:w'.heap[q]? =some (.cells cs.toArray t (0,0))):Hp T w0 w' (.blk q cs t::l):=
 (H.step hF (by simp)).push hc (.inr (Nat.le_trans H.fr.size hq)) (H.notOwn hq)
def dgts (s:List UInt8):Nat×Bool:=if s.all dig=true then (min (num s) 1073741824, !s.isEmpty) else (0,false)
theorem expF_snoc (B a:Nat) (l:List UInt8) (b:UInt8):expF B a (l++[b])=min (10*expF B a l+(b.toNat - 48)) B:=by unfold expF;rw [List.foldl_append];rfl
theorem all_snoc {l:List UInt8} {b:UInt8}:(l++[b]).all dig=(l.all dig&&dig b):=by simp
theorem take_snoc {l:List UInt8} {k:Nat} {b:UInt8} (h:l[k]? =some b):l.take (k+1)=l.take k++[b]:=by rw [List.take_add_one,h];rfl
theorem all_out {l:List UInt8} {k:Nat} {b:UInt8} (h:l[k]? =some b) (hb:dig b=false):l.all dig=false:=by
 rw [List.all_eq_false]
 exact ⟨b,List.mem_of_getElem? h,by simp [hb]⟩
theorem digits_any (w:World) (s:List UInt8) (hs:s.length≤4000000) {v:Nat} {b:Bool} (hv:Hid (dgts s=(v,b))):
 Calls Tryz.prog 109 #[strV s] w fun e w'=>e= .returned (.tuple #[.int .i64 (v:Int), .bool b])∧Fr [] w w':=by
 have H:=Hp.start [] w
 obtain ⟨z,hz0⟩:∃ z,(s==[])=z:=⟨_,rfl⟩
 have hz:=hid hz0
 go_enter Tryz.func109,Tryz.ntmps109
 (revert H;refine W1bbc ?_ <;>unhygienic intros)
 go_loopw [4,10] (fun s4 s10 wr=>∃ (k a:Nat),s4= .int .i64 (a:Int)∧s10= .int .i64 (k:Int)∧k≤s.length∧a≤1073741824∧Hid (expF 1073741824 0 (s.take k)=a)∧Hid ((s.take k).all dig=true)∧Hp [] w wr [.obj 1 [g] (OwnM (.slice (some ⟨g,0,none⟩) s.length cap) s [g])]) (fun _ v _ =>s.length - (intOf v).toNat)
 case atStart=>exact ⟨0,0,rfl,rfl,Nat.zero_le _,by omega,hid rfl,hid rfl,H⟩
 case round=>
  clear H
  obtain ⟨k,a,rfl,rfl,hk,ha,HE,HD,H⟩:=hrel
  by_cases hlt:k<s.length
  ·obtain ⟨c,hc⟩:∃ c,s[k]? =some c:=⟨_,List.getElem?_eq_getElem hlt⟩
   by_cases hd:dig c=true
   ·have hd1:=dig_le hd
    have HE2:=hid (show expF 1073741824 0 (s.take (k+1))=min (10*a+(c.toNat - 48)) 1073741824 by rw [take_snoc hc,expF_snoc,HE.out])
    have HD2:=hid (show (s.take (k+1)).all dig=true by rw [take_snoc hc,all_snoc,HD.out,hd];rfl)
    clear HE HD hd
    obtain ⟨n,hn⟩:∃ n,c.toNat=n:=⟨_,rfl⟩
    obtain ⟨h48,h57⟩:=hd1
    (revert H;refine Wba3d ?_ <;>unhygienic intros)
    go_roundw
    case rel=>exact ⟨k+1,min (10*a+(n - 48)) 1073741824,congrArg (Value.int .i64) (by omega),rfl,by omega,by omega,hid (by rw [HE2.out,hn]),HD2,H⟩
    case measure=>(simp [intOf];try omega)
   ·have hd':dig c=false:=by simpa using hd
    have HV:Hid (v=0∧b=false):=hid (by
     have h:=hv.out
     unfold dgts at h
     rw [if_neg (by rw [all_out hc hd'];decide)] at h
     cases h;exact ⟨rfl,rfl⟩)
    have hd2:c.toNat<48∨(48≤c.toNat∧57<c.toNat):=by
     unfold dig at hd'
     simp at hd'
     omega
    obtain ⟨n,hn⟩:∃ n,c.toNat=n:=⟨_,rfl⟩
    rw [hn] at hd2
    clear hd hd' HE HD
    rcases hd2 with h1 | ⟨h1,h2⟩
    ·(revert H;refine Wba3d ?_ <;>unhygienic intros)
     refine bodyPost_ret (results_tmp2 rfl _ _ _) rfl ?_
     exact ⟨by rw [HV.out.1,HV.out.2];rfl,H.fr⟩
    ·(revert H;refine Wba3d ?_ <;>unhygienic intros)
     refine bodyPost_ret (results_tmp2 rfl _ _ _) rfl ?_
     exact ⟨by rw [HV.out.1,HV.out.2];rfl,H.fr⟩
  ·have hke:k=s.length:=by omega
   have HV:Hid (v=a∧b= !z):=hid (by
    have h:=hv.out
    have h1:=HD.out
    have h2:=HE.out
    rw [hke,List.take_length] at h1 h2
    unfold dgts at h
    rw [if_pos h1] at h
    have h3:=expF_num 1073741824 s 0
    have h4:expF 1073741824 0 s=min (num s) 1073741824:=h3
    have h5:s.isEmpty=z:=by rw [← hz.out];cases s<;>rfl
    rw [← h4,h2,h5] at h
    cases h;exact ⟨rfl,rfl⟩)
   clear hke HE HD hz0
   (revert H;refine Wba3d ?_ <;>unhygienic intros)
   refine bodyPost_ret (results_tmp2 rfl _ _ _) rfl ?_
   exact ⟨by rw [HV.out.1,HV.out.2];rfl,H.fr⟩
end Go.Proofs.YtoiebebjgnpkmaaGreatDoor
namespace Go.Proofs.YtoiebebjgnpkmaaGreatDoor
set_option linter.unusedSimpArgs false
set_option linter.unusedVariables false
theorem rm_near (neg:Bool) {X Y m:Nat} (hY:0<Y) (h1:2*X<2*(m*Y)+Y) (h2:2*(m*Y)<2*X+Y):rm neg 0 X Y=m:=by
 unfold rm
 simp only [rup_near]
 rcases Nat.le_total (m*Y) X with h | h
 ·obtain ⟨r,rfl⟩:=Nat.le.dest h
  have e1:(m*Y+r) / Y=m:=by
   rw [Nat.mul_comm,Nat.mul_add_div hY,Nat.div_eq_of_lt (by omega),Nat.add_zero]
  have e2:(m*Y+r) % Y=r:=by rw [Nat.mul_comm,Nat.mul_add_mod,Nat.mod_eq_of_lt (by omega)]
  rw [e1,e2]
  have hc:cmpN (2*r) Y= -1:=by unfold cmpN;rw [if_pos (by omega)]
  rw [hc]
  simp
 ·obtain ⟨r,hr⟩:=Nat.le.dest h
  by_cases h0:r=0
  ·subst h0
   have e:X=m*Y:=by omega
   rw [e,Nat.mul_mod_left,if_pos rfl,Nat.mul_div_cancel _ hY]
  ·obtain ⟨k,rfl⟩:∃ k,m=k+1:=⟨m - 1,by
    have:m≠0:=fun e=>by rw [e,Nat.zero_mul] at hr;omega
    omega⟩
   have ek:(k+1)*Y=k*Y+Y:=Nat.succ_mul k Y
   rw [ek] at h h1 h2 hr
   have e:X=k*Y+(Y - r):=by omega
   have e1:X / Y=k:=by rw [e,Nat.mul_comm,Nat.mul_add_div hY,Nat.div_eq_of_lt (by omega),Nat.add_zero]
   have e2:X % Y=Y - r:=by rw [e,Nat.mul_comm,Nat.mul_add_mod,Nat.mod_eq_of_lt (by omega)]
   rw [e1,e2,if_neg (by omega)]
   have hc:cmpN (2*(Y - r)) Y=1:=by unfold cmpN;rw [if_neg (by omega),if_neg (by omega)]
   rw [hc]
   simp
theorem near_back {b N D:Nat} {e:Int} (h0:0<b) (hb:b<9218868437227405312) (hN:0<N) (hD:0<D)
 (h1:2*(N*2 ^ (e - expoF b).toNat)<2*(manF b*(D*2 ^ (expoF b - e).toNat))+D*2 ^ (expoF b - e).toNat)
 (h2:2*(manF b*(D*2 ^ (expoF b - e).toNat))<2*(N*2 ^ (e - expoF b).toNat)+D*2 ^ (expoF b - e).toNat)
 (h3:manF b=4503599627370496→4*(manF b*(D*2 ^ (expoF b - e).toNat))<4*(N*2 ^ (e - expoF b).toNat)+D*2 ^ (expoF b - e).toNat):rndF false 0 N D e=b:=by
 have hs:=lg_shift hN hD e (expoF b)
 have hX:=Nat.mul_pos hN (pow2_pos (e - expoF b).toNat)
 have hY:=Nat.mul_pos hD (pow2_pos (expoF b - e).toNat)
 have hm:manF b<9007199254740992∧(expoF b≠ -1074→4503599627370496≤manF b)∧ -1074≤expoF b:=by
  unfold manF expoF
  split<;>omega
 have hl:=lin_back b
 obtain ⟨X,hXe⟩:∃ X,N*2 ^ (e - expoF b).toNat=X:=⟨_,rfl⟩
 obtain ⟨Y,hYe⟩:∃ Y,D*2 ^ (expoF b - e).toNat=Y:=⟨_,rfl⟩
 rw [hXe,hYe] at hs h1 h2 h3
 rw [hXe] at hX
 rw [hYe] at hY
 have hmY:manF b*Y≤9007199254740991*Y:=Nat.mul_le_mul_right _ (by omega)
 have ht:lg X Y<53:=lg_le (t:=53) hX hY (by
  rw [Nat.mul_comm]
  show X<9007199254740992*Y
  omega)
 by_cases hc:expoF b= -1074∨4503599627370496*Y≤X
 ·have hu:max (lg N D+e - 52) (-1074)=expoF b:=by
   rcases hc with hc | hc
   ·omega
   ·have:=lg_ge (t:=52) hX hY (by rw [Nat.mul_comm];exact hc)
    omega
  rw [rndF_lin false 0 hN hD hu,hXe,hYe,rm_near false hY h1 h2,hl,if_neg (by omega)]
  rfl
 ·have hc1:expoF b≠ -1074:=fun h=>hc (.inl h)
  have hc2:X<4503599627370496*Y:=by
   apply Classical.byContradiction
   intro h
   exact hc (.inr (by omega))
  have hm2:manF b=4503599627370496:=by
   apply Classical.byContradiction
   intro hne
   have h4:4503599627370497*Y≤manF b*Y:=Nat.mul_le_mul_right _ (by have:=hm.2.1 hc1;omega)
   omega
  have h4:=h3 hm2
  rw [hm2] at h4
  have ht2:lg X Y<52:=lg_le (t:=52) hX hY (by rw [Nat.mul_comm];exact hc2)
  have ht3:=lg_ge (t:=51) hX hY (by
   rw [Nat.mul_comm]
   show 2251799813685248*Y≤X
   omega)
  have hu:max (lg N D+e - 52) (-1074)=expoF b - 1:=by omega
  have hr:rm false 0 (N*2 ^ (e - (expoF b - 1)).toNat) (D*2 ^ (expoF b - 1 - e).toNat)=9007199254740992:=by
   rw [← rm_shift false 0 N D (k:=(expoF b - e).toNat) (n:=(e - expoF b).toNat+1) (by omega),Nat.pow_succ,← Nat.mul_assoc,hXe,hYe]
   exact rm_near false hY (by omega) (by omega)
  rw [rndF_lin false 0 hN hD hu,hr]
  have hl2:linF 9007199254740992 (expoF b - 1)=b:=by
   have e1:(expoF b+1074).toNat=(expoF b - 1+1074).toNat+1:=by omega
   unfold linF at hl ⊢
   rw [hm2,e1,Nat.add_mul] at hl
   rw [Nat.add_assoc,show 1*4503599627370496+4503599627370496=9007199254740992 from rfl] at hl
   exact hl
  rw [hl2,if_neg (by omega)]
  rfl
end Go.Proofs.YtoiebebjgnpkmaaGreatDoor
namespace Go.Proofs.YtoiebebjgnpkmaaGreatDoor
set_option linter.unusedSimpArgs false
set_option linter.unusedVariables false
theorem rm_close (neg:Bool) {X Y:Nat} (hY:0<Y):2*X≤2*(rm neg 0 X Y*Y)+Y∧2*(rm neg 0 X Y*Y)≤2*X+Y:=by
 have e:=Nat.div_add_mod X Y
 have hr:=Nat.mod_lt X hY
 unfold rm
 simp only [rup_near]
 rw [Nat.mul_comm] at e
 generalize X / Y=q at e ⊢
 generalize X % Y=r at e hr ⊢
 have e1:(q+1)*Y=q*Y+Y:=Nat.succ_mul q Y
 by_cases h0:r=0
 ·rw [if_pos h0]
  omega
 ·rw [if_neg h0]
  unfold cmpN
  by_cases h1:2*r<Y
  ·rw [if_pos h1]
   simp only [show decide ((0:Int)< -1)=false from rfl,show decide ((-1:Int)=0)=false from rfl,Bool.false_and,Bool.or_false,Bool.false_eq_true,if_false]
   omega
  ·rw [if_neg h1]
   by_cases h2:2*r=Y
   ·rw [if_pos h2]
    generalize (decide ((0:Int)<0)||decide ((0:Int)=0)&&q % 2==1)=t
    cases t
    ·simp only [Bool.false_eq_true,if_false]
     omega
    ·simp only [if_true]
     rw [e1]
     omega
   ·rw [if_neg h2]
    simp only [show decide ((0:Int)<1)=true from rfl,Bool.true_or,if_true]
    rw [e1]
    omega
theorem back17 {b N D:Nat} {k:Int} (h0:0<b) (hb:b<9218868437227405312) (hN:0<N) (hD:0<D)
 (hv:N*2 ^ (-expoF b).toNat=manF b*(D*2 ^ (expoF b).toNat)) (hk:tenLe N D k) (hk2:¬ tenLe N D (k+1)):dvF false 0 (near N D (16 - k)) (k - 16)=b:=by
 have hs:=near_size (n:=17) hD (by decide) hk hk2
 have e16:((17:Nat):Int) - 1 - k=16 - k:=by omega
 rw [e16] at hs
 have hcl:=rm_close false (X:=upN N (16 - k)) (Y:=dnD D (16 - k)) (Nat.mul_pos hD (ten_pos _))
 have hq0:0<near N D (16 - k):=Nat.lt_of_lt_of_le (ten_pos _) hs.1
 change 2*upN N (16 - k)≤2*(near N D (16 - k)*dnD D (16 - k))+dnD D (16 - k)∧2*(near N D (16 - k)*dnD D (16 - k))≤2*upN N (16 - k)+dnD D (16 - k) at hcl
 generalize near N D (16 - k)=q at hcl hq0 ⊢
 unfold upN dnD at hcl
 have ea:(-(16 - k)).toNat=(k - 16).toNat:=by omega
 have ec:(-(k - 16)).toNat=(16 - k).toNat:=by omega
 rw [ea] at hcl
 rw [tenLe_iff] at hk
 have hbig:D*10 ^ (k - 16).toNat*10000000000000000≤N*10 ^ (16 - k).toNat:=by
  apply Nat.le_of_mul_le_mul_right _ (ten_pos (-k).toNat)
  have a1:10 ^ (k - 16).toNat*10 ^ 16*10 ^ (-k).toNat=10 ^ k.toNat*10 ^ (16 - k).toNat:=by
   rw [← Nat.pow_add,← Nat.pow_add,← Nat.pow_add]
   congr 1
   omega
  calc D*10 ^ (k - 16).toNat*10000000000000000*10 ^ (-k).toNat=D*(10 ^ (k - 16).toNat*10 ^ 16*10 ^ (-k).toNat):=by simp only [Nat.mul_assoc]
   _ =D*10 ^ k.toNat*10 ^ (16 - k).toNat:=by rw [a1,Nat.mul_assoc]
   _ ≤N*10 ^ (-k).toNat*10 ^ (16 - k).toNat:=Nat.mul_le_mul_right _ hk
   _ =N*10 ^ (16 - k).toNat*10 ^ (-k).toNat:=Nat.mul_right_comm _ _ _
 unfold dvF
 rw [ec]
 have hA:=ten_pos (k - 16).toNat
 have hC:=ten_pos (16 - k).toNat
 generalize 10 ^ (k - 16).toNat=A at hcl hbig hA ⊢
 generalize 10 ^ (16 - k).toNat=C at hcl hbig hC ⊢
 have hqA:q*(D*A)=q*A*D:=by rw [Nat.mul_comm D,Nat.mul_assoc]
 rw [hqA] at hcl
 generalize hP:q*A=P at hcl
 have hP0:0<P:=by rw [← hP];exact Nat.mul_pos hq0 hA
 generalize hE1:2 ^ (-expoF b).toNat=E1 at hv
 generalize hE2:2 ^ (expoF b).toNat=E2 at hv
 have hE1p:0<E1:=by rw [← hE1];exact pow2_pos _
 have hE2p:0<E2:=by rw [← hE2];exact pow2_pos _
 have hm:manF b≤9007199254740991:=by
  unfold manF
  split<;>omega
 have hY:0<C*E2:=Nat.mul_pos hC hE2p
 have hR:N*C*E1=manF b*(C*E2)*D:=by
  rw [Nat.mul_right_comm,hv]
  simp only [Nat.mul_assoc,Nat.mul_left_comm,Nat.mul_comm]
 have u1:20000000000000000*(P*E1)≤20000000000000001*(manF b*(C*E2)):=by
  apply Nat.le_of_mul_le_mul_right _ hD
  have z:20000000000000000*(P*D)≤20000000000000001*(N*C):=by omega
  have z2:=Nat.mul_le_mul_right E1 z
  calc 20000000000000000*(P*E1)*D=20000000000000000*(P*D)*E1:=by simp only [Nat.mul_assoc,Nat.mul_left_comm,Nat.mul_comm]
   _ ≤20000000000000001*(N*C)*E1:=z2
   _ =20000000000000001*(manF b*(C*E2))*D:=by rw [Nat.mul_assoc,hR,← Nat.mul_assoc]
 have u2:19999999999999999*(manF b*(C*E2))≤20000000000000000*(P*E1):=by
  apply Nat.le_of_mul_le_mul_right _ hD
  have z:19999999999999999*(N*C)≤20000000000000000*(P*D):=by omega
  have z2:=Nat.mul_le_mul_right E1 z
  calc 19999999999999999*(manF b*(C*E2))*D=19999999999999999*(N*C)*E1:=by rw [Nat.mul_assoc,← hR,← Nat.mul_assoc]
   _ ≤20000000000000000*(P*D)*E1:=z2
   _ =20000000000000000*(P*E1)*D:=by simp only [Nat.mul_assoc,Nat.mul_left_comm,Nat.mul_comm]
 have hmY:manF b*(C*E2)≤9007199254740991*(C*E2):=Nat.mul_le_mul_right _ hm
 have g1:(0 - expoF b).toNat=(-expoF b).toNat:=by omega
 have g2:(expoF b - 0).toNat=(expoF b).toNat:=by omega
 apply near_back h0 hb hP0 hC
 ·rw [g1,g2,hE1,hE2]
  omega
 ·rw [g1,g2,hE1,hE2]
  omega
 ·intro hm2
  rw [g1,g2,hE1,hE2]
  rw [hm2] at u1 u2 ⊢
  omega
end Go.Proofs.YtoiebebjgnpkmaaGreatDoor
namespace Go.Proofs.YtoiebebjgnpkmaaGreatDoor
set_option linter.unusedSimpArgs false
set_option linter.unusedVariables false
end Go.Proofs.YtoiebebjgnpkmaaGreatDoor
namespace Go.Proofs.YtoiebebjgnpkmaaGreatDoor
set_option linter.unusedSimpArgs false
set_option linter.unusedVariables false
theorem fmt_short {x:Int} (h: -99999≤x∧x≤99999):(fmt x).length≤6:=by
 have h4:=(padk_eq 4 x.natAbs (by omega)).1
 unfold fmt
 split
 ·rw [List.length_cons];omega
 ·omega
theorem dpz_of {s:List UInt8} {neg:Bool} {ds:List UInt8} {b:Nat} {x:Int} (mode:Int) (hl:s.length≤1024) (hr:dread s=some (neg,ds,b,x)) (hx: -99999≤x∧x≤99999):dpz 1024 s mode=(dval neg mode (num ds) (x - b),0):=by
 unfold dpz
 rw [if_neg (by omega),hr]
 simp only []
 rw [if_neg (by omega)]
end Go.Proofs.YtoiebebjgnpkmaaGreatDoor
namespace Go.Proofs.YtoiebebjgnpkmaaGreatDoor
set_option linter.unusedSimpArgs false
set_option linter.unusedVariables false
def nF (b:Nat):Nat:=manF b*2 ^ (expoF b).toNat
def dF (b:Nat):Nat:=2 ^ (-expoF b).toNat
theorem nF_pos {b:Nat} (h:0<b):0<nF b:=Nat.mul_pos (manF_pos h) (pow2_pos _)
theorem dF_pos (b:Nat):0<dF b:=pow2_pos _
theorem tenLe_same {N D n d:Nat} (hn:0<n) (hN:0<N) (hd:0<d) (hD:0<D) (h:N*d=n*D) (k:Int):tenLe N D k↔tenLe n d k:=by
 rw [← tenLe_mul hd k,Nat.mul_comm d N,h,Nat.mul_comm d D,Nat.mul_comm n D,tenLe_mul hD]
theorem near_same {N D n d:Nat} (hd:0<d) (hD:0<D) (h:N*d=n*D) (x:Int):near N D x=near n d x:=by
 rw [← near_mul hd x,Nat.mul_comm d N,h,Nat.mul_comm d D,Nat.mul_comm n D,near_mul hD]
theorem man_bounds {b:Nat} (hb:b<9218868437227405312):manF b<9007199254740992∧ -1074≤expoF b∧expoF b≤971:=by
 unfold manF expoF
 split
 ·omega
 ·have:b / 4503599627370496≤2046:=by omega
  omega
theorem dF_le {b K:Nat} (h:(-expoF b).toNat≤K):dF b≤2 ^ K:=Nat.pow_le_pow_right (by decide) h
theorem two_1074:∀ K:Nat,K=1074→2 ^ K≤10 ^ (330:Nat):=by intro K h;subst h;decide+kernel
theorem two_971:∀ K:Nat,K=971→2 ^ 53*2 ^ K≤10 ^ (310:Nat):=by intro K h;subst h;decide+kernel
theorem k_bounds {b:Nat} {k:Int} (h0:0<b) (hb:b<9218868437227405312) (h1:tenLe (nF b) (dF b) k) (h2:¬ tenLe (nF b) (dF b) (k+1)): -331≤k∧k≤309:=by
 obtain ⟨a1,a2,a3⟩:=man_bounds hb
 have hm:=manF_pos h0
 have hd:=dF_pos b
 constructor
 ·apply Classical.byContradiction
  intro hc
  apply h2
  refine tenLe_mono (k:= -330) ?_ (by omega)
  rw [tenLe_iff]
  obtain ⟨K,hK⟩:∃ K:Nat,K=1074:=⟨_,rfl⟩
  have e1:dF b≤2 ^ K:=dF_le (by omega)
  have e2:=two_1074 K hK
  have e3:(-(-330:Int)).toNat=330:=rfl
  have e4:(-330:Int).toNat=0:=rfl
  rw [e3,e4,Nat.pow_zero,Nat.mul_one]
  exact Nat.le_trans (Nat.le_trans e1 e2) (Nat.le_mul_of_pos_left _ (nF_pos h0))
 ·apply Classical.byContradiction
  intro hc
  have h3:=tenLe_mono h1 (show (310:Int)≤k by omega)
  rw [tenLe_iff] at h3
  have e3:(-(310:Int)).toNat=0:=rfl
  have e4:(310:Int).toNat=310:=rfl
  rw [e3,e4,Nat.pow_zero,Nat.mul_one] at h3
  obtain ⟨K,hK⟩:∃ K:Nat,K=971:=⟨_,rfl⟩
  have e1:nF b<2 ^ 53*2 ^ K:=by
   unfold nF
   have:2 ^ (expoF b).toNat≤2 ^ K:=Nat.pow_le_pow_right (by decide) (by omega)
   exact Nat.lt_of_lt_of_le (Nat.mul_lt_mul_of_pos_right (show manF b<2 ^ 53 by omega) (pow2_pos _)) (Nat.mul_le_mul_left _ this)
  have e2:=two_971 K hK
  have e5:10 ^ (310:Nat)≤dF b*10 ^ (310:Nat):=Nat.le_mul_of_pos_left _ hd
  exact absurd (Nat.lt_of_lt_of_le e1 (Nat.le_trans e2 (Nat.le_trans e5 h3))) (Nat.lt_irrefl _)
theorem dvF_ten (neg:Bool) (mode:Int) {N:Nat} (x:Int) (hN:0<N):dvF neg mode (N*10) x=dvF neg mode N (x+1):=by
 unfold dvF
 by_cases h:0≤x
 ·have e1:(x+1).toNat=x.toNat+1:=by omega
  have e2:(-x).toNat=0:=by omega
  have e3:(-(x+1)).toNat=0:=by omega
  rw [e1,e2,e3,Nat.pow_succ,Nat.mul_assoc,Nat.mul_comm 10]
 ·have e1:(x+1).toNat=0:=by omega
  have e2:x.toNat=0:=by omega
  have e3:(-x).toNat=(-(x+1)).toNat+1:=by omega
  rw [e1,e2,e3,Nat.pow_succ,Nat.pow_zero,Nat.mul_one,Nat.mul_one,Nat.mul_comm N,Nat.mul_comm _ 10]
  exact rndF_mul neg mode 0 hN (ten_pos _) (by decide)
def Dgs (b n:Nat) (ds:List UInt8) (x:Int):Prop:=∃ k:Int,tenLe (nF b) (dF b) k∧¬ tenLe (nF b) (dF b) (k+1)∧ds=(dec (near (nF b) (dF b) (n - 1 - k))).take n∧x=if n<(dec (near (nF b) (dF b) (n - 1 - k))).length then k+1 else k
theorem Dgs.one {b n:Nat} {ds es:List UInt8} {x y:Int} (h:Dgs b n ds x) (g:Dgs b n es y):ds=es∧x=y:=by
 obtain ⟨k,h1,h2,h3,h4⟩:=h
 obtain ⟨j,g1,g2,g3,g4⟩:=g
 obtain rfl:=ten_one h1 h2 g1 g2
 exact ⟨h3.trans g3.symm,h4.trans g4.symm⟩
theorem dec_len_of {q n:Nat} (hn:1≤n) (h1:10 ^ (n - 1)≤q) (h2:q<10 ^ n):(dec q).length=n:=by
 have h0:0<q:=Nat.lt_of_lt_of_le (ten_pos _) h1
 obtain ⟨a1,a2,a3⟩:=dec_pow h0
 have b1:(dec q).length - 1<n:=(Nat.pow_lt_pow_iff_right (by decide)).1 (Nat.lt_of_le_of_lt a1 h2)
 have b2:n - 1<(dec q).length:=(Nat.pow_lt_pow_iff_right (by decide)).1 (Nat.lt_of_le_of_lt h1 a2)
 omega
theorem Dgs.val {b n:Nat} {ds:List UInt8} {x:Int} (h:Dgs b n ds x) (h0:0<b) (hn:1≤n):
 ∃ k,tenLe (nF b) (dF b) k∧¬ tenLe (nF b) (dF b) (k+1)∧ds.length=n∧ds.all dig=true∧10 ^ (n - 1)≤num ds∧(x=k∨x=k+1)∧∀ neg mode,dvF neg mode (num ds) (x - (n - 1))=dvF neg mode (near (nF b) (dF b) (n - 1 - k)) (k - (n - 1)):=by
 obtain ⟨k,h1,h2,h3,h4⟩:=h
 obtain ⟨q1,q2⟩:=near_size (n:=n) (dF_pos b) hn h1 h2
 refine ⟨k,h1,h2, ?_⟩
 generalize near (nF b) (dF b) (n - 1 - k)=q at*
 rcases Nat.lt_or_ge q (10 ^ n) with hq | hq
 ·have hl:=dec_len_of hn q1 hq
  rw [List.take_of_length_le (by omega)] at h3
  rw [if_neg (by omega)] at h4
  subst h3 h4
  obtain ⟨d1,d2,d3⟩:=dec_digits q
  exact ⟨hl,d1,by rw [d2];exact q1, .inl rfl,fun neg mode=>by rw [d2]⟩
 ·obtain rfl:q=10 ^ n:=by omega
  have hl:(dec (10 ^ n)).length=n+1:=dec_len_of (by omega) (by simp) (Nat.pow_lt_pow_right (by decide) (by omega))
  have hs:10 ^ n=10 ^ (n - 1)*10:=by rw [← Nat.pow_succ];congr 1;omega
  have hn1:(dec (10 ^ (n - 1))).length=n:=dec_len_of hn (Nat.le_refl _) (Nat.pow_lt_pow_right (by decide) (by omega))
  have e:(dec (10 ^ n)).take n=dec (10 ^ (n - 1)):=by
   rw [hs,dec_ten (by have:=ten_pos (n - 1);omega),Nat.mul_div_cancel _ (by decide)]
   rw [List.take_append_of_le_length (by omega),List.take_of_length_le (by omega)]
  rw [e] at h3
  rw [if_pos (by omega)] at h4
  subst h3 h4
  obtain ⟨d1,d2,d3⟩:=dec_digits (10 ^ (n - 1))
  refine ⟨hn1,d1,by rw [d2];exact Nat.le_refl _, .inr rfl,fun neg mode=> ?_⟩
  rw [d2,hs,dvF_ten neg mode _ (ten_pos _)]
  congr 1
  omega
def txt (n:Nat) (ds:List UInt8) (x:Int):List UInt8:=ds.take 1++((if 1<n then 46::ds.drop 1 else [])++101::fmt x)
theorem dread_dot {a b t:List UInt8} {c:UInt8} {x:Int} (ha:a.all dig=true) (hb:b.all dig=true) (ha0:a≠[]) (hc:isE c=true) (hx:dexp t=some x):dread (a++46::(b++c::t))=some (false,a++b,b.length,x):=by
 obtain ⟨c1,c2⟩:=isE_dig hc
 have h1:scan false (46::(b++c::t))=(b,b.length,c::t):=by
  rw [scan,if_neg (by decide),if_pos ⟨rfl,rfl⟩,scan_app hb,scan_stop t true c1 c2]
  simp
 have hd:dsg (a++46::(b++c::t))=(false,a++46::(b++c::t)):=by
  cases a with
  | nil=>exact absurd rfl ha0
  | cons y r=>
   simp only [List.all_cons,Bool.and_eq_true] at ha
   exact dsg_cons ha.1 _
 unfold dread
 rw [hd]
 simp only [scan_app ha,h1]
 rw [if_neg (by simp [ha0])]
 simp [hc,hx]
theorem txt_pz {b n:Nat} {ds:List UInt8} {x:Int} (h:Dgs b n ds x) (h0:0<b) (hb:b<9218868437227405312) (hn:1≤n) (hn2:n≤900) (mode:Int):
 dpz 1024 (txt n ds x) mode=(dval false mode (num ds) (x - (n - 1)),0):=by
 obtain ⟨k,h1,h2,hl,hd,hq,hx,_⟩:=h.val h0 hn
 obtain ⟨k1,k2⟩:=k_bounds h0 hb h1 h2
 have hf:=fmt_short (x:=x) (by omega)
 have hds:ds=ds.take 1++ds.drop 1:=(List.take_append_drop 1 ds).symm
 have ha:(ds.take 1).all dig=true:=by
  rw [hds,List.all_append,Bool.and_eq_true] at hd;exact hd.1
 have hb':(ds.drop 1).all dig=true:=by
  rw [hds,List.all_append,Bool.and_eq_true] at hd;exact hd.2
 have hne:ds.take 1≠[]:=by
  intro e
  have:=congrArg List.length e
  rw [List.length_take,List.length_nil] at this
  omega
 have hr:dread (txt n ds x)=some (false,ds,n - 1,x):=by
  unfold txt
  split
  ·next h1=>
   have:=dread_dot (t:=fmt x) (c:=101) ha hb' hne (by decide) (dexp_fmt x)
   simp only [List.cons_append]
   rw [this,← hds]
   simp [hl]
  ·next h1=>
   have e1:ds.take 1=ds:=List.take_of_length_le (by omega)
   have:=dread_plain (t:=fmt x) (c:=101) hd (by rw [← e1];exact hne) (by decide) (dexp_fmt x)
   rw [e1,List.nil_append,this]
   simp;omega
 have hlt:(txt n ds x).length≤1024:=by
  have e1:(ds.take 1).length≤1:=by rw [List.length_take];omega
  have e2:(if 1<n then 46::ds.drop 1 else []).length≤n:=by
   split
   ·rw [List.length_cons,List.length_drop];omega
   ·exact Nat.zero_le _
  unfold txt
  rw [List.length_append,List.length_append,List.length_cons]
  omega
 rw [dpz_of mode hlt hr (by omega)]
 have e:x - ((n - 1:Nat):Int)=x - (n - 1):=by omega
 rw [e]
theorem back_txt {b:Nat} {ds:List UInt8} {x:Int} (h:Dgs b 17 ds x) (h0:0<b) (hb:b<9218868437227405312):dpz 1024 (txt 17 ds x) 0=(b,0):=by
 obtain ⟨k,h1,h2,hl,hd,hq,hx,hv⟩:=h.val h0 (by decide)
 rw [txt_pz h h0 hb (by decide) (by decide)]
 have hn0:num ds≠0:=by have:=ten_pos (17 - 1);omega
 have hb2:=back17 h0 hb (nF_pos h0) (dF_pos b) (by unfold nF dF;rw [Nat.mul_assoc,Nat.mul_comm (2 ^ (expoF b).toNat)]) h1 h2
 unfold dval
 rw [if_neg hn0]
 have hv:=hv false 0
 rw [show ((17:Nat):Int) - 1 - k=16 - k by omega,show k - (((17:Nat):Int) - 1)=k - 16 by omega] at hv
 rw [hv,hb2]
end Go.Proofs.YtoiebebjgnpkmaaGreatDoor
