import Derived.Test.YtoiebebjgnpkmaaGreatDoorYJ0
import Derived.Test.YtoiebebjgnpkmaaGreatDoorYJ5
import Derived.Deep.DeepCutAuto
import Derived.Deep.CutBlock
namespace Go.Proofs.YtoiebebjgnpkmaaGreatDoor
open Go.RowKit
set_option linter.unusedSimpArgs false
set_option linter.unusedVariables false
set_option maxHeartbeats 4000000
set_option maxRecDepth 100000
section
variable {P:Program} {w:World} {a:Act} {o:Oper}
theorem ev_subM {t t':TypeId} {x y:Operand} (ho:o.op= .binOp .sub t x y t') {m n:Int} (hx:a.eval x= .int .u64 m) (hy:a.eval y= .int .u64 n):(execOp a.eval o).run P w= .ok (.value (.int .u64 ((m - n) % 18446744073709551616))) w:=by
 rw [ev_subW ho hx hy,IntKind.wrap_u64]
theorem ev_bit {t t':TypeId} {x:Operand} (ho:o.op= .binOp .and t x (.const (.int .u64 1)) t') {m:Int} (hx:a.eval x= .int .u64 m) (h0:0≤m:=by omega) (h1:m<18446744073709551616:=by omega):(execOp a.eval o).run P w= .ok (.value (.int .u64 (m % 2))) w:=
 ev_bin ho hx rfl (fun w=>by
  have e:=bits_mask .u64 64 (by decide) (fun n h0 h1=>wrap_inr (by simp only [inr];omega)) 1 (by decide) m h0 (by omega)
  show (pure (Value.int .u64 (bits .and .u64 m 1)):Sem Value).run P w=_
  have e2:bits .and .u64 m 1=m % 2:=e
  rw [e2];rfl)
theorem ev_top {t t':TypeId} {x:Operand} {kk:IntKind} (ho:o.op= .binOp .shr t x (.const (.int kk 63)) t') {m:Int} (hx:a.eval x= .int .u64 m):(execOp a.eval o).run P w= .ok (.value (.int .u64 (m / 9223372036854775808))) w:=by
 have e1:(eqGuard .shr t x (.const (.int kk 63)) (.int .u64 m) (.int kk 63)).run P w= .ok () w:=by unfold eqGuard;simp
 have hn:a.eval (.const (.int kk 63))= .int kk 63:=rfl
 unfold execOp
 simp only [ho,hx,hn,Sem.run_bind,e1,Result.andThen_ok,binOp]
 rw [shift_shr_any _ _ _ _ (by decide)]
 rfl
end
theorem zeros_limbs (n:Nat):(List.replicate n [Value.int .u32 0]).flatten=limbs (List.replicate n 0):=by
 induction n with
 | zero=>rfl
 | succ n ih=>rw [List.replicate_succ,List.flatten_cons,ih,List.replicate_succ];rfl
theorem sub_word {Z:Int} {x y bo:Nat} (hZ:Z % 18446744073709551616=((x:Int) - (bo:Int) - (y:Int)) % 18446744073709551616) (hx:x<4294967296) (hy:y<4294967296) (hb:bo≤1):∃ d b':Nat,IntKind.u64.wrap Z % 4294967296=(d:Int)∧IntKind.u64.wrap Z / 4294967296 % 2=(b':Int)∧IntKind.u64.wrap Z / 9223372036854775808=(b':Int)∧b'≤1∧d<4294967296∧x+4294967296*b'=d+y+bo:=by
 rw [IntKind.wrap_u64]
 by_cases h:bo+y≤x
 ·exact ⟨x - (bo+y),0,by omega,by omega,by omega,by omega,by omega,by omega⟩
 ·exact ⟨x+4294967296 - (bo+y),1,by omega,by omega,by omega,by omega,by omega,by omega⟩
theorem minus_any {w:World} {p q:Option Addr} {n m c d:Nat} (a b:List Nat) (hn:a.length=n) (hm:b.length=m) (hmn:m≤n) (hn0:n≤1000000) (hle:val b≤val a) (h:LR w p c a) (k:LR w q d b):
 Calls Tryz.prog 231 #[.slice p n c, .slice q m d] w fun e w'=>∃ p' c',e= .returned (.slice p' (digs (val a - val b)).length c')∧Fr [] w w'∧LR w' p' c' (digs (val a - val b)):=by
 subst hn hm
 have Hh:=hid h
 have Hk:=hid k
 have Hle:=hid hle
 clear h k hle
 have H:=Hp.start [] w
 go_enter Tryz.func231,Tryz.ntmps231
 (revert H;refine W08de ?_ <;>unhygienic intros)
 rw [Int.toNat_natCast,zeros_limbs] at H
 go_loopw [6,15] (fun s6 s15 wr=>∃ (i:Nat) (o:List Nat) (bo:Nat),i≤a.length∧s15= .int .i64 i∧s6= .int .u64 bo∧Hid (o.length=a.length)∧Hid (Lim o)∧bo≤1∧Hid (val (o.take i)+val (b.take i)=val (a.take i)+4294967296 ^ i*bo)∧Hp [] w wr [.blk g (limbs o) 162]) (fun _ v _ =>a.length - (intOf v).toNat)
 case atStart=>exact ⟨0,List.replicate a.length 0,0,Nat.zero_le _,rfl,rfl,hid List.length_replicate,hid (Lim.zeros _),Nat.zero_le _,hid rfl,H⟩
 case round=>
  clear H
  obtain ⟨i,o,bo,hi,rfl,rfl,Hol,Hlo,hbo,Hv,H⟩:=hrel
  by_cases hin:i<a.length
  ·obtain ⟨x,hx⟩:∃ x,a[i]? =some x:=⟨_,List.getElem?_eq_getElem hin⟩
   have hxv:=limbs_at hx
   have hxB:=Hh.out.lim.at hx
   have Hx:=hid hx
   clear hx
   have hio:i<o.length:=by rw [Hol.out];exact hin
   obtain ⟨b0,off,rfl,hb0,hcell⟩:=Hh.out.rd.rng (limbs_ne (i:=i) hin)
   have H1:=H.pushRng (b:=b0) (off:=off) hb0 (by simp) hcell
   clear H hcell
   have H:=H1
   clear H1
   by_cases him:i<b.length
   ·obtain ⟨y,hy⟩:∃ y,b[i]? =some y:=⟨_,List.getElem?_eq_getElem him⟩
    have hyv:=limbs_at hy
    have hyB:=Hk.out.lim.at hy
    have Hy:=hid hy
    clear hy
    obtain ⟨b1,off1,rfl,hb1,hcell1⟩:=Hk.out.rd.rng (limbs_ne (i:=i) him)
    have H1:=H.pushRng (b:=b1) (off:=off1) hb1 (by simp) hcell1
    clear H hcell1
    have H:=H1
    clear H1
    obtain ⟨dd,b',f1,f2,_,f4,f5,f6⟩:=sub_word (Z:=IntKind.u64.wrap ((x:Int) - (bo:Int)) - (y:Int)) (x:=x) (y:=y) (bo:=bo) (by rw [IntKind.wrap_u64];omega) hxB hyB hbo
    have F1:=hid f1
    have F2:=hid f2
    have F6:=hid f6
    clear f1 f2 f6
    (revert H;refine Wcd8b ?_ <;>unhygienic intros)
    rw [F1.out,limbs_set] at H
    go_roundw
    case rel=>exact ⟨i+1,o.set i dd,b',by omega,by go_num,by rw [F2.out],hid (by rw [List.length_set];exact Hol.out),hid (Hlo.out.set i f5),f4,hid (by rw [take_set_succ _ _ _ hio,val_snoc,List.length_take,Nat.min_eq_left (by omega),val_take_succ Hx.out,val_take_succ Hy.out];exact minus_round Hv.out F6.out),H.sub (by repeat first | exact List.Sublist.refl _ | exact List.nil_sublist _ | apply List.Sublist.cons_cons | apply List.Sublist.cons)⟩
    case measure=>(simp [intOf];try omega)
   ·obtain ⟨dd,b',f1,f2,_,f4,f5,f6⟩:=sub_word (Z:=(x:Int) - (bo:Int)) (x:=x) (y:=0) (bo:=bo) (by omega) hxB (by decide) hbo
    have F1:=hid f1
    have F2:=hid f2
    have F6:=hid f6
    clear f1 f2 f6
    (revert H;refine Wcd8b ?_ <;>unhygienic intros)
    rw [F1.out,limbs_set] at H
    go_roundw
    case rel=>exact ⟨i+1,o.set i dd,b',by omega,by go_num,by rw [F2.out],hid (by rw [List.length_set];exact Hol.out),hid (Hlo.out.set i f5),f4,hid (by
     rw [take_set_succ _ _ _ hio,val_snoc,List.length_take,Nat.min_eq_left (by omega),val_take_succ Hx.out,take_over (by omega)]
     have:=minus_round Hv.out F6.out
     simpa using this),H.sub (by repeat first | exact List.Sublist.refl _ | exact List.nil_sublist _ | apply List.Sublist.cons_cons | apply List.Sublist.cons)⟩
    case measure=>(simp [intOf];try omega)
  ·have e:i=a.length:=by omega
   have hV:val o=val a - val b:=by
    have h1:=Hv.out
    rw [e,List.take_of_length_le (by rw [Hol.out];exact Nat.le_refl _),List.take_of_length_le (Nat.le_refl _),List.take_of_length_le hmn] at h1
    have h2:=val_lt Hlo.out
    rw [Hol.out] at h2
    exact (minus_end h2 Hle.out h1).2
   have HV:=hid hV
   clear e hV
   (revert H;refine W08de ?_ <;>unhygienic intros)
   have hL:LR _ (some ⟨g,0,none⟩) a.length o:=LR.of_blk (pad:=[]) (by rw [List.append_nil];exact H.at g) Hlo.out (by rw [Hol.out];exact Nat.le_refl _) (by unfold maxLen;omega)
   have HL:=hid hL
   refine Calls.mono (trim_any o Hol.out HL.out) ?_
   rintro e w1 ⟨rfl,hF⟩
   have HL2:=hid (hL.fr hF).trim
   have H1:=H.step hF (by simp)
   clear H hF hL HL
   have H:=H1
   clear H1
   (revert H;refine W08de ?_ <;>unhygienic intros)
   go_ret
   rw [HV.out] at HL2
   exact ⟨_,_,by rw [HV.out];rfl,H.fr,HL2.out⟩
end Go.Proofs.YtoiebebjgnpkmaaGreatDoor
namespace Go.Proofs.YtoiebebjgnpkmaaGreatDoor
open Go.RowKit
set_option linter.unusedSimpArgs false
set_option linter.unusedVariables false
set_option maxHeartbeats 4000000
set_option maxRecDepth 100000
theorem LR.empty {w w':World} {p:Option Addr} {c:Nat} (h:LR w p c []):LR w' p c []:=⟨h.nil,h.cap,h.max,h.lim, .inl ⟨rfl,rfl,p,c,rfl⟩⟩
theorem LR.keep {w w':World} {p:Option Addr} {c:Nat} {l:List Nat} (h:LR w p c l) {g:Nat} {cs:List Value} {t:TypeId} (hg:w.heap[g]? =some (.cells cs.toArray t (0,0))) (hc:∀ u∈cs,∀ x,u≠ .int .u32 x) (k:Fr [g] w w'):LR w' p c l:=by
 cases l with
 | nil=>exact h.empty
 | cons x l=>
  obtain ⟨b,off,rfl,hb,hcell⟩:=h.rd.rng (by simp [limbs])
  have hbg:b≠g:=fun e=>by
   subst e
   have h0:=hcell 0 (.int .u32 (x:Int)) (by simp [limbs])
   rw [cell_of_row w b _ _ _ _ hg] at h0
   have h1:cs[off+0]? =some (.int .u32 (x:Int)):=by simpa using h0
   exact hc _ (List.mem_of_getElem? h1) _ rfl
  refine ⟨h.nil,h.cap,h.max,h.lim,h.rd.fr k (fun b' hb'=> ?_)⟩
  have e:b'=b:=by
   simp [Value.ownBlock] at hb'
   omega
  subst e
  simpa using hbg
section
variable {P:Program} {Q:Exit→Act→World→Prop} {a:Act} {w w0:World} {o:Oper} {K:Act→World→Prop} {T:List Nat} {l:List Ent}
theorem c_st2 (H:Hp T w0 w l) {t:TypeId} {x y:Operand} (ho:o.op= .store t x y) {b:Nat} {u v:Value} (hx:a.eval x= .pointer (some ⟨b,0,none⟩)) (hy:a.eval y= .agg #[u,v]) [hs:Ro P t 2] {r s:Value} {t':TypeId} {f:Nat→List Value→List Ent} [hm:In b [r,s] t' l f] (h1:u.oneCell'=true:=by rfl) (h2:v.oneCell'=true:=by rfl) (h3:∀ x,r≠ .int .u32 x:=by intro x h;cases h) (h4:∀ x,s≠ .int .u32 x:=by intro x h;cases h)
 (h:∀ w',Fr [b] w w'→Hp T w0 w' (f b [u,v])→(∀ p c l,LR w p c l→LR w' p c l)→K (a.put o.dst undef) w'):o.wp P a w K Q:=
 c_stn H ho hx (vs:=[u,v]) hy rfl (by intro z hz;simp only [List.mem_cons,List.not_mem_nil,or_false] at hz;rcases hz with rfl | rfl<;>assumption) (by simp) (fun w' hf H1=>h w' hf H1 (fun p c l hL=>hL.keep (H.at b) (by intro z hz x;simp only [List.mem_cons,List.not_mem_nil,or_false] at hz;rcases hz with rfl | rfl;exact h3 x;exact h4 x) hf))
theorem x_s2 {P:Program} {ops:Array Oper} {Q:Exit→Act→World→Prop} {w w0:World} {rest:List Oper} {o:Oper} {T:List Nat} {l:List Ent} {L:List Value} {ds:List Deferred} {b:Nat} {l':List Ent} {L':List Value}
 (h:∀ w',Fr [b] w w'→Hp T w0 w' l'→(∀ p c l,LR w p c l→LR w' p c l)→wpList P ops Q rest ⟨L'.toArray,ds⟩ w')
 (hw:Region.wanted o (yielded ops L.toArray)=true:=by rfl)
 (he:Hp T w0 w l→∀ K:Act→World→Prop,(∀ w',Fr [b] w w'→Hp T w0 w' l'→(∀ p c l,LR w p c l→LR w' p c l)→K (Act.put ⟨L.toArray,ds⟩ o.dst undef) w')→o.wp P ⟨L.toArray,ds⟩ w K Q:=by intro H K hK;exact c_st2 H rfl rfl rfl (h:=hK))
 (hs:putL L o.dst undef=L':=by ((try simp only [nrm,putL_s,putL_n,↓reduceIte,Nat.reduceAdd]);(try exact rfl))) (H:Hp T w0 w l):wpList P ops Q (o::rest) ⟨L.toArray,ds⟩ w:=
 wl_rw hw fun K hK=>he H K fun w' h2 h3 h4=>hK _ _ (by rw [put_eq,hs];exact h w' h2 h3 h4)
theorem p_s2 {P:Program} {lo:List Oper} {S:World→Prop} {f i:Nat} {k:Plan} {Q:Exit→Act→World→Prop} {w w0:World} {o:Oper} {T:List Nat} {l:List Ent} {L:List Value} {ds:List Deferred} {b:Nat} {l':List Ent} {L':List Value}
 (h:∀ w',Fr [b] w w'→Hp T w0 w' l'→(∀ p c l,LR w p c l→LR w' p c l)→k.wp P lo.toArray Q S f ⟨L'.toArray,ds⟩ w') (hi:lo[i]? =some o:=by rfl)
 (hw:Region.wanted o (yielded lo.toArray L.toArray)=true:=by rfl)
 (he:Hp T w0 w l→∀ K:Act→World→Prop,(∀ w',Fr [b] w w'→Hp T w0 w' l'→(∀ p c l,LR w p c l→LR w' p c l)→K (Act.put ⟨L.toArray,ds⟩ o.dst undef) w')→o.wp P ⟨L.toArray,ds⟩ w K Q:=by intro H K hK;exact c_st2 H rfl rfl rfl (h:=hK))
 (hs:putL L o.dst undef=L':=by ((try simp only [nrm,putL_s,putL_n,↓reduceIte,Nat.reduceAdd]);(try exact rfl)))
 (hS:i≠f→∀ w',Hp T w0 w' l'→S w':=by intro hne w' H1;first | exact absurd rfl hne | exact trivial | exact H1.sub (by repeat first | exact List.Sublist.refl _ | exact List.nil_sublist _ | apply List.Sublist.cons_cons | apply List.Sublist.cons))
 (H:Hp T w0 w l):Plan.wp P lo.toArray Q S f (.ld i k) ⟨L.toArray,ds⟩ w:=
 pl_rw hi hw fun K hK=>he H K fun w' h2 h3 h4=>hK _ _ (fun hne=>hS hne w' h3) (by rw [put_eq,hs];exact h w' h2 h3 h4)
end
theorem zv_neg_iff (neg:Bool) (l:List Nat):zv neg l<0↔neg=true∧val l≠0:=by
 unfold zv;cases neg<;>simp<;>omega
theorem LR.zero (w:World):LR w none 0 []:=⟨fun _ =>rfl,Nat.zero_le _,by unfold maxLen;omega,Lim.nil, .inl ⟨rfl,rfl,_,_,rfl⟩⟩
theorem big_any {w:World} {p:Option Addr} {n c:Nat} (neg:Bool) (l:List Nat) (hl:l.length=n) (h:LR w p c l):
 Calls Tryz.prog 118 #[.bool neg, .slice p n c] w fun e w'=>Big e w w' (zv neg l):=by
 have Hh:=hid h
 obtain ⟨hlc,hc⟩:=h.clen
 have H:=Hp.start [] w
 have Hl:=hid hl
 clear h hl
 go_enter Tryz.func118,Tryz.ntmps118
 (revert H;refine W08de ?_ <;>unhygienic intros)
 refine Calls.mono (trim_any l Hl.out (Hh.out.fr H.fr)) ?_
 rintro e w1 ⟨rfl,hF⟩
 have H1:=H.step hF (by simp)
 clear H hF
 have H:=H1
 clear H1
 have hml:(digs (val l)).length≤l.length:=digs_len_le Hh.out.lim
 by_cases h0:val l=0
 ·have e0:(digs (val l)).length=0:=by rw [h0,digs_zero];rfl
  have Hz:Hid (zv neg l=0):=hid (by unfold zv;rw [h0];split<;>rfl)
  rw [e0]
  clear e0 h0 hml
  (revert H;refine Wfe4e ?_ <;>unhygienic intros)
  refine c_post H rfl rfl rfl ?_
  refine ⟨none,0, ?_,H.fr, ?_⟩
  ·rw [Hz.out,show (0:Int).natAbs=0 from rfl,digs_zero];rfl
  ·rw [Hz.out,show (0:Int).natAbs=0 from rfl,digs_zero];exact LR.zero _
 ·have Hn0:=hid h0
  have hp:0<(digs (val l)).length:=by
   rcases Nat.eq_zero_or_pos (digs (val l)).length with e | e
   ·exact absurd (digs_nil.1 (List.eq_nil_of_length_eq_zero e)) h0
   ·exact e
  obtain ⟨m,hm⟩:∃ m,(digs (val l)).length=m:=⟨_,rfl⟩
  have Hm:=hid hm
  rw [hm] at hp hml ⊢
  clear hm h0
  (revert H;refine Wfe4e ?_ <;>unhygienic intros)
  refine c_post H rfl rfl rfl ?_
  refine ⟨p,c, ?_,H.fr, ?_⟩
  ·rw [zv_abs,Hm.out]
   have:decide (zv neg l<0)=neg:=by
    rw [Bool.eq_iff_iff,decide_eq_true_eq,zv_neg_iff]
    exact ⟨fun h=>h.1,fun h=>⟨h,Hn0.out⟩⟩
   rw [this]
  ·rw [zv_abs]
   exact Hh.out.trim.fr H.fr
end Go.Proofs.YtoiebebjgnpkmaaGreatDoor
namespace Go.Proofs.YtoiebebjgnpkmaaGreatDoor
open Go.RowKit
set_option linter.unusedSimpArgs false
set_option linter.unusedVariables false
set_option maxHeartbeats 4000000
set_option maxRecDepth 100000
theorem LR.of_owns {w:World} {base:Nat} {e:TypeId} {v:Value} {n:Nat} {l:List Nat} (h:w.ownsRow base e 1 v n (limbs l)) (lm:Lim l):∃ p c,v= .slice p l.length c∧l.length=n∧LR w p c l:=by
 obtain ⟨S,h1,_⟩:=RowAt.of_owns h
 exact LR.of_row h1 lm
theorem clone_any {w:World} {p:Option Addr} {n c:Nat} (l:List Nat) (hl:l.length=n) (hn:n≤1000000) (h:LR w p c l):
 Calls Tryz.prog 184 #[.slice p n c] w fun e w'=>∃ p' c',e= .returned (.slice p' n c')∧Fr [] w w'∧LR w' p' c' l:=by
 subst hl
 have Hh:=hid h
 have H:=(Hp.start [] w).newRow 0 (e:=162) (sz:=1)
 cases p with
 | none=>
  have h0:l=[]:=by
   rcases h.rd with ⟨h,_⟩ | ⟨ad,c',h,_⟩
   ·exact List.eq_nil_of_length_eq_zero h
   ·cases h
  subst h0
  obtain rfl:=h.nil rfl
  clear h Hh
  go_enter Tryz.func184,Tryz.ntmps184
  go_wp2_with (first | refine x_q H ?_ | refine x_cm (fun h=> ?_) (fun h=> ?_) | (revert H;(first | (refine x_g ?_;intro g w1 hg hf H) | (refine x_s ?_;intro w1 hf H));(try clear hf)))
  go_ret
  exact ⟨none,0,rfl,H.fr,LR.zero _⟩
 | some ad=>
  clear h
  by_cases h0:l.length<1
  ·have h1:l=[]:=List.eq_nil_of_length_eq_zero (by omega)
   subst h1
   go_enter Tryz.func184,Tryz.ntmps184
   go_wp2_with (first | refine x_q H ?_ | refine x_cm (fun h=> ?_) (fun h=> ?_) | (refine is_buildSlice rfl ?_;refine wl_rw rfl (fun K hK=>c_sN H rfl (by repeat first | exact .nil _ | apply Parts.tmp (by rfl) (by rfl) | apply Parts.con (by rfl)) rfl (by intro c hc;simp only [List.mem_cons,List.not_mem_nil,or_false] at hc;(try (rcases hc with rfl | rfl | rfl | rfl | rfl | rfl | rfl | rfl<;>rfl))) (by decide) (by decide) (fun g w1 hg hf H1=>hK _ _ ?_));(clear hK K);(clear H;have H:=H1;clear H1;(try dsimp only at H);(try clear hf));(simp only [nrm,↓reduceIte,Nat.reduceAdd])) | (refine is_blt (b:= .append) rfl ?_;refine wl_rw rfl (fun K hK=>c_apz H rfl rfl rfl (by omega) (fun w1 hf H1=>hK _ _ ?_));(clear hK K);(clear H;have H:=H1;clear H1;(try dsimp only at H);(try clear hf));(simp only [nrm,↓reduceIte,Nat.reduceAdd])) | (revert H;(first | (refine x_g ?_;intro g w1 hg hf H) | (refine x_s ?_;intro w1 hf H));(try clear hf)))
   go_ret
   exact ⟨_,_,rfl,H.fr,⟨fun h=>(by cases h),Nat.zero_le _,by unfold maxLen;omega,Lim.nil, .inl ⟨rfl,rfl,_,_,rfl⟩⟩⟩
  ·go_enter Tryz.func184,Tryz.ntmps184
   go_wp2_with (first | refine x_q H ?_ | refine x_cm (fun h=> ?_) (fun h=> ?_) | (refine is_buildSlice rfl ?_;refine wl_rw rfl (fun K hK=>c_sN H rfl (by repeat first | exact .nil _ | apply Parts.tmp (by rfl) (by rfl) | apply Parts.con (by rfl)) rfl (by intro c hc;simp only [List.mem_cons,List.not_mem_nil,or_false] at hc;(try (rcases hc with rfl | rfl | rfl | rfl | rfl | rfl | rfl | rfl<;>rfl))) (by decide) (by decide) (fun g w1 hg hf H1=>hK _ _ ?_));(clear hK K);(clear H;have H:=H1;clear H1;(try dsimp only at H);(try clear hf));(simp only [nrm,↓reduceIte,Nat.reduceAdd])) | (refine is_blt (b:= .append) rfl ?_;go_loud (refine wl_rw rfl (fun K hK=>c_apo H rfl rfl rfl List.prefix_rfl rfl rfl (Nat.zero_le _) (Hh.out.rd.fr H.fr (by simp)) (by rw [limbs_len,Nat.mul_one]) (limbs_one _) (by omega) (by omega) (by first | omega | (unfold maxLen;omega)) (fun g w1 cap pad hg hc hcm hpl hf H1=>hK _ _ ?_)));(clear hK K);(clear H;have H:=H1;clear H1;(try dsimp only at H);(try clear hf));(simp only [nrm,↓reduceIte,Nat.reduceAdd])) | (revert H;(first | (refine x_g ?_;intro g w1 hg hf H) | (refine x_s ?_;intro w1 hf H));(try clear hf)))
   go_ret
   exact ⟨_,_,by simp;rfl,H.fr,LR.of_blk (by simpa using H.at g) Hh.out.lim (by omega) hcm⟩
theorem norm_any {w:World} {p:Option Addr} {n c:Nat} (neg:Bool) (l:List Nat) (hl:l.length=n) (hn:n≤1000000) (h:LR w p c l):
 Calls Tryz.prog 241 #[.agg #[.bool neg, .slice p n c]] w fun e w'=>Big e w w' (zv neg l):=by
 have Hh:=hid h
 have Hl:=hid hl
 have H:=Hp.start [] w
 clear h hl
 go_enter Tryz.func241,Tryz.ntmps241
 (revert H;refine W08de ?_ <;>unhygienic intros)
 (revert H;refine w_p 6 (.st 0 (.st 1 (.st 2 (.st 3 (.ld 4 (.ld 5 (.ld 6 .done))))))) ?_;intro w1 H)
 iterate 4 refine p_q ?_
 ((refine pl_rw rfl rfl (fun K hK=>rw_call rfl Tryz.func184 (by kernel_rfl) rfl (clone_any l Hl.out hn (Hh.out.fr H.fr)) (fun e w1 hpost=> ?_)));obtain ⟨p2,c2,rfl,hF,hL⟩:=hpost;refine ⟨_,rfl, ?_⟩;have HL2:=hid hL;clear hL;have H1:=H.step hF (by simp);refine hK _ _ (fun hne=>by first | exact absurd rfl hne | exact H1.sub (by repeat first | exact List.Sublist.refl _ | exact List.nil_sublist _ | apply List.Sublist.cons_cons | apply List.Sublist.cons)) ?_;clear hK K;(clear H;have H:=H1;clear H1);(simp only [nrm,↓reduceIte,Nat.reduceAdd]))
 ((refine pl_rw rfl rfl (fun K hK=>rw_call rfl Tryz.func118 (by kernel_rfl) rfl (big_any neg l Hl.out (HL2.out)) (fun e w1 hpost=> ?_)));obtain ⟨p3,c3,rfl,hF,hL⟩:=hpost;refine ⟨_,rfl, ?_⟩;have HB2:=hid hL;clear hL;have H1:=H.step hF (by simp);refine hK _ _ (fun hne=>by first | exact absurd rfl hne | exact H1.sub (by repeat first | exact List.Sublist.refl _ | exact List.nil_sublist _ | apply List.Sublist.cons_cons | apply List.Sublist.cons)) ?_;clear hK K;(clear H;have H:=H1;clear H1);(simp only [nrm,↓reduceIte,Nat.reduceAdd]))
 (revert H;refine p_s2 ?_;intro w1 hf H hk;have hk2:=hid hk;clear hk;(try clear hf))
 (refine pl_done ?_)
 all_goals
  (revert H;refine Wfe4e ?_ <;>unhygienic intros)
  refine c_post H rfl rfl rfl ?_
  exact ⟨p3,c3,rfl,H.fr,hk2.out _ _ _ HB2.out⟩
theorem neg_any {w:World} {p:Option Addr} {n c:Nat} (neg:Bool) (l:List Nat) (hl:l.length=n) (hn:n≤1000000) (h:LR w p c l):
 Calls Tryz.prog 142 #[.agg #[.bool neg, .slice p n c]] w fun e w'=>Big e w w' (zv (!neg) l):=by
 have Hh:=hid h
 have Hl:=hid hl
 have H:=Hp.start [] w
 clear h hl
 go_enter Tryz.func142,Tryz.ntmps142
 (revert H;refine W08de ?_ <;>unhygienic intros)
 (revert H;refine w_p 7 (.st 0 (.st 1 (.st 2 (.st 3 (.st 4 (.ld 5 (.ld 6 (.ld 7 .done)))))))) ?_;intro w1 H)
 iterate 5 refine p_q ?_
 ((refine pl_rw rfl rfl (fun K hK=>rw_call rfl Tryz.func184 (by kernel_rfl) rfl (clone_any l Hl.out hn (Hh.out.fr H.fr)) (fun e w1 hpost=> ?_)));obtain ⟨p2,c2,rfl,hF,hL⟩:=hpost;refine ⟨_,rfl, ?_⟩;have HL2:=hid hL;clear hL;have H1:=H.step hF (by simp);refine hK _ _ (fun hne=>by first | exact absurd rfl hne | exact H1.sub (by repeat first | exact List.Sublist.refl _ | exact List.nil_sublist _ | apply List.Sublist.cons_cons | apply List.Sublist.cons)) ?_;clear hK K;(clear H;have H:=H1;clear H1);(simp only [nrm,↓reduceIte,Nat.reduceAdd]))
 ((refine pl_rw rfl rfl (fun K hK=>rw_call rfl Tryz.func118 (by kernel_rfl) rfl (big_any (!neg) l Hl.out (HL2.out)) (fun e w1 hpost=> ?_)));obtain ⟨p3,c3,rfl,hF,hL⟩:=hpost;refine ⟨_,rfl, ?_⟩;have HB2:=hid hL;clear hL;have H1:=H.step hF (by simp);refine hK _ _ (fun hne=>by first | exact absurd rfl hne | exact H1.sub (by repeat first | exact List.Sublist.refl _ | exact List.nil_sublist _ | apply List.Sublist.cons_cons | apply List.Sublist.cons)) ?_;clear hK K;(clear H;have H:=H1;clear H1);(simp only [nrm,↓reduceIte,Nat.reduceAdd]))
 (revert H;refine p_s2 ?_;intro w1 hf H hk;have hk2:=hid hk;clear hk;(try clear hf))
 (refine pl_done ?_)
 all_goals
  (revert H;refine Wfe4e ?_ <;>unhygienic intros)
  refine c_post H rfl rfl rfl ?_
  exact ⟨p3,c3,rfl,H.fr,hk2.out _ _ _ HB2.out⟩
theorem abs_any {w:World} {p:Option Addr} {n c:Nat} (neg:Bool) (l:List Nat) (hl:l.length=n) (hn:n≤1000000) (h:LR w p c l):
 Calls Tryz.prog 233 #[.agg #[.bool neg, .slice p n c]] w fun e w'=>Big e w w' (zv false l):=by
 have Hh:=hid h
 have Hl:=hid hl
 have H:=Hp.start [] w
 clear h hl
 go_enter Tryz.func233,Tryz.ntmps233
 (revert H;refine W08de ?_ <;>unhygienic intros)
 refine Calls.mono (clone_any l Hl.out hn (Hh.out.fr H.fr)) ?_
 rintro e w1 ⟨p2,c2,rfl,hF,hL⟩
 have HL2:=hid hL
 have H1:=H.step hF (by simp)
 clear H hF hL
 have H:=H1
 clear H1
 (revert H;refine W08de ?_ <;>unhygienic intros)
 refine Calls.mono (big_any false l Hl.out HL2.out) ?_
 rintro e w1 ⟨p3,c3,rfl,hF,hL⟩
 have HB2:=hid hL
 have H1:=H.step hF (by simp)
 clear H hF hL
 have H:=H1
 clear H1
 (revert H;refine Wfe4e ?_ <;>unhygienic intros)
 refine c_post H rfl rfl rfl ?_
 exact ⟨p3,c3,rfl,H.fr,hk2.out _ _ _ HB2.out⟩
end Go.Proofs.YtoiebebjgnpkmaaGreatDoor
namespace Go.Proofs.YtoiebebjgnpkmaaGreatDoor
open Go.RowKit
set_option linter.unusedSimpArgs false
set_option linter.unusedVariables false
set_option maxHeartbeats 4000000
set_option maxRecDepth 100000
theorem zv_digs (n:Bool) (A:Nat):zv n (digs A)=if n then -(A:Int) else (A:Int):=by unfold zv;rw [val_digs]
theorem zv_plus (n:Bool) (la lb:List Nat):zv n (digs (val la+val lb))=zv n la+zv n lb:=by
 rw [zv_digs];unfold zv;cases n<;>simp<;>omega
theorem zv_minus1 {na nb:Bool} (h:na≠nb) {la lb:List Nat} (hle:val lb≤val la):zv na (digs (val la - val lb))=zv na la+zv nb lb:=by
 rw [zv_digs];unfold zv;cases na<;>cases nb<;>simp at* <;>omega
theorem zv_minus2 {na nb:Bool} (h:na≠nb) {la lb:List Nat} (hle:val la≤val lb):zv nb (digs (val lb - val la))=zv na la+zv nb lb:=by
 rw [zv_digs];unfold zv;cases na<;>cases nb<;>simp at* <;>omega
theorem zv_not (n:Bool) (l:List Nat):zv (!n) l= - zv n l:=by unfold zv;cases n<;>simp
theorem cmpZ_nonneg {a b:Nat} (h:b≤a):0≤cmpZ a b:=by
 rcases Nat.lt_or_ge b a with h1 | h1
 ·rw [cmpZ_gt (by omega)];decide
 ·rw [show a=b by omega,cmpZ_eq];decide
theorem cmpZ_neg {a b:Nat} (h:a<b):cmpZ a b<0:=by rw [cmpZ_lt (by omega)];decide
theorem digs_mono {a b:Nat} (h:a≤b):(digs a).length≤(digs b).length:=by
 apply Classical.byContradiction
 intro hn
 have:=digs_len_lt (n:=b) (m:=a) (by omega)
 omega
theorem add_any {w:World} {p q:Option Addr} {n m c d:Nat} (na nb:Bool) (la lb:List Nat) (hn:la.length=n) (hm:lb.length=m) (hn0:n≤1000000) (hm0:m≤1000000) (h:LR w p c la) (k:LR w q d lb):
 Calls Tryz.prog 188 #[.agg #[.bool na, .slice p n c], .agg #[.bool nb, .slice q m d]] w fun e w'=>Big e w w' (zv na la+zv nb lb):=by
 subst hn hm
 have Hh:=hid h
 have Hk:=hid k
 have hla:=digs_len_le h.lim
 have hlb:=digs_len_le k.lim
 have H:=Hp.start [] w
 clear h k
 go_enter Tryz.func188,Tryz.ntmps188
 go_upto_region 1 with (first | refine x_q H ?_ | refine x_cm (fun h=> ?_) (fun h=> ?_) | (revert H;(first | (refine x_g ?_;intro g w1 hg hf H) | (refine x_s ?_;intro w1 hf H));(try clear hf)))
 go_cut [2,3,4,5,6] (fun s2 s3 s4 s5 s6 wx=>∃ g1 g2 g3:Nat,s2= .pointer (some ⟨g1,0,none⟩)∧s3= .pointer (some ⟨g2,0,none⟩)∧s4= .pointer (some ⟨g3,0,none⟩)∧s5= .slice p (digs (val la)).length c∧s6= .slice q (digs (val lb)).length d∧Hp [] w wx [.blk g3 [.bool false, .slice none 0 0] 112, .blk g2 [.bool nb, .slice q lb.length d] 112, .blk g1 [.bool na, .slice p la.length c] 112])
 case first=>
  (revert H;refine w_p 8 (.st 0 (.st 1 (.st 3 (.st 4 (.ld 2 (.ld 5 (.st 6 (.st 7 .done)))))))) ?_;intro w1 H)
  iterate 4 refine p_q ?_
  ((refine p_c H rfl rfl Tryz.func117 (trim_any la rfl (Hh.out.fr H.fr)) ?_;clear H;rintro e w1 ⟨rfl,hF⟩ H;refine p_r ?_);skip)
  ((refine p_c H rfl rfl Tryz.func117 (trim_any lb rfl (Hk.out.fr H.fr)) ?_;clear H;rintro e w1 ⟨rfl,hF⟩ H;refine p_r ?_);skip)
  iterate 2 refine p_q ?_
  (refine pl_done ?_)
  all_goals
   (revert H;refine W08de ?_ <;>unhygienic intros)
   go_meet
   case rel=>exact ⟨_,_,_,rfl,rfl,rfl,rfl,rfl,H⟩
 case rest=>
  clear H
  obtain ⟨g1,g2,g3,rfl,rfl,rfl,rfl,rfl,H⟩:=hcut
  have hA:=hid (Hh.out.trim)
  have hB:=hid (Hk.out.trim)
  cases na<;>cases nb
  ·(revert H;refine W08de ?_ <;>unhygienic intros)
   (revert H;refine w_p 6 (.st 0 (.st 1 (.st 2 (.st 3 (.ld 4 (.ld 5 (.ld 6 .done))))))) ?_;intro w1 H)
   iterate 4 refine p_q ?_
   ((refine p_c H rfl rfl Tryz.func115 (plus_any (digs (val la)) (digs (val lb)) rfl rfl (by omega) (by omega) (hA.out.fr H.fr) (hB.out.fr H.fr)) ?_;clear H;rintro e w1 ⟨p5,c5,rfl,hF,hL⟩ H;refine p_r ?_);have HL5:=hid hL;clear hL)
   ((refine p_c H rfl rfl Tryz.func118 (big_any false _ rfl HL5.out) ?_;clear H;rintro e w1 ⟨p6,c6,rfl,hF,hL⟩ H;refine p_r ?_);have HL6:=hid hL;clear hL)
   (revert H;refine p_s2 ?_;intro w1 hf H hk;have hk2:=hid hk;clear hk;(try clear hf))
   (refine pl_done ?_)
   all_goals
    (revert H;refine W08de ?_ <;>unhygienic intros)
    refine c_post H rfl rfl rfl ?_
    have hz:zv false (digs (val (digs (val la))+val (digs (val lb))))=zv false la+zv false lb:=(by rw [val_digs,val_digs];exact zv_plus _ la lb)
    rw [hz] at HL6
    refine ⟨p6,c6, ?_,H.fr,hk2.out _ _ _ HL6.out⟩
    rw [hz]
  ·rcases Nat.lt_or_ge (val la) (val lb) with hlt | hge
   ·have hc:=cmpZ_neg hlt
    have hlen:=digs_mono (Nat.le_of_lt hlt)
    have hlt:=hid hlt
    (revert H;refine W08de ?_ <;>unhygienic intros)
    (refine x_c H (compare_any (val la) (val lb) rfl rfl (hA.out.fr H.fr) (hB.out.fr H.fr)) ?_;clear H;rintro e w1 ⟨rfl,hF⟩ H)
    generalize cmpZ (val la) (val lb)=z at hc ⊢
    (revert H;refine W08de ?_ <;>unhygienic intros)
    (revert H;refine w_p 6 (.st 0 (.st 1 (.st 2 (.st 3 (.ld 4 (.ld 5 (.ld 6 .done))))))) ?_;intro w1 H)
    iterate 4 refine p_q ?_
    ((refine p_c H rfl rfl Tryz.func231 (minus_any (digs (val lb)) (digs (val la)) rfl rfl hlen (by omega) (by rw [val_digs,val_digs];exact Nat.le_of_lt hlt.out) (hB.out.fr H.fr) (hA.out.fr H.fr)) ?_;clear H;rintro e w1 ⟨p5,c5,rfl,hF,hL⟩ H;refine p_r ?_);have HL5:=hid hL;clear hL)
    ((refine p_c H rfl rfl Tryz.func118 (big_any true _ rfl HL5.out) ?_;clear H;rintro e w1 ⟨p6,c6,rfl,hF,hL⟩ H;refine p_r ?_);have HL6:=hid hL;clear hL)
    (revert H;refine p_s2 ?_;intro w1 hf H hk;have hk2:=hid hk;clear hk;(try clear hf))
    (refine pl_done ?_)
    all_goals
     (revert H;refine W08de ?_ <;>unhygienic intros)
     refine c_post H rfl rfl rfl ?_
     have hz:zv true (digs (val (digs (val lb)) - val (digs (val la))))=zv false la+zv true lb:=(by rw [val_digs,val_digs];exact zv_minus2 (by decide) (Nat.le_of_lt hlt.out))
     rw [hz] at HL6
     refine ⟨p6,c6, ?_,H.fr,hk2.out _ _ _ HL6.out⟩
     rw [hz]
   ·have hc:=cmpZ_nonneg hge
    have hlen:=digs_mono hge
    have hge:=hid hge
    (revert H;refine W08de ?_ <;>unhygienic intros)
    (refine x_c H (compare_any (val la) (val lb) rfl rfl (hA.out.fr H.fr) (hB.out.fr H.fr)) ?_;clear H;rintro e w1 ⟨rfl,hF⟩ H)
    generalize cmpZ (val la) (val lb)=z at hc ⊢
    (revert H;refine W08de ?_ <;>unhygienic intros)
    (revert H;refine w_p 6 (.st 0 (.st 1 (.st 2 (.st 3 (.ld 4 (.ld 5 (.ld 6 .done))))))) ?_;intro w1 H)
    iterate 4 refine p_q ?_
    ((refine p_c H rfl rfl Tryz.func231 (minus_any (digs (val la)) (digs (val lb)) rfl rfl hlen (by omega) (by rw [val_digs,val_digs];exact hge.out) (hA.out.fr H.fr) (hB.out.fr H.fr)) ?_;clear H;rintro e w1 ⟨p5,c5,rfl,hF,hL⟩ H;refine p_r ?_);have HL5:=hid hL;clear hL)
    ((refine p_c H rfl rfl Tryz.func118 (big_any false _ rfl HL5.out) ?_;clear H;rintro e w1 ⟨p6,c6,rfl,hF,hL⟩ H;refine p_r ?_);have HL6:=hid hL;clear hL)
    (revert H;refine p_s2 ?_;intro w1 hf H hk;have hk2:=hid hk;clear hk;(try clear hf))
    (refine pl_done ?_)
    all_goals
     (revert H;refine W08de ?_ <;>unhygienic intros)
     refine c_post H rfl rfl rfl ?_
     have hz:zv false (digs (val (digs (val la)) - val (digs (val lb))))=zv false la+zv true lb:=(by rw [val_digs,val_digs];exact zv_minus1 (by decide) hge.out)
     rw [hz] at HL6
     refine ⟨p6,c6, ?_,H.fr,hk2.out _ _ _ HL6.out⟩
     rw [hz]
  ·rcases Nat.lt_or_ge (val la) (val lb) with hlt | hge
   ·have hc:=cmpZ_neg hlt
    have hlen:=digs_mono (Nat.le_of_lt hlt)
    have hlt:=hid hlt
    (revert H;refine W08de ?_ <;>unhygienic intros)
    (refine x_c H (compare_any (val la) (val lb) rfl rfl (hA.out.fr H.fr) (hB.out.fr H.fr)) ?_;clear H;rintro e w1 ⟨rfl,hF⟩ H)
    generalize cmpZ (val la) (val lb)=z at hc ⊢
    (revert H;refine W08de ?_ <;>unhygienic intros)
    (revert H;refine w_p 6 (.st 0 (.st 1 (.st 2 (.st 3 (.ld 4 (.ld 5 (.ld 6 .done))))))) ?_;intro w1 H)
    iterate 4 refine p_q ?_
    ((refine p_c H rfl rfl Tryz.func231 (minus_any (digs (val lb)) (digs (val la)) rfl rfl hlen (by omega) (by rw [val_digs,val_digs];exact Nat.le_of_lt hlt.out) (hB.out.fr H.fr) (hA.out.fr H.fr)) ?_;clear H;rintro e w1 ⟨p5,c5,rfl,hF,hL⟩ H;refine p_r ?_);have HL5:=hid hL;clear hL)
    ((refine p_c H rfl rfl Tryz.func118 (big_any false _ rfl HL5.out) ?_;clear H;rintro e w1 ⟨p6,c6,rfl,hF,hL⟩ H;refine p_r ?_);have HL6:=hid hL;clear hL)
    (revert H;refine p_s2 ?_;intro w1 hf H hk;have hk2:=hid hk;clear hk;(try clear hf))
    (refine pl_done ?_)
    all_goals
     (revert H;refine W08de ?_ <;>unhygienic intros)
     refine c_post H rfl rfl rfl ?_
     have hz:zv false (digs (val (digs (val lb)) - val (digs (val la))))=zv true la+zv false lb:=(by rw [val_digs,val_digs];exact zv_minus2 (by decide) (Nat.le_of_lt hlt.out))
     rw [hz] at HL6
     refine ⟨p6,c6, ?_,H.fr,hk2.out _ _ _ HL6.out⟩
     rw [hz]
   ·have hc:=cmpZ_nonneg hge
    have hlen:=digs_mono hge
    have hge:=hid hge
    (revert H;refine W08de ?_ <;>unhygienic intros)
    (refine x_c H (compare_any (val la) (val lb) rfl rfl (hA.out.fr H.fr) (hB.out.fr H.fr)) ?_;clear H;rintro e w1 ⟨rfl,hF⟩ H)
    generalize cmpZ (val la) (val lb)=z at hc ⊢
    (revert H;refine W08de ?_ <;>unhygienic intros)
    (revert H;refine w_p 6 (.st 0 (.st 1 (.st 2 (.st 3 (.ld 4 (.ld 5 (.ld 6 .done))))))) ?_;intro w1 H)
    iterate 4 refine p_q ?_
    ((refine p_c H rfl rfl Tryz.func231 (minus_any (digs (val la)) (digs (val lb)) rfl rfl hlen (by omega) (by rw [val_digs,val_digs];exact hge.out) (hA.out.fr H.fr) (hB.out.fr H.fr)) ?_;clear H;rintro e w1 ⟨p5,c5,rfl,hF,hL⟩ H;refine p_r ?_);have HL5:=hid hL;clear hL)
    ((refine p_c H rfl rfl Tryz.func118 (big_any true _ rfl HL5.out) ?_;clear H;rintro e w1 ⟨p6,c6,rfl,hF,hL⟩ H;refine p_r ?_);have HL6:=hid hL;clear hL)
    (revert H;refine p_s2 ?_;intro w1 hf H hk;have hk2:=hid hk;clear hk;(try clear hf))
    (refine pl_done ?_)
    all_goals
     (revert H;refine W08de ?_ <;>unhygienic intros)
     refine c_post H rfl rfl rfl ?_
     have hz:zv true (digs (val (digs (val la)) - val (digs (val lb))))=zv true la+zv false lb:=(by rw [val_digs,val_digs];exact zv_minus1 (by decide) hge.out)
     rw [hz] at HL6
     refine ⟨p6,c6, ?_,H.fr,hk2.out _ _ _ HL6.out⟩
     rw [hz]
  ·(revert H;refine W08de ?_ <;>unhygienic intros)
   (revert H;refine w_p 6 (.st 0 (.st 1 (.st 2 (.st 3 (.ld 4 (.ld 5 (.ld 6 .done))))))) ?_;intro w1 H)
   iterate 4 refine p_q ?_
   ((refine p_c H rfl rfl Tryz.func115 (plus_any (digs (val la)) (digs (val lb)) rfl rfl (by omega) (by omega) (hA.out.fr H.fr) (hB.out.fr H.fr)) ?_;clear H;rintro e w1 ⟨p5,c5,rfl,hF,hL⟩ H;refine p_r ?_);have HL5:=hid hL;clear hL)
   ((refine p_c H rfl rfl Tryz.func118 (big_any true _ rfl HL5.out) ?_;clear H;rintro e w1 ⟨p6,c6,rfl,hF,hL⟩ H;refine p_r ?_);have HL6:=hid hL;clear hL)
   (revert H;refine p_s2 ?_;intro w1 hf H hk;have hk2:=hid hk;clear hk;(try clear hf))
   (refine pl_done ?_)
   all_goals
    (revert H;refine W08de ?_ <;>unhygienic intros)
    refine c_post H rfl rfl rfl ?_
    have hz:zv true (digs (val (digs (val la))+val (digs (val lb))))=zv true la+zv true lb:=(by rw [val_digs,val_digs];exact zv_plus _ la lb)
    rw [hz] at HL6
    refine ⟨p6,c6, ?_,H.fr,hk2.out _ _ _ HL6.out⟩
    rw [hz]
end Go.Proofs.YtoiebebjgnpkmaaGreatDoor
namespace Go.Proofs.YtoiebebjgnpkmaaGreatDoor
open Go.RowKit
set_option linter.unusedSimpArgs false
set_option linter.unusedVariables false
set_option maxHeartbeats 4000000
set_option maxRecDepth 100000
theorem sub_any {w:World} {p q:Option Addr} {n m c d:Nat} (na nb:Bool) (la lb:List Nat) (hn:la.length=n) (hm:lb.length=m) (hn0:n≤1000000) (hm0:m≤1000000) (h:LR w p c la) (k:LR w q d lb):
 Calls Tryz.prog 256 #[.agg #[.bool na, .slice p n c], .agg #[.bool nb, .slice q m d]] w fun e w'=>Big e w w' (zv na la - zv nb lb):=by
 have Hh:=hid h
 have Hk:=hid k
 have H:=Hp.start [] w
 have HZ:Hid (zv na la+zv (!nb) lb=zv na la - zv nb lb):=hid (by rw [zv_not];omega)
 have Hn:=hid hn
 have Hm:=hid hm
 clear h k hn hm
 go_enter Tryz.func256,Tryz.ntmps256
 (revert H;refine W08de ?_ <;>unhygienic intros)
 refine Calls.mono (add_any na (!nb) la lb Hn.out Hm.out hn0 hm0 (Hh.out.fr H.fr) (Hk.out.fr H.fr)) ?_
 rintro e w1 ⟨p3,c3,rfl,hF,hL⟩
 rw [HZ.out] at hL ⊢
 have HB2:=hid hL
 have H1:=H.step hF (by simp)
 clear H hF hL
 have H:=H1
 clear H1
 (revert H;refine Wfe4e ?_ <;>unhygienic intros)
 refine c_post H rfl rfl rfl ?_
 exact ⟨p3,c3,rfl,H.fr,hk2.out _ _ _ HB2.out⟩
theorem zv_canon (z:Int):zv (decide (z<0)) (digs z.natAbs)=z:=by
 rw [zv_digs]
 by_cases h:z<0
 ·simp [h];omega
 ·simp [h];omega
end Go.Proofs.YtoiebebjgnpkmaaGreatDoor
namespace Go.Proofs.YtoiebebjgnpkmaaGreatDoor
open Go.RowKit
set_option linter.unusedSimpArgs false
set_option linter.unusedVariables false
set_option maxHeartbeats 4000000
set_option maxRecDepth 100000
theorem times_next (i j x y V T:Nat):V+4294967296 ^ i*(x*T)+4294967296 ^ (i+j)*(x*y)=V+4294967296 ^ i*(x*(T+4294967296 ^ j*y)):=by
 rw [Nat.pow_add,Nat.mul_add x,Nat.mul_add,Nat.mul_assoc,Nat.mul_left_comm x,Nat.add_assoc]
theorem times_row (i x A B:Nat):A*B+4294967296 ^ i*(x*B)=(A+4294967296 ^ i*x)*B:=by
 rw [Nat.add_mul,Nat.mul_assoc]
theorem wrapN {z:Int} (n:Nat) (h:z=(n:Int)) (hn:n<18446744073709551616):IntKind.u64.wrap z=(n:Int):=by
 rw [h,IntKind.wrap_u64];omega
theorem mul_word {x y o cy:Nat} (hx:x<4294967296) (hy:y<4294967296) (ho:o<4294967296) (hc:cy<4294967296):
 IntKind.u64.wrap (IntKind.u64.wrap (IntKind.u64.wrap ((x:Int)*(y:Int))+(o:Int))+(cy:Int))=((x*y+o+cy:Nat):Int):=by
 have hb:=times_bound hx hy ho hc
 have e1:IntKind.u64.wrap ((x:Int)*(y:Int))=((x*y:Nat):Int):=wrapN _ (by rw [Int.natCast_mul]) (by omega)
 rw [e1]
 have e2:IntKind.u64.wrap (((x*y:Nat):Int)+(o:Int))=((x*y+o:Nat):Int):=wrapN _ (by omega) (by omega)
 rw [e2]
 exact wrapN _ (by omega) hb
theorem low_nat {t:Nat} (h:t<18446744073709551616):bits .and .u64 (t:Int) 4294967295 % 4294967296=((t % 4294967296:Nat):Int):=by
 rw [and_low32 _ (by omega) (by omega)];omega
set_option maxHeartbeats 8000000 in
theorem times_any {w:World} {p q:Option Addr} {n m c d:Nat} (a b:List Nat) (hn:a.length=n) (hm:b.length=m) (hn0:n≤400000) (hm0:m≤400000) (h:LR w p c a) (k:LR w q d b):
 Calls Tryz.prog 116 #[.slice p n c, .slice q m d] w fun e w'=>∃ p' c',e= .returned (.slice p' (digs (val a*val b)).length c')∧Fr [] w w'∧LR w' p' c' (digs (val a*val b)):=by
 subst hn hm
 have Hh:=hid h
 have Hk:=hid k
 clear h k
 have H:=Hp.start [] w
 by_cases ha:a.length≤0
 ·have e:val a=0:=by rw [List.eq_nil_of_length_eq_zero (show a.length=0 by omega)];rfl
  have He:=hid e
  clear e
  go_enter Tryz.func116,Tryz.ntmps116
  (revert H;refine W08de ?_ <;>unhygienic intros)
  go_ret
  rw [He.out,Nat.zero_mul,digs_zero]
  exact ⟨none,0,rfl,H.fr,LR.zero _⟩
 by_cases hb:b.length≤0
 ·have e:val b=0:=by rw [List.eq_nil_of_length_eq_zero (show b.length=0 by omega)];rfl
  have He:=hid e
  clear e
  go_enter Tryz.func116,Tryz.ntmps116
  (revert H;refine W08de ?_ <;>unhygienic intros)
  go_ret
  rw [He.out,Nat.mul_zero,digs_zero]
  exact ⟨none,0,rfl,H.fr,LR.zero _⟩
 have ha1:0<a.length:=by omega
 have hb1:0<b.length:=by omega
 clear ha hb
 go_enter Tryz.func116,Tryz.ntmps116
 (revert H;refine W08de ?_ <;>unhygienic intros)
 rw [show ((a.length:Int)+(b.length:Int)).toNat=a.length+b.length by omega,zeros_limbs] at H
 go_loopw [28] (fun s28 wr=>∃ (i:Nat) (o:List Nat),i≤a.length∧s28= .int .i64 i∧Hid (o.length=a.length+b.length)∧Hid (Lim o)∧Hid (val o=val (a.take i)*val b)∧Hid (∀ k,i+b.length≤k→k<a.length+b.length→o[k]? =some 0)∧Hp [] w wr [.blk g (limbs o) 162]) (fun v _ =>a.length - (intOf v).toNat)
 case atStart=>exact ⟨0,List.replicate (a.length+b.length) 0,Nat.zero_le _,rfl,hid List.length_replicate,hid (Lim.zeros _),hid (by rw [val_zeros];simp [val]),hid (fun k _ hk=>by rw [List.getElem?_replicate,if_pos hk]),H⟩
 case round=>
  clear H
  obtain ⟨i,o,hi,rfl,Hol,Hlo,Hv,Hz,H⟩:=hrel
  by_cases hin:i<a.length
  ·obtain ⟨x,hx⟩:∃ x,a[i]? =some x:=⟨_,List.getElem?_eq_getElem hin⟩
   have hxv:=limbs_at hx
   have hxB:=Hh.out.lim.at hx
   have Hx:=hid hx
   clear hx
   obtain ⟨b0,off,rfl,hb0,hcell⟩:=Hh.out.rd.rng (limbs_ne (i:=i) hin)
   have H1:=H.pushRng (b:=b0) (off:=off) hb0 (by simp) hcell
   clear H hcell
   have H:=H1
   clear H1
   (revert H;refine W08de ?_ <;>unhygienic intros)
   have H1:=H.sub (l':=[.blk g (limbs o) 162]) (by repeat first | exact List.Sublist.refl _ | exact List.nil_sublist _ | apply List.Sublist.cons_cons | apply List.Sublist.cons)
   clear H
   have H:=H1
   clear H1
   go_loopw [8,35] (fun s8 s35 wr=>∃ (j:Nat) (o:List Nat) (cy:Nat),j≤b.length∧s35= .int .i64 j∧s8= .int .u64 cy∧cy<4294967296∧Hid (o.length=a.length+b.length)∧Hid (Lim o)∧Hid (val o+4294967296 ^ (i+j)*cy=val (a.take i)*val b+4294967296 ^ i*(x*val (b.take j)))∧Hid (∀ k,i+b.length≤k→k<a.length+b.length→o[k]? =some 0)∧Hp [] w wr [.blk g (limbs o) 162]) (fun _ v _ =>b.length - (intOf v).toNat)
   case atStart=>exact ⟨0,o,0,Nat.zero_le _,rfl,rfl,by decide,Hol,Hlo,hid (by rw [Hv.out];simp [val]),Hz,H⟩
   case round=>
    clear H Hol Hlo Hv Hz
    clear o
    obtain ⟨j,o,cy,hj,rfl,rfl,hcy,Hol,Hlo,Hv,Hz,H⟩:=hrel
    by_cases hjn:j<b.length
    ·obtain ⟨y,hy⟩:∃ y,b[j]? =some y:=⟨_,List.getElem?_eq_getElem hjn⟩
     have hyv:=limbs_at hy
     have hyB:=Hk.out.lim.at hy
     have Hy:=hid hy
     clear hy
     have hij:i+j<o.length:=by rw [Hol.out];omega
     obtain ⟨ov,hov⟩:∃ ov,o[i+j]? =some ov:=⟨_,List.getElem?_eq_getElem hij⟩
     have hovv:(limbs o)[((i:Int)+(j:Int)).toNat]? =some (.int .u32 (ov:Int)):=by rw [show ((i:Int)+(j:Int)).toNat=i+j by omega];exact limbs_at hov
     have hoB:=Hlo.out.at hov
     have Hov:=hid hov
     clear hov
     obtain ⟨b1,off1,he1,hb1',hcell1⟩:=Hk.out.rd.rng (limbs_ne (i:=j) hjn)
     have H1:=H.pushRng (b:=b1) (off:=off1) hb1' (by simp) hcell1
     clear H hcell1
     have H:=H1
     clear H1
     subst he1
     have HM:=hid (mul_word hxB hyB hoB hcy)
     have HT:Hid (∃ t,x*y+ov+cy=t∧t<18446744073709551616):=hid ⟨_,rfl,times_bound hxB hyB hoB hcy⟩
     obtain ⟨t,ht,htB⟩:=HT.out
     rw [ht] at HM
     have Ht:=hid ht
     clear ht HT
     (revert H;refine Waaeb ?_ <;>unhygienic intros)
     rw [HM.out,low_nat htB,show ((i:Int)+(j:Int)).toNat=i+j by omega,limbs_set] at H
     rw [HM.out]
     go_roundw
     case rel=>exact ⟨j+1,o.set (i+j) (t % 4294967296),t / 4294967296,by omega,by go_num,by rw [Int.natCast_ediv];rfl,by omega,hid (by rw [List.length_set];exact Hol.out),hid (Hlo.out.set _ (Nat.mod_lt _ (by decide))),hid (by rw [← Nat.add_assoc,times_round Hov.out Hv.out Ht.out.symm,val_take_succ Hy.out];exact times_next ..),hid (fun k hk1 hk2=>by rw [List.getElem?_set_ne (by omega)];exact Hz.out k hk1 hk2),H.sub (by repeat first | exact List.Sublist.refl _ | exact List.nil_sublist _ | apply List.Sublist.cons_cons | apply List.Sublist.cons)⟩
     case measure=>(simp [intOf];try omega)
    ·have e:j=b.length:=by omega
     have hib:i+b.length<o.length:=by rw [Hol.out];omega
     have H0:=hid (Hz.out (i+b.length) (Nat.le_refl _) (by omega))
     have HV:Hid (val (o.set (i+b.length) cy)=val (a.take (i+1))*val b):=hid (by
      have hv:=Hv.out
      rw [e,List.take_of_length_le (Nat.le_refl _)] at hv
      rw [set_zero_end H0.out hv,val_take_succ Hx.out]
      exact times_row ..)
     clear e
     (revert H;refine Waaeb ?_ <;>unhygienic intros)
     rw [show ((i:Int)+(b.length:Int)).toNat=i+b.length by omega,limbs_set] at H
     go_roundw
     case rel=>exact ⟨i+1,o.set (i+b.length) cy,by omega,by go_num,hid (by rw [List.length_set];exact Hol.out),hid (Hlo.out.set _ hcy),HV,hid (fun k hk1 hk2=>by rw [List.getElem?_set_ne (by omega)];exact Hz.out k (by omega) hk2),H⟩
     case measure=>(simp [intOf];try omega)
  ·have e:i=a.length:=by omega
   have HV:Hid (val o=val a*val b):=hid (by rw [Hv.out,e,List.take_of_length_le (Nat.le_refl _)])
   clear e
   (revert H;refine W08de ?_ <;>unhygienic intros)
   have hL:LR _ (some ⟨g,0,none⟩) (a.length+b.length) o:=LR.of_blk (pad:=[]) (by rw [List.append_nil];exact H.at g) Hlo.out (by rw [Hol.out];exact Nat.le_refl _) (by unfold maxLen;omega)
   have HL:=hid hL
   refine Calls.mono (trim_any o Hol.out HL.out) ?_
   rintro e w1 ⟨rfl,hF⟩
   have HL2:=hid (hL.fr hF).trim
   have H1:=H.step hF (by simp)
   clear H hF hL HL
   have H:=H1
   clear H1
   (revert H;refine W08de ?_ <;>unhygienic intros)
   go_ret
   rw [HV.out] at HL2
   exact ⟨_,_,by rw [HV.out];rfl,H.fr,HL2.out⟩
end Go.Proofs.YtoiebebjgnpkmaaGreatDoor
namespace Go.Proofs.YtoiebebjgnpkmaaGreatDoor
open Go.RowKit
set_option linter.unusedSimpArgs false
set_option linter.unusedVariables false
set_option maxHeartbeats 4000000
set_option maxRecDepth 100000
end Go.Proofs.YtoiebebjgnpkmaaGreatDoor
