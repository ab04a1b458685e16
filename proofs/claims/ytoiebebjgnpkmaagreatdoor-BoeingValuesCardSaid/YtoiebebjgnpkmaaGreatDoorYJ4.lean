import Derived.Test.YtoiebebjgnpkmaaGreatDoorYJ3
namespace Go.Proofs.YtoiebebjgnpkmaaGreatDoor
open Go.RowKit
set_option linter.unusedSimpArgs false
set_option linter.unusedVariables false
theorem length_flat {α β:Type} (g:α→List β) (n:Nat):∀ (l:List α),(∀ x∈l,(g x).length=n)→(l.flatMap g).length=l.length*n
 | [],_ =>by simp
 | x::l,h=>by
  rw [List.flatMap_cons,List.length_append,h x List.mem_cons_self,length_flat g n l (fun y hy=>h y (List.mem_cons_of_mem _ hy)),List.length_cons,Nat.add_mul];omega
theorem lt_of_cell {w:World} {a:Addr} {v:Value} (h:w.cell? a=some v):a.block<w.heap.size:=by
 unfold World.cell? at h
 by_cases hb:a.block<w.heap.size
 ·exact hb
 ·rw [Array.getElem?_eq_none (by omega)] at h
  simp at h
section
variable {P:Program} {ops:Array Oper} {Q:Exit→Act→World→Prop} {a:Act} {w w0:World} {rest:List Oper} {o:Oper} {K:Act→World→Prop} {T:List Nat} {l:List Ent} {L:List Value} {ds:List Deferred}
theorem Parts.sized {s:Nat} {i:Nat} {ps:List (Nat×Operand)} {css:List (List Value)} (h:Parts L i ps css) (hs:∀ c∈css,c.length=s):∃ vs:List Value,(ps.map fun (i,x)=>(i,(Act.mk L.toArray ds).eval x))=partsFrom i vs∧(vs.flatMap fun v=>v.cells.toList)=css.flatten∧vs.length=css.length∧∀ v∈vs,v.cells.size=s:=by
 induction h with
 | nil i=>exact ⟨[],rfl,rfl,rfl,by simp⟩
 | @tmp i n v c ps cs h hc k ih=>
  obtain ⟨vs,h1,h2,h3,h4⟩:=ih (fun c hc=>hs c (List.mem_cons_of_mem _ hc))
  have e:(Act.mk L.toArray ds).eval (.tmp n)=v:=by simp [Act.eval,h]
  refine ⟨v::vs,by simp [partsFrom,h1,e],by simp [h2,hc],by simp [h3],fun u hu=> ?_⟩
  rcases List.mem_cons.1 hu with rfl | hu
  ·rw [hc];simpa using hs c List.mem_cons_self
  ·exact h4 u hu
 | @con i v c ps cs hc k ih=>
  obtain ⟨vs,h1,h2,h3,h4⟩:=ih (fun c hc=>hs c (List.mem_cons_of_mem _ hc))
  have e:(Act.mk L.toArray ds).eval (.const v)=v:=rfl
  refine ⟨v::vs,by simp [partsFrom,h1,e],by simp [h2,hc],by simp [h3],fun u hu=> ?_⟩
  rcases List.mem_cons.1 hu with rfl | hu
  ·rw [hc];simpa using hs c List.mem_cons_self
  ·exact h4 u hu
theorem fits_row (s:Nat):∀ (vs:List Value) (i:Nat),(∀ v∈vs,v.cells.size=s)→fits (fun i=>some (i*s,s)) i (i*s) vs=true
 | [],_,_ =>rfl
 | v::vs,i,h=>by
  have hv:=h v List.mem_cons_self
  simp only [fits,hv,beq_self_eq_true,Bool.true_and]
  rw [show i*s+s=(i+1)*s by rw [Nat.add_mul];omega]
  exact fits_row s vs (i+1) (fun u hu=>h u (List.mem_cons_of_mem _ hu))
theorem c_sN (H:Hp T w0 w l) {t:TypeId} {n:Nat} {ps:List (Nat×Operand)} (ho:o.op= .buildSlice t n ps.toArray) {css:List (List Value)} (hp:Parts L 0 ps css) {e:TypeId} {z:List Value} {s by':Nat} [hsi:Si P t e z s by'] (hn:css.length=n) (hs:∀ c∈css,c.length=s) (h24:n*s≤16777216) (h0:s≠0)
 (h:∀ g w',w0.heap.size≤g∧w.heap.size≤g→Fr [] w w'→Hp T w0 w' (.blk g css.flatten e::l)→K (Act.put (Act.mk L.toArray ds) o.dst (.slice (some ⟨g,0,none⟩) n n)) w'):o.wp P (Act.mk L.toArray ds) w K Q:=by
 obtain ⟨hu,i,zv,h2,h3,h4,h5,h6⟩:=si_spec hsi.h
 subst h5 h6
 obtain ⟨vs,hv1,hv2,hv3,hv4⟩:=hp.sized (ds:=ds) hs
 have e1:(Instr.buildSlice t n ((ps.toArray.map fun (i,x)=>(i,(Act.mk L.toArray ds).eval x)))).run P w= .ok (.slice (some ⟨w.heap.size,0,none⟩) n n) (w.alloc (.cells css.flatten.toArray e)):=by
  have hl:(vs.flatMap fun v=>v.cells.toList).length=n*i.size:=by
   rw [length_flat (fun v:Value=>v.cells.toList) i.size vs (fun v hv=>by rw [Array.length_toList];exact hv4 v hv),hv3,hn]
  have hf:=fill_all (fun k=>some (k*i.size,i.size)) vs 0 [] ((Array.range (n*i.size)).map (zv.cells[· % zv.cells.size]!)).toList (by simpa using fits_row i.size vs 0 hv4) (by rw [hl];simp)
  rw [hl,List.drop_eq_nil_of_le (by simp),List.append_nil,List.nil_append,List.nil_append,hv2] at hf
  have e2:(ps.toArray.map fun (i,x)=>(i,(Act.mk L.toArray ds).eval x)).toList=partsFrom 0 vs:=by simpa using hv1
  simp only [Instr.buildSlice,Sem.run_bind,run_underlying hu,Result.andThen_ok,sizeOf,typeInfo,run_program,h2,Sem.run_pure,zeroValue]
  rw [if_neg (by omega)]
  by_cases hz0:n*i.size=0
  ·have hn0:n=0:=by rcases Nat.mul_eq_zero.1 hz0 with h | h;exact h;exact absurd h h0
   subst hn0
   have hc0:css=[]:=List.eq_nil_of_length_eq_zero hn
   subst hc0
   have hp0:ps=[]:=by cases hp;rfl
   subst hp0
   simp [Instr.fill,newRow,run_newObj]
   congr 1;congr 1;apply Array.ext';simp [Array.range]
  ·rw [if_neg hz0]
   simp only [Sem.run_bind,Sem.run_pure,Result.andThen_ok,run_program,h2,h3,e2]
   rw [Array.toArray_toList] at hf
   simp only [hf,newRow,Sem.run_bind,run_newObj,Result.andThen_ok,Sem.run_pure]
   rfl
 refine wp_of_run ?_ (h _ _ ⟨H.fr.size,Nat.le_refl _⟩ (Fr.alloc [] w _) (H.alloc css.flatten e))
 unfold execOp;simp only [ho,Sem.run_bind,e1,Result.andThen_ok,Sem.run_pure]
end
theorem Rd.addr {w:World} {v:Value} {n:Nat} {cs:List Value} (h:Rd w v n cs) (hc:cs≠[]):∃ b off c,v= .slice (some ⟨b,off,none⟩) n c∧b<w.heap.size∧∀ (j:Nat) u,cs[j]? =some u→w.cell? ⟨b,off+j,none⟩=some u:=by
 rcases h with ⟨_,h4,_⟩ | ⟨ad,c',rfl,h5⟩
 ·exact absurd h4 hc
 ·obtain ⟨x,xs,rfl⟩:∃ x xs,cs=x::xs:=by cases cs with | nil=>exact absurd rfl hc | cons x xs=>exact ⟨x,xs,rfl⟩
  obtain ⟨b,off,spot⟩:=ad
  have h9:=h5 0 x rfl
  have hs:spot=none:=by simpa [Addr.add] using World.cell?_spot h9
  subst hs
  refine ⟨b,off,c',rfl,by simpa [Addr.add] using lt_of_cell h9,fun j u hj=> ?_⟩
  have:=h5 j u hj
  rwa [add_mk] at this
theorem Rd.form {w:World} {v:Value} {n:Nat} {cs:List Value} (h:Rd w v n cs):∃ p c,v= .slice p n c:=by
 rcases h with ⟨rfl,_,p,c,rfl⟩ | ⟨ad,c,rfl,_⟩
 ·exact ⟨p,c,rfl⟩
 ·exact ⟨_,c,rfl⟩
section
variable {P:Program} {Q:Exit→Act→World→Prop} {a:Act} {w:World} {o:Oper} {lo:List Oper}
theorem ev_not {t:TypeId} {x:Operand} (ho:o.op= .unOp .not t x) {b:Bool} (hx:a.eval x= .bool b):(execOp a.eval o).run P w= .ok (.value (.bool (!b))) w:=by
 unfold execOp;simp [ho,hx,Op.unary]
theorem c_seq {t t':TypeId} {x:Operand} (ho:o.op= .binOp .eql t x (.const (.slice none 0 0)) t') {p:Option Addr} {n c:Nat} (hx:a.eval x= .slice p n c) {e:TypeId} {z:List Value} {s by':Nat} [h:Si P t e z s by']:(execOp a.eval o).run P w= .ok (.value (.bool p.isNone)) w:=by
 obtain ⟨hu,_⟩:=si_spec h.h
 have e1:(eqGuard .eql t x (.const (.slice none 0 0)) (.slice p n c) (.slice none 0 0)).run P w= .ok () w:=by unfold eqGuard;simp
 have hn:a.eval (.const (.slice none 0 0))= .slice none 0 0:=rfl
 unfold execOp
 simp only [ho,hx,hn,Sem.run_bind,e1,Result.andThen_ok]
 have e2:(Op.equal t (.slice p n c) (.slice none 0 0)).run P w= .ok p.isNone w:=by
  unfold Op.equal Op.maxDepth
  rw [Op.equalIn]
  simp only [Sem.run_bind,run_underlying hu,Result.andThen_ok]
  cases p<;>rfl
 have e3:(binOp .eql t (.slice p n c) (.slice none 0 0)).run P w= .ok (.bool p.isNone) w:=by
  show ((do pure (Value.bool (← Op.equal t (.slice p n c) (.slice none 0 0))):Sem Value)).run P w=_
  simp only [Sem.run_bind,e2,Result.andThen_ok,Sem.run_pure]
 simp only [e3,Result.andThen_ok,Sem.run_pure]
theorem pl_ldno {S:World→Prop} {f i:Nat} {k:Plan} (hi:lo[i]? =some o) (hw:Region.wanted o (yielded lo.toArray a.tmps)=false) (hS:i≠f→S w) (h:k.wp P lo.toArray Q S f (a.put o.dst undef) w):Plan.wp P lo.toArray Q S f (.ld i k) a w:=by
 unfold Plan.wp wpOp
 have hi':lo.toArray[i]? =some o:=by simpa using hi
 simp only [hi',hw]
 exact ⟨hS,h⟩
end
theorem ev_extract {P:Program} {a:Act} {w:World} {o:Oper} {x:Operand} {i:Nat} (ho:o.op= .extract x i) {vs:Array Value} (hx:a.eval x= .tuple vs) {v:Value} (hv:vs.toList[i]? =some v):(execOp a.eval o).run P w= .ok (.value v) w:=by
 have hv':vs[i]? =some v:=by rw [← Array.getElem?_toList];exact hv
 unfold execOp;simp [ho,hx,Instr.extract,hv']
theorem c_aprS {P:Program} {Q:Exit→Act→World→Prop} {a:Act} {w w0:World} {o:Oper} {K:Act→World→Prop} {T:List Nat} {l:List Ent} (H:Hp T w0 w l) {t:TypeId} {s x:Operand} (ho:o.op= .call {callee:= .builtin .append,args:=#[s,x],argTypes:=#[t,t]})
 {v:Value} (hs:a.eval s=v) {q:Option Addr} {m c:Nat} (hx:a.eval x= .slice q m c) {e:TypeId} {z:List Value} {sz by':Nat} [hsi:Si P t e z sz by']
 (k:Nat) {S:List Nat} {n:Nat} {xs:List Value} {f:Ent→List Ent} [i:Oi k S (RowAt e sz v n xs S) l f]
 {news:List Value} (hr:Rd w (.slice q m c) m news) (hl:news.length=m*sz) (h1:∀ u∈news,u.oneCell'=true)
 (h48:(n+m)*by'≤140737488355328) (h63:n+m≤maxLen)
 (h:∀ p' c' w' S',Fr S w w'→Hp T w0 w' (f (.obj k S' (RowAt e sz (.slice p' (n+m) c') (n+m) (xs++news) S')))→K (a.put o.dst (.slice p' (n+m) c')) w'):o.wp P a w K Q:=
 c_apr H ho hs hx k hr hl h1 h48 h63 (fun v' w' S' hf H1=>by
  have hm:=(i.r (.obj k S' (RowAt e sz v' (n+m) (xs++news) S')) (.obj k S' (RowAt e sz v' (n+m) (xs++news) S'))).mem
  obtain ⟨p',c',rfl,_⟩:=RowAt.form (H1.ok _ hm).1
  exact h p' c' w' S' hf H1)
section
variable {T:List Nat} {w0 w w':World} {l:List Ent}
theorem Hp.perm {l':List Ent} (H:Hp T w0 w l) (h:List.Perm l l'):Hp T w0 w l':=
 ⟨H.fr,fun e he=>H.ok e (h.mem_iff.2 he),(h.flatMap_right _).nodup H.nodup⟩
class Dl (k:Nat) (S:outParam (List Nat)) (Q:outParam (World→Prop)) (l:List Ent) (l':outParam (List Ent)):Prop where
 h:List.Perm l (.obj k S Q::l')
instance Dl.here {k:Nat} {S:List Nat} {Q:World→Prop} {l:List Ent}:Dl k S Q (.obj k S Q::l) l:=⟨List.Perm.refl _⟩
instance (priority:=low) Dl.there {k:Nat} {S:List Nat} {Q:World→Prop} {l l':List Ent} {e:Ent} [h:Dl k S Q l l']:Dl k S Q (e::l) (e::l'):=⟨(h.h.cons e).trans (List.Perm.swap _ _ _)⟩
theorem Hp.pull (H:Hp T w0 w l) (k:Nat) {S:List Nat} {Q:World→Prop} {l':List Ent} [d:Dl k S Q l l']:Hp T w0 w (.obj k S Q::l'):=H.perm d.h
end
section
variable {T:List Nat} {w0 w:World} {l:List Ent}
theorem Hp.rowo (H:Hp T w0 w l) (k:Nat) {S S2:List Nat} {e:TypeId} {sz n:Nat} {v:Value} {xs:List Value} {f:Ent→List Ent} [i:Oi k S (RowAt e sz v n xs S2) l f]:RowAt e sz v n xs S2 w:=H.ob k
end
theorem SArg.fr {w w':World} {v:Value} {n:Nat} {cs:List Value} (h:SArg w v n cs) (k:Fr [] w w'):SArg w' v n cs:=by
 obtain ⟨p,c,rfl,h1,h2,h3,h4⟩:=h
 exact ⟨p,c,rfl,h1,h2,h3,fun w2 k2=>h4 w2 (k.trans k2)⟩
end Go.Proofs.YtoiebebjgnpkmaaGreatDoor
namespace Go.Proofs.YtoiebebjgnpkmaaGreatDoor
open Go.RowKit
set_option linter.unusedSimpArgs false
set_option linter.unusedVariables false
section
variable {P:Program} {w:World} {a:Act} {o:Oper} {K:Act→World→Prop} {Q:Exit→Act→World→Prop}
class Bo (P:Program) (t:TypeId):Prop where
 h:P.underlying t=some .bool
instance:Bo Tryz.prog 4:=⟨Tryz.underlying4⟩
theorem c_bEq {t t':TypeId} {x y:Operand} (ho:o.op= .binOp .eql t x y t') {p q r:Bool} (hx:a.eval x= .bool p) (hy:a.eval y= .bool q) [u:Bo P t] (hr:(p==q)=r:=by rfl):(execOp a.eval o).run P w= .ok (.value (.bool r)) w:=by
 subst hr
 have e1:(eqGuard .eql t x y (.bool p) (.bool q)).run P w= .ok () w:=by unfold eqGuard;simp
 unfold execOp
 simp only [ho,hx,hy,Sem.run_bind,e1,Result.andThen_ok]
 have e2:(Op.equal t (.bool p) (.bool q)).run P w= .ok (p==q) w:=by
  unfold Op.equal Op.maxDepth
  rw [Op.equalIn]
  simp only [Sem.run_bind,run_underlying u.h,Result.andThen_ok]
  cases p<;>cases q<;>rfl
 have e3:(binOp .eql t (.bool p) (.bool q)).run P w= .ok (.bool (p==q)) w:=by
  show ((do pure (Value.bool (← Op.equal t (.bool p) (.bool q))):Sem Value)).run P w=_
  simp only [Sem.run_bind,e2,Result.andThen_ok,Sem.run_pure]
 simp only [e3,Result.andThen_ok,Sem.run_pure]
theorem c_bNe {t t':TypeId} {x y:Operand} (ho:o.op= .binOp .neq t x y t') {p q r:Bool} (hx:a.eval x= .bool p) (hy:a.eval y= .bool q) [u:Bo P t] (hr:(!(p==q))=r:=by rfl):(execOp a.eval o).run P w= .ok (.value (.bool r)) w:=by
 subst hr
 have e1:(eqGuard .neq t x y (.bool p) (.bool q)).run P w= .ok () w:=by unfold eqGuard;simp
 unfold execOp
 simp only [ho,hx,hy,Sem.run_bind,e1,Result.andThen_ok]
 have e2:(Op.equal t (.bool p) (.bool q)).run P w= .ok (p==q) w:=by
  unfold Op.equal Op.maxDepth
  rw [Op.equalIn]
  simp only [Sem.run_bind,run_underlying u.h,Result.andThen_ok]
  cases p<;>cases q<;>rfl
 have e3:(binOp .neq t (.bool p) (.bool q)).run P w= .ok (.bool (!(p==q))) w:=by
  show ((do pure (Value.bool (!(← Op.equal t (.bool p) (.bool q)))):Sem Value)).run P w=_
  simp only [Sem.run_bind,e2,Result.andThen_ok,Sem.run_pure]
 simp only [e3,Result.andThen_ok,Sem.run_pure]
theorem c_sshA {t:TypeId} {x y:Operand} (ho:o.op= .slice t x none (some y) none) {q:Option Addr} {n c:Nat} (hx:a.eval x= .slice q n c) {e:TypeId} {z:List Value} {s by':Nat} [h:Si P t e z s by'] {k:IntKind} {i:Int} (hy:a.eval y= .int k i) (h0:0≤i:=by omega) (h1:i≤c:=by omega):(execOp a.eval o).run P w= .ok (.value (.slice q i.toNat c)) w:=by
 obtain ⟨hu,ti,zv,h2,h3,h4,rfl,rfl⟩:=si_spec h.h
 unfold execOp
 have key:(Instr.sliceBounds true n c none (some (a.eval y)) none).run P w= .ok (0,i.toNat,c) w:=by simp [Instr.sliceBounds,hy,run_bound h0 h1]
 simp only [ho,hx,Instr.sliceAt,Instr.slice,Sem.run_bind,run_underlying hu,Result.andThen_ok,Option.map_none,Option.map_some,key,sizeOf,typeInfo,run_program,h2,Sem.run_pure]
 have e1:(if c=0 then q else q.map (·.add (0*z.length)))=q:=by
  split
  ·rfl
  ·cases q<;>simp [Addr.add]
 simp
 cases q<;>simp [Addr.add]
end
section
variable {P:Program} {ops:Array Oper} {Q:Exit→Act→World→Prop} {w w0:World} {rest:List Oper} {o:Oper} {T:List Nat} {l:List Ent} {L:List Value} {ds:List Deferred} {a:Act}
theorem g_ld {t:TypeId} {x:Operand} {r:Result Next} (_ho:o.op= .load t x) (h:(execOp a.eval o).run P w=r):(execOp a.eval o).run P w=r:=h
theorem g_cm {op:BinOp} {t t':TypeId} {x y:Operand} {r:Result Next} (_ho:o.op= .binOp op t x y t') (_hc:isCmp op=true) (h:(execOp a.eval o).run P w=r):(execOp a.eval o).run P w=r:=h
theorem g_sl {t:TypeId} {x:Operand} {l' h' m':Option Operand} {r:Result Next} (_ho:o.op= .slice t x l' h' m') (h:(execOp a.eval o).run P w=r):(execOp a.eval o).run P w=r:=h
theorem g_cv {s d:TypeId} {x:Operand} {r:Result Next} (_ho:o.op= .convert s d x) (h:(execOp a.eval o).run P w=r):(execOp a.eval o).run P w=r:=h
def putL (L:List Value):Option Nat→Value→List Value
 | some n,v=>L.set n v
 | none,_ =>L
theorem putL_s (L:List Value) (n:Nat) (v:Value):putL L (some n) v=L.set n v:=rfl
theorem putL_n (L:List Value) (v:Value):putL L none v=L:=rfl
theorem put_eq (d:Option Nat) (v:Value):Act.put ⟨L.toArray,ds⟩ d v=⟨(putL L d v).toArray,ds⟩:=by cases d<;>simp [Act.put,putL]
theorem x_e {v:Value} {L':List Value} (he:(execOp (Act.mk L.toArray ds).eval o).run P w= .ok (.value v) w) (h:wpList P ops Q rest ⟨L'.toArray,ds⟩ w)
 (hw:Region.wanted o (yielded ops L.toArray)=true:=by rfl) (hs:putL L o.dst v=L':=by ((try simp only [nrm,putL_s,putL_n,↓reduceIte,Nat.reduceAdd]);(try exact rfl))):wpList P ops Q (o::rest) ⟨L.toArray,ds⟩ w:=by
 subst hs;exact wl_ev hw he (by rw [put_eq];exact h)
theorem x_q (H:Hp T w0 w l) {v:Value} {L':List Value} (h:wpList P ops Q rest ⟨L'.toArray,ds⟩ w)
 (hw:Region.wanted o (yielded ops L.toArray)=true:=by rfl)
 (he:Hp T w0 w l→(execOp (Act.mk L.toArray ds).eval o).run P w= .ok (.value v) w:=by
  intro H
  first
  | (refine g_ld rfl ?_;first | exact c_ld H rfl rfl | exact c_ld0 H rfl rfl | exact c_ldz H rfl rfl | exact c_ldr H rfl rfl | exact c_ln H rfl rfl | exact c_lnp H rfl rfl | exact c_lnz H rfl rfl | exact c_lnr H rfl rfl)
  | (refine g_cm rfl rfl ?_;first | exact ev_cmpT rfl rfl rfl rfl | exact ev_cmpF rfl rfl rfl rfl | exact c_bEq rfl rfl rfl | exact c_bNe rfl rfl rfl | exact c_peq rfl rfl | exact c_pne rfl rfl | exact c_seq rfl rfl | exact ev_strEq rfl rfl rfl | exact ev_strNe rfl rfl rfl)
  | exact c_ix rfl rfl rfl
  | (refine g_sl rfl ?_;first | exact c_ss rfl rfl | exact c_ssh rfl rfl rfl | exact c_sshA rfl rfl rfl | exact c_ssl rfl rfl rfl | exact c_sslh rfl rfl rfl rfl | exact c_sa rfl rfl | exact c_sah rfl rfl rfl)
  | (refine g_cv rfl ?_;first | exact c_cv rfl rfl | exact c_cv64 rfl rfl | exact c_cv32 rfl rfl | exact c_cv8 rfl rfl)
  | exact c_sta rfl
  | exact c_stp rfl
  | exact ev_quo rfl rfl rfl
  | exact ev_rem rfl rfl rfl)
 (hs:putL L o.dst v=L':=by ((try simp only [nrm,putL_s,putL_n,↓reduceIte,Nat.reduceAdd]);(try exact rfl))):wpList P ops Q (o::rest) ⟨L.toArray,ds⟩ w:=x_e (he H) h hw hs
theorem x_cm {op:BinOp} {t t':TypeId} {x y:Operand} {k:IntKind} {m n:Int} {p q:Prop} {L1 L2:List Value}
 (h1:p→wpList P ops Q rest ⟨L1.toArray,ds⟩ w) (h0:q→wpList P ops Q rest ⟨L2.toArray,ds⟩ w)
 (ho:o.op= .binOp op t x y t':=by rfl) (hc:isCmp op=true:=by rfl) (hw:Region.wanted o (yielded ops L.toArray)=true:=by rfl) (hx:(Act.mk L.toArray ds).eval x= .int k m:=by rfl) (hy:(Act.mk L.toArray ds).eval y= .int k n:=by rfl)
 (hp:cmpP op m n→p:=by intro h;simp only [cmpP] at h;exact h) (hq:¬ cmpP op m n→q:=by intro h;simp only [cmpP] at h;exact h)
 (hs1:putL L o.dst (.bool true)=L1:=by ((try simp only [nrm,putL_s,putL_n,↓reduceIte,Nat.reduceAdd]);(try exact rfl))) (hs2:putL L o.dst (.bool false)=L2:=by ((try simp only [nrm,putL_s,putL_n,↓reduceIte,Nat.reduceAdd]);(try exact rfl))):wpList P ops Q (o::rest) ⟨L.toArray,ds⟩ w:=by
 subst hs1 hs2
 exact wl_cmp hw ho hx hy hc (fun h=>by rw [put_eq];exact h1 (hp h)) (fun h=>by rw [put_eq];exact h0 (hq h))
theorem x_g {zs:List Value} {t:TypeId} {v:Nat→Value} {L':Nat→List Value}
 (h:∀ g w',w0.heap.size≤g∧w.heap.size≤g→Fr [] w w'→Hp T w0 w' (.blk g zs t::l)→wpList P ops Q rest ⟨(L' g).toArray,ds⟩ w')
 (hw:Region.wanted o (yielded ops L.toArray)=true:=by rfl)
 (he:Hp T w0 w l→∀ K:Act→World→Prop,(∀ g w',w0.heap.size≤g∧w.heap.size≤g→Fr [] w w'→Hp T w0 w' (.blk g zs t::l)→K (Act.put ⟨L.toArray,ds⟩ o.dst (v g)) w')→o.wp P ⟨L.toArray,ds⟩ w K Q:=by
  intro H K hK
  first | exact c_al H rfl hK | exact c_mk H rfl rfl rfl (h:=hK) | exact la_boxN H rfl rfl hK | exact la_box1 H rfl rfl rfl hK | exact c_s1t H rfl rfl rfl (h:=hK) | exact c_s1c H rfl rfl (h:=hK))
 (hs:∀ g,putL L o.dst (v g)=L' g:=by intro g;((try simp only [nrm,putL_s,putL_n,↓reduceIte,Nat.reduceAdd]);(try exact rfl))) (H:Hp T w0 w l):wpList P ops Q (o::rest) ⟨L.toArray,ds⟩ w:=
 wl_rw hw fun K hK=>he H K fun g w' h1 h2 h3=>hK _ _ (by rw [put_eq,hs];exact h g w' h1 h2 h3)
theorem x_s {b:Nat} {l':List Ent} {L':List Value}
 (h:∀ w',Fr [b] w w'→Hp T w0 w' l'→wpList P ops Q rest ⟨L'.toArray,ds⟩ w')
 (hw:Region.wanted o (yielded ops L.toArray)=true:=by rfl)
 (he:Hp T w0 w l→∀ K:Act→World→Prop,(∀ w',Fr [b] w w'→Hp T w0 w' l'→K (Act.put ⟨L.toArray,ds⟩ o.dst undef) w')→o.wp P ⟨L.toArray,ds⟩ w K Q:=by
  intro H K hK
  first | exact c_st H rfl rfl rfl (h:=hK) | exact c_stc H rfl rfl (h:=hK) | exact c_stn H rfl rfl rfl (h:=hK))
 (hs:putL L o.dst undef=L':=by ((try simp only [nrm,putL_s,putL_n,↓reduceIte,Nat.reduceAdd]);(try exact rfl))) (H:Hp T w0 w l):wpList P ops Q (o::rest) ⟨L.toArray,ds⟩ w:=
 wl_rw hw fun K hK=>he H K fun w' h2 h3=>hK _ _ (by rw [put_eq,hs];exact h w' h2 h3)
theorem x_c (H:Hp T w0 w l) {f:FuncId} {args:Array Value} {R R':Ending→World→Prop} (hc:Calls P f args w R) (h:∀ e w',R e w'→Hp T w0 w' l→R' e w')
 (hR:∀ e w',R e w'→Fr [] w w':=by
  intro e w' h
  first | exact h.2 | exact h.2.1 | (obtain ⟨_,h⟩:=h;first | exact h.2 | exact h.2.1 | (obtain ⟨_,h⟩:=h;first | exact h.2 | exact h.2.1 | (obtain ⟨_,h⟩:=h;first | exact h.2 | exact h.2.1 | (obtain ⟨_,h⟩:=h;first | exact h.2 | exact h.2.1 | (obtain ⟨_,h⟩:=h;first | exact h.2 | exact h.2.1)))))):Calls P f args w R':=
 Calls.mono hc fun e w' hr=>h e w' hr (H.step (hR e w' hr) (by simp))
section
variable {lo:List Oper} {S:World→Prop} {f i:Nat} {k:Plan}
theorem p_e {v:Value} {L':List Value} (hi:lo[i]? =some o) (he:∀ w,S w→(execOp (Act.mk L.toArray ds).eval o).run P w= .ok (.value v) w) (h:k.wp P lo.toArray Q S f ⟨L'.toArray,ds⟩ w)
 (hw:Region.wanted o (yielded lo.toArray L.toArray)=true:=by rfl) (hs:putL L o.dst v=L':=by ((try simp only [nrm,putL_s,putL_n,↓reduceIte,Nat.reduceAdd]);(try exact rfl))):Plan.wp P lo.toArray Q S f (.st i k) ⟨L.toArray,ds⟩ w:=by
 subst hs;exact pl_ev hi hw he (by rw [put_eq];exact h)
theorem p_n {L':List Value} (h:k.wp P lo.toArray Q S f ⟨L'.toArray,ds⟩ w) (hi:lo[i]? =some o:=by rfl)
 (hw:Region.wanted o (yielded lo.toArray L.toArray)=false:=by rfl) (hs:putL L o.dst undef=L':=by ((try simp only [nrm,putL_s,putL_n,↓reduceIte,Nat.reduceAdd]);(try exact rfl))):Plan.wp P lo.toArray Q S f (.st i k) ⟨L.toArray,ds⟩ w:=by
 subst hs;exact pl_no hi hw (by rw [put_eq];exact h)
theorem p_q {v:Value} {L':List Value} (h:k.wp P lo.toArray Q S f ⟨L'.toArray,ds⟩ w) (hi:lo[i]? =some o:=by rfl)
 (hw:Region.wanted o (yielded lo.toArray L.toArray)=true:=by rfl)
 (he:∀ w,S w→(execOp (Act.mk L.toArray ds).eval o).run P w= .ok (.value v) w:=by
  intro w H
  first
  | exact c_fa2 rfl rfl
  | exact c_fa rfl rfl
  | (refine g_ld rfl ?_;first | exact c_ld H rfl rfl | exact c_ld0 H rfl rfl | exact c_ldz H rfl rfl | exact c_ldr H rfl rfl | exact c_ln H rfl rfl | exact c_lnp H rfl rfl | exact c_lnz H rfl rfl | exact c_lnr H rfl rfl)
  | exact ev_moveT rfl rfl | exact ev_moveC rfl | exact ev_moveG rfl | exact ev_moveF rfl
  | exact ev_assignT rfl rfl | exact ev_assignC rfl
  | exact ev_nilCheck rfl rfl
  | (refine g_cm rfl rfl ?_;first | exact ev_cmpT rfl rfl rfl rfl | exact ev_cmpF rfl rfl rfl rfl | exact c_bEq rfl rfl rfl | exact c_bNe rfl rfl rfl | exact c_peq rfl rfl | exact c_pne rfl rfl | exact c_seq rfl rfl | exact ev_strEq rfl rfl rfl | exact ev_strNe rfl rfl rfl)
  | exact c_ix rfl rfl rfl
  | (refine g_sl rfl ?_;first | exact c_ss rfl rfl | exact c_ssh rfl rfl rfl | exact c_sshA rfl rfl rfl | exact c_ssl rfl rfl rfl | exact c_sslh rfl rfl rfl rfl | exact c_sa rfl rfl | exact c_sah rfl rfl rfl)
  | (refine g_cv rfl ?_;first | exact c_cv rfl rfl | exact c_cv64 rfl rfl | exact c_cv32 rfl rfl | exact c_cv8 rfl rfl)
  | exact c_len rfl rfl
  | exact c_sta rfl
  | exact c_stp rfl
  | exact ev_pickTC rfl rfl | exact ev_pickFT rfl rfl rfl | exact ev_pickFC rfl rfl | exact ev_pickTT rfl rfl rfl
  | exact ev_add rfl rfl rfl (by first | (simp only [inr];omega) | assumption)
  | exact ev_sub rfl rfl rfl (by first | (simp only [inr];omega) | assumption)
  | exact ev_mul rfl rfl rfl (by first | (simp only [inr];omega) | assumption)
  | exact ev_extract rfl rfl rfl
  | exact ev_not rfl rfl
  | exact ev_quo rfl rfl rfl
  | exact ev_rem rfl rfl rfl)
 (hs:putL L o.dst v=L':=by ((try simp only [nrm,putL_s,putL_n,↓reduceIte,Nat.reduceAdd]);(try exact rfl))):Plan.wp P lo.toArray Q S f (.st i k) ⟨L.toArray,ds⟩ w:=p_e hi he h hw hs
theorem p_g {zs:List Value} {t:TypeId} {v:Nat→Value} {L':Nat→List Value}
 (h:∀ g w',w0.heap.size≤g∧w.heap.size≤g→Fr [] w w'→Hp T w0 w' (.blk g zs t::l)→k.wp P lo.toArray Q S f ⟨(L' g).toArray,ds⟩ w') (hi:lo[i]? =some o:=by rfl)
 (hw:Region.wanted o (yielded lo.toArray L.toArray)=true:=by rfl)
 (he:Hp T w0 w l→∀ K:Act→World→Prop,(∀ g w',w0.heap.size≤g∧w.heap.size≤g→Fr [] w w'→Hp T w0 w' (.blk g zs t::l)→K (Act.put ⟨L.toArray,ds⟩ o.dst (v g)) w')→o.wp P ⟨L.toArray,ds⟩ w K Q:=by
  intro H K hK
  first | exact c_al H rfl hK | exact c_mk H rfl rfl rfl (h:=hK) | exact la_boxN H rfl rfl hK | exact la_box1 H rfl rfl rfl hK | exact c_s1t H rfl rfl rfl (h:=hK) | exact c_s1c H rfl rfl (h:=hK))
 (hs:∀ g,putL L o.dst (v g)=L' g:=by intro g;((try simp only [nrm,putL_s,putL_n,↓reduceIte,Nat.reduceAdd]);(try exact rfl)))
 (hS:i≠f→∀ g w',Hp T w0 w' (.blk g zs t::l)→S w':=by intro hne g w' H1;first | exact absurd rfl hne | exact trivial | exact H1.sub (by repeat first | exact List.Sublist.refl _ | exact List.nil_sublist _ | apply List.Sublist.cons_cons | apply List.Sublist.cons))
 (H:Hp T w0 w l):Plan.wp P lo.toArray Q S f (.ld i k) ⟨L.toArray,ds⟩ w:=
 pl_rw hi hw fun K hK=>he H K fun g w' h1 h2 h3=>hK _ _ (fun hne=>hS hne g w' h3) (by rw [put_eq,hs];exact h g w' h1 h2 h3)
theorem p_s {b:Nat} {l':List Ent} {L':List Value}
 (h:∀ w',Fr [b] w w'→Hp T w0 w' l'→k.wp P lo.toArray Q S f ⟨L'.toArray,ds⟩ w') (hi:lo[i]? =some o:=by rfl)
 (hw:Region.wanted o (yielded lo.toArray L.toArray)=true:=by rfl)
 (he:Hp T w0 w l→∀ K:Act→World→Prop,(∀ w',Fr [b] w w'→Hp T w0 w' l'→K (Act.put ⟨L.toArray,ds⟩ o.dst undef) w')→o.wp P ⟨L.toArray,ds⟩ w K Q:=by
  intro H K hK
  first | exact c_st H rfl rfl rfl (h:=hK) | exact c_stc H rfl rfl (h:=hK) | exact c_stn H rfl rfl rfl (h:=hK))
 (hs:putL L o.dst undef=L':=by ((try simp only [nrm,putL_s,putL_n,↓reduceIte,Nat.reduceAdd]);(try exact rfl)))
 (hS:i≠f→∀ w',Hp T w0 w' l'→S w':=by intro hne w' H1;first | exact absurd rfl hne | exact trivial | exact H1.sub (by repeat first | exact List.Sublist.refl _ | exact List.nil_sublist _ | apply List.Sublist.cons_cons | apply List.Sublist.cons))
 (H:Hp T w0 w l):Plan.wp P lo.toArray Q S f (.ld i k) ⟨L.toArray,ds⟩ w:=
 pl_rw hi hw fun K hK=>he H K fun w' h2 h3=>hK _ _ (fun hne=>hS hne w' h3) (by rw [put_eq,hs];exact h w' h2 h3)
theorem p_c (H:Hp T w0 w l) {fi:FuncId} {al:List Operand} {ats:Array TypeId} (hi:lo[i]? =some o) (ho:o.op= .call {callee:= .value (.func fi),args:=al.toArray,argTypes:=ats}) {fn:Func} (hf:P.funcs[fi]? =some fn)
 {R:Ending→World→Prop} (hc:Calls P fi (al.map (Act.mk L.toArray ds).eval).toArray w R) (h:∀ e w',R e w'→Hp T w0 w' l→∃ v,e= .returned v∧k.wp P lo.toArray Q S f ⟨(putL L o.dst v).toArray,ds⟩ w')
 (hR:∀ e w',R e w'→Fr [] w w':=by
  intro e w' h
  first | exact h.2 | exact h.2.1 | (obtain ⟨_,h⟩:=h;first | exact h.2 | exact h.2.1 | (obtain ⟨_,h⟩:=h;first | exact h.2 | exact h.2.1 | (obtain ⟨_,h⟩:=h;first | exact h.2 | exact h.2.1 | (obtain ⟨_,h⟩:=h;first | exact h.2 | exact h.2.1 | (obtain ⟨_,h⟩:=h;first | exact h.2 | exact h.2.1))))))
 (hS:i≠f→∀ w',Hp T w0 w' l→S w':=by intro hne w' H1;first | exact absurd rfl hne | exact trivial | exact H1.sub (by repeat first | exact List.Sublist.refl _ | exact List.nil_sublist _ | apply List.Sublist.cons_cons | apply List.Sublist.cons))
 (hn:(fn.name== "runtime.NumGoroutine")=false:=by kernel_rfl) (hb:fn.body.isNone=false:=by rfl)
 (hw:Region.wanted o (yielded lo.toArray L.toArray)=true:=by rfl):Plan.wp P lo.toArray Q S f (.ld i k) ⟨L.toArray,ds⟩ w:=
 pl_rw hi hw fun K hK=>rw_call ho hf hn hb hc fun e w' hr=>by
  have H1:=H.step (hR e w' hr) (by simp)
  obtain ⟨v,hv,hk⟩:=h e w' hr H1
  exact ⟨v,hv,hK _ _ (fun hne=>hS hne w' H1) (by rw [put_eq];exact hk)⟩
theorem p_r {v:Value} {d:Option Nat} {L':List Value} (h:k.wp P lo.toArray Q S f ⟨L'.toArray,ds⟩ w) (hs:putL L d v=L':=by ((try simp only [nrm,putL_s,putL_n,↓reduceIte,Nat.reduceAdd]);(try exact rfl))):∃ u,Ending.returned v= .returned u∧k.wp P lo.toArray Q S f ⟨(putL L d u).toArray,ds⟩ w:=by
 subst hs;exact ⟨v,rfl,h⟩
end
theorem w_p {id:Nat} {lS:List Ent} (f:Nat) (p:Plan) (h:∀ w',Hp T w0 w' l→p.wp P ops Q (fun w=>Hp T w0 w lS) f a w') (hs:List.Sublist lS l:=by exact List.Sublist.refl _) (hm:P.follows .mixedOrders=true:=by rfl) (hns:Region.noSelect ops=true:=by kernel_rfl) (hc:p.chk ops f ops.size (Array.replicate ops.size false)=true:=by kernel_rfl)
 (hQ:∀ c a d v w,Q (.panic c) (Act.put a d v) w→Q (.panic c) a w:=by intro c a d v w h;cases d<;>exact h) (H:Hp T w0 w l):(Code.region id ops true).wp P Q a w:=wp_plan H hs f p hm hns hc hQ h
end
end Go.Proofs.YtoiebebjgnpkmaaGreatDoor
namespace Go.Proofs.YtoiebebjgnpkmaaGreatDoor
open Go.RowKit
set_option linter.unusedSimpArgs false
set_option linter.unusedVariables false
def val:List Nat→Nat
 | []=>0
 | x::l=>x+4294967296*val l
def Lim (l:List Nat):Prop:=∀ x∈l,x<4294967296
theorem Lim.nil:Lim []:=fun x h=>by cases h
theorem Lim.cons {x:Nat} {l:List Nat} (hx:x<4294967296) (h:Lim l):Lim (x::l):=fun y hy=>by
 rcases List.mem_cons.1 hy with rfl | hy
 ·exact hx
 ·exact h y hy
theorem Lim.tl {x:Nat} {l:List Nat} (h:Lim (x::l)):Lim l:=fun y hy=>h y (List.mem_cons_of_mem _ hy)
theorem Lim.hd {x:Nat} {l:List Nat} (h:Lim (x::l)):x<4294967296:=h x List.mem_cons_self
theorem Lim.app {l m:List Nat} (h:Lim l) (k:Lim m):Lim (l++m):=fun y hy=>(List.mem_append.1 hy).elim (h y) (k y)
theorem Lim.left {l m:List Nat} (h:Lim (l++m)):Lim l:=fun y hy=>h y (List.mem_append_left _ hy)
theorem Lim.right {l m:List Nat} (h:Lim (l++m)):Lim m:=fun y hy=>h y (List.mem_append_right _ hy)
theorem Lim.take {l:List Nat} (h:Lim l) (n:Nat):Lim (l.take n):=fun y hy=>h y (List.mem_of_mem_take hy)
theorem Lim.drop {l:List Nat} (h:Lim l) (n:Nat):Lim (l.drop n):=fun y hy=>h y (List.mem_of_mem_drop hy)
theorem Lim.at {l:List Nat} (h:Lim l) {i x:Nat} (hx:l[i]? =some x):x<4294967296:=h x (List.mem_of_getElem? hx)
theorem Lim.set {l:List Nat} (h:Lim l) (i:Nat) {x:Nat} (hx:x<4294967296):Lim (l.set i x):=fun y hy=>by
 rcases List.mem_or_eq_of_mem_set hy with hy | rfl
 ·exact h y hy
 ·exact hx
theorem Lim.zeros (n:Nat):Lim (List.replicate n 0):=fun y hy=>by rw [List.eq_of_mem_replicate hy];decide
theorem val_nil:val []=0:=rfl
theorem val_cons (x:Nat) (l:List Nat):val (x::l)=x+4294967296*val l:=rfl
theorem val_app (l m:List Nat):val (l++m)=val l+4294967296 ^ l.length*val m:=by
 induction l with
 | nil=>simp [val]
 | cons x l ih=>rw [List.cons_append,val_cons,val_cons,ih,List.length_cons,Nat.pow_succ,Nat.mul_add,Nat.add_assoc,← Nat.mul_assoc,Nat.mul_comm 4294967296 (4294967296 ^ l.length)]
theorem val_one (x:Nat):val [x]=x:=by simp [val]
theorem val_zeros (n:Nat):val (List.replicate n 0)=0:=by
 induction n with
 | zero=>rfl
 | succ n ih=>rw [List.replicate_succ,val_cons,ih]
theorem val_lt {l:List Nat} (h:Lim l):val l<4294967296 ^ l.length:=by
 induction l with
 | nil=>simp [val]
 | cons x l ih=>
  have h1:=ih h.tl
  have h2:=h.hd
  rw [val_cons,List.length_cons,Nat.pow_succ,Nat.mul_comm (4294967296 ^ l.length)]
  have h3:4294967296*(val l+1)≤4294967296*4294967296 ^ l.length:=Nat.mul_le_mul_left _ h1
  rw [Nat.mul_add] at h3
  omega
theorem val_snoc (l:List Nat) (x:Nat):val (l++[x])=val l+4294967296 ^ l.length*x:=by rw [val_app,val_one]
theorem val_take_succ {l:List Nat} {i x:Nat} (h:l[i]? =some x):val (l.take (i+1))=val (l.take i)+4294967296 ^ i*x:=by
 have hl:=(List.getElem?_eq_some_iff.1 h).1
 rw [List.take_add_one,h]
 show val (l.take i++[x])=_
 rw [val_snoc,List.length_take,Nat.min_eq_left (by omega)]
theorem val_drop {l:List Nat} {i x:Nat} (h:l[i]? =some x):val (l.drop i)=x+4294967296*val (l.drop (i+1)):=by
 obtain ⟨hl,e⟩:=List.getElem?_eq_some_iff.1 h
 rw [List.drop_eq_getElem_cons hl,e,val_cons]
theorem val_split (l:List Nat) (i:Nat):val l=val (l.take i)+4294967296 ^ (min i l.length)*val (l.drop i):=by
 have:=val_app (l.take i) (l.drop i)
 rw [List.take_append_drop,List.length_take] at this
 exact this
theorem val_set {l:List Nat} {i x:Nat} (h:l[i]? =some x) (y:Nat):val (l.set i y)+4294967296 ^ i*x=val l+4294967296 ^ i*y:=by
 induction l generalizing i with
 | nil=>simp at h
 | cons a l ih=>
  cases i with
  | zero=>simp at h;subst h;rw [List.set_cons_zero,val_cons,val_cons,Nat.pow_zero];omega
  | succ i=>
   have h:l[i]? =some x:=h
   have:=ih h
   rw [List.set_cons_succ,val_cons,val_cons,Nat.pow_succ,Nat.mul_comm (4294967296 ^ i),Nat.mul_assoc,Nat.mul_assoc]
   omega
def digs (n:Nat):List Nat:=if h:n=0 then [] else n % 4294967296::digs (n / 4294967296)
termination_by n
decreasing_by omega
theorem digs_zero:digs 0=[]:=by rw [digs];simp
theorem digs_pos {n:Nat} (h:n≠0):digs n=n % 4294967296::digs (n / 4294967296):=by rw [digs];simp [h]
theorem val_digs (n:Nat):val (digs n)=n:=by
 induction n using Nat.strongRecOn with
 | _ n ih=>
  by_cases h:n=0
  ·subst h;rw [digs_zero];rfl
  ·rw [digs_pos h,val_cons,ih (n / 4294967296) (by omega)];omega
theorem digs_lim (n:Nat):Lim (digs n):=by
 induction n using Nat.strongRecOn with
 | _ n ih=>
  by_cases h:n=0
  ·subst h;rw [digs_zero];exact Lim.nil
  ·rw [digs_pos h];exact Lim.cons (by omega) (ih (n / 4294967296) (by omega))
theorem digs_inj {n m:Nat} (h:digs n=digs m):n=m:=by rw [← val_digs n,h,val_digs]
theorem digs_nil {n:Nat}:digs n=[]↔n=0:=⟨fun h=>digs_inj (by rw [h,digs_zero]),fun h=>by rw [h,digs_zero]⟩
theorem trim_eq {l:List Nat} (h:Lim l):∃ k,l=digs (val l)++List.replicate k 0:=by
 induction l with
 | nil=>exact ⟨0,by rw [val_nil,digs_zero];rfl⟩
 | cons x l ih=>
  obtain ⟨k,hk⟩:=ih h.tl
  have hx:=h.hd
  by_cases h0:val (x::l)=0
  ·rw [h0,digs_zero]
   rw [val_cons] at h0
   have h1:x=0:=by omega
   have h2:val l=0:=by omega
   rw [h2,digs_zero] at hk
   exact ⟨k+1,by rw [h1,hk,List.replicate_succ];rfl⟩
  ·refine ⟨k, ?_⟩
   rw [digs_pos h0,val_cons]
   have e1:(x+4294967296*val l) % 4294967296=x:=by omega
   have e2:(x+4294967296*val l) / 4294967296=val l:=by omega
   rw [e1,e2,List.cons_append,← hk]
theorem digs_len_le {l:List Nat} (h:Lim l):(digs (val l)).length≤l.length:=by
 obtain ⟨k,hk⟩:=trim_eq h
 have:=congrArg List.length hk
 rw [List.length_append] at this
 omega
theorem digs_take {l:List Nat} (h:Lim l):l.take (digs (val l)).length=digs (val l):=by
 obtain ⟨k,hk⟩:=trim_eq h
 have h2:=congrArg (fun m=>m.take (digs (val l)).length) hk
 simp only [List.take_left'] at h2
 exact h2
theorem digs_drop {l:List Nat} (h:Lim l) {i x:Nat} (hi:(digs (val l)).length≤i) (hx:l[i]? =some x):x=0:=by
 obtain ⟨k,hk⟩:=trim_eq h
 rw [hk,List.getElem?_append_right hi,List.getElem?_replicate] at hx
 split at hx
 ·injection hx with hx;exact hx.symm
 ·cases hx
theorem digs_last (n:Nat):∀ x,(digs n)[(digs n).length - 1]? =some x→x≠0:=by
 induction n using Nat.strongRecOn with
 | _ n ih=>
  intro x hx
  by_cases h:n=0
  ·subst h;rw [digs_zero] at hx;cases hx
  ·rw [digs_pos h] at hx
   rw [List.length_cons,Nat.add_sub_cancel] at hx
   by_cases h2:n / 4294967296=0
   ·rw [h2,digs_zero] at hx
    simp at hx
    omega
   ·have hl:0<(digs (n / 4294967296)).length:=by
     cases e:digs (n / 4294967296) with
     | nil=>exact absurd (digs_nil.1 e) h2
     | cons a l=>simp
    obtain ⟨m,hm⟩:∃ m,(digs (n / 4294967296)).length=m+1:=⟨(digs (n / 4294967296)).length - 1,by omega⟩
    rw [hm,List.getElem?_cons_succ] at hx
    exact ih (n / 4294967296) (by omega) x (by rw [hm];exact hx)
theorem digs_lt (n:Nat):n<4294967296 ^ (digs n).length:=by
 have:=val_lt (digs_lim n)
 rwa [val_digs] at this
theorem digs_ge {n:Nat} (h:n≠0):4294967296 ^ ((digs n).length - 1)≤n:=by
 have hl:0<(digs n).length:=by
  cases e:digs n with
  | nil=>exact absurd (digs_nil.1 e) h
  | cons a l=>simp
 obtain ⟨x,hx⟩:∃ x,(digs n)[(digs n).length - 1]? =some x:=⟨_,List.getElem?_eq_getElem (by omega)⟩
 have h0:=digs_last n x hx
 have h1:=val_take_succ hx
 rw [show (digs n).length - 1+1=(digs n).length by omega,List.take_of_length_le (Nat.le_refl _),val_digs] at h1
 have h2:4294967296 ^ ((digs n).length - 1)*1≤4294967296 ^ ((digs n).length - 1)*x:=Nat.mul_le_mul_left _ (by omega)
 omega
theorem digs_len_lt {n m:Nat} (h:(digs n).length<(digs m).length):n<m:=by
 have hm:m≠0:=fun e=>by rw [e,digs_zero] at h;simp at h
 have h1:=digs_lt n
 have h2:=digs_ge hm
 have h3:4294967296 ^ (digs n).length≤4294967296 ^ ((digs m).length - 1):=Nat.pow_le_pow_right (by decide) (by omega)
 omega
theorem digs_len_of {n k:Nat} (h:n<4294967296 ^ k):(digs n).length≤k:=by
 apply Classical.byContradiction
 intro hk
 have hn:n≠0:=fun e=>by rw [e,digs_zero] at hk;simp at hk
 have h1:=digs_ge hn
 have h3:4294967296 ^ k≤4294967296 ^ ((digs n).length - 1):=Nat.pow_le_pow_right (by decide) (by omega)
 omega
theorem cmp_at {a b:List Nat} (ha:Lim a) (hb:Lim b) (hl:a.length=b.length) {i x y:Nat} (hx:a[i]? =some x) (hy:b[i]? =some y) (hd:a.drop (i+1)=b.drop (i+1)) (hlt:x<y):val a<val b:=by
 have hil:=(List.getElem?_eq_some_iff.1 hx).1
 have hil2:=(List.getElem?_eq_some_iff.1 hy).1
 rw [val_split a i,val_split b i,val_drop hx,val_drop hy,hd,Nat.min_eq_left (by omega),Nat.min_eq_left (by omega)]
 have h1:=val_lt (ha.take i)
 rw [List.length_take,Nat.min_eq_left (by omega)] at h1
 rw [Nat.mul_add,Nat.mul_add]
 have h2:4294967296 ^ i*(x+1)≤4294967296 ^ i*y:=Nat.mul_le_mul_left _ hlt
 rw [Nat.mul_add] at h2
 omega
def limbs (l:List Nat):List Value:=l.map fun x:Nat=>Value.int .u32 (x:Int)
@[simp] theorem limbs_len (l:List Nat):(limbs l).length=l.length:=by simp [limbs]
theorem limbs_at {l:List Nat} {i x:Nat} (h:l[i]? =some x):(limbs l)[i]? =some (.int .u32 (x:Int)):=by simp [limbs,h]
theorem limbs_one (l:List Nat):∀ u∈limbs l,u.oneCell'=true:=by intro u hu;simp [limbs] at hu;obtain ⟨c,_,rfl⟩:=hu;rfl
theorem limbs_set (l:List Nat) (i x:Nat):(limbs l).set i (.int .u32 (x:Int))=limbs (l.set i x):=by simp [limbs,List.map_set]
theorem limbs_app (l m:List Nat):limbs l++limbs m=limbs (l++m):=by simp [limbs]
theorem limbs_take (l:List Nat) (n:Nat):(limbs l).take n=limbs (l.take n):=by simp [limbs,List.map_take]
theorem limbs_ne {l:List Nat} {i:Nat} (h:i<l.length):limbs l≠[]:=fun e=>by have:=congrArg List.length e;rw [limbs_len,List.length_nil] at this;omega
end Go.Proofs.YtoiebebjgnpkmaaGreatDoor
namespace Go.Proofs.YtoiebebjgnpkmaaGreatDoor
open Go.RowKit
set_option linter.unusedSimpArgs false
set_option linter.unusedVariables false
theorem pow_succB (i:Nat):4294967296 ^ (i+1)=4294967296 ^ i*4294967296:=Nat.pow_succ ..
theorem mul_dm (p t:Nat):p*(t % 4294967296)+p*4294967296*(t / 4294967296)=p*t:=by
 rw [Nat.mul_assoc,← Nat.mul_add,Nat.mod_add_div]
theorem plus_round {o:List Nat} {i X c x y t:Nat} (hl:o.length=i) (h:val o+4294967296 ^ i*c=X) (ht:t=x+y+c):val (o++[t % 4294967296])+4294967296 ^ (i+1)*(t / 4294967296)=X+4294967296 ^ i*x+4294967296 ^ i*y:=by
 rw [val_snoc,hl,pow_succB,Nat.add_assoc,mul_dm,ht,Nat.mul_add,Nat.mul_add]
 omega
theorem minus_round {D A Y b b' x y d i:Nat} (h:D+Y=A+4294967296 ^ i*b) (hd:x+4294967296*b'=d+y+b):D+4294967296 ^ i*d+(Y+4294967296 ^ i*y)=A+4294967296 ^ i*x+4294967296 ^ (i+1)*b':=by
 rw [pow_succB,Nat.mul_assoc]
 have h2:4294967296 ^ i*(x+4294967296*b')=4294967296 ^ i*(d+y+b):=by rw [hd]
 rw [Nat.mul_add,Nat.mul_add,Nat.mul_add] at h2
 omega
theorem take_set_succ {α:Type} (l:List α) (i:Nat) (x:α) (h:i<l.length):(l.set i x).take (i+1)=l.take i++[x]:=by
 rw [List.take_add_one,List.getElem?_set_self h,List.take_set_of_le (Nat.le_refl _)];rfl
theorem take_over {α:Type} {l:List α} {i:Nat} (h:l.length≤i):l.take (i+1)=l.take i:=by rw [List.take_of_length_le (by omega),List.take_of_length_le h]
theorem minus_end {D Y A b n:Nat} (hD:D<4294967296 ^ n) (hle:Y≤A) (h:D+Y=A+4294967296 ^ n*b):b=0∧D=A - Y:=by
 have hb:b=0:=by
  apply Classical.byContradiction
  intro hb
  have:4294967296 ^ n*1≤4294967296 ^ n*b:=Nat.mul_le_mul_left _ (by omega)
  omega
 subst hb
 simp at h
 omega
theorem times_round {l:List Nat} {k o c t V W:Nat} (ho:l[k]? =some o) (h:val l+4294967296 ^ k*c=V) (ht:t=W+o+c):val (l.set k (t % 4294967296))+4294967296 ^ (k+1)*(t / 4294967296)=V+4294967296 ^ k*W:=by
 have h1:=val_set ho (t % 4294967296)
 have h2:=mul_dm (4294967296 ^ k) t
 rw [← pow_succB] at h2
 have h3:4294967296 ^ k*t=4294967296 ^ k*W+4294967296 ^ k*o+4294967296 ^ k*c:=by rw [ht,Nat.mul_add,Nat.mul_add]
 omega
theorem times_bound {x y o c:Nat} (hx:x<4294967296) (hy:y<4294967296) (ho:o<4294967296) (hc:c<4294967296):x*y+o+c<18446744073709551616:=by
 have:x*y≤4294967295*4294967295:=Nat.mul_le_mul (by omega) (by omega)
 omega
theorem set_zero_end {l:List Nat} {k c V:Nat} (h0:l[k]? =some 0) (h:val l+4294967296 ^ k*c=V):val (l.set k c)=V:=by
 have:=val_set h0 c
 omega
theorem drop_set {α:Type} (l:List α) (i:Nat) (x:α) (h:i<l.length):(l.set i x).drop i=x::l.drop (i+1):=by
 rw [List.drop_eq_getElem_cons (by rw [List.length_set];exact h),List.getElem_set_self,List.drop_set_of_lt (Nat.lt_succ_self _)]
theorem short_round {d A Q r x:Nat} (h:A=d*Q+r):x+4294967296*A=d*((r*4294967296+x) / d+4294967296*Q)+(r*4294967296+x) % d:=by
 have h1:=Nat.div_add_mod (r*4294967296+x) d
 rw [Nat.mul_add,h]
 have h2:d*(4294967296*Q)=4294967296*(d*Q):=by rw [Nat.mul_left_comm]
 rw [h2,Nat.mul_add]
 omega
theorem short_limb {d r x:Nat} (hr:r<d) (hx:x<4294967296):(r*4294967296+x) / d<4294967296:=by
 rw [Nat.div_lt_iff_lt_mul (by omega)]
 have:(r+1)*4294967296≤d*4294967296:=Nat.mul_le_mul_right _ hr
 omega
theorem pow2_split {p:Nat} (hp:p<32):∃ q,4294967296=2 ^ p*q:=⟨2 ^ (32 - p),by rw [← Nat.pow_add,show p+(32 - p)=32 by omega]⟩
theorem up_or {x o p:Nat} (hp:p<32) (hx:x<4294967296) (ho:o<2 ^ p):(x*2 ^ p) % 4294967296||| o=(x*2 ^ p) % 4294967296+o:=by
 obtain ⟨q,hq⟩:=pow2_split hp
 have h1:x*2 ^ p % 4294967296=2 ^ p*(x % q):=by rw [hq,Nat.mul_comm x,Nat.mul_mod_mul_left]
 rw [h1]
 exact (Nat.two_pow_add_eq_or_of_lt ho _).symm
theorem up_sum {x o p:Nat} (hp:p<32) (hx:x<4294967296) (ho:o<2 ^ p):(x*2 ^ p) % 4294967296+o<4294967296:=by
 obtain ⟨q,hq⟩:=pow2_split hp
 have h1:x*2 ^ p % 4294967296=2 ^ p*(x % q):=by rw [hq,Nat.mul_comm x,Nat.mul_mod_mul_left]
 have hq0:0<q:=by
  cases q with
  | zero=>omega
  | succ q=>omega
 have h2:x % q<q:=Nat.mod_lt _ hq0
 have h3:2 ^ p*(x % q+1)≤2 ^ p*q:=Nat.mul_le_mul_left _ h2
 rw [Nat.mul_add,← hq] at h3
 omega
theorem up_high {x p:Nat} (hx:x<4294967296):x*2 ^ p / 4294967296<2 ^ p:=by
 rw [Nat.div_lt_iff_lt_mul (by decide)]
 rw [Nat.mul_comm (2 ^ p)]
 exact Nat.mul_lt_mul_of_pos_right hx (Nat.two_pow_pos p)
theorem up_round {l:List Nat} {k o V t:Nat} (ho:l[k]? =some o) (hz:l[k+1]? =some 0) (h:val l=V):val ((l.set k (t % 4294967296+o)).set (k+1) (t / 4294967296))=V+4294967296 ^ k*t:=by
 have hl:=(List.getElem?_eq_some_iff.1 ho).1
 have h1:=val_set ho (t % 4294967296+o)
 have hz':(l.set k (t % 4294967296+o))[k+1]? =some 0:=by rw [List.getElem?_set_ne (by omega)];exact hz
 have h2:=val_set hz' (t / 4294967296)
 have h3:=mul_dm (4294967296 ^ k) t
 rw [← pow_succB] at h3
 rw [Nat.mul_add] at h1
 omega
theorem down_limb {A p:Nat} (hp:p<32):(A / 2 ^ p) % 4294967296=((A % 18446744073709551616) / 2 ^ p) % 4294967296:=by
 obtain ⟨q,hq⟩:=pow2_split hp
 have h1:A=A % 18446744073709551616+18446744073709551616*(A / 18446744073709551616):=(Nat.mod_add_div _ _).symm
 have h2:18446744073709551616*(A / 18446744073709551616)=2 ^ p*(q*4294967296*(A / 18446744073709551616)):=by
  rw [show (18446744073709551616:Nat)=4294967296*4294967296 from rfl]
  generalize A / (4294967296*4294967296)=z
  rw [← Nat.mul_assoc,← Nat.mul_assoc,← hq]
 have h3:A / 2 ^ p=A % 18446744073709551616 / 2 ^ p+q*4294967296*(A / 18446744073709551616):=by
  conv=>lhs;rw [h1,h2]
  rw [Nat.add_mul_div_left _ _ (Nat.two_pow_pos p)]
 rw [h3,Nat.mul_comm q,Nat.mul_assoc,Nat.add_mul_mod_self_left]
theorem drop_div {l:List Nat} (h:Lim l) (i:Nat):val l / 4294967296 ^ i=val (l.drop i):=by
 by_cases hi:i≤l.length
 ·have h1:=val_split l i
  rw [Nat.min_eq_left hi] at h1
  have h2:=val_lt (h.take i)
  rw [List.length_take,Nat.min_eq_left hi] at h2
  rw [h1,Nat.add_mul_div_left _ _ (Nat.pow_pos (by decide)),Nat.div_eq_of_lt h2,Nat.zero_add]
 ·rw [List.drop_eq_nil_of_le (by omega),val_nil]
  have h2:=val_lt h
  exact Nat.div_eq_of_lt (Nat.lt_of_lt_of_le h2 (Nat.pow_le_pow_right (by decide) (by omega)))
theorem take_mod {l:List Nat} (h:Lim l) (i:Nat):val l % 4294967296 ^ i=val (l.take i):=by
 by_cases hi:i≤l.length
 ·have h1:=val_split l i
  rw [Nat.min_eq_left hi] at h1
  have h2:=val_lt (h.take i)
  rw [List.length_take,Nat.min_eq_left hi] at h2
  rw [h1,Nat.add_mul_mod_self_left,Nat.mod_eq_of_lt h2]
 ·rw [List.take_of_length_le (by omega)]
  have h2:=val_lt h
  exact Nat.mod_eq_of_lt (Nat.lt_of_lt_of_le h2 (Nat.pow_le_pow_right (by decide) (by omega)))
theorem digit_of {l:List Nat} (h:Lim l) {i x:Nat} (hx:l[i]? =some x):val l / 4294967296 ^ i % 4294967296=x:=by
 rw [drop_div h,val_drop hx]
 have:=h.at hx
 omega
theorem digits_val {o:List Nat} {N:Nat} (h:∀ (i x:Nat),o[i]? =some x→x=N / 4294967296 ^ i % 4294967296):val o=N % 4294967296 ^ o.length:=by
 induction o generalizing N with
 | nil=>simp [val,Nat.mod_one]
 | cons x o ih=>
  have hx:=h 0 x rfl
  rw [Nat.pow_zero,Nat.div_one] at hx
  have:=ih (N:=N / 4294967296) (fun i y hy=>by
   rw [h (i+1) y hy,Nat.div_div_eq_div_mul,pow_succB,Nat.mul_comm 4294967296])
  rw [val_cons,this,hx,List.length_cons,Nat.pow_succ,Nat.mul_comm (4294967296 ^ o.length)]
  exact (Nat.mod_mul (x:=N) (a:=4294967296) (b:=4294967296 ^ o.length)).symm
end Go.Proofs.YtoiebebjgnpkmaaGreatDoor
namespace Go.Proofs.YtoiebebjgnpkmaaGreatDoor
open Go.RowKit
set_option linter.unusedSimpArgs false
set_option linter.unusedVariables false
theorem val_top2 {l:List Nat} {n x1 x2:Nat} (hl:l.length=n+2) (h1:l[n+1]? =some x1) (h2:l[n]? =some x2):val l=val (l.take n)+4294967296 ^ n*(x2+4294967296*x1):=by
 have h:=val_split l n
 rw [Nat.min_eq_left (by omega),val_drop h2,val_drop h1,List.drop_eq_nil_of_le (by omega),val_nil] at h
 simpa using h
theorem val_top3 {l:List Nat} {n x0 x1 x2:Nat} (hl:l.length=n+3) (h0:l[n+2]? =some x0) (h1:l[n+1]? =some x1) (h2:l[n]? =some x2):val l=val (l.take n)+4294967296 ^ n*(x2+4294967296*(x1+4294967296*x0)):=by
 have h:=val_split l n
 rw [Nat.min_eq_left (by omega),val_drop h2,val_drop h1,val_drop h0,List.drop_eq_nil_of_le (by omega),val_nil] at h
 simpa using h
theorem q_ge {U V Q top v P:Nat} (hV:v*P≤V) (hU:U<(top+1)*P) (hQ:Q*V≤U):Q*v≤top:=by
 apply Classical.byContradiction
 intro h
 have h1:(top+1)*P≤Q*v*P:=Nat.mul_le_mul_right _ (by omega)
 have h2:Q*(v*P)≤Q*V:=Nat.mul_le_mul_left _ hV
 rw [← Nat.mul_assoc] at h2
 omega
theorem q_dec {U V Q q top rest v1 v2 u2 P:Nat} (hV:(v2+4294967296*v1)*P≤V) (hU:U<(u2+4294967296*top+1)*P) (hQ:Q*V≤U) (ht:q*v1+rest=top) (hc:rest*4294967296+u2<q*v2):Q<q:=by
 have h1:=q_ge hV hU hQ
 apply Classical.byContradiction
 intro h
 have h2:q*(v2+4294967296*v1)≤Q*(v2+4294967296*v1):=Nat.mul_le_mul_right _ (by omega)
 rw [Nat.mul_add q] at h2
 have h3:q*(4294967296*v1)=4294967296*(q*v1):=Nat.mul_left_comm ..
 omega
theorem q_le {U V q v u P:Nat} (hq:q<4294967296) (hV:V<(v+1)*P) (hVP:4294967296*P≤V) (hU:u*P≤U) (hc:q*v≤u):q*V<U+V:=by
 have h1:q*V≤q*((v+1)*P):=Nat.mul_le_mul_left _ (by omega)
 have h2:q*((v+1)*P)=q*v*P+q*P:=by rw [Nat.add_mul,Nat.mul_add,Nat.one_mul,Nat.mul_assoc]
 have h3:q*v*P≤u*P:=Nat.mul_le_mul_right _ hc
 have h4:q*P+P≤4294967296*P:=by
  have:=Nat.mul_le_mul_right P (show q+1≤4294967296 by omega)
  rw [Nat.add_mul,Nat.one_mul] at this
  exact this
 have hP:0<P:=by
  cases P with
  | zero=>omega
  | succ P=>omega
 omega
theorem est {u v:List Nat} {n u0 u1 u2 v1 v2:Nat} (hu:u.length=n+3) (hv:v.length=n+2) (lu:Lim u) (lv:Lim v) (g0:u[n+2]? =some u0) (g1:u[n+1]? =some u1) (g2:u[n]? =some u2) (k1:v[n+1]? =some v1) (k2:v[n]? =some v2):
 v1*4294967296 ^ (n+1)≤val v∧val u<(u0*4294967296+u1+1)*4294967296 ^ (n+1)∧(v2+4294967296*v1)*4294967296 ^ n≤val v∧val u<(u2+4294967296*(u0*4294967296+u1)+1)*4294967296 ^ n∧val v<(v2+4294967296*v1+1)*4294967296 ^ n∧(u2+4294967296*(u0*4294967296+u1))*4294967296 ^ n≤val u:=by
 have hV:=val_top2 hv k1 k2
 have hU:=val_top3 hu g0 g1 g2
 have a:=val_lt (lu.take n)
 have b:=val_lt (lv.take n)
 rw [List.length_take,Nat.min_eq_left (by omega)] at a b
 have l2:=lu.at g2
 have e1:u2+4294967296*(u1+4294967296*u0)=u2+4294967296*(u0*4294967296+u1):=by omega
 rw [e1] at hU
 generalize hP:4294967296 ^ n=P at*
 have e2:4294967296 ^ (n+1)=P*4294967296:=by rw [Nat.pow_succ,hP]
 rw [e2]
 rw [hV,hU]
 have f1:v1*(P*4294967296)=P*(4294967296*v1):=by rw [Nat.mul_comm v1,Nat.mul_assoc]
 have f2:P*(v2+4294967296*v1)=P*v2+P*(4294967296*v1):=Nat.mul_add ..
 have f3:(v2+4294967296*v1)*P=P*(v2+4294967296*v1):=Nat.mul_comm ..
 have f4:(v2+4294967296*v1+1)*P=P*(v2+4294967296*v1)+P:=by rw [Nat.add_mul,Nat.one_mul,Nat.mul_comm]
 have f5:(u2+4294967296*(u0*4294967296+u1)+1)*P=P*(u2+4294967296*(u0*4294967296+u1))+P:=by rw [Nat.add_mul,Nat.one_mul,Nat.mul_comm]
 have f6:(u2+4294967296*(u0*4294967296+u1))*P=P*(u2+4294967296*(u0*4294967296+u1)):=Nat.mul_comm ..
 have f7:(u0*4294967296+u1+1)*(P*4294967296)=P*(4294967296*(u0*4294967296+u1+1)):=by rw [Nat.mul_comm _ (P*4294967296),Nat.mul_assoc]
 have f8:P*(u2+4294967296*(u0*4294967296+u1)+1)≤P*(4294967296*(u0*4294967296+u1+1)):=Nat.mul_le_mul_left _ (by omega)
 rw [Nat.mul_add P _ 1,Nat.mul_one] at f8
 refine ⟨?_, ?_, ?_, ?_, ?_, ?_⟩
 ·rw [f1,f2];omega
 ·rw [f7];omega
 ·rw [f3];omega
 ·rw [f5];omega
 ·rw [f4];omega
 ·rw [f6];omega
theorem q_one {U V q:Nat} (hV:0<V) (h1:U / V≤q) (h2:q*V<U+V):q=U / V∨(q=U / V+1∧U<q*V):=by
 have h3:=Nat.div_add_mod U V
 have h4:=Nat.mod_lt U hV
 rcases Nat.lt_or_ge (U / V) q with h | h
 ·right
  have h5:q≤U / V+1:=by
   apply Classical.byContradiction
   intro h6
   have h7:(U / V+2)*V≤q*V:=Nat.mul_le_mul_right _ (by omega)
   rw [Nat.add_mul,Nat.mul_comm (U / V)] at h7
   omega
  have e:q=U / V+1:=by omega
  refine ⟨e, ?_⟩
  rw [e,Nat.add_mul,Nat.mul_comm (U / V)]
  omega
 ·left;omega
theorem q_exact {W V g:Nat} (hV:0<V) (h1:W / V≤g) (h2:g*V≤W):g=W / V:=by
 have h3:g≤W / V:=(Nat.le_div_iff_mul_le hV).2 h2
 omega
theorem take_round {D Y A c b c' b' u x d q p i:Nat} (h:D+q*Y=A+4294967296 ^ i*(c+b)) (hp:q*x+c=4294967296*c'+p) (hd:u+4294967296*b'=d+p+b):D+4294967296 ^ i*d+q*(Y+4294967296 ^ i*x)=A+4294967296 ^ i*u+4294967296 ^ (i+1)*(c'+b'):=by
 rw [pow_succB,Nat.mul_assoc,Nat.mul_add q,Nat.mul_left_comm q]
 generalize 4294967296 ^ i=P at*
 have h2:P*(u+4294967296*(c'+b'))=P*(d+q*x+c+b):=by
  congr 1
  rw [Nat.mul_add]
  omega
 have e1:P*(u+4294967296*(c'+b'))=P*u+P*(4294967296*(c'+b')):=Nat.mul_add ..
 have e2:P*(d+q*x+c+b)=P*d+P*(q*x)+P*c+P*b:=by rw [Nat.mul_add,Nat.mul_add,Nat.mul_add]
 have e3:P*(c+b)=P*c+P*b:=Nat.mul_add ..
 omega
theorem back_round {D Y A c x y t i:Nat} (h:D+4294967296 ^ i*c=A+Y) (ht:t=x+y+c):D+4294967296 ^ i*(t % 4294967296)+4294967296 ^ (i+1)*(t / 4294967296)=A+4294967296 ^ i*x+(Y+4294967296 ^ i*y):=by
 rw [pow_succB,Nat.add_assoc,mul_dm,ht,Nat.mul_add,Nat.mul_add]
 omega
theorem scaled_mod {a b k:Nat} (hk:0<k):(a*k) % (b*k) / k=a % b:=by
 rw [Nat.mul_mod_mul_right,Nat.mul_div_cancel _ hk]
theorem scaled_div {a b k:Nat} (hk:0<k):(a*k) / (b*k)=a / b:=Nat.mul_div_mul_right _ _ hk
end Go.Proofs.YtoiebebjgnpkmaaGreatDoor
namespace Go.Proofs.YtoiebebjgnpkmaaGreatDoor
open Go.RowKit
set_option linter.unusedSimpArgs false
set_option linter.unusedVariables false
theorem powB (k:Nat):4294967296 ^ k=2 ^ (32*k):=by rw [Nat.pow_mul]
def bl (n:Nat):Nat:=if n=0 then 0 else n.log2+1
theorem bl_zero:bl 0=0:=rfl
theorem bl_lt (n:Nat):n<2 ^ bl n:=by
 unfold bl
 split
 ·rename_i h;subst h;decide
 ·exact Nat.lt_log2_self
theorem bl_ge {n:Nat} (h:n≠0):2 ^ (bl n - 1)≤n∧1≤bl n:=by
 unfold bl
 rw [if_neg h,Nat.add_sub_cancel]
 exact ⟨Nat.log2_self_le h,by omega⟩
theorem bl_of {n b:Nat} (h1:2 ^ b≤n) (h2:n<2 ^ (b+1)):bl n=b+1:=by
 have h0:n≠0:=by have:=Nat.two_pow_pos b;omega
 have a:=bl_lt n
 obtain ⟨b1,b2⟩:=bl_ge h0
 have c1:b<bl n:=(Nat.pow_lt_pow_iff_right (by decide:1<2)).1 (Nat.lt_of_le_of_lt h1 a)
 have c2:bl n - 1<b+1:=(Nat.pow_lt_pow_iff_right (by decide:1<2)).1 (Nat.lt_of_le_of_lt b1 h2)
 omega
theorem bl_limbs {low k x:Nat} (hl:low<4294967296 ^ k) (hx:x≠0):bl (low+4294967296 ^ k*x)=32*k+bl x:=by
 obtain ⟨a1,a2⟩:=bl_ge hx
 have a3:=bl_lt x
 have e:32*k+bl x=(32*k+(bl x - 1))+1:=by omega
 rw [e]
 rw [powB] at*
 apply bl_of
 ·rw [Nat.pow_add]
  have:=Nat.mul_le_mul_left (2 ^ (32*k)) a1
  omega
 ·have h1:2 ^ (32*k)*(x+1)≤2 ^ (32*k)*2 ^ bl x:=Nat.mul_le_mul_left _ a3
  rw [← Nat.pow_add,Nat.mul_add] at h1
  rw [show 32*k+(bl x - 1)+1=32*k+bl x by omega]
  omega
theorem bl_mul_pow {n:Nat} (h:n≠0) (k:Nat):bl (n*2 ^ k)=bl n+k:=by
 obtain ⟨a1,a2⟩:=bl_ge h
 have a3:=bl_lt n
 rw [show bl n+k=(bl n - 1+k)+1 by omega]
 apply bl_of
 ·rw [Nat.pow_add];exact Nat.mul_le_mul_right _ a1
 ·rw [show bl n - 1+k+1=bl n+k by omega,Nat.pow_add]
  exact Nat.mul_lt_mul_of_pos_right a3 (Nat.two_pow_pos k)
theorem bl_le {n k:Nat} (h:n<2 ^ k):bl n≤k:=by
 by_cases h0:n=0
 ·subst h0;rw [bl_zero];exact Nat.zero_le _
 ·obtain ⟨a1,a2⟩:=bl_ge h0
  have:bl n - 1<k:=(Nat.pow_lt_pow_iff_right (by decide:1<2)).1 (Nat.lt_of_le_of_lt a1 h)
  omega
theorem bl_digs {l:List Nat} {k x:Nat} (hl:l.length=k+1) (lm:Lim l) (hx:l[k]? =some x) (h0:x≠0):bl (val l)=32*k+bl x:=by
 have h:=val_split l k
 rw [Nat.min_eq_left (by omega),val_drop hx,List.drop_eq_nil_of_le (by omega),val_nil] at h
 have h2:=val_lt (lm.take k)
 rw [List.length_take,Nat.min_eq_left (by omega)] at h2
 rw [h]
 have:=bl_limbs h2 h0
 simpa using this
def tz (n:Nat):Nat:=if h:n=0 then 0 else if n % 2=1 then 0 else tz (n / 2)+1
termination_by n
decreasing_by omega
theorem tz_zero:tz 0=0:=by rw [tz];simp
theorem tz_odd {n:Nat} (h:n % 2=1):tz n=0:=by rw [tz,dif_neg (by omega),if_pos h]
theorem tz_even {n:Nat} (h:n≠0):tz (2*n)=tz n+1:=by
 rw [tz,dif_neg (by omega),if_neg (by omega),Nat.mul_div_cancel_left _ (by decide)]
theorem tz_pow {n:Nat} (h:n≠0) (k:Nat):tz (n*2 ^ k)=tz n+k:=by
 induction k with
 | zero=>simp
 | succ k ih=>
  rw [Nat.pow_succ,← Nat.mul_assoc,Nat.mul_comm _ 2,tz_even (by have:=Nat.two_pow_pos k;exact Nat.mul_ne_zero h (by omega)),ih]
  omega
theorem tz_low {p:Nat}:∀ (x m:Nat),x≠0→x<2 ^ p→tz (x+2 ^ p*m)=tz x:=by
 induction p with
 | zero=>intro x m h1 h2;simp at h2;omega
 | succ p ih=>
  intro x m h1 h2
  rw [Nat.pow_succ] at h2 ⊢
  have hP:=Nat.two_pow_pos p
  by_cases ho:x % 2=1
  ·rw [tz_odd ho,tz_odd]
   have:2 ^ p*2*m=2*(2 ^ p*m):=by rw [Nat.mul_comm (2 ^ p) 2,Nat.mul_assoc]
   omega
  ·obtain ⟨y,rfl⟩:∃ y,x=2*y:=⟨x / 2,by omega⟩
   have e:2*y+2 ^ p*2*m=2*(y+2 ^ p*m):=by
    have:2 ^ p*2*m=2*(2 ^ p*m):=by rw [Nat.mul_comm (2 ^ p) 2,Nat.mul_assoc]
    omega
   rw [e,tz_even (by omega),tz_even (by omega),ih y m (by omega) (by omega)]
theorem tz_digs {l:List Nat} {i x:Nat} (hx:l[i]? =some x) (h0:x≠0) (lm:Lim l) (hz:∀ j,j<i→l[j]? =some 0):tz (val l)=32*i+tz x:=by
 have hlt:=lm.at hx
 have hl:=(List.getElem?_eq_some_iff.1 hx).1
 have e:val (l.take i)=0:=by
  have h1:l.take i=List.replicate i 0:=by
   apply List.ext_getElem?
   intro j
   rw [List.getElem?_take,List.getElem?_replicate]
   by_cases hj:j<i
   ·rw [if_pos hj,if_pos hj];exact hz j hj
   ·rw [if_neg hj,if_neg hj]
  rw [h1,val_zeros]
 have h:=val_split l i
 rw [Nat.min_eq_left (by omega),e,Nat.zero_add,val_drop hx] at h
 rw [h,Nat.mul_comm,powB,tz_pow (by omega),show (4294967296:Nat)=2 ^ 32 from rfl,tz_low x _ h0 hlt]
 omega
end Go.Proofs.YtoiebebjgnpkmaaGreatDoor
