import Derived.Test.YtoiebebjgnpkmaaGreatDoorYJ22
namespace Go.Proofs.YtoiebebjgnpkmaaGreatDoor
open Go.RowKit
set_option linter.unusedSimpArgs false
set_option linter.unusedVariables false
set_option maxHeartbeats 8000000
set_option maxRecDepth 100000
attribute [local irreducible] wpList Code.wp Plan.wp stsE mixE pre cntE
def uV (n:Nat):Value:= .int .u64 (n:Int)
section
variable {P:Program} {a:Act} {w:World} {o:Oper}
theorem ev_ixE {t:TypeId} {x ix:Operand} (i q:Nat) (ho:o.op= .indexAddr t x ix) {b p n c:Nat} {k:IntKind} {z:Int} (hx:a.eval x= .slice (some ⟨b,p,none⟩) n c) (hi:a.eval ix= .int k z) (hz:Hid (z=(i:Int))) {e:TypeId} {zl:List Value} {s by':Nat} [h:Si P t e zl s by'] (hq:p+i*s=q:=by omega) (h1:i<n:=by omega):(execOp a.eval o).run P w= .ok (.value (.pointer (some ⟨b,q,none⟩))) w:=by
 rw [hz.out] at hi
 rw [← hq]
 exact ev_indexAddr ho hx hi h.h (by omega) (by omega)
theorem RowAt.cell {e:TypeId} {sz b c n p:Nat} {xs:List Value} {S:List Nat} {v:Value} (h:RowAt e sz (.slice (some ⟨b,0,none⟩) n c) n xs S w) (hv:xs[p]? =some v):w.cell? ⟨b,p,none⟩=some v:=by
 obtain ⟨h0,⟨_,_,h3⟩ | ⟨g,cap,pad,rfl,h1,h2,h3,h4,h5⟩⟩:=h
 ·cases h3
 ·cases h1
  rw [cell_of_row w b _ _ _ _ h5]
  simpa using (by rw [List.getElem?_append_left (List.getElem?_eq_some_iff.1 hv).1];exact hv:(xs++pad)[p]? =some v)
theorem RowAt.some {e:TypeId} {sz n:Nat} {xs:List Value} {S:List Nat} {v:Value} (h:RowAt e sz v n xs S w) (hn:0<n):∃ g c,v= .slice (some ⟨g,0,none⟩) n c∧S=[g]:=by
 obtain ⟨h0,⟨_,h2,h3⟩ | ⟨g,cap,pad,rfl,h1,h2,h3,h4,h5⟩⟩:=h
 ·omega
 ·exact ⟨g,cap,h1,rfl⟩
theorem c_lnO {t:TypeId} {x:Operand} (ho:o.op= .load t x) {b p:Nat} (hx:a.eval x= .pointer (some ⟨b,p,none⟩)) {n:Nat} [s:Ro P t n] {e:TypeId} {sz c m:Nat} {xs:List Value} {S:List Nat} (hr:RowAt e sz (.slice (some ⟨b,0,none⟩) m c) m xs S w) {vs:List Value} (hv:vs<+:xs.drop p) (hn:vs.length=n):(execOp a.eval o).run P w= .ok (.value (.agg vs.toArray)) w:=
 ev_loadN ho hx (by rw [hn];exact s.h) fun j v hj=>hr.cell (by
  obtain ⟨r,hr⟩:=hv
  have hlt:=(List.getElem?_eq_some_iff.1 hj).1
  have:(xs.drop p)[j]? =some v:=by rw [← hr,List.getElem?_append_left hlt];exact hj
  simpa using this)
theorem c_l1O {t:TypeId} {x:Operand} (ho:o.op= .load t x) {b p:Nat} (hx:a.eval x= .pointer (some ⟨b,p,none⟩)) [s:Sc P t] {e:TypeId} {sz c m:Nat} {xs:List Value} {S:List Nat} (hr:RowAt e sz (.slice (some ⟨b,0,none⟩) m c) m xs S w) {v:Value} (hv:xs[p]? =some v):(execOp a.eval o).run P w= .ok (.value v) w:=
 ev_load ho hx s.h (hr.cell hv)
end
section
variable {P:Program} {Q:Exit→Act→World→Prop} {a:Act} {w w0:World} {o:Oper} {K:Act→World→Prop} {T:List Nat} {l:List Ent}
theorem c_mkN (m:Nat) (H:Hp T w0 w l) {t:TypeId} {lx:Operand} (ho:o.op= .makeSlice t lx lx) {kl:IntKind} {n:Int} (hl:a.eval lx= .int kl n) (hz:Hid (n=(m:Int))) {e:TypeId} {z:List Value} {s by':Nat} [hs:Si P t e z s by']
 (hb:by'*m≤281474976710656:=by omega) (h63:m≤100000000:=by omega)
 (h:∀ g w',w0.heap.size≤g∧w.heap.size≤g→Fr [] w w'→Hp T w0 w' (.blk g (List.replicate m z).flatten e::l)→K (a.put o.dst (.slice (some ⟨g,0,none⟩) m m)) w'):o.wp P a w K Q:=by
 rw [hz.out] at hl
 refine c_mk H ho hl hl (hs:=hs) (by omega) (Int.le_refl _) (by rw [← Int.natCast_mul];exact Int.ofNat_le.2 hb) (by omega) (fun g w' h1 h2 h3=> ?_)
 exact h g w' h1 h2 h3
end
def Mat3 (st ix vl:List Nat) (v1 v2 v3:Value) (B:List Nat) (w:World):Prop:=
 ∃ S1 S2 S3,B=S1++(S2++S3)∧B.Nodup∧RowAt 3 1 v1 st.length (st.map iV) S1 w∧RowAt 3 1 v2 ix.length (ix.map iV) S2 w∧RowAt 23 1 v3 vl.length (vl.map uV) S3 w
def MatR (rows cols:Nat) (st ix vl:List Nat) (w:World) (e:Ending) (w':World):Prop:=
 ∃ v1 v2 v3 B,e= .returned (.agg #[iV rows,iV cols,v1,v2,v3])∧Fr [] w w'∧Mat3 st ix vl v1 v2 v3 B w'∧∀ x∈B,w.heap.size≤x
theorem Hp.mat {T:List Nat} {w0 w w':World} {l:List Ent} (H:Hp T w0 w l) (k1 k2 k3:Nat) {st ix vl:List Nat} {v1 v2 v3:Value} {B:List Nat} (hF:Fr [] w w') (h:Mat3 st ix vl v1 v2 v3 B w') (hB:∀ x∈B,w.heap.size≤x):
 ∃ S1 S2 S3,Hp T w0 w' (.obj k1 S1 (RowAt 3 1 v1 st.length (st.map iV) S1):: .obj k2 S2 (RowAt 3 1 v2 ix.length (ix.map iV) S2):: .obj k3 S3 (RowAt 23 1 v3 vl.length (vl.map uV) S3)::l):=by
 obtain ⟨S1,S2,S3,rfl,hn,h1,h2,h3⟩:=h
 simp only [List.nodup_append,List.mem_append] at hn
 have k0:=H.step hF (by simp)
 have nw:∀ x,w.heap.size≤x→x∉l.flatMap Ent.own:=fun x hx=>H.notOwn hx
 have nb:∀ x,w.heap.size≤x→x∈T∨w0.heap.size≤x:=fun x hx=> .inr (Nat.le_trans H.fr.size hx)
 have q3:=k0.pushObj k3 h3 RowAt.firm (fun x hx=>nb x (hB x (by simp [hx]))) (fun x hx=>nw x (hB x (by simp [hx])))
 have q2:=q3.pushObj k2 h2 RowAt.firm (fun x hx=>nb x (hB x (by simp [hx]))) (fun x hx=>by
  rw [List.flatMap_cons,List.mem_append,not_or]
  exact ⟨fun h=>hn.2.1.2.2 x hx x h rfl,nw x (hB x (by simp [hx]))⟩)
 have q1:=q2.pushObj k1 h1 RowAt.firm (fun x hx=>nb x (hB x (by simp [hx]))) (fun x hx=>by
  rw [List.flatMap_cons,List.flatMap_cons,List.mem_append,List.mem_append,not_or,not_or]
  exact ⟨fun h=>hn.2.2 x hx x (.inl h) rfl,fun h=>hn.2.2 x hx x (.inr h) rfl,nw x (hB x (by simp [hx]))⟩)
 exact ⟨S1,S2,S3,q1⟩
theorem mat_mk {w:World} {st ix vl:List Nat} {v1 v2 v3:Value} {S1 S2 S3:List Nat} {r1 r2 r3:List Value} {n1 n2 n3:Nat} (hn:(S1++(S2++S3)).Nodup) (h1:RowAt 3 1 v1 n1 r1 S1 w) (h2:RowAt 3 1 v2 n2 r2 S2 w) (h3:RowAt 23 1 v3 n3 r3 S3 w)
 (e1:r1=st.map iV) (e2:r2=ix.map iV) (e3:r3=vl.map uV) (f1:n1=st.length) (f2:n2=ix.length) (f3:n3=vl.length):Mat3 st ix vl v1 v2 v3 (S1++(S2++S3)) w:=by
 subst e1 e2 e3 f1 f2 f3
 exact ⟨S1,S2,S3,rfl,hn,h1,h2,h3⟩
theorem Hp.fresh {w0 w:World} {l:List Ent} (H:Hp [] w0 w l):∀ x∈l.flatMap Ent.own,w0.heap.size≤x:=by
 intro x hx
 obtain ⟨e,he,hx⟩:=List.mem_flatMap.1 hx
 have h:=H.ok e he
 cases e with
 | blk b cs t=>
  simp only [Ent.own,List.mem_singleton] at hx
  subst hx
  exact h.2.resolve_left (by simp)
 | rng b off cs=>simp [Ent.own] at hx
 | obj k S Q=>exact (h.2.2 x hx).resolve_left (by simp)
theorem tk_snoc {α:Type} {S:List α} {k:Nat} {x:α} (h:S[k]? =some x):S.take (k+1)=S.take k++[x]:=by rw [List.take_add_one,h];rfl
theorem pre_of {P:List En} {k:Nat} {x:En} (h:P[k]? =some x):eC x<+:(P.flatMap eC).drop (k*3):=by
 obtain ⟨hl,he⟩:=List.getElem?_eq_some_iff.1 h
 have e1:P=P.take k++x::P.drop (k+1):=by rw [← he,List.getElem_cons_drop,List.take_append_drop]
 have h1:=flatE_at (P.take k) (P.drop (k+1)) x []
 rw [← e1,List.length_take,Nat.min_eq_left (by omega),List.append_nil] at h1
 exact h1
end Go.Proofs.YtoiebebjgnpkmaaGreatDoor
