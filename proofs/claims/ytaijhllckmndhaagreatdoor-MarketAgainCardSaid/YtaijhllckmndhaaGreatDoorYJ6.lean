import Derived.Test.YtaijhllckmndhaaGreatDoorYJ0
import Derived.Lib.FieldsP
import Derived.Lib.DecodeN
import Derived.Test.YtaijhllckmndhaaGreatDoorCards
import Derived.Test.YtaijhllckmndhaaGreatDoorTie
import Derived.ProofKit
import Derived.Test.YtaijhllckmndhaaGreatDoorYJ5
import Derived.Test.YtaijhllckmndhaaGreatDoorYJ4
import Derived.Laws.ResultCell
namespace Go.Proofs.YtaijhllckmndhaaGreatDoor
set_option linter.all false
set_option maxHeartbeats 64000000
set_option maxRecDepth 100000
section
open Go
def isW(b:UInt8):Bool:=b==32||b==9
def wds:List UInt8→List UInt8→List (List UInt8)
 | cur,[]=>if cur=[]then []else [cur]
 | cur,b::r=>if isW b then(if cur=[]then wds [] r else cur::wds [] r)else wds (cur++[b]) r
def zE(s:List UInt8):List (List UInt8):=wds [] s
def zep:∀(u r cur:List UInt8),(∀b∈u,isW b=false)→wds cur (u++r)=wds (cur++u) r
 | [],r,cur,_=>by simp
 | b::u,r,cur,h=>by
  have h1:isW b=false:=h b yg;rw[List.cons_append,wds,if_neg (by simp[h1]),zep u r _ (fun c hc=>h c (List.mem_cons_of_mem _ hc))]
  simp
def zsT{b:UInt8}(h:128≤b.toNat):isW b=false:=by
 unfold isW;rw[Bool.or_eq_false_iff];exact⟨by simp;intro e;subst e;exact absurd h yf,by simp;intro e;subst e;exact absurd h yf⟩
def zen(b:UInt8):isW b=(b.toNat==32||b.toNat==9):=by
 unfold isW
 have h1:(b==32)=(b.toNat==32):=by
  rw[Bool.eq_iff_iff];simp only[beq_iff_eq];exact⟨fun e=>by rw[e];rfl,fun e=>UInt8.toNat_inj.1 e⟩
 have h2:(b==9)=(b.toNat==9):=by
  rw[Bool.eq_iff_iff];simp only[beq_iff_eq];exact⟨fun e=>by rw[e];rfl,fun e=>UInt8.toNat_inj.1 e⟩
 rw[h1,h2]
def pW(r:Nat):Bool:=r==32||r==9
def znS{s:ByteArray}{j:Nat}{b:UInt8}(h:s.data.toList[j]? =some b):s.get! j=b:=by
 obtain⟨⟨l⟩⟩:=s;have h0:l[j]? =some b:=h;obtain⟨h1,h2⟩:=List.getElem?_eq_some_iff.1 h0
 show(l.toArray)[j]! =b
 simp[h1,h2]
def zvl(n b0 b1 b2 b3:Nat)(hn:1≤n):(b0<128∧Lib.decodeN n b0 b1 b2 b3=(b0,1))∨
 (128≤b0∧pW (Lib.decodeN n b0 b1 b2 b3).1=false∧1≤(Lib.decodeN n b0 b1 b2 b3).2∧(Lib.decodeN n b0 b1 b2 b3).2≤n∧(Lib.decodeN n b0 b1 b2 b3).2≤4∧
  (1<(Lib.decodeN n b0 b1 b2 b3).2→128≤b1)∧(2<(Lib.decodeN n b0 b1 b2 b3).2→128≤b2)∧(3<(Lib.decodeN n b0 b1 b2 b3).2→128≤b3)):=by
 by_cases h:b0<128
 ·left;exact⟨h,by unfold Lib.decodeN;rw[if_pos h]⟩
 ·right
  refine⟨by omega,?_⟩;unfold Lib.decodeN;rw[if_neg h];unfold pW
  repeat' split
  all_goals (simp only[Bool.or_eq_false_iff,beq_eq_false_iff_ne,ne_eq];refine⟨⟨by omega,by omega⟩,by omega,by omega,by omega,?_,?_,?_⟩<;>intro _<;>omega)
def zbA(s:ByteArray):s.size=s.data.toList.length:=rfl
def zgt(s:ByteArray)(a b:Nat):(s.extract a b).data.toList=(s.data.toList.take b).drop a:=by
 rw[ByteArray.data_extract,Array.toList_extract,List.extract_eq_take_drop,List.drop_take]
def zo5(s:ByteArray):∀(f pos:Nat) (st:Option Nat) (acc:List (Nat×Nat)),s.size-pos≤f→pos≤s.size→(∀a,st=some a→a<pos)→
 (Lib.closeSpans s (Lib.spansFromP pW s f pos st acc)).map (fun x=>(s.extract x.1 x.2).data.toList)=
  acc.map (fun x=>(s.extract x.1 x.2).data.toList)++wds (match st with|none=>[]|some a=>(s.data.toList.take pos).drop a) (s.data.toList.drop pos):=by
 intro f
 induction f with
 | zero=>
  intro pos st acc h hp hst;obtain rfl:pos=s.size:=by omega
  rw[List.drop_eq_nil_of_le (by rw[←zbA];exact Nat.le_refl _)]
  cases st with
  | none=>simp[Lib.spansFromP,Lib.closeSpans,wds]
  | some a=>
   have:=hst a rfl
   have hne:(s.data.toList.take s.size).drop a≠[]:=by
    intro e
    have:=congrArg List.length e
    rw[List.length_drop,List.length_take,←zbA]at this
    simp at this
    omega
   simp only[Lib.spansFromP,Lib.closeSpans,wds];rw[if_neg hne,List.map_append,List.map_cons,List.map_nil,zgt]
 | succ f ih=>
  intro pos st acc h hp hst
  by_cases hlt:pos<s.size
  ·unfold Lib.spansFromP;rw[if_pos hlt];have hb:pos<s.data.toList.length:=hlt;obtain⟨b,hb0⟩:∃b,s.data.toList[pos]? =some b:=⟨_,List.getElem?_eq_getElem hb⟩;have hg:=znS hb0;have hd:=Lib.decode_at s pos;rw[hg]at hd
   have hcur:∀a,st=some a→(s.data.toList.take pos).drop a≠[]:=by
    intro a ha e
    have:=congrArg List.length e
    have:=hst a ha
    rw[List.length_drop,List.length_take,←zbA]at*
    simp at*
    omega
   rcases zvl (s.size-pos) b.toNat (s.get! (pos+1)).toNat (s.get! (pos+2)).toNat (s.get! (pos+3)).toNat yb with⟨h1,h2⟩|⟨h1,h2,h3,h4,h5,h6,h7,h8⟩
   ·rw[h2]at hd
    have e:s.data.toList.drop pos=b::s.data.toList.drop (pos+1):=by
     rw[List.drop_eq_getElem_cons hb]
     congr 1
     exact Option.some.inj ((List.getElem?_eq_getElem hb).symm.trans hb0)
    have et:s.data.toList.take (pos+1)=s.data.toList.take pos++[b]:=by
     rw[List.take_add_one,hb0];rfl
    simp only[hd]
    by_cases hw:pW b.toNat=true
    ·rw[if_pos hw];have hw':isW b=true:=by rw[zen];exact hw
     cases st with
     | none=>
      rw[ih (pos+1) none acc yb yb yg,e];simp only[wds,hw',if_true]
     | some a=>
      rw[ih (pos+1) none _ yb yb yg,e];simp only[wds,hw',if_true];rw[if_neg (hcur a rfl),List.map_append,List.map_cons,List.map_nil,zgt,List.append_assoc]
      rfl
    ·rw[if_neg hw];have hw':isW b=false:=by rw[zen];simpa[pW]using hw
     cases st with
     | none=>
      rw[ih (pos+1) (some pos) acc yb yb yg,e];simp only[wds,hw',Bool.false_eq_true,if_false,et];rw[List.drop_append,List.drop_eq_nil_of_le yS,List.length_take,Nat.min_eq_left (Nat.le_of_lt hb),Nat.sub_self,List.drop_zero]
     | some a=>
      have ha:=hst a rfl;rw[ih (pos+1) (some a) acc yb yb (by intro a' e';cases e';omega),e];simp only[wds,hw',Bool.false_eq_true,if_false,et];rw[List.drop_append_of_le_length (by rw[List.length_take,←zbA];omega)]
   ·rw[←hd]at h2 h3 h4 h5 h6 h7 h8;generalize hdd:Utf8.decode s pos=d at h2 h3 h4 h5 h6 h7 h8;obtain⟨r,k⟩:=d;simp only at h2 h3 h4 h5 h6 h7 h8 ⊢;rw[if_neg (by simp[h2])]
    have hall:∀c∈(s.data.toList.drop pos).take k,isW c=false:=by
     intro c hc;obtain⟨j,hj⟩:=List.mem_iff_getElem?.1 hc
     have hjk:j<k:=by
      have:=(List.getElem?_eq_some_iff.1 hj).1
      rw[List.length_take]at this
      omega
     rw[List.getElem?_take_of_lt hjk,List.getElem?_drop]at hj;have hgc:=znS hj
     apply zsT
     rcases j with _|_|_|_|j
     ·rw[Nat.add_zero]at hj;rw[hj]at hb0;cases hb0;exact h1
     ·rw[←hgc];exact h6 yb
     ·rw[←hgc];exact h7 yb
     ·rw[←hgc];exact h8 yb
     ·omega
    have e:s.data.toList.drop pos=(s.data.toList.drop pos).take k++s.data.toList.drop (pos+k):=by
     rw[←List.drop_drop,List.take_append_drop]
    have et:s.data.toList.take (pos+k)=s.data.toList.take pos++(s.data.toList.drop pos).take k:=by
     rw[List.take_add]
    cases st with
    | none=>
     rw[ih (pos+k) (some pos) acc yb yb (by intro a' e';cases e';omega)]
     conv=>rhs;rw[e,zep _ _ _ hall]
     simp only[et,List.nil_append];rw[List.drop_append,List.drop_eq_nil_of_le yS,List.length_take,Nat.min_eq_left (by rw[←zbA];omega),Nat.sub_self,List.drop_zero,List.nil_append]
    | some a=>
     have ha:=hst a rfl;rw[ih (pos+k) (some a) acc yb yb (by intro a' e';cases e';omega)]
     conv=>rhs;rw[e,zep _ _ _ hall]
     simp only[et];rw[List.drop_append_of_le_length (by rw[List.length_take,←zbA];omega)]
  ·rw[Lib.spansFromP_end _ _ _ _ _ _ hlt];obtain rfl:pos=s.size:=by omega
   rw[List.drop_eq_nil_of_le (by rw[←zbA];exact Nat.le_refl _)]
   cases st with
   | none=>simp[Lib.closeSpans,wds]
   | some a=>
    have:=hst a rfl
    have hne:(s.data.toList.take s.size).drop a≠[]:=by
     intro e
     have:=congrArg List.length e
     rw[List.length_drop,List.length_take,←zbA]at this
     simp at this
     omega
    simp only[Lib.closeSpans,wds];rw[if_neg hne,List.map_append,List.map_cons,List.map_nil,zgt]
def zmE(s:ByteArray):(Lib.goFieldsP pW s).map (·.data.toList)=zE s.data.toList:=by
 unfold Lib.goFieldsP Lib.spansOfP zE;rw[List.map_map];have h:=zo5 s s.size 0 none [] yb yb yg;exact h
end
section
open Go.RowKit
def zvn:joinedFacts Tryz.pinned.checked.prog 6 Tryz.f6 Rows.marketAgainSpec Rows.marketAgainRow=true:=by kernel_rfl
end
section
variable {b:List UInt8} {f i:Nat} {c:UInt8} {out:List (List UInt8)}
def mid(b:List UInt8)(f i:Nat):List UInt8:=(b.take i).drop f
def zch(b:List UInt8)(i:Nat):mid b i i=[]:=by
 unfold mid;rw[List.drop_of_length_le];rw[List.length_take];omega
def zld(hi:i≤b.length):(mid b f i).length=i-f:=by
 unfold mid;rw[List.length_drop,List.length_take];omega
def zd9(hi:i≤b.length)(hf:f≤i):mid b f i=[]↔f=i:=by
 constructor
 ·intro e
  have:=zld (f:=f) hi
  rw[e,List.length_nil]at this
  omega
 ·intro e;subst e;exact zch _ _
def zgw(h:b[i]? =some c)(hf:f≤i):mid b f (i+1)=mid b f i++[c]:=by
 unfold mid;have hl:=(List.getElem?_eq_some_iff.1 h).1;rw[List.take_add_one,h,List.drop_append_of_le_length yS]
 rfl
def zdQ(h:b[i]? =some c):b.drop i=c::b.drop (i+1):=by
 obtain⟨hl,rfl⟩:=List.getElem?_eq_some_iff.1 h;exact List.drop_eq_getElem_cons hl
def zjU(hf:f≤i)(h:b[i]? =some c):zae (mid b f (i+1))=if c=13 then mid b f i else mid b f (i+1):=by
 rw[zgw h hf];unfold zae
 by_cases h13:c=13
 ·rw[if_pos (by simp[h13]),if_pos h13,List.dropLast_concat]
 ·rw[if_neg (by simp[h13]),if_neg h13]
def zb6(b:List UInt8)(out:List (List UInt8))(f i:Nat):Prop:=zak b=out++lns (mid b f i) (b.drop i)
def zk5(b:List UInt8):zb6 b [] 0 0:=by
 unfold zb6 zak;rw[zch,List.drop_zero,List.nil_append]
def zmm(h:zb6 b out f i)(hc:b[i]? =some c)(hf:f≤i)(h10:c≠10):zb6 b out f (i+1):=by
 unfold zb6 at h ⊢;rw[h,zdQ hc,zgw hc hf,lns,if_neg h10]
def znZ(h:zb6 b out f i)(hc:b[i]? =some 10):zb6 b (out++[zae (mid b f i)]) (i+1) (i+1):=by
 unfold zb6 at h ⊢;rw[h,zdQ hc,lns,if_pos rfl,zch,List.append_assoc]
 rfl
def zlX(h:zb6 b out f b.length)(hf:f=b.length):zak b=out:=by
 unfold zb6 at h;rw[h,hf,zch,List.drop_of_length_le (Nat.le_refl _),lns,if_pos rfl,List.append_nil]
def zmp(h:zb6 b out f b.length)(hf:f<b.length):zak b=out++[zae (mid b f b.length)]:=by
 unfold zb6 at h;rw[h,List.drop_of_length_le (Nat.le_refl _),lns,if_neg];intro e;rw[zd9 (Nat.le_refl _) yb]at e
 omega
def zcx(b:List UInt8)(out:List (List UInt8))(f i:Nat):Prop:=zE b=out++wds (mid b f i) (b.drop i)
def zkJ(b:List UInt8):zcx b [] 0 0:=by
 unfold zcx zE;rw[zch,List.drop_zero,List.nil_append]
def zma(h:zcx b out f i)(hc:b[i]? =some c)(hf:f≤i)(hw:isW c=false):zcx b out f (i+1):=by
 unfold zcx at h ⊢;rw[h,zdQ hc,zgw hc hf,wds,if_neg (by rw[hw];decide)]
def zpk(h:zcx b out f i)(hc:b[i]? =some c)(hf:f≤i)(hw:isW c=true):zcx b (out++if f<i then [mid b f i]else []) (i+1) (i+1):=by
 have hil:=(List.getElem?_eq_some_iff.1 hc).1;unfold zcx at h ⊢;rw[h,zdQ hc,wds,if_pos hw,zch,List.append_assoc]
 congr 1
 by_cases h0:f<i
 ·rw[if_pos h0,if_neg]
  ·rfl
  ·intro e;rw[zd9 yb hf]at e
   omega
 ·rw[if_neg h0,if_pos ((zd9 yb hf).2 yb)]
  rfl
def znX(h:zcx b out f b.length)(hf:f≤b.length):zE b=out++if f<b.length then [mid b f b.length]else []:=by
 unfold zcx at h;rw[h,List.drop_of_length_le (Nat.le_refl _),wds]
 congr 1
 by_cases h0:f<b.length
 ·rw[if_pos h0,if_neg];intro e;rw[zd9 (Nat.le_refl _) hf]at e
  omega
 ·rw[if_neg h0,if_pos ((zd9 (Nat.le_refl _) hf).2 yb)]
end
section
open Go.RowKit
section
variable {P:Program} {w w0:World} {T:List Nat} {l:List Ent} {L:List Value}
def zcS(H:Hp T w0 w l){g:Nat}{ty:TypeId}{cs:List Value}{t':TypeId}(hm: .blk g cs t'∈l){n:Nat}(hs:zbp P ty=some n)(hn:cs.length=n):(loadVar ty ⟨g,0,none⟩).run P w= .ok (.agg cs.toArray) w:=by
 unfold zbp at hs
 cases hu:P.underlying ty with
 | none=>simp[hu]at hs
 | some d=>exact run_loadVar_row w g t' ty cs.toArray (0,0) d (H.get hm) hu y9 y9
def zi(H:Hp T w0 w l){fn:Func}{R:Ending→World→Prop}{k u:Nat}{ty:TypeId}(hr:fn.results=#[.cell k ty, .tmp u]){g:Nat}(hp:L[k]? =some (.pointer (some ⟨g,0,none⟩))){cs:List Value}{t':TypeId}{f:Nat→List Value→List Ent}[i:In g cs t' l f]{n:Nat}[hs:Ro P ty n](hn:cs.length=n){v:Value}(hv:L[u]? =some v)
 (hR:R (.returned (.tuple #[.agg cs.toArray,v])) w):bodyPost P fn R .ret ⟨L.toArray,[]⟩ w:=by
 refine bodyPost_ret (v:= .tuple #[.agg cs.toArray,v]) ?_ rfl hR;rw[results_cell_tmp hr]
 simp[hp,hv,asAddr,zcS H i.mem hs.h hn]
def zft(H:Hp T w0 w l){fn:Func}{R:Ending→World→Prop}{k k2 u:Nat}{ty ty2:TypeId}(hr:fn.results=#[.cell k ty, .cell k2 ty2, .tmp u]){g g2:Nat}(hp:L[k]? =some (.pointer (some ⟨g,0,none⟩)))(hp2:L[k2]? =some (.pointer (some ⟨g2,0,none⟩))){cs cs2:List Value}{t' t2:TypeId}{f f2:Nat→List Value→List Ent}[i:In g cs t' l f][i2:In g2 cs2 t2 l f2]{n n2:Nat}[hs:Ro P ty n][hs2:Ro P ty2 n2](hn:cs.length=n)(hn2:cs2.length=n2){v:Value}(hv:L[u]? =some v)
 (hR:R (.returned (.tuple #[.agg cs.toArray, .agg cs2.toArray,v])) w):bodyPost P fn R .ret ⟨L.toArray,[]⟩ w:=by
 refine bodyPost_ret (v:= .tuple #[.agg cs.toArray, .agg cs2.toArray,v]) ?_ rfl hR;simp only[results,hr]
 simp[Sem.run_bind,Result.andThen,hp,hp2,hv,asAddr,zcS H i.mem hs.h hn,zcS H i2.mem hs2.h hn2]
def zet(H:Hp T w0 w l){fn:Func}{R:Ending→World→Prop}{k k2:Nat}{ty ty2:TypeId}(hr:fn.results=#[.cell k ty, .cell k2 ty2]){g g2:Nat}(hp:L[k]? =some (.pointer (some ⟨g,0,none⟩)))(hp2:L[k2]? =some (.pointer (some ⟨g2,0,none⟩))){cs cs2:List Value}{t' t2:TypeId}{f f2:Nat→List Value→List Ent}[i:In g cs t' l f][i2:In g2 cs2 t2 l f2]{n n2:Nat}[hs:Ro P ty n][hs2:Ro P ty2 n2](hn:cs.length=n)(hn2:cs2.length=n2)
 (hR:R (.returned (.tuple #[.agg cs.toArray, .agg cs2.toArray])) w):bodyPost P fn R .ret ⟨L.toArray,[]⟩ w:=by
 refine bodyPost_ret (v:= .tuple #[.agg cs.toArray, .agg cs2.toArray]) ?_ rfl hR;simp only[results,hr]
 simp[Sem.run_bind,Result.andThen,hp,hp2,asAddr,zcS H i.mem hs.h hn,zcS H i2.mem hs2.h hn2]
end
end
section
open Go.RowKit
attribute [local irreducible] wpList Code.wp Plan.wp mid
section
variable {P:Program} {a:Act} {w:World} {o:Oper}
def ztk(s:List UInt8)(i j:Nat):(ByteArray.mk s.toArray).extract i j=⟨((s.take j).drop i).toArray⟩:=by
 apply ByteArray.ext
 simp[ByteArray.data_extract,List.extract_eq_take_drop,List.drop_take]
def zgd(s:List UInt8):(ByteArray.mk s.toArray).size=s.length:=by simp[ByteArray.size]
def z6{x:Operand}{t:TypeId}(ho:o.op= .call {callee:= .builtin .len,args:=#[x],argTypes:=#[t]}){s:List UInt8}(hx:a.eval x=ze s)[h:Sy P t]:(execOp a.eval o).run P w= .ok (.value (.int .i64 s.length)) w:=by
 have:=zoj (P:=P) (w:=w) ho (s:=⟨s.toArray⟩) hx
 rw[zgd]at this;exact this
def zcL{t:TypeId}{x y:Operand}(ho:o.op= .index t x y){s:List UInt8}(hx:a.eval x=ze s){k:IntKind}{i:Nat}(hy:a.eval y= .int k (i:Int))[h:Sy P t]{b:UInt8}{m:Nat}(hb:s[i]? =some b)(hm:Hid (b.toNat=m)):(execOp a.eval o).run P w= .ok (.value (.int .u8 (m:Int))) w:=by
 rw[←hm.out];unfold ze at hx;obtain⟨hlt,rfl⟩:=List.getElem?_eq_some_iff.1 hb
 have e:(Instr.index t (.string ⟨s.toArray⟩) (.int k (i:Int))).run P w= .ok (.int .u8 s[i].toNat) w:=by
  rw[run_index_string _ _ _ _ _ h.h,dif_pos ⟨by omega,by rw[zgd];omega⟩]
  rfl
 unfold execOp;simp only[ho,hx,hy,Sem.run_bind,e,Result.andThen_ok,Sem.run_pure]
def zhv{t:TypeId}{x y z:Operand}(ho:o.op= .slice t x (some y) (some z) none){s r:List UInt8}(hx:a.eval x=ze s){k k':IntKind}{i j:Nat}(hy:a.eval y= .int k (i:Int))(hz:a.eval z= .int k' (j:Int))[h:Sy P t](hr:Hid (mid s i j=r))(h1:i≤j:=by omega)(h2:j≤s.length:=by omega):(execOp a.eval o).run P w= .ok (.value (ze r)) w:=by
 rw[←hr.out];unfold mid;unfold ze at hx;have e:=run_slice_string (P:=P) (w:=w) t ⟨s.toArray⟩ k k' (i:Int) (j:Int) h.h yb yb (by rw[zgd];omega);rw[ztk]at e;unfold execOp;simp only[ho,hx,hy,hz,Option.map_none,Option.map_some,Sem.run_bind,run_sliceAt_string _ _ _ _ _ _ h.h,e,Result.andThen_ok,Sem.run_pure]
 rfl
def zbH{t:TypeId}{x ix:Operand}(i q:Nat)(ho:o.op= .indexAddr t x ix){b p n c:Nat}{k:IntKind}{z:Int}(hx:a.eval x= .slice (some ⟨b,p,none⟩) n c)(hi:a.eval ix= .int k z)(hz:Hid (z=(i:Int))){e:TypeId}{zl:List Value}{s by':Nat}[h:Si P t e zl s by'](hq:p+i*s=q:=by omega)(h1:i<n:=by omega):(execOp a.eval o).run P w= .ok (.value (.pointer (some ⟨b,q,none⟩))) w:=by
 rw[hz.out]at hi;rw[←hq];exact zcI ho hx hi h.h yb yb
def zcd{t:TypeId}{x:Operand}(ho:o.op= .load t x){ad:Addr}{v:Value}(hx:a.eval x= .pointer (some ad))[s:Sc P t](hc:w.cell? ad=some v):(execOp a.eval o).run P w= .ok (.value v) w:=zcP ho hx s.h hc
end
def zd5(s:List UInt8)(out:List (List UInt8))(f i:Nat):Prop:=(i≤s.length∧f≤i∧zcx s out f i)∨(i=s.length+1∧zE s=out)
def znj(w:World)(s:List UInt8)(hs:s.length≤2000000){ws:List (List UInt8)}(hw:Hid (zE s=ws)):
 Calls Tryz.prog 19 #[ze s] w fun e w'=>∃v,e= .returned v∧Fr [] w w'∧w'.ownsRow w.heap.size 9 1 v ws.length (ws.map ze):=by
 have H:=(Hp.start [] w).newRow 2 (e:=9) (sz:=1)
 go_enter Tryz.func19,Tryz.ntmps19
 revert H;refine W93 ?_;intro H _ _ _
 go_loopw [3,4,5] (fun s3 s4 s5 wr=>∃(out:List (List UInt8)) (f i n:Nat) (p:Option Addr) (c:Nat) (S0:List Nat) (cs:List Value),s3= .slice p n c∧s4= .int .i64 (f:Int)∧s5= .int .i64 (i:Int)∧i≤s.length+1∧n≤i∧Hid (zd5 s out f i)∧Hid (out.length=n)∧Hid (cs=out.map ze)∧Hp [] w wr [.obj 2 S0 (RowAt 9 1 (.slice p n c) n cs S0)]) (fun _ _ v _=>s.length+2-(intOf v).toNat)
 case atStart=>exact⟨[],0,0,0,none,0,[],[],rfl,rfl,rfl,by omega,by omega,hid (.inl ⟨by omega,by omega,zkJ s⟩),hid rfl,hid rfl,H⟩
 case round=>
  clear H;obtain⟨out,f,i,n,p,c,S0,cs,rfl,rfl,rfl,hi,hn,HW,HL,HC,H⟩:=hrel
  by_cases hlt:i≤s.length
  ·have hWA:=HW.out.resolve_right (fun h=>by omega);have hfi:=hWA.2.1;have HWA:=hid hWA.2.2;clear hWA HW
   by_cases hli:i<s.length
   ·obtain⟨b,hb⟩:∃b,s[i]? =some b:=⟨_,List.getElem?_eq_getElem hli⟩;obtain⟨m,hm⟩:∃m,b.toNat=m:=⟨_,rfl⟩;have HM:=hid hm
    by_cases hsep:m=32∨m=9
    ·have HWN:=hid (show zd5 s (out++if f<i then [mid s f i]else []) (i+1) (i+1)from .inl ⟨by omega,by omega,zpk HWA.out hb hfi (by rw[zen,hm];rcases hsep with e|e<;>subst e<;>rfl)⟩);clear HWA hm
     rcases hsep with h32|h9
     ·have h32a:32≤m:=by omega
      have h32b:m≤32:=by omega
      clear h32
      by_cases hfl:f<i
      ·have HN2:=hid (show zd5 s (out++[mid s f i]) (i+1) (i+1) by have:=HWN.out;rwa [if_pos hfl]at this);have HC2:=hid (show cs++[ze (mid s f i)]=(out++[mid s f i]).map ze by rw[List.map_append,HC.out];rfl);have HL2:=hid (show(out++[mid s f i]).length=n+1 by rw[List.length_append,HL.out];rfl);have HMD:Hid (mid s f i=mid s f i):=hid rfl;clear HWN HC HL
       go_wp2_with(first|refine x_e (zcL rfl rfl rfl hb HM) ?_|refine x_e (zhv rfl rfl rfl rfl HMD) ?_|refine x_e (z6 rfl rfl) ?_|refine x_q H ?_|refine x_l H ?_|(refine zbI (b:= .append) rfl ?_;go_loud (refine zaB rfl (fun K hK=>zaN H rfl rfl rfl 2 (H.rd (b:=g0) (off:=0) (vs:=[ze (mid s f i)]) List.prefix_rfl) rfl ys yb yk (fun p1 c1 w1 S' hf H1=>hK _ _ ?_)));(clear hK K);(clear H;have H:=H1;clear H1;(try dsimp only at H);(first|replace hf:=hf.kp|clear hf));(simp only[nrm,↓reduceIte,Nat.reduceAdd]))|refine zm ?_ ?_<;>intro h|(revert H;(first|(refine x_g ?_;(first|(have hh:=g0;clear hh;intro g1 w1 hg hf H)|intro g0 w1 hg hf H);(first|replace hf:=hf.kp|clear hf))|(refine x_s ?_;intro w1 hf H;(first|replace hf:=hf.kp|clear hf))|(refine zau ?_;intro w1 hf H hk;clear hf hk))))
       all_goals
        go_roundw
        case rel=>exact⟨_,i+1,i+1,n+1,_,_,S',_,rfl,congrArg (Value.int .i64) yb,congrArg (Value.int .i64) yb,by omega,by omega,HN2,HL2,HC2,H.sub yd⟩
        case measure=>(simp[intOf];try omega)
      ·have HN2:=hid (show zd5 s out (i+1) (i+1) by have:=HWN.out;rwa [if_neg hfl,List.append_nil]at this);clear HWN
       go_wp2_with(first|refine x_e (zcL rfl rfl rfl hb HM) ?_|refine x_e (z6 rfl rfl) ?_|refine x_q H ?_|refine x_l H ?_|refine zm ?_ ?_<;>intro h|(revert H;(first|(refine x_g ?_;(first|(have hh:=g0;clear hh;intro g1 w1 hg hf H)|intro g0 w1 hg hf H);(first|replace hf:=hf.kp|clear hf))|(refine x_s ?_;intro w1 hf H;(first|replace hf:=hf.kp|clear hf))|(refine zau ?_;intro w1 hf H hk;clear hf hk))))
       all_goals
        go_roundw
        case rel=>exact⟨out,i+1,i+1,n,p,c,S0,cs,rfl,congrArg (Value.int .i64) yb,congrArg (Value.int .i64) yb,by omega,by omega,HN2,HL,HC,H⟩
        case measure=>(simp[intOf];try omega)
     ·have h9a:9≤m:=by omega
      have h9b:m≤9:=by omega
      clear h9
      by_cases hfl:f<i
      ·have HN2:=hid (show zd5 s (out++[mid s f i]) (i+1) (i+1) by have:=HWN.out;rwa [if_pos hfl]at this);have HC2:=hid (show cs++[ze (mid s f i)]=(out++[mid s f i]).map ze by rw[List.map_append,HC.out];rfl);have HL2:=hid (show(out++[mid s f i]).length=n+1 by rw[List.length_append,HL.out];rfl);have HMD:Hid (mid s f i=mid s f i):=hid rfl;clear HWN HC HL
       go_wp2_with(first|refine x_e (zcL rfl rfl rfl hb HM) ?_|refine x_e (zhv rfl rfl rfl rfl HMD) ?_|refine x_e (z6 rfl rfl) ?_|refine x_q H ?_|refine x_l H ?_|(refine zbI (b:= .append) rfl ?_;go_loud (refine zaB rfl (fun K hK=>zaN H rfl rfl rfl 2 (H.rd (b:=g0) (off:=0) (vs:=[ze (mid s f i)]) List.prefix_rfl) rfl ys yb yk (fun p1 c1 w1 S' hf H1=>hK _ _ ?_)));(clear hK K);(clear H;have H:=H1;clear H1;(try dsimp only at H);(first|replace hf:=hf.kp|clear hf));(simp only[nrm,↓reduceIte,Nat.reduceAdd]))|refine zm ?_ ?_<;>intro h|(revert H;(first|(refine x_g ?_;(first|(have hh:=g0;clear hh;intro g1 w1 hg hf H)|intro g0 w1 hg hf H);(first|replace hf:=hf.kp|clear hf))|(refine x_s ?_;intro w1 hf H;(first|replace hf:=hf.kp|clear hf))|(refine zau ?_;intro w1 hf H hk;clear hf hk))))
       all_goals
        go_roundw
        case rel=>exact⟨_,i+1,i+1,n+1,_,_,S',_,rfl,congrArg (Value.int .i64) yb,congrArg (Value.int .i64) yb,by omega,by omega,HN2,HL2,HC2,H.sub yd⟩
        case measure=>(simp[intOf];try omega)
      ·have HN2:=hid (show zd5 s out (i+1) (i+1) by have:=HWN.out;rwa [if_neg hfl,List.append_nil]at this);clear HWN
       go_wp2_with(first|refine x_e (zcL rfl rfl rfl hb HM) ?_|refine x_e (z6 rfl rfl) ?_|refine x_q H ?_|refine x_l H ?_|refine zm ?_ ?_<;>intro h|(revert H;(first|(refine x_g ?_;(first|(have hh:=g0;clear hh;intro g1 w1 hg hf H)|intro g0 w1 hg hf H);(first|replace hf:=hf.kp|clear hf))|(refine x_s ?_;intro w1 hf H;(first|replace hf:=hf.kp|clear hf))|(refine zau ?_;intro w1 hf H hk;clear hf hk))))
       all_goals
        go_roundw
        case rel=>exact⟨out,i+1,i+1,n,p,c,S0,cs,rfl,congrArg (Value.int .i64) yb,congrArg (Value.int .i64) yb,by omega,by omega,HN2,HL,HC,H⟩
        case measure=>(simp[intOf];try omega)
    ·have hn32:m≠32:=fun e=>hsep (.inl e)
     have hn9:m≠9:=fun e=>hsep (.inr e)
     have HWN:=hid (show zd5 s out f (i+1)from .inl ⟨by omega,by omega,zma HWA.out hb hfi (by rw[zen,hm];simp[hn32,hn9])⟩);clear HWA hm hsep
     go_wp2_with(first|refine x_e (zcL rfl rfl rfl hb HM) ?_|refine x_e (z6 rfl rfl) ?_|refine x_q H ?_|refine x_l H ?_|refine zm ?_ ?_<;>intro h|(revert H;(first|(refine x_g ?_;(first|(have hh:=g0;clear hh;intro g1 w1 hg hf H)|intro g0 w1 hg hf H);(first|replace hf:=hf.kp|clear hf))|(refine x_s ?_;intro w1 hf H;(first|replace hf:=hf.kp|clear hf))|(refine zau ?_;intro w1 hf H hk;clear hf hk))))
     all_goals
      go_roundw
      case rel=>exact⟨out,f,i+1,n,p,c,S0,cs,rfl,rfl,congrArg (Value.int .i64) yb,by omega,by omega,HWN,HL,HC,H⟩
      case measure=>(simp[intOf];try omega)
   ·have hie:i=s.length:=by omega
    have HWN:=hid (show zd5 s (out++if f<i then [mid s f i]else []) (i+1) (i+1)from .inr ⟨by omega,by
     have h:=HWA.out;rw[hie]at h ⊢
     exact znX h yb⟩)
    clear HWA hie
    by_cases hfl:f<i
    ·have HN2:=hid (show zd5 s (out++[mid s f i]) (i+1) (i+1) by have:=HWN.out;rwa [if_pos hfl]at this);have HC2:=hid (show cs++[ze (mid s f i)]=(out++[mid s f i]).map ze by rw[List.map_append,HC.out];rfl);have HL2:=hid (show(out++[mid s f i]).length=n+1 by rw[List.length_append,HL.out];rfl);have HMD:Hid (mid s f i=mid s f i):=hid rfl;clear HWN HC HL
     go_wp2_with(first|refine x_e (zhv rfl rfl rfl rfl HMD) ?_|refine x_e (z6 rfl rfl) ?_|refine x_q H ?_|refine x_l H ?_|(refine zbI (b:= .append) rfl ?_;go_loud (refine zaB rfl (fun K hK=>zaN H rfl rfl rfl 2 (H.rd (b:=g0) (off:=0) (vs:=[ze (mid s f i)]) List.prefix_rfl) rfl ys yb yk (fun p1 c1 w1 S' hf H1=>hK _ _ ?_)));(clear hK K);(clear H;have H:=H1;clear H1;(try dsimp only at H);(first|replace hf:=hf.kp|clear hf));(simp only[nrm,↓reduceIte,Nat.reduceAdd]))|refine zm ?_ ?_<;>intro h|(revert H;(first|(refine x_g ?_;(first|(have hh:=g0;clear hh;intro g1 w1 hg hf H)|intro g0 w1 hg hf H);(first|replace hf:=hf.kp|clear hf))|(refine x_s ?_;intro w1 hf H;(first|replace hf:=hf.kp|clear hf))|(refine zau ?_;intro w1 hf H hk;clear hf hk))))
     all_goals
      go_roundw
      case rel=>exact⟨_,i+1,i+1,n+1,_,_,S',_,rfl,congrArg (Value.int .i64) yb,congrArg (Value.int .i64) yb,by omega,by omega,HN2,HL2,HC2,H.sub yd⟩
      case measure=>(simp[intOf];try omega)
    ·have HN2:=hid (show zd5 s out (i+1) (i+1) by have:=HWN.out;rwa [if_neg hfl,List.append_nil]at this);clear HWN
     go_wp2_with(first|refine x_e (z6 rfl rfl) ?_|refine x_q H ?_|refine x_l H ?_|refine zm ?_ ?_<;>intro h|(revert H;(first|(refine x_g ?_;(first|(have hh:=g0;clear hh;intro g1 w1 hg hf H)|intro g0 w1 hg hf H);(first|replace hf:=hf.kp|clear hf))|(refine x_s ?_;intro w1 hf H;(first|replace hf:=hf.kp|clear hf))|(refine zau ?_;intro w1 hf H hk;clear hf hk))))
     all_goals
      go_roundw
      case rel=>exact⟨out,i+1,i+1,n,p,c,S0,cs,rfl,congrArg (Value.int .i64) yb,congrArg (Value.int .i64) yb,by omega,by omega,HN2,HL,HC,H⟩
      case measure=>(simp[intOf];try omega)
  ·have hE:=HW.out.resolve_left (fun h=>hlt h.1);have HE:=hid hE.2;clear HW hE;revert H;refine W93 ?_;intro H _ _ _
   go_ret
   have hr:=H.rowo 2;have e1:out=ws:=by rw[←HE.out,hw.out]
   rw[HC.out,e1]at hr;have e2:n=ws.length:=by rw[←HL.out,e1]
   subst e2;exact⟨_,rfl,H.fr,hr.owns (fun x hx=>(H.home 2 x hx).resolve_left yg)⟩
end
end Go.Proofs.YtaijhllckmndhaaGreatDoor
