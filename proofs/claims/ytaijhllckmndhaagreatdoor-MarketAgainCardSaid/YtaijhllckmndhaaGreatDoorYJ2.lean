import Derived.Test.YtaijhllckmndhaaGreatDoorYJ0
import Derived.Test.YtaijhllckmndhaaGreatDoorYJ1
namespace Go.Proofs.YtaijhllckmndhaaGreatDoor
set_option linter.all false
set_option maxHeartbeats 64000000
set_option maxRecDepth 100000
section
open Go.RowKit
section
variable {P:Program} {ops:Array Oper} {Q:Exit→Act→World→Prop} {a:Act} {w w0:World} {rest:List Oper} {o:Oper} {K:Act→World→Prop} {T:List Nat} {l:List Ent}
def zlH(hw:Region.wanted o (yielded ops a.tmps)=true){v:Value}(he:(execOp a.eval o).run P w= .ok (.value v) w)(h:wpList P ops Q rest (a.put o.dst v) w):wpList P ops Q (o::rest) a w:=
 wpList_step fun K hK=>by rw[if_pos hw];exact zU he (hK _ _ h)
def zaB(hw:Region.wanted o (yielded ops a.tmps)=true)(h:∀K:Act→World→Prop,(∀a w,wpList P ops Q rest a w→K a w)→o.wp P a w K Q):wpList P ops Q (o::rest) a w:=
 wpList_step fun K hK=>by rw[if_pos hw];exact h K hK
section
variable {lo:List Oper}
def zuY{S:World→Prop}{f i:Nat}{k:Plan}(hi:lo[i]? =some o)(hw:Region.wanted o (yielded lo.toArray a.tmps)=true){v:Value}(he:∀w,S w→(execOp a.eval o).run P w= .ok (.value v) w)(h:k.wp P lo.toArray Q S f (a.put o.dst v) w):Plan.wp P lo.toArray Q S f (.st i k) a w:=
 ⟨o,v,by simpa using hi, .inl ⟨hw,he⟩,h⟩
def zuE{S:World→Prop}{f i:Nat}{k:Plan}(hi:lo[i]? =some o)(hw:Region.wanted o (yielded lo.toArray a.tmps)=true){v:Value}(he:∀w,True→(execOp a.eval o).run P w= .ok (.value v) w)(h:k.wp P lo.toArray Q S f (a.put o.dst v) w):Plan.wp P lo.toArray Q S f (.stf i k) a w:=
 ⟨o,v,by simpa using hi, .inl ⟨hw,he⟩,h⟩
def zu7{S:World→Prop}{f i:Nat}{k:Plan}(hi:lo[i]? =some o)(hw:Region.wanted o (yielded lo.toArray a.tmps)=false)(h:k.wp P lo.toArray Q S f (a.put o.dst undef) w):Plan.wp P lo.toArray Q S f (.st i k) a w:=
 ⟨o,undef,by simpa using hi, .inr ⟨hw,rfl⟩,h⟩
def zkt{S:World→Prop}{f i:Nat}{k:Plan}(hi:lo[i]? =some o)(hw:Region.wanted o (yielded lo.toArray a.tmps)=true)(h:∀K:Act→World→Prop,(∀a w,k.wp P lo.toArray Q (fun _=>True) lo.toArray.size a w→K a w)→o.wp P a w K Q):Plan.wp P lo.toArray Q S f (.ldf i k) a w:=by
 unfold Plan.wp wpOp;have hi':lo.toArray[i]? =some o:=by simpa using hi
 simp only[hi',hw,if_true];exact .inl (h _ (fun _ _ h1=>h1))
def zag{S:World→Prop}{f i:Nat}{k:Plan}(hi:lo[i]? =some o)(hw:Region.wanted o (yielded lo.toArray a.tmps)=true)(h:∀K:Act→World→Prop,(∀a w,(i≠f→S w)→k.wp P lo.toArray Q S f a w→K a w)→o.wp P a w K Q):Plan.wp P lo.toArray Q S f (.ld i k) a w:=by
 unfold Plan.wp wpOp;have hi':lo.toArray[i]? =some o:=by simpa using hi
 simp only[hi',hw,if_true];exact .inl (h _ (fun _ _ h1 h2=>⟨h1,h2⟩))
end
def zdq{f:FuncId}{al:List Operand}{ats:Array TypeId}(ho:o.op= .call {callee:= .value (.func f),args:=al.toArray,argTypes:=ats}){fn:Func}(hf:P.funcs[f]? =some fn)(hn:(fn.name== "runtime.NumGoroutine")=false)(hb:fn.body.isNone=false)
 {R:Ending→World→Prop} (hc:Calls P f (al.map a.eval).toArray w R) (h:∀e w',R e w'→∃v,e= .returned v∧K (a.put o.dst v) w'):o.wp P a w K Q:=by
 have e1:al.toArray.map a.eval=(al.map a.eval).toArray:=by simp
 unfold Oper.wp execOp;simp only[ho,resolve,Deferred.ofValue,invoke,callFunc,Sem.run_bind,Sem.run_pure,Result.andThen_ok,run_program,hf,hn,hb,Bool.false_eq_true,if_false,Oper.upon,Array.append_empty,Array.empty_append,e1,show a.eval (.func f)= .func (.func f) #[] #[]from rfl];refine Calls.mono hc (fun e w' hR=>?_);obtain⟨v,rfl,hk⟩:=h e w' hR;exact hk
def zcf{t:TypeId}{n:Nat}{ps:Array (Nat×Operand)}(_ho:o.op= .buildSlice t n ps)(h:wpList P ops Q (o::rest) a w):wpList P ops Q (o::rest) a w:=h
def zbI{b:Builtin}{xs:Array Operand}{ts:Array TypeId}(_ho:o.op= .call {callee:= .builtin b,args:=xs,argTypes:=ts})(h:wpList P ops Q (o::rest) a w):wpList P ops Q (o::rest) a w:=h
def zfM{x:Operand}(ho:o.op= .move x):(execOp a.eval o).run P w= .ok (.value (a.eval x)) w:=by unfold execOp;simp[ho]
def zh4{x:Operand}(ho:o.op= .assign x):(execOp a.eval o).run P w= .ok (.value (a.eval x)) w:=by unfold execOp;simp[ho]
def zlf{c x y:Operand}(ho:o.op= .pick c x y){t:Bool}(hc:a.eval c= .bool t):(execOp a.eval o).run P w= .ok (.value (if t then a.eval x else a.eval y)) w:=by
 unfold execOp;simp[ho,hc,asBool]
def zjv{c x y:Operand}(ho:o.op= .pick c x y)(hc:a.eval c= .bool true):(execOp a.eval o).run P w= .ok (.value (a.eval x)) w:=by rw[zlf ho hc];rfl
def zi5{c x y:Operand}(ho:o.op= .pick c x y)(hc:a.eval c= .bool false):(execOp a.eval o).run P w= .ok (.value (a.eval y)) w:=by rw[zlf ho hc];rfl
def zfZ{x:Operand}(ho:o.op= .nilCheck x){ad:Addr}(hx:a.eval x= .pointer (some ad)):(execOp a.eval o).run P w= .ok (.value (.pointer (some ad))) w:=by
 unfold execOp;simp[ho,hx]
section
variable {L:List Value} {ds:List Deferred}
def zja{n:Nat}(ho:o.op= .move (.tmp n)){v:Value}(hl:L[n]? =some v):(execOp (Act.mk L.toArray ds).eval o).run P w= .ok (.value v) w:=by
 rw[zfM ho];simp[Act.eval,hl]
def zjA{v:Value}(ho:o.op= .move (.const v)):(execOp a.eval o).run P w= .ok (.value v) w:=by rw[zfM ho];rfl
def zjc{g:Nat}(ho:o.op= .move (.global g)):(execOp a.eval o).run P w= .ok (.value (.pointer (some ⟨g,0,none⟩))) w:=by rw[zfM ho];rfl
def zjP{g:Nat}(ho:o.op= .move (.func g)):(execOp a.eval o).run P w= .ok (.value (.func (.func g) #[] #[])) w:=by rw[zfM ho];rfl
def zhi{n:Nat}(ho:o.op= .assign (.tmp n)){v:Value}(hl:L[n]? =some v):(execOp (Act.mk L.toArray ds).eval o).run P w= .ok (.value v) w:=by
 rw[zh4 ho];simp[Act.eval,hl]
def zgU{v:Value}(ho:o.op= .assign (.const v)):(execOp a.eval o).run P w= .ok (.value v) w:=by rw[zh4 ho];rfl
def znr{c y:Operand}{v:Value}(ho:o.op= .pick c (.const v) y)(hc:a.eval c= .bool true):(execOp a.eval o).run P w= .ok (.value v) w:=by rw[zjv ho hc];rfl
def zoM{c x:Operand}{v:Value}(ho:o.op= .pick c x (.const v))(hc:a.eval c= .bool false):(execOp a.eval o).run P w= .ok (.value v) w:=by rw[zi5 ho hc];rfl
def znQ{c y:Operand}{n:Nat}(ho:o.op= .pick c (.tmp n) y)(hc:(Act.mk L.toArray ds).eval c= .bool true){v:Value}(hl:L[n]? =some v):(execOp (Act.mk L.toArray ds).eval o).run P w= .ok (.value v) w:=by rw[zjv ho hc];simp[Act.eval,hl]
def zoq{c x:Operand}{n:Nat}(ho:o.op= .pick c x (.tmp n))(hc:(Act.mk L.toArray ds).eval c= .bool false){v:Value}(hl:L[n]? =some v):(execOp (Act.mk L.toArray ds).eval o).run P w= .ok (.value v) w:=by rw[zi5 ho hc];simp[Act.eval,hl]
end
def fo(P:Program)(s:TypeId)(f:Nat):Option Nat:=match P.underlying s with
 | some (.struct fs)=>(fs[f]?).bind fun d=>(P.info? d.type).bind fun i=>if i.size=0 then none else some d.offset
 | _=>none
def zkO{s:TypeId}{ad:Addr}{f off:Nat}(h:fo P s f=some off):(Instr.fieldAt s (.pointer (some ad)) f).run P w= .ok (.pointer (some (ad.add off))) w:=by
 unfold fo at h
 cases hu:P.underlying s with
 | none=>simp[hu]at h
 | some d=>
  cases d<;>simp only[hu]at h<;>try contradiction
  case struct fs=>
   cases hf:fs[f]? with
   | none=>simp[hf]at h
   | some d=>
    cases hi:P.info? d.type with
    | none=>simp[hf,hi]at h
    | some i=>
     by_cases hz:i.size=0
     ·simp[hf,hi,hz]at h
     ·simp[hf,hi,hz]at h
      simp[Instr.fieldAt,run_underlying hu,hf,Instr.sureAddr,fieldPlace,sizeOf,typeInfo,hi,hz,h]
def zfA{s:TypeId}{x:Operand}{f:Nat}(ho:o.op= .fieldAddr s x f){b p off:Nat}(hx:a.eval x= .pointer (some ⟨b,p,none⟩))(h:fo P s f=some off):
 (execOp a.eval o).run P w= .ok (.value (.pointer (some ⟨b,p+off,none⟩))) w:=by
 unfold execOp;simp only[ho,hx,Sem.run_bind,zkO h,zaL,Result.andThen_ok,Sem.run_pure]
def ziS{s:TypeId}{x:Operand}{f:Nat}(ho:o.op= .fieldAddr s x f){b p q off:Nat}(hx:a.eval x= .pointer (some ⟨b,p+q,none⟩))(h:fo P s f=some off):
 (execOp a.eval o).run P w= .ok (.value (.pointer (some ⟨b,p+(q+off),none⟩))) w:=by
 rw[←Nat.add_assoc];exact zfA ho hx h
def si(P:Program)(t:TypeId):Option (TypeId×List Value×Nat×Nat):=match P.underlying t with
 | some (.slice e)=>(P.info? e).bind fun i=>i.zero.map fun z=>(e,z.cells.toList,i.size,i.bytes)
 | _=>none
def zaW{t e:TypeId}{z:List Value}{s n:Nat}(h:si P t=some (e,z,s,n)):P.underlying t=some (.slice e)∧∃i zv,P.info? e=some i∧i.zero=some zv∧zv.cells=z.toArray∧i.size=s∧i.bytes=n:=by
 unfold si at h
 cases hu:P.underlying t with
 | none=>simp[hu]at h
 | some d=>
  cases d<;>simp only[hu]at h<;>try contradiction
  case slice e'=>
   cases hi:P.info? e' with
   | none=>simp[hi]at h
   | some i=>
    cases hz:i.zero with
    | none=>simp[hi,hz]at h
    | some zv=>
     simp[hi,hz]at h
     obtain⟨rfl,rfl,rfl,rfl⟩:=h;exact⟨rfl,i,zv,hi,hz,by simp,rfl,rfl⟩
def ti(P:Program)(t:TypeId):Option (List Value×Nat):=(P.info? t).bind fun i=>i.zero.map fun z=>(z.cells.toList,i.size)
def zlw{t:TypeId}{z:List Value}{s:Nat}(h:ti P t=some (z,s)):∃i zv,P.info? t=some i∧i.zero=some zv∧zv.cells=z.toArray∧i.size=s:=by
 unfold ti at h
 cases hi:P.info? t with
 | none=>simp[hi]at h
 | some i=>
  cases hz:i.zero with
  | none=>simp[hi,hz]at h
  | some zv=>simp[hi,hz]at h;obtain⟨rfl,rfl⟩:=h;exact⟨i,zv,rfl,hz,by simp,rfl⟩
def zcI{t:TypeId}{x ix:Operand}(ho:o.op= .indexAddr t x ix){b p n c:Nat}{k:IntKind}{i:Int}(hx:a.eval x= .slice (some ⟨b,p,none⟩) n c)(hi:a.eval ix= .int k i){e:TypeId}{z:List Value}{s by':Nat}(hs:si P t=some (e,z,s,by'))(h0:0≤i)(h1:i<n):
 (execOp a.eval o).run P w= .ok (.value (.pointer (some ⟨b,p+i.toNat*s,none⟩))) w:=by
 obtain⟨hu,ti,zv,h2,h3,h4,rfl,rfl⟩:=zaW hs;unfold execOp;simp only[ho,hx,hi,Instr.indexAt,Sem.run_bind,asIntOf,Sem.run_pure,Result.andThen_ok,run_underlying hu];rw[if_pos ⟨h0,h1⟩]
 simp[sizeOf,typeInfo,h2,zaL]
def zuz{x:Operand}{t:TypeId}(ho:o.op= .call {callee:= .builtin .len,args:=#[x],argTypes:=#[t]}){p:Option Addr}{n c:Nat}(hx:a.eval x= .slice p n c){e:TypeId}(hs:P.underlying t=some (.slice e)):
 (execOp a.eval o).run P w= .ok (.value (.int .i64 n)) w:=by
 unfold execOp;simp[ho,hx,resolve,invoke,builtin,Builtin.len_,run_underlying hs,goInt]
def ztl{x:Operand}{t:TypeId}(ho:o.op= .call {callee:= .builtin .len,args:=#[x],argTypes:=#[t]}){s:ByteArray}(hx:a.eval x= .string s)(hs:P.underlying t=some .string):
 (execOp a.eval o).run P w= .ok (.value (.int .i64 s.size)) w:=by
 unfold execOp;simp[ho,hx,resolve,invoke,builtin,Builtin.len_,run_underlying hs,goInt]
def inr:IntKind→Int→Prop
 | .i64,z=> -9223372036854775808≤z∧z≤9223372036854775807
 | .u64,z=>0≤z∧z≤18446744073709551615
 | .i32,z=> -2147483648≤z∧z≤2147483647
 | .u32,z=>0≤z∧z≤4294967295
 | .i16,z=> -32768≤z∧z≤32767
 | .u16,z=>0≤z∧z≤65535
 | .i8,z=> -128≤z∧z≤127
 | .u8,z=>0≤z∧z≤255
def zX{k:IntKind}{z:Int}(h:inr k z):k.wrap z=z:=by
 cases k<;>simp only[inr]at h<;>simp only[IntKind.wrap,IntKind.bits,IntKind.signed]<;>simp<;>omega
def za1{op:BinOp}{t t':TypeId}{x y:Operand}(ho:o.op= .binOp op t x y t'){k:IntKind}{m n:Int}(hx:a.eval x= .int k m)(hy:a.eval y= .int k n){v:Value}(hv:∀w,(binOp op t (.int k m) (.int k n)).run P w= .ok v w):
 (execOp a.eval o).run P w= .ok (.value v) w:=by
 have e:(eqGuard op t x y (.int k m) (.int k n)).run P w= .ok () w:=by
  unfold eqGuard;cases op<;>simp
 unfold execOp;simp[ho,hx,hy,e,hv]
def ztp{t t':TypeId}{x y:Operand}(ho:o.op= .binOp .add t x y t'){k:IntKind}{m n:Int}(hx:a.eval x= .int k m)(hy:a.eval y= .int k n):(execOp a.eval o).run P w= .ok (.value (.int k (k.wrap (m+n)))) w:=
 za1 ho hx hy (fun w=>by simp[binOp,Op.intArith])
def zlF{t t':TypeId}{x y:Operand}(ho:o.op= .binOp .sub t x y t'){k:IntKind}{m n:Int}(hx:a.eval x= .int k m)(hy:a.eval y= .int k n):(execOp a.eval o).run P w= .ok (.value (.int k (k.wrap (m-n)))) w:=
 za1 ho hx hy (fun w=>by simp[binOp,Op.intArith])
def zsp{t t':TypeId}{x y:Operand}(ho:o.op= .binOp .mul t x y t'){k:IntKind}{m n:Int}(hx:a.eval x= .int k m)(hy:a.eval y= .int k n):(execOp a.eval o).run P w= .ok (.value (.int k (k.wrap (m*n)))) w:=
 za1 ho hx hy (fun w=>by simp[binOp,Op.intArith])
def zkw{t t':TypeId}{x y:Operand}(ho:o.op= .binOp .add t x y t'){k:IntKind}{m n:Int}(hx:a.eval x= .int k m)(hy:a.eval y= .int k n)(h:inr k (m+n)):(execOp a.eval o).run P w= .ok (.value (.int k (m+n))) w:=by
 rw[ztp ho hx hy,zX h]
def zjx{t t':TypeId}{x y:Operand}(ho:o.op= .binOp .sub t x y t'){k:IntKind}{m n:Int}(hx:a.eval x= .int k m)(hy:a.eval y= .int k n)(h:inr k (m-n)):(execOp a.eval o).run P w= .ok (.value (.int k (m-n))) w:=by
 rw[zlF ho hx hy,zX h]
def zt7{t t':TypeId}{x y:Operand}(ho:o.op= .binOp .mul t x y t'){k:IntKind}{m n:Int}(hx:a.eval x= .int k m)(hy:a.eval y= .int k n)(h:inr k (m*n)):(execOp a.eval o).run P w= .ok (.value (.int k (m*n))) w:=by
 rw[zsp ho hx hy,zX h]
def zj8{t t':TypeId}{x y:Operand}(ho:o.op= .binOp .quo t x y t'){k:IntKind}{m n:Int}(hx:a.eval x= .int k m)(hy:a.eval y= .int k n)(h0:0≤m:=by omega)(h1:0<n:=by omega)(h:inr k (m/n):=by simp only[inr];omega):(execOp a.eval o).run P w= .ok (.value (.int k (m/n))) w:=
 za1 ho hx hy (fun w=>by
  have hn:n≠0:=by omega
  simp[binOp,Op.intDiv,hn,Int.tdiv_eq_ediv_of_nonneg h0,zX h])
def zpi{t t':TypeId}{x y:Operand}(ho:o.op= .binOp .rem t x y t'){k:IntKind}{m n:Int}(hx:a.eval x= .int k m)(hy:a.eval y= .int k n)(h0:0≤m:=by omega)(h1:0<n:=by omega):(execOp a.eval o).run P w= .ok (.value (.int k (m%n))) w:=
 za1 ho hx hy (fun w=>by
  have hn:n≠0:=by omega
  simp[binOp,Op.intDiv,hn,Int.tmod_eq_emod_of_nonneg h0])
def zbt:BinOp→Int→Int→Prop
 | .lss,x,y=>x<y
 | .leq,x,y=>x≤y
 | .gtr,x,y=>y<x
 | .geq,x,y=>y≤x
 | .eql,x,y=>x=y
 | .neq,x,y=>x≠y
 | _,_,_=>False
def zew:BinOp→Bool
 | .lss| .leq| .gtr| .geq| .eql| .neq=>true
 | _=>false
def zei{op:BinOp}{t t':TypeId}{x y:Operand}(ho:o.op= .binOp op t x y t'){k:IntKind}{m n:Int}(hx:a.eval x= .int k m)(hy:a.eval y= .int k n)(hc:zew op=true)(h:zbt op m n:=by first|(simp only[zbt];omega)|(simp only[zbt];done)|fail):(execOp a.eval o).run P w= .ok (.value (.bool true)) w:=
 za1 ho hx hy (fun w=>by cases op<;>simp[zew]at hc<;>simp only[zbt]at h<;>simp[binOp,Op.intCmp,h])
def zbM{op:BinOp}{t t':TypeId}{x y:Operand}(ho:o.op= .binOp op t x y t'){k:IntKind}{m n:Int}(hx:a.eval x= .int k m)(hy:a.eval y= .int k n)(hc:zew op=true)(h:¬zbt op m n:=by first|(simp only[zbt];omega)|(simp only[zbt];done)|fail):(execOp a.eval o).run P w= .ok (.value (.bool false)) w:=
 za1 ho hx hy (fun w=>by cases op<;>simp[zew]at hc<;>simp only[zbt]at h<;>simp[binOp,Op.intCmp]<;>omega)
def zuL(hw:Region.wanted o (yielded ops a.tmps)=true){op:BinOp}{t t':TypeId}{x y:Operand}(ho:o.op= .binOp op t x y t'){k:IntKind}{m n:Int}(hx:a.eval x= .int k m)(hy:a.eval y= .int k n)(hc:zew op=true)
 (h1:zbt op m n→wpList P ops Q rest (a.put o.dst (.bool true)) w) (h0:¬zbt op m n→wpList P ops Q rest (a.put o.dst (.bool false)) w):wpList P ops Q (o::rest) a w:=by
 by_cases h:zbt op m n
 ·exact zlH hw (zei ho hx hy hc h) (h1 h)
 ·exact zlH hw (zbM ho hx hy hc h) (h0 h)
def zfK{s d:TypeId}{x:Operand}(ho:o.op= .convert s d x){k k':IntKind}{n:Int}(hx:a.eval x= .int k n)(hs:(P.underlying s).isSome=true)(hd:P.underlying d=some (.int k')):(execOp a.eval o).run P w= .ok (.value (.int k' (k'.wrap n))) w:=by
 obtain⟨ds,hs⟩:=Option.isSome_iff_exists.1 hs;unfold execOp;simp[ho,hx,convert,run_underlying hs,run_underlying hd,Conv.intToInt]
def zq8{s d:TypeId}{x:Operand}(ho:o.op= .convert s d x){k k':IntKind}{n:Int}(hx:a.eval x= .int k n)(hs:(P.underlying s).isSome=true)(hd:P.underlying d=some (.int k'))(h:inr k' n):(execOp a.eval o).run P w= .ok (.value (.int k' n)) w:=by
 rw[zfK ho hx hs hd,zX h]
def zmH{s d:TypeId}{x:Operand}(ho:o.op= .convert s d x){k:IntKind}{n:Int}(hx:a.eval x= .int k n)(hs:(P.underlying s).isSome=true)(hd:P.underlying d=some (.int .u64)):(execOp a.eval o).run P w= .ok (.value (.int .u64 (n%18446744073709551616))) w:=by
 rw[zfK ho hx hs hd];rfl
def zmr{s d:TypeId}{x:Operand}(ho:o.op= .convert s d x){k:IntKind}{n:Int}(hx:a.eval x= .int k n)(hs:(P.underlying s).isSome=true)(hd:P.underlying d=some (.int .u32)):(execOp a.eval o).run P w= .ok (.value (.int .u32 (n%4294967296))) w:=by
 rw[zfK ho hx hs hd];rfl
def zoG{s d:TypeId}{x:Operand}(ho:o.op= .convert s d x){k:IntKind}{n:Int}(hx:a.eval x= .int k n)(hs:(P.underlying s).isSome=true)(hd:P.underlying d=some (.int .u8)):(execOp a.eval o).run P w= .ok (.value (.int .u8 (n%256))) w:=by
 rw[zfK ho hx hs hd];rfl
def zkS{t t':TypeId}{x:Operand}(ho:o.op= .binOp .eql t x (.const (.pointer none)) t'){p:Option Addr}(hx:a.eval x= .pointer p)(hu:P.underlying t=some (.pointer (P.pointee t))):(execOp a.eval o).run P w= .ok (.value (.bool p.isNone)) w:=by
 have e:(eqGuard .eql t x (.const (.pointer none)) (.pointer p) (.pointer none)).run P w= .ok () w:=by unfold eqGuard;simp
 have hn:a.eval (.const (.pointer none))= .pointer none:=rfl;unfold execOp;simp only[ho,hx,hn,Sem.run_bind,e,Result.andThen_ok,run_eql_pointer_nil w t p hu,Sem.run_pure]
def zk8{t t':TypeId}{x:Operand}(ho:o.op= .binOp .neq t x (.const (.pointer none)) t'){p:Option Addr}(hx:a.eval x= .pointer p)(hu:P.underlying t=some (.pointer (P.pointee t))):(execOp a.eval o).run P w= .ok (.value (.bool (!p.isNone))) w:=by
 have e:(eqGuard .neq t x (.const (.pointer none)) (.pointer p) (.pointer none)).run P w= .ok () w:=by unfold eqGuard;simp
 have hn:a.eval (.const (.pointer none))= .pointer none:=rfl;unfold execOp;simp only[ho,hx,hn,Sem.run_bind,e,Result.andThen_ok,run_neq_pointer_nil w t p hu,Sem.run_pure]
def zaV{k:IntKind}{i:Int}{y:Nat}{code:BoundsCode}(h0:0≤i)(h1:i≤y):(Instr.sliceBound (.int k i) y code).run P w= .ok i.toNat w:=by
 simp[Instr.sliceBound,asIntOf,h0,h1]
def zeF{t:TypeId}{x:Operand}{lo hi:Option Operand}(ho:o.op= .slice t x lo hi none){b p n c:Nat}(hx:a.eval x= .slice (some ⟨b,p,none⟩) n c){e:TypeId}{z:List Value}{s by':Nat}(hs:si P t=some (e,z,s,by'))
 {l' h':Nat} (hlo:match lo with|none=>l'=0|some y=>∃k:IntKind,∃i:Int,a.eval y= .int k i∧0≤i∧i≤h'∧l'=i.toNat) (hhi:match hi with|none=>h'=n|some y=>∃k:IntKind,∃i:Int,a.eval y= .int k i∧0≤i∧i≤c∧h'=i.toNat):
 (execOp a.eval o).run P w= .ok (.value (.slice (some (if c=l' then⟨b,p,none⟩else⟨b,p+l'*s,none⟩)) (h'-l') (c-l'))) w:=by
 obtain⟨hu,ti,zv,h2,h3,h4,rfl,rfl⟩:=zaW hs;unfold execOp
 have key:(Instr.sliceBounds true n c (lo.map a.eval) (hi.map a.eval) none).run P w= .ok (l',h',c) w:=by
  cases hi with
  | none=>
   subst hhi
   cases lo with
   | none=>subst hlo;simp[Instr.sliceBounds]
   | some y=>obtain⟨k,i,e1,e2,e3,rfl⟩:=hlo;simp[Instr.sliceBounds,e1,zaV e2 e3]
  | some y'=>
   obtain⟨k',i',e1',e2',e3',rfl⟩:=hhi
   cases lo with
   | none=>subst hlo;simp[Instr.sliceBounds,e1',zaV e2' e3']
   | some y=>obtain⟨k,i,e1,e2,e3,rfl⟩:=hlo;simp[Instr.sliceBounds,e1,e1',zaV e2' e3',zaV e2 e3]
 simp only[ho,hx,Instr.sliceAt,Instr.slice,Sem.run_bind,run_underlying hu,Result.andThen_ok,Option.map_none,key,sizeOf,typeInfo,run_program,h2,Sem.run_pure,Option.map_some,zaL]
 split<;>rfl
def zf5{t:TypeId}{x:Operand}{lo hi:Option Operand}(ho:o.op= .slice t x lo hi none){b p n:Nat}(hx:a.eval x= .pointer (some ⟨b,p,none⟩)){e:TypeId}{z:List Value}{s:Nat}(hu:P.underlying t=some (.array n e))(hs:ti P e=some (z,s))
 {l' h':Nat} (hlo:match lo with|none=>l'=0|some y=>∃k:IntKind,∃i:Int,a.eval y= .int k i∧0≤i∧i≤h'∧l'=i.toNat) (hhi:match hi with|none=>h'=n|some y=>∃k:IntKind,∃i:Int,a.eval y= .int k i∧0≤i∧i≤n∧h'=i.toNat):
 (execOp a.eval o).run P w= .ok (.value (.slice (some (if n=l' then⟨b,p,none⟩else⟨b,p+l'*s,none⟩)) (h'-l') (n-l'))) w:=by
 obtain⟨i,zv,h2,h3,h4,rfl⟩:=zlw hs;unfold execOp
 have key:(Instr.sliceBounds false n n (lo.map a.eval) (hi.map a.eval) none).run P w= .ok (l',h',n) w:=by
  cases hi with
  | none=>
   subst hhi
   cases lo with
   | none=>subst hlo;simp[Instr.sliceBounds]
   | some y=>obtain⟨k,i,e1,e2,e3,rfl⟩:=hlo;simp[Instr.sliceBounds,e1,zaV e2 e3]
  | some y'=>
   obtain⟨k',i',e1',e2',e3',rfl⟩:=hhi
   cases lo with
   | none=>subst hlo;simp[Instr.sliceBounds,e1',zaV e2' e3']
   | some y=>obtain⟨k,i,e1,e2,e3,rfl⟩:=hlo;simp[Instr.sliceBounds,e1,e1',zaV e2' e3',zaV e2 e3]
 simp only[ho,hx,Instr.sliceAt,Instr.sureAddr,Sem.run_bind,run_underlying hu,Result.andThen_ok,Option.map_none,key,sizeOf,typeInfo,run_program,h2,Sem.run_pure,zaL]
def Hp.owns(H:Hp T w0 w l){g:Nat}{xs pad:List Value}{e:TypeId}(hm: .blk g (xs++pad) e∈l){base n cap sz:Nat}(hb:base≤g)(hn:n≤cap)(hc:cap≤maxLen)(hl:(xs++pad).length=cap*sz)(hx:xs.length=n*sz):w.ownsRow base e sz (.slice (some ⟨g,0,none⟩) n cap) n xs:=
 ⟨hx, .inr ⟨g,cap,_,rfl,hb,H.get hm,hn,hc,by simpa using hl,by rw[←hx];simp⟩⟩
def ze(s:List UInt8):Value:= .string ⟨s.toArray⟩
def zx(s:List UInt8):List Value:=s.map fun c=> .int .u8 c.toNat
def zl2(s:List UInt8):∀r:ByteArray,s.foldl (fun r c=>r.push c) r=⟨r.data++s.toArray⟩:=by
 induction s with
 | nil=>intro r;simp
 | cons c s ih=>intro r;rw[List.foldl_cons,ih];simp[ByteArray.push]
def zkm{v:Value}{s:List UInt8}(h:Rd w v s.length (zx s)):(Conv.bytesToString v).run P w= .ok (ze s) w:=by
 rcases h with⟨h0,_,p,c,rfl⟩|⟨ad,c,rfl,h⟩
 ·have hs:s=[]:=List.eq_nil_of_length_eq_zero h0;subst hs
  cases p with
  | none=>simp[Conv.bytesToString,ze];rfl
  | some ad=>simp[Conv.bytesToString,loadCells,loadCellsFrom,ze];rfl
 ·have hl:=run_loadCells_list (P:=P) w ad (zx s) h;have hlen:(zx s).length=s.length:=by simp[zx]
  rw[hlen]at hl;have e1:zx s=(s.map fun c=>((c.toNat:Nat):Int)).map (Value.int .u8):=by simp[zx]
  rw[e1]at hl;rw[run_bytesToString w ad s.length c _ hl]
  congr 1
  unfold ze
  congr 1
  have:∀(l:List UInt8) (r:ByteArray),(l.map fun c=>((c.toNat:Nat):Int)).foldl (fun r n=>r.push (UInt8.ofNat n.toNat)) r=l.foldl (fun r c=>r.push c) r:=by
   intro l
   induction l with
   | nil=>intro r;rfl
   | cons c l ih=>intro r;simp only[List.map_cons,List.foldl_cons,Int.toNat_natCast,UInt8.ofNat_toNat];exact ih _
  rw[this,zl2]
  simp[ByteArray.empty,ByteArray.emptyWithCapacity]
  rfl
def zlb{sT dT e:TypeId}{x:Operand}(ho:o.op= .convert sT dT x){v:Value}{s:List UInt8}(hx:a.eval x=v)(h1:P.underlying sT=some (.slice e))(h2:P.underlying dT=some .string)(h3:P.underlying e=some (.int .u8))(h:Rd w v s.length (zx s)):
 (execOp a.eval o).run P w= .ok (.value (ze s)) w:=by
 obtain⟨p,n,c,hv⟩:∃p n c,v= .slice p n c:=by
  rcases h with⟨_,_,p,c,hv⟩|⟨ad,c,hv,_⟩
  ·exact⟨p,0,c,hv⟩
  ·exact⟨_,_,c,hv⟩
 subst hv;have e1:=run_convert_bytes_string (P:=P) w sT dT e p n c h1 h3 h2;unfold execOp;simp only[ho,hx,Sem.run_bind,e1,zkm h,Result.andThen_ok,Sem.run_pure]
def zkd{L:List Value}{ds:List Deferred}{sT dT e:TypeId}{k:Nat}(ho:o.op= .convert sT dT (.tmp k)){v:Value}{s:List UInt8}(hx:L[k]? =some v)(h1:P.underlying sT=some (.slice e))(h2:P.underlying dT=some .string)(h3:P.underlying e=some (.int .u8))(h:Rd w v s.length (zx s)):
 (execOp (Act.mk L.toArray ds).eval o).run P w= .ok (.value (ze s)) w:=zlb ho (by simp[Act.eval,hx]) h1 h2 h3 h
def zeV{t t':TypeId}{x y:Operand}(ho:o.op= .binOp .eql t x y t'){s r:List UInt8}(hx:a.eval x=ze s)(hy:a.eval y=ze r):(execOp a.eval o).run P w= .ok (.value (.bool (s==r))) w:=by
 unfold ze at hx hy;have e:(eqGuard .eql t x y (.string ⟨s.toArray⟩) (.string ⟨r.toArray⟩)).run P w= .ok () w:=by unfold eqGuard;simp
 have hl:∀s:List UInt8,(ByteArray.mk s.toArray).toList=s:=fun s=>Go.ByteArray.toList_eq _
 unfold execOp;simp only[ho,hx,hy,Sem.run_bind,e,Result.andThen_ok,binOp,Op.stringOp,hl,Sem.run_pure]
def zeK{t t':TypeId}{x y:Operand}(ho:o.op= .binOp .neq t x y t'){s r:List UInt8}(hx:a.eval x=ze s)(hy:a.eval y=ze r):(execOp a.eval o).run P w= .ok (.value (.bool (!(s==r)))) w:=by
 unfold ze at hx hy;have e:(eqGuard .neq t x y (.string ⟨s.toArray⟩) (.string ⟨r.toArray⟩)).run P w= .ok () w:=by unfold eqGuard;simp
 have hl:∀s:List UInt8,(ByteArray.mk s.toArray).toList=s:=fun s=>Go.ByteArray.toList_eq _
 unfold execOp;simp only[ho,hx,hy,Sem.run_bind,e,Result.andThen_ok,binOp,Op.stringOp,hl,Sem.run_pure]
def zpz{t:TypeId}{x:Operand}(ho:o.op= .slice t x none none none){b p n:Nat}(hx:a.eval x= .pointer (some ⟨b,p,none⟩)){e:TypeId}{z:List Value}{s:Nat}(hu:P.underlying t=some (.array n e))(hs:ti P e=some (z,s)):(execOp a.eval o).run P w= .ok (.value (.slice (some ⟨b,p,none⟩) n n)) w:=by
 have:=zf5 (w:=w) ho hx hu hs (l':=0) (h':=n) rfl rfl
 simpa using this
def zsR{t:TypeId}{x:Operand}{y:Operand}(ho:o.op= .slice t x none (some y) none){b p n:Nat}(hx:a.eval x= .pointer (some ⟨b,p,none⟩)){e:TypeId}{z:List Value}{s:Nat}(hu:P.underlying t=some (.array n e))(hs:ti P e=some (z,s)){k:IntKind}{i:Int}(hy:a.eval y= .int k i)(h0:0≤i)(h1:i≤n):(execOp a.eval o).run P w= .ok (.value (.slice (some ⟨b,p,none⟩) i.toNat n)) w:=by
 have:=zf5 (w:=w) ho hx hu hs (l':=0) (h':=i.toNat) rfl ⟨k,i,hy,h0,h1,rfl⟩
 simpa using this
def zn9{t:TypeId}{x:Operand}(ho:o.op= .slice t x none none none){b p n c:Nat}(hx:a.eval x= .slice (some ⟨b,p,none⟩) n c){e:TypeId}{z:List Value}{s by':Nat}(hs:si P t=some (e,z,s,by')):(execOp a.eval o).run P w= .ok (.value (.slice (some ⟨b,p,none⟩) n c)) w:=by
 have:=zeF (w:=w) ho hx hs (l':=0) (h':=n) rfl rfl
 simpa using this
def zs1{t:TypeId}{x:Operand}{y:Operand}(ho:o.op= .slice t x none (some y) none){b p n c:Nat}(hx:a.eval x= .slice (some ⟨b,p,none⟩) n c){e:TypeId}{z:List Value}{s by':Nat}(hs:si P t=some (e,z,s,by')){k:IntKind}{i:Int}(hy:a.eval y= .int k i)(h0:0≤i)(h1:i≤c):(execOp a.eval o).run P w= .ok (.value (.slice (some ⟨b,p,none⟩) i.toNat c)) w:=by
 have:=zeF (w:=w) ho hx hs (l':=0) (h':=i.toNat) rfl ⟨k,i,hy,h0,h1,rfl⟩
 simpa using this
def zsj{t:TypeId}{x:Operand}{y:Operand}(ho:o.op= .slice t x (some y) none none){b p n c:Nat}(hx:a.eval x= .slice (some ⟨b,p,none⟩) n c){e:TypeId}{z:List Value}{s by':Nat}(hs:si P t=some (e,z,s,by')){k:IntKind}{i:Int}(hy:a.eval y= .int k i)(h0:0≤i)(h1:i≤n):(execOp a.eval o).run P w= .ok (.value (.slice (some (if c=i.toNat then⟨b,p,none⟩else⟨b,p+i.toNat*s,none⟩)) (n-i.toNat) (c-i.toNat))) w:=
 zeF ho hx hs ⟨k,i,hy,h0,h1,rfl⟩ rfl
def zpU{t:TypeId}{x:Operand}{y y2:Operand}(ho:o.op= .slice t x (some y) (some y2) none){b p n c:Nat}(hx:a.eval x= .slice (some ⟨b,p,none⟩) n c){e:TypeId}{z:List Value}{s by':Nat}(hs:si P t=some (e,z,s,by')){k k2:IntKind}{i i2:Int}(hy:a.eval y= .int k i)(hy2:a.eval y2= .int k2 i2)(h0:0≤i)(h1:i≤i2)(h2:i2≤c):(execOp a.eval o).run P w= .ok (.value (.slice (some (if c=i.toNat then⟨b,p,none⟩else⟨b,p+i.toNat*s,none⟩)) (i2.toNat-i.toNat) (c-i.toNat))) w:=
 zeF ho hx hs (h':=i2.toNat) ⟨k,i,hy,h0,by omega,rfl⟩ ⟨k2,i2,hy2,by omega,h2,rfl⟩
def zqX(H:Hp T w0 w l){t:TypeId}(ho:o.op= .alloc t){z:List Value}{s:Nat}(ht:ti P t=some (z,s))
 (h:∀g w',w0.heap.size≤g∧w.heap.size≤g→Fr [] w w'→Hp T w0 w' (.blk g z t::l)→K (a.put o.dst (.pointer (some ⟨g,0,none⟩))) w'):o.wp P a w K Q:=by
 obtain⟨i,zv,h1,h2,h3,_⟩:=zlw ht;exact zq9 H ho h1 h2 h3 h
def zsL(H:Hp T w0 w l){t:TypeId}{lx cx:Operand}(ho:o.op= .makeSlice t lx cx){kl kc:IntKind}{n c:Int}(hl:a.eval lx= .int kl n)(hc:a.eval cx= .int kc c){e:TypeId}{z:List Value}{s by':Nat}(hs:si P t=some (e,z,s,by'))(hz:z.length=s)
 (h0:0≤n) (h1:n≤c) (hb:(by':Int)*c≤281474976710656) (h63:c≤9223372036854775807)
 (h:∀g w',w0.heap.size≤g∧w.heap.size≤g→Fr [] w w'→Hp T w0 w' (.blk g (List.replicate c.toNat z).flatten e::l)→K (a.put o.dst (.slice (some ⟨g,0,none⟩) n.toNat c.toNat)) w'):o.wp P a w K Q:=by
 obtain⟨hu,i,zv,h2,h3,h4,h5,h6⟩:=zaW hs;exact zsK H ho hu h2 h3 h4 (h5.trans hz.symm) hl hc h0 h1 (by rw[h6];exact hb) h63 h
def zio(H:Hp T w0 w l){t:TypeId}{x:Operand}(ho:o.op= .buildSlice t 1 #[(0,x)]){v:Value}{cs:List Value}(hx:a.eval x=v)(hc:v.cells=cs.toArray){e:TypeId}{z:List Value}{s by':Nat}(hs:si P t=some (e,z,s,by'))(hz:z.length=s)(h24:s≤16777216)(h0:s≠0)(hl:cs.length=s)
 (h:∀g w',w0.heap.size≤g∧w.heap.size≤g→Fr [] w w'→Hp T w0 w' (.blk g cs e::l)→K (a.put o.dst (.slice (some ⟨g,0,none⟩) 1 1)) w'):o.wp P a w K Q:=by
 obtain⟨hu,i,zv,h2,h3,h4,h5,h6⟩:=zaW hs;exact zn5 H ho hu h2 h3 (by rw[h4,h5];simpa using hz) yb yb hx hc yb h
def zke(H:Hp T w0 w l){t:TypeId}{s x:Operand}(ho:o.op= .call {callee:= .builtin .append,args:=#[s,x],argTypes:=#[t,t]})
 (hs:a.eval s= .slice none 0 0) {ad:Addr} {n c:Nat} (hx:a.eval x= .slice (some ad) n c) {e:TypeId} {z:List Value} {sz by':Nat} (hsi:si P t=some (e,z,sz,by')) (hz:z.length=sz) {news:List Value} (hr:Rd w (.slice (some ad) n c) n news) (hl:news.length=n*sz)
 (h0:0<n) (h48:n*by'≤140737488355328) (h63:n≤9223372036854775807)
 (h:∀g w' cap pad,w0.heap.size≤g∧w.heap.size≤g→n≤cap→cap≤maxLen→(news++pad).length=cap*sz→Fr [] w w'→Hp T w0 w' (.blk g (news++pad) e::l)→K (a.put o.dst (.slice (some ⟨g,0,none⟩) n cap)) w'):o.wp P a w K Q:=by
 obtain⟨hu,i,zv,h2,h3,h4,h5,h6⟩:=zaW hsi;subst h5 h6
 exact ziY H ho hu h2 h3 hs hx hr hl h0 h48 yk (fun g w' cap pad e1 e2 e3 e4=>h g w' cap pad e1 e2 e3 (by
  subst e4;simp only[List.length_append,Array.length_toList,size_zeroCells,h4,List.size_toArray,hz,hl,←Nat.add_mul]
  congr 1;omega))
def ziQ(H:Hp T w0 w l){t:TypeId}{s x:Operand}(ho:o.op= .call {callee:= .builtin .append,args:=#[s,x],argTypes:=#[t,t]})
 (hs:a.eval s= .slice none 0 0) {p:Option Addr} {c:Nat} (hx:a.eval x= .slice p 0 c) {e:TypeId} {z:List Value} {sz by':Nat} (hsi:si P t=some (e,z,sz,by'))
 (h:∀w',Fr [] w w'→Hp T w0 w' l→K (a.put o.dst (.slice none 0 0)) w'):o.wp P a w K Q:=by
 obtain⟨hu,i,zv,h2,h3,h4,h5,h6⟩:=zaW hsi;exact ziI H ho hu h2 hs hx h
def ze0(H:Hp T w0 w l){t:TypeId}{s x:Operand}(ho:o.op= .call {callee:= .builtin .append,args:=#[s,x],argTypes:=#[t,t]})
 {q:Option Addr} {n cap:Nat} (hs:a.eval s= .slice q n cap) (hn:n≤cap) {p:Option Addr} {c:Nat} (hx:a.eval x= .slice p 0 c) {e:TypeId} {z:List Value} {sz by':Nat} (hsi:si P t=some (e,z,sz,by'))
 (h:∀w',Fr [] w w'→Hp T w0 w' l→K (a.put o.dst (.slice q n cap)) w'):o.wp P a w K Q:=by
 obtain⟨hu,i,zv,h2,h3,h4,h5,h6⟩:=zaW hsi;exact ziP H ho hu h2 hs hn hx h
def zfk(H:Hp T w0 w l){t:TypeId}{s x:Operand}(ho:o.op= .call {callee:= .builtin .append,args:=#[s,x],argTypes:=#[t,t]})
 {b n cap:Nat} (hs:a.eval s= .slice (some ⟨b,0,none⟩) n cap) {ad:Addr} {m c:Nat} (hx:a.eval x= .slice (some ad) m c) {e:TypeId} {z:List Value} {sz by':Nat} (hsi:si P t=some (e,z,sz,by')) (hz:z.length=sz)
 {cs xs:List Value} {l1:Nat→List Value→List Ent} (hm:∀g cs1,Rep (.blk b cs e) (.blk g cs1 e) l (l1 g cs1)) (hxs:xs<+:cs) (hxl:xs.length=n*sz) (hcl:cs.length=cap*sz) (hcap:cap≤maxLen)
 {news:List Value} (hr:Rd w (.slice (some ad) m c) m news) (hl:news.length=m*sz) (h1:∀u∈news,u.oneCell'=true)
 (h0:0<m) (h48:(n+m)*by'≤140737488355328) (h63:n+m≤maxLen)
 (h:∀g w' cap' pad,(g=b∨w0.heap.size≤g∧w.heap.size≤g)→n+m≤cap'→cap'≤maxLen→(xs++news++pad).length=cap'*sz→Fr [b] w w'→Hp T w0 w' (l1 g (xs++news++pad))→K (a.put o.dst (.slice (some ⟨g,0,none⟩) (n+m) cap')) w'):o.wp P a w K Q:=by
 obtain⟨hu,i,zv,h2,h3,h4,h5,h6⟩:=zaW hsi;subst h5 h6;exact zju H ho hu h2 h3 (by rw[h4];simpa using hz) hs hx hm hxs hxl hcl hcap hr hl h1 h0 h48 h63 h
def zti(H:Hp T w0 w l){d s:Operand}{dT sT:TypeId}(ho:o.op= .call {callee:= .builtin .copy,args:=#[d,s],argTypes:=#[dT,sT]})
 {b off dl dc:Nat} (hd:a.eval d= .slice (some ⟨b,off,none⟩) dl dc) {sp:Option Addr} {sl sc:Nat} (hs:a.eval s= .slice sp sl sc) {e:TypeId} {z:List Value} {sz by':Nat} (hsi:si P dT=some (e,z,sz,by'))
 {cs news:List Value} {t':TypeId} {l1:List Ent} {n:Nat} (hn:n=min sl dl) (hr:Rd w (.slice sp n sc) n news) (hl:news.length=n*sz) (hm:Put b cs (zL cs off news) t' l l1) (h1:∀u∈news,u.oneCell'=true) (hfit:off+news.length≤cs.length)
 (h:∀w',Fr [b] w w'→Hp T w0 w' l1→K (a.put o.dst (.int .i64 n)) w'):o.wp P a w K Q:=by
 obtain⟨hu,i,zv,h2,h3,h4,h5,h6⟩:=zaW hsi;subst h5 h6 hn;exact zsH H ho hu h2 hd hs hm hr hl h1 hfit h
def zkZ(H:Hp T w0 w l){t:TypeId}{x:Operand}(ho:o.op= .load t x){b p:Nat}(hx:a.eval x= .pointer (some ⟨b,p,none⟩)){n:Nat}(hs:zbp P t=some n){cs:List Value}{t':TypeId}(hm: .blk b cs t'∈l){vs:List Value}(hv:vs<+:cs.drop p)(hn:vs.length=n):
 (execOp a.eval o).run P w= .ok (.value (.agg vs.toArray)) w:=zf7 H ho hx yal hm hv
def zmw(H:Hp T w0 w l){t:TypeId}{x:Operand}(ho:o.op= .load t x){b:Nat}(hx:a.eval x= .pointer (some ⟨b,0,none⟩)){n:Nat}(hs:zbp P t=some n){cs:List Value}{t':TypeId}(hm: .blk b cs t'∈l)(hn:cs.length=n):
 (execOp a.eval o).run P w= .ok (.value (.agg cs.toArray)) w:=zf7 H ho hx yal hm (List.prefix_rfl)
def zf8(H:Hp T w0 w l){t:TypeId}{x:Operand}(ho:o.op= .load t x){b off p:Nat}(hx:a.eval x= .pointer (some ⟨b,off+p,none⟩)){n:Nat}(hs:zbp P t=some n){cs:List Value}(hm: .rng b off cs∈l){vs:List Value}(hv:vs<+:cs.drop p)(hn:vs.length=n):
 (execOp a.eval o).run P w= .ok (.value (.agg vs.toArray)) w:=zk1 H ho hx yal hm hv
def zk4(H:Hp T w0 w l){t:TypeId}{x:Operand}(ho:o.op= .load t x){b p:Nat}(hx:a.eval x= .pointer (some ⟨b,p,none⟩))(hs:zdv P t=true){cs:List Value}(hm: .rng b 0 cs∈l){v:Value}(hv:cs[p]? =some v):
 (execOp a.eval o).run P w= .ok (.value v) w:=zcP ho hx hs (by have:=H.rngCell hm hv;simpa using this)
def zjo(H:Hp T w0 w l){t:TypeId}{x:Operand}(ho:o.op= .load t x){b p:Nat}(hx:a.eval x= .pointer (some ⟨b,p,none⟩)){n:Nat}(hs:zbp P t=some n){cs:List Value}(hm: .rng b 0 cs∈l){vs:List Value}(hv:vs<+:cs.drop p)(hn:vs.length=n):
 (execOp a.eval o).run P w= .ok (.value (.agg vs.toArray)) w:=zf8 (off:=0) H ho (by rw[Nat.zero_add];exact hx) hs hm hv hn
def zoo(H:Hp T w0 w l){t:TypeId}{x y:Operand}(ho:o.op= .store t x y){b p:Nat}{vs:List Value}(hx:a.eval x= .pointer (some ⟨b,p,none⟩))(hy:a.eval y= .agg vs.toArray){n:Nat}(hs:zbp P t=some n)(hn:vs.length=n)
 {cs:List Value} {t':TypeId} {l1:List Ent} (hm:Put b cs (zL cs p vs) t' l l1) (h1:∀v∈vs,v.oneCell'=true) (hp:p+n≤cs.length)
 (h:∀w',Fr [b] w w'→Hp T w0 w' l1→K (a.put o.dst undef) w'):o.wp P a w K Q:=zoE H ho hx hy h1 yal hm yb h
section
variable {L:List Value} {ds:List Deferred}
def zlQ(H:Hp T w0 w l){t:TypeId}{k:Nat}(ho:o.op= .buildSlice t 1 #[(0, .tmp k)]){v:Value}{cs:List Value}(hx:L[k]? =some v)(hc:v.cells=cs.toArray){e:TypeId}{z:List Value}{s by':Nat}(hs:si P t=some (e,z,s,by'))(hz:z.length=s)(h24:s≤16777216)(h0:s≠0)(hl:cs.length=s)
 (h:∀g w',w0.heap.size≤g∧w.heap.size≤g→Fr [] w w'→Hp T w0 w' (.blk g cs e::l)→K (Act.put (Act.mk L.toArray ds) o.dst (.slice (some ⟨g,0,none⟩) 1 1)) w'):o.wp P (Act.mk L.toArray ds) w K Q:=
 zio H ho (v:=v) (by simp[Act.eval,hx]) hc hs hz h24 h0 hl h
def znb(H:Hp T w0 w l){t:TypeId}{v:Value}(ho:o.op= .buildSlice t 1 #[(0, .const v)]){cs:List Value}(hc:v.cells=cs.toArray){e:TypeId}{z:List Value}{s by':Nat}(hs:si P t=some (e,z,s,by'))(hz:z.length=s)(h24:s≤16777216)(h0:s≠0)(hl:cs.length=s)
 (h:∀g w',w0.heap.size≤g∧w.heap.size≤g→Fr [] w w'→Hp T w0 w' (.blk g cs e::l)→K (a.put o.dst (.slice (some ⟨g,0,none⟩) 1 1)) w'):o.wp P a w K Q:=
 zio H ho (v:=v) rfl hc hs hz h24 h0 hl h
def zpt(H:Hp T w0 w l){t:TypeId}{x:Operand}{k:Nat}(ho:o.op= .store t x (.tmp k)){b p:Nat}{v:Value}(hx:(Act.mk L.toArray ds).eval x= .pointer (some ⟨b,p,none⟩))(hy:L[k]? =some v)(h1:v.oneCell'=true)(hs:(P.info? t).map (·.size)=some 1)
 {cs:List Value} {t':TypeId} {l1:List Ent} (hm:Put b cs (cs.set p v) t' l l1) (hp:p<cs.length)
 (h:∀w',Fr [b] w w'→Hp T w0 w' l1→K (Act.put (Act.mk L.toArray ds) o.dst undef) w'):o.wp P (Act.mk L.toArray ds) w K Q:=zki H ho hx (by simp[Act.eval,hy]) h1 hs hm hp h
def zpF(H:Hp T w0 w l){t:TypeId}{x:Operand}{v:Value}(ho:o.op= .store t x (.const v)){b p:Nat}(hx:a.eval x= .pointer (some ⟨b,p,none⟩))(h1:v.oneCell'=true)(hs:(P.info? t).map (·.size)=some 1)
 {cs:List Value} {t':TypeId} {l1:List Ent} (hm:Put b cs (cs.set p v) t' l l1) (hp:p<cs.length)
 (h:∀w',Fr [b] w w'→Hp T w0 w' l1→K (a.put o.dst undef) w'):o.wp P a w K Q:=zki H ho hx rfl h1 hs hm hp h
def zhH(H:Hp T w0 w l){t:TypeId}{k:Nat}(ho:o.op= .box t (.tmp k)){v:Value}(hx:L[k]? =some v)(h1:v.oneCell'=true)
 (h:∀g w',w0.heap.size≤g∧w.heap.size≤g→Fr [] w w'→Hp T w0 w' (.blk g [v] t::l)→K (Act.put (Act.mk L.toArray ds) o.dst (.pointer (some ⟨g,0,none⟩))) w'):o.wp P (Act.mk L.toArray ds) w K Q:=
 znW H ho (v:=v) (by simp[Act.eval,hx]) (by cases v<;>simp_all [Value.cells,Value.oneCell']) h
def zhP(H:Hp T w0 w l){t:TypeId}{x:Operand}(ho:o.op= .box t x){cs:List Value}(hx:a.eval x= .agg cs.toArray)
 (h:∀g w',w0.heap.size≤g∧w.heap.size≤g→Fr [] w w'→Hp T w0 w' (.blk g cs t::l)→K (a.put o.dst (.pointer (some ⟨g,0,none⟩))) w'):o.wp P a w K Q:=
 znW H ho hx rfl h
def zpu(H:Hp T w0 w l){fn:Func}{R:Ending→World→Prop}{k:Nat}{ty:TypeId}(hr:fn.results=#[.cell k ty]){g:Nat}(hp:L[k]? =some (.pointer (some ⟨g,0,none⟩))){cs:List Value}{t':TypeId}(hm: .blk g cs t'∈l){n:Nat}(hs:zbp P ty=some n)(hn:cs.length=n)
 (hR:R (.returned (.agg cs.toArray)) w):bodyPost P fn R .ret ⟨L.toArray,[]⟩ w:=by
 refine bodyPost_ret (v:= .agg cs.toArray) ?_ rfl hR;unfold zbp at hs
 cases hu:P.underlying ty with
 | none=>simp[hu]at hs
 | some d=>
  exact results_cell_row hr _ w g t' cs.toArray (0,0) d (by simp[hp]) (H.get hm) hu y9 y9
end
def zaG:Nat→List Value→List (Nat×Value)
 | _,[]=>[]
 | i,v::vs=>(i,v)::zaG (i+1) vs
def zeM(place:Nat→Option (Nat×Nat)):Nat→Nat→List Value→Bool
 | _,_,[]=>true
 | i,off,v::vs=>place i==some (off,v.cells.size)&&zeM place (i+1) (off+v.cells.size) vs
def zpJ(l:List Value):∀(k off:Nat) (acc:List Value),off+k+l.length≤acc.length→
 ((l.zipIdx k).foldl (fun(cs:Array Value) (p:Value×Nat)=>cs.setIfInBounds (off+p.2) p.1) acc.toArray)=(zL acc (off+k) l).toArray:=by
 induction l with
 | nil=>intro k off acc h;simp[zL]
 | cons x l ih=>
  intro k off acc h;simp only[List.length_cons]at h;simp only[List.zipIdx_cons,List.foldl_cons,List.setIfInBounds_toArray];rw[ih (k+1) off (acc.set (off+k) x) yn]
  congr 1
  simp only[zL,List.length_cons];rw[←Nat.add_assoc off k 1,List.take_succ_eq_append_getElem yn,List.take_set_of_le (Nat.le_refl _),List.drop_set_of_lt yb];simp only[List.getElem_set_self,List.append_assoc,List.cons_append,List.nil_append];rw[show off+k+1+l.length=off+k+(l.length+1) by omega]
def zgB(place:Nat→Option (Nat×Nat)):∀(vs:List Value) (i:Nat) (pre z:List Value),zeM place i pre.length vs=true→(vs.flatMap fun v=>v.cells.toList).length≤z.length→
 Instr.fill place (pre++z).toArray (zaG i vs)=some (pre++((vs.flatMap fun v=>v.cells.toList)++z.drop (vs.flatMap fun v=>v.cells.toList).length)).toArray
 | [],i,pre,z,_,_=>by simp[zaG,Instr.fill]
 | v::vs,i,pre,z,hf,hz=>by
  simp only[zeM,Bool.and_eq_true,beq_iff_eq]at hf;obtain⟨h1,h2⟩:=hf;simp only[List.flatMap_cons,List.length_append,Array.length_toList]at hz ⊢;simp only[zaG,Instr.fill,h1];have hn:¬((v.cells.size≠v.cells.size||pre.length+v.cells.size>(pre++z).toArray.size)=true):=by simp;omega
  rw[if_neg (by simpa using hn)];have hfold:=zpJ v.cells.toList 0 pre.length (pre++z) yn;rw[←Array.foldl_toList];simp only[Array.toList_zipIdx,Nat.add_zero]at hfold ⊢;rw[hfold]
  have e:zL (pre++z) pre.length v.cells.toList=(pre++v.cells.toList)++z.drop v.cells.size:=by
   simp[zL,List.drop_append]
  rw[e,zgB place vs (i+1) (pre++v.cells.toList) (z.drop v.cells.size) (by simpa using h2) (by rw[List.length_drop];omega)]
  simp[List.append_assoc,List.drop_drop]
def st(P:Program)(t:TypeId):Option (List (Nat×Nat)×List Value):=match P.info? t,P.underlying t with
 | some i,some (.struct fs)=>match i.zero,fs.toList.mapM (fun f=>(P.info? f.type).map fun i=>(f.offset,i.size))with
  | some z,some places=>some (places,z.cells.toList)
  | _,_=>none
 | _,_=>none
def zqM{t:TypeId}{parts:Array (Nat×Operand)}(ho:o.op= .build t parts){vs:List Value}(hp:(parts.map fun(i,x)=>(i,a.eval x)).toList=zaG 0 vs){places:List (Nat×Nat)}{z:List Value}(hst:st P t=some (places,z))(hf:zeM (places.toArray[·]?) 0 0 vs=true){cs0 cs:List Value}(hc0:(vs.flatMap fun v=>v.cells.toList)=cs0)(hle:cs0.length≤z.length)(hc:cs0++z.drop cs0.length=cs):
 (execOp a.eval o).run P w= .ok (.value (.agg cs.toArray)) w:=by
 subst hc0 hc;unfold st at hst
 cases hi:P.info? t with
 | none=>simp[hi]at hst
 | some i=>
  cases hu:P.underlying t with
  | none=>simp[hi,hu]at hst
  | some d=>
   cases d<;>simp only[hi,hu]at hst<;>try contradiction
   case struct fs=>
    cases hz:i.zero with
    | none=>simp[hz]at hst
    | some zv=>
     cases hm:fs.toList.mapM (fun f=>(P.info? f.type).map fun i=>(f.offset,i.size))with
     | none=>simp[hz,hm]at hst
     | some pl=>
      simp only[hz,hm,Option.some.injEq,Prod.mk.injEq]at hst;obtain⟨rfl,rfl⟩:=hst
      have hb:P.built t ((parts.map fun(i,x)=>(i,a.eval x)).toList)=some ((vs.flatMap fun v=>v.cells.toList)++zv.cells.toList.drop (vs.flatMap fun v=>v.cells.toList).length).toArray:=by
       unfold Program.built;simp only[hi,hu,hz,hm,hp]
       have:=zgB (pl.toArray[·]?) vs 0 [] zv.cells.toList hf hle
       simpa using this
      unfold execOp;simp only[ho,Sem.run_bind,run_build w t _ _ hb,Result.andThen_ok,Sem.run_pure]
inductive Parts (L:List Value):Nat→List (Nat×Operand)→List (List Value)→Prop where
 | nil (i:Nat):Parts L i [] []
 | tmp {i n:Nat} {v:Value} {c:List Value} {ps:List (Nat×Operand)} {cs:List (List Value)} (h:L[n]? =some v) (hc:v.cells=c.toArray) (k:Parts L (i+1) ps cs):Parts L i ((i, .tmp n)::ps) (c::cs)
 | con {i:Nat} {v:Value} {c:List Value} {ps:List (Nat×Operand)} {cs:List (List Value)} (hc:v.cells=c.toArray) (k:Parts L (i+1) ps cs):Parts L i ((i, .const v)::ps) (c::cs)
def zdJ(places:List (Nat×Nat)):Nat→Nat→List Nat→Bool
 | _,_,[]=>true
 | i,off,n::ns=>places[i]? ==some (off,n)&&zdJ places (i+1) (off+n) ns
def Parts.vals{L:List Value}{ds:List Deferred}{i:Nat}{ps:List (Nat×Operand)}{cs:List (List Value)}(h:Parts L i ps cs):∃vs:List Value,(ps.map fun(i,x)=>(i,(Act.mk L.toArray ds).eval x))=zaG i vs∧(vs.flatMap fun v=>v.cells.toList)=cs.flatten∧∀(places:List (Nat×Nat)) (off:Nat),zdJ places i off (cs.map List.length)=true→zeM (places.toArray[·]?) i off vs=true:=by
 induction h with
 | nil i=>exact⟨[],rfl,rfl,fun _ _ _=>rfl⟩
 | @tmp i n v c ps cs h hc k ih=>
  obtain⟨vs,h1,h2,h3⟩:=ih;refine⟨v::vs,?_,?_,fun places off hf=>?_⟩
  ·have e:(Act.mk L.toArray ds).eval (.tmp n)=v:=by simp[Act.eval,h]
   simp[zaG,h1,e]
  ·simp[h2,hc]
  ·simp only[List.map_cons,zdJ,Bool.and_eq_true,beq_iff_eq]at hf;simp only[zeM,hc,List.size_toArray,Bool.and_eq_true,beq_iff_eq];exact⟨by simpa using hf.1,by simpa using h3 places _ hf.2⟩
 | @con i v c ps cs hc k ih=>
  obtain⟨vs,h1,h2,h3⟩:=ih;refine⟨v::vs,?_,?_,fun places off hf=>?_⟩
  ·have e:(Act.mk L.toArray ds).eval (.const v)=v:=rfl
   simp[zaG,h1,e]
  ·simp[h2,hc]
  ·simp only[List.map_cons,zdJ,Bool.and_eq_true,beq_iff_eq]at hf;simp only[zeM,hc,List.size_toArray,Bool.and_eq_true,beq_iff_eq];exact⟨by simpa using hf.1,by simpa using h3 places _ hf.2⟩
def zih{L:List Value}{ds:List Deferred}{t:TypeId}{ps:List (Nat×Operand)}(ho:o.op= .build t ps.toArray){css:List (List Value)}(hp:Parts L 0 ps css){places:List (Nat×Nat)}{z:List Value}(hst:st P t=some (places,z)){ns:List Nat}(hn:css.map List.length=ns)(hf:zdJ places 0 0 ns=true){m:Nat}(hm:ns.sum=m)(hz:m≤z.length):
 (execOp (Act.mk L.toArray ds).eval o).run P w= .ok (.value (.agg (css.flatten++z.drop m).toArray)) w:=by
 obtain⟨vs,h1,h2,h3⟩:=hp.vals (ds:=ds);subst hn;have hl:(vs.flatMap fun v=>v.cells.toList).length=m:=by rw[h2,←hm,List.length_flatten]
 exact zqM ho (vs:=vs) (by simpa using h1) hst (h3 _ _ hf) rfl (by rw[hl];exact hz) (by rw[hl,h2])
def zjz{L:List Value}{ds:List Deferred}{t:TypeId}{ps:List (Nat×Operand)}(ho:o.op= .build t ps.toArray){css:List (List Value)}(hp:Parts L 0 ps css){places:List (Nat×Nat)}{z:List Value}(hst:st P t=some (places,z)){ns:List Nat}(hn:css.map List.length=ns)(hf:zdJ places 0 0 ns=true)(hm:ns.sum=z.length):
 (execOp (Act.mk L.toArray ds).eval o).run P w= .ok (.value (.agg css.flatten.toArray)) w:=by
 have:=zih (ds:=ds) (w:=w) ho hp hst hn hf hm (Nat.le_refl _)
 rw[List.drop_length,List.append_nil]at this;exact this
end
class Si (P:Program) (t:TypeId) (e:outParam TypeId) (z:outParam (List Value)) (s b:outParam Nat):Prop where
 h:si P t=some (e,z,s,b)
 z:z.length=s
class Ti (P:Program) (t:TypeId) (z:outParam (List Value)) (s:outParam Nat):Prop where
 h:ti P t=some (z,s)
class Fo (P:Program) (t:TypeId) (f:Nat) (off:outParam Nat):Prop where
 h:fo P t f=some off
class Sc (P:Program) (t:TypeId):Prop where
 h:zdv P t=true
 s:(P.info? t).map (·.size)=some 1
class Ro (P:Program) (t:TypeId) (n:outParam Nat):Prop where
 h:zbp P t=some n
class St (P:Program) (t:TypeId) (pl:outParam (List (Nat×Nat))) (z:outParam (List Value)):Prop where
 h:st P t=some (pl,z)
class Ar (P:Program) (t:TypeId) (n:outParam Nat) (e:outParam TypeId) (z:outParam (List Value)) (s:outParam Nat):Prop where
 h:P.underlying t=some (.array n e)
 e:ti P e=some (z,s)
class Iy (P:Program) (t:TypeId) (k:outParam IntKind):Prop where
 h:P.underlying t=some (.int k)
class Sy (P:Program) (t:TypeId):Prop where
 h:P.underlying t=some .string
class Pp (P:Program) (t:TypeId):Prop where
 h:P.underlying t=some (.pointer (P.pointee t))
class By (P:Program) (t:TypeId):Prop where
 h:∃e,P.underlying t=some (.slice e)∧P.underlying e=some (.int .u8)
class In (b:Nat) (cs:outParam (List Value)) (t:outParam TypeId) (l:List Ent) (f:outParam (Nat→List Value→List Ent)):Prop where
 h:∀g cs',Rep (.blk b cs t) (.blk g cs' t) l (f g cs')
instance In.here {b:Nat} {cs:List Value} {t:TypeId} {l:List Ent}:In b cs t (.blk b cs t::l) (fun g cs'=> .blk g cs' t::l):=⟨fun _ _=> .head _⟩
instance (priority:=low) In.there {b:Nat} {cs:List Value} {t:TypeId} {l:List Ent} {f:Nat→List Value→List Ent} {e:Ent} [h:In b cs t l f]:In b cs t (e::l) (fun g cs'=>e::f g cs'):=⟨fun g cs'=> .tail _ (h.h g cs')⟩
class Rn (b off:Nat) (cs:outParam (List Value)) (l:List Ent):Prop where
 h: .rng b off cs∈l
instance Rn.here {b off:Nat} {cs:List Value} {l:List Ent}:Rn b off cs (.rng b off cs::l):=⟨List.mem_cons_self⟩
instance (priority:=low) Rn.there {b off:Nat} {cs:List Value} {l:List Ent} {e:Ent} [h:Rn b off cs l]:Rn b off cs (e::l):=⟨List.mem_cons_of_mem _ h.h⟩
class Oi (k:Nat) (S:outParam (List Nat)) (Q:outParam (World→Prop)) (l:List Ent) (f:outParam (Ent→List Ent)):Prop where
 e:l=f (.obj k S Q)
 r:∀x y,Rep x y (f x) (f y)
instance Oi.here {k:Nat} {S:List Nat} {Q:World→Prop} {l:List Ent}:Oi k S Q (.obj k S Q::l) (fun x=>x::l):=⟨rfl,fun _ _=> .head _⟩
instance (priority:=low) Oi.there {k:Nat} {S:List Nat} {Q:World→Prop} {l:List Ent} {f:Ent→List Ent} {e:Ent} [h:Oi k S Q l f]:Oi k S Q (e::l) (fun x=>e::f x):=⟨by rw[←h.e],fun x y=> .tail _ (h.r x y)⟩
def Oi.h{k:Nat}{S:List Nat}{Q:World→Prop}{l:List Ent}{f:Ent→List Ent}(i:Oi k S Q l f)(x:Ent):Rep (.obj k S Q) x l (f x):=by
 rw[i.e];exact i.r _ _
class Fm (S:List Nat) (Q:World→Prop):Prop where
 h:Firm S Q
def In.mem{b:Nat}{cs:List Value}{t:TypeId}{l:List Ent}{f:Nat→List Value→List Ent}(h:In b cs t l f): .blk b cs t∈l:=(h.h b cs).mem
section
variable {P:Program} {ops:Array Oper} {Q:Exit→Act→World→Prop} {a:Act} {w w0:World} {rest:List Oper} {o:Oper} {K:Act→World→Prop} {T:List Nat} {l:List Ent} {L:List Value} {ds:List Deferred}
def Hp.cell(H:Hp T w0 w l){b:Nat}{cs:List Value}{t:TypeId}{f:Nat→List Value→List Ent}[i:In b cs t l f]{p:Nat}{v:Value}(h:cs[p]? =some v):w.cell? ⟨b,p,none⟩=some v:=H.blkCell i.mem h
def Hp.at(H:Hp T w0 w l)(b:Nat){cs:List Value}{t:TypeId}{f:Nat→List Value→List Ent}[i:In b cs t l f]:w.heap[b]? =some (.cells cs.toArray t (0,0)):=H.get i.mem
def Hp.rd(H:Hp T w0 w l){b:Nat}{cs:List Value}{t:TypeId}{f:Nat→List Value→List Ent}[i:In b cs t l f]{off n c:Nat}{vs:List Value}(h:vs<+:cs.drop off):Rd w (.slice (some ⟨b,off,none⟩) n c) n vs:=H.rdBlk i.mem h
def Hp.own(H:Hp T w0 w l){g:Nat}{xs pad:List Value}{e:TypeId}{f:Nat→List Value→List Ent}[i:In g (xs++pad) e l f]{base n cap sz:Nat}(hb:base≤g)(hn:n≤cap)(hc:cap≤maxLen)(hl:(xs++pad).length=cap*sz)(hx:xs.length=n*sz):w.ownsRow base e sz (.slice (some ⟨g,0,none⟩) n cap) n xs:=H.owns i.mem hb hn hc hl hx
def Hp.ob(H:Hp T w0 w l)(k:Nat){S:List Nat}{Q:World→Prop}{f:Ent→List Ent}[i:Oi k S Q l f]:Q w:=(H.ok _ (i.h (.obj k S Q)).mem).1
def Hp.upd(H:Hp T w0 w l)(k:Nat){S S':List Nat}{Q Q':World→Prop}{f:Ent→List Ent}[i:Oi k S Q l f]{w':World}(hF:Fr S w w')(hq:Q' w')(hs:∀x∈S',x∈S∨w.heap.size≤x)[m:Fm S' Q']:Hp T w0 w' (f (.obj k S' Q')):=H.upd' (i.h (.obj k S' Q')) hF hq m.h hs
def Hp.home(H:Hp T w0 w l)(k:Nat){S:List Nat}{Q:World→Prop}{f:Ent→List Ent}[i:Oi k S Q l f]:∀x∈S,x∈T∨w0.heap.size≤x:=(H.ok _ (i.h (.obj k S Q)).mem).2.2
def Hp.apart(H:Hp T w0 w l)(k:Nat){S:List Nat}{Q:World→Prop}{f:Ent→List Ent}[i:Oi k S Q l f](g:Nat){cs:List Value}{t:TypeId}{f':Nat→List Value→List Ent}[j:In g cs t l f']:g∉S:=by
 intro hg;have h1:=(i.h (.obj k S Q)).of H.nodup (.blk g cs t);have hl:f (.obj k S Q)=l:=Rep.same (i.h (.obj k S Q));rw[hl]at h1
 rcases h1 (j.h g cs).mem with h|h
 ·simp at h
 ·exact h.2 g yac hg
def Hp.old(H:Hp [] w0 w l)(k:Nat){S:List Nat}{Q:World→Prop}{f:Ent→List Ent}[i:Oi k S Q l f]{R:World→Prop}(h:∀w',Fr [] w0 w'→R w'):∀w',Fr S w w'→R w':=
 fun w' hF=>h w' (H.fr.andThen hF (H.home k))
def zqu(H:Hp T w0 w l){t:TypeId}{x:Operand}(ho:o.op= .load t x){b p:Nat}(hx:a.eval x= .pointer (some ⟨b,p,none⟩))[s:Sc P t]{cs:List Value}{t':TypeId}{f:Nat→List Value→List Ent}[i:In b cs t' l f]{v:Value}(hv:cs[p]? =some v:=by first|rfl|assumption):(execOp a.eval o).run P w= .ok (.value v) w:=zmq H ho hx s.h i.mem hv
def zrU(H:Hp T w0 w l){t:TypeId}{x:Operand}(ho:o.op= .load t x){b p:Nat}(hx:a.eval x= .pointer (some ⟨b,p,none⟩))[s:Sc P t]{cs:List Value}[i:Rn b 0 cs l]{v:Value}(hv:cs[p]? =some v:=by first|rfl|assumption):(execOp a.eval o).run P w= .ok (.value v) w:=zk4 H ho hx s.h i.h hv
def zrE(H:Hp T w0 w l){t:TypeId}{x:Operand}(ho:o.op= .load t x){b off j:Nat}(hx:a.eval x= .pointer (some ⟨b,off+j,none⟩))[s:Sc P t]{cs:List Value}[i:Rn b off cs l]{v:Value}(hv:cs[j]? =some v:=by first|rfl|assumption):(execOp a.eval o).run P w= .ok (.value v) w:=zmk H ho hx s.h i.h hv
def zmo(H:Hp T w0 w l){t:TypeId}{x:Operand}(ho:o.op= .load t x){b off:Nat}(hx:a.eval x= .pointer (some ⟨b,off,none⟩))[s:Sc P t]{cs:List Value}[i:Rn b off cs l]{v:Value}(hv:cs[0]? =some v:=by first|rfl|assumption):(execOp a.eval o).run P w= .ok (.value v) w:=zk9 H ho hx s.h i.h hv
def zra(H:Hp T w0 w l){t:TypeId}{x:Operand}(ho:o.op= .load t x){b:Nat}(hx:a.eval x= .pointer (some ⟨b,0,none⟩)){n:Nat}[s:Ro P t n]{cs:List Value}{t':TypeId}{f:Nat→List Value→List Ent}[i:In b cs t' l f](hn:cs.length=n:=by first|omega|assumption|(simp only[List.length_cons, *];done)|(simp;done)|fail):(execOp a.eval o).run P w= .ok (.value (.agg cs.toArray)) w:=zmw H ho hx s.h i.mem hn
def zah(H:Hp T w0 w l){t:TypeId}{x:Operand}(ho:o.op= .load t x){b p:Nat}(hx:a.eval x= .pointer (some ⟨b,p,none⟩)){n:Nat}[s:Ro P t n]{cs:List Value}{t':TypeId}{f:Nat→List Value→List Ent}[i:In b cs t' l f]{vs:List Value}(hv:vs<+:cs.drop p:=by assumption)(hn:vs.length=n:=by first|omega|assumption|(simp only[List.length_cons, *];done)|(simp;done)|fail):(execOp a.eval o).run P w= .ok (.value (.agg vs.toArray)) w:=zkZ H ho hx s.h i.mem hv hn
def zrP(H:Hp T w0 w l){t:TypeId}{x:Operand}(ho:o.op= .load t x){b p:Nat}(hx:a.eval x= .pointer (some ⟨b,p,none⟩)){n:Nat}[s:Ro P t n]{cs:List Value}[i:Rn b 0 cs l]{vs:List Value}(hv:vs<+:cs.drop p:=by assumption)(hn:vs.length=n:=by first|omega|assumption|(simp only[List.length_cons, *];done)|(simp;done)|fail):(execOp a.eval o).run P w= .ok (.value (.agg vs.toArray)) w:=zjo H ho hx s.h i.h hv hn
def zrX(H:Hp T w0 w l){t:TypeId}{x:Operand}(ho:o.op= .load t x){b off p:Nat}(hx:a.eval x= .pointer (some ⟨b,off+p,none⟩)){n:Nat}[s:Ro P t n]{cs:List Value}[i:Rn b off cs l]{vs:List Value}(hv:vs<+:cs.drop p:=by assumption)(hn:vs.length=n:=by first|omega|assumption|(simp only[List.length_cons, *];done)|(simp;done)|fail):(execOp a.eval o).run P w= .ok (.value (.agg vs.toArray)) w:=zf8 H ho hx s.h i.h hv hn
def ztP{s:TypeId}{x:Operand}{f:Nat}(ho:o.op= .fieldAddr s x f){b p off:Nat}(hx:a.eval x= .pointer (some ⟨b,p,none⟩))[h:Fo P s f off]:(execOp a.eval o).run P w= .ok (.value (.pointer (some ⟨b,p+off,none⟩))) w:=zfA ho hx h.h
def zrH{s:TypeId}{x:Operand}{f:Nat}(ho:o.op= .fieldAddr s x f){b p q off:Nat}(hx:a.eval x= .pointer (some ⟨b,p+q,none⟩))[h:Fo P s f off]:(execOp a.eval o).run P w= .ok (.value (.pointer (some ⟨b,p+(q+off),none⟩))) w:=ziS ho hx h.h
def ztV{t:TypeId}{x ix:Operand}(ho:o.op= .indexAddr t x ix){b p n c:Nat}{k:IntKind}{i:Int}(hx:a.eval x= .slice (some ⟨b,p,none⟩) n c)(hi:a.eval ix= .int k i){e:TypeId}{z:List Value}{s by':Nat}[h:Si P t e z s by'](h0:0≤i:=by omega)(h1:i<n:=by omega):(execOp a.eval o).run P w= .ok (.value (.pointer (some ⟨b,p+i.toNat*s,none⟩))) w:=zcI ho hx hi h.h h0 h1
def zrJ{x:Operand}{t:TypeId}(ho:o.op= .call {callee:= .builtin .len,args:=#[x],argTypes:=#[t]}){p:Option Addr}{n c:Nat}(hx:a.eval x= .slice p n c){e:TypeId}{z:List Value}{s by':Nat}[h:Si P t e z s by']:(execOp a.eval o).run P w= .ok (.value (.int .i64 n)) w:=zuz ho hx (zaW h.h).1
def zoj{x:Operand}{t:TypeId}(ho:o.op= .call {callee:= .builtin .len,args:=#[x],argTypes:=#[t]}){s:ByteArray}(hx:a.eval x= .string s)[h:Sy P t]:(execOp a.eval o).run P w= .ok (.value (.int .i64 s.size)) w:=ztl ho hx h.h
def ztO{s d:TypeId}{x:Operand}(ho:o.op= .convert s d x){k k' j:IntKind}{n:Int}(hx:a.eval x= .int k n)[hs:Iy P s j][hd:Iy P d k'](h:inr k' n:=by simp only[inr];omega):(execOp a.eval o).run P w= .ok (.value (.int k' n)) w:=zq8 ho hx (by rw[hs.h];rfl) hd.h h
def zou{s d:TypeId}{x:Operand}(ho:o.op= .convert s d x){k j:IntKind}{n:Int}(hx:a.eval x= .int k n)[hs:Iy P s j][hd:Iy P d .u64]:(execOp a.eval o).run P w= .ok (.value (.int .u64 (n%18446744073709551616))) w:=zmH ho hx (by rw[hs.h];rfl) hd.h
def zoD{s d:TypeId}{x:Operand}(ho:o.op= .convert s d x){k j:IntKind}{n:Int}(hx:a.eval x= .int k n)[hs:Iy P s j][hd:Iy P d .u32]:(execOp a.eval o).run P w= .ok (.value (.int .u32 (n%4294967296))) w:=zmr ho hx (by rw[hs.h];rfl) hd.h
def zrM{s d:TypeId}{x:Operand}(ho:o.op= .convert s d x){k j:IntKind}{n:Int}(hx:a.eval x= .int k n)[hs:Iy P s j][hd:Iy P d .u8]:(execOp a.eval o).run P w= .ok (.value (.int .u8 (n%256))) w:=zoG ho hx (by rw[hs.h];rfl) hd.h
def zkG{sT dT:TypeId}{k:Nat}(ho:o.op= .convert sT dT (.tmp k)){v:Value}{s:List UInt8}(hx:L[k]? =some v)[h1:By P sT][h2:Sy P dT](h:Rd w v s.length (zx s)):(execOp (Act.mk L.toArray ds).eval o).run P w= .ok (.value (ze s)) w:=by
 obtain⟨e,h3,h4⟩:=h1.h;exact zkd ho hx h3 h2.h h4 h
def zrI{t t':TypeId}{x:Operand}(ho:o.op= .binOp .eql t x (.const (.pointer none)) t'){p:Option Addr}(hx:a.eval x= .pointer p)[h:Pp P t]:(execOp a.eval o).run P w= .ok (.value (.bool p.isNone)) w:=zkS ho hx h.h
def zrK{t t':TypeId}{x:Operand}(ho:o.op= .binOp .neq t x (.const (.pointer none)) t'){p:Option Addr}(hx:a.eval x= .pointer p)[h:Pp P t]:(execOp a.eval o).run P w= .ok (.value (.bool (!p.isNone))) w:=zk8 ho hx h.h
def zlI{t:TypeId}{ps:List (Nat×Operand)}(ho:o.op= .build t ps.toArray){css:List (List Value)}(hp:Parts L 0 ps css:=by repeat first|exact .nil _|apply Parts.tmp yF yF|apply Parts.con yF){places:List (Nat×Nat)}{z:List Value}[hst:St P t places z]{ns:List Nat}(hn:css.map List.length=ns:=by simp only[List.map_cons,List.map_nil,List.length_cons,List.length_nil, *];rfl)(hf:zdJ places 0 0 ns=true:=by rfl)(hm:ns.sum=z.length:=by rfl):(execOp (Act.mk L.toArray ds).eval o).run P w= .ok (.value (.agg css.flatten.toArray)) w:=zjz ho hp hst.h hn hf hm
def zrL{t:TypeId}{ps:List (Nat×Operand)}(ho:o.op= .build t ps.toArray){css:List (List Value)}(hp:Parts L 0 ps css:=by repeat first|exact .nil _|apply Parts.tmp yF yF|apply Parts.con yF){places:List (Nat×Nat)}{z:List Value}[hst:St P t places z]{ns:List Nat}(hn:css.map List.length=ns:=by simp only[List.map_cons,List.map_nil,List.length_cons,List.length_nil, *];rfl)(hf:zdJ places 0 0 ns=true:=by rfl){m:Nat}(hm:ns.sum=m:=by rfl)(hz:m≤z.length:=by decide):(execOp (Act.mk L.toArray ds).eval o).run P w= .ok (.value (.agg (css.flatten++z.drop m).toArray)) w:=zih ho hp hst.h hn hf hm hz
section
variable {t:TypeId} {x y y2:Operand} {b p n c:Nat} {k k2:IntKind} {i i2:Int} {e:TypeId} {z:List Value} {s by':Nat}
def zuw(ho:o.op= .slice t x none none none)(hx:a.eval x= .slice (some ⟨b,p,none⟩) n c)[h:Si P t e z s by']:(execOp a.eval o).run P w= .ok (.value (.slice (some ⟨b,p,none⟩) n c)) w:=zn9 ho hx h.h
def zrG(ho:o.op= .slice t x none (some y) none)(hx:a.eval x= .slice (some ⟨b,p,none⟩) n c)[h:Si P t e z s by'](hy:a.eval y= .int k i)(h0:0≤i:=by omega)(h1:i≤c:=by omega):(execOp a.eval o).run P w= .ok (.value (.slice (some ⟨b,p,none⟩) i.toNat c)) w:=zs1 ho hx h.h hy h0 h1
def zrO(ho:o.op= .slice t x (some y) none none)(hx:a.eval x= .slice (some ⟨b,p,none⟩) n c)[h:Si P t e z s by'](hy:a.eval y= .int k i)(h0:0≤i:=by omega)(h1:i≤n:=by omega):(execOp a.eval o).run P w= .ok (.value (.slice (some (if c=i.toNat then⟨b,p,none⟩else⟨b,p+i.toNat*s,none⟩)) (n-i.toNat) (c-i.toNat))) w:=zsj ho hx h.h hy h0 h1
def zfz(ho:o.op= .slice t x (some y) (some y2) none)(hx:a.eval x= .slice (some ⟨b,p,none⟩) n c)[h:Si P t e z s by'](hy:a.eval y= .int k i)(hy2:a.eval y2= .int k2 i2)(h0:0≤i:=by omega)(h1:i≤i2:=by omega)(h2:i2≤c:=by omega):(execOp a.eval o).run P w= .ok (.value (.slice (some (if c=i.toNat then⟨b,p,none⟩else⟨b,p+i.toNat*s,none⟩)) (i2.toNat-i.toNat) (c-i.toNat))) w:=zpU ho hx h.h hy hy2 h0 h1 h2
def zt0(ho:o.op= .slice t x none none none)(hx:a.eval x= .pointer (some ⟨b,p,none⟩))[h:Ar P t n e z s]:(execOp a.eval o).run P w= .ok (.value (.slice (some ⟨b,p,none⟩) n n)) w:=zpz ho hx h.h h.e
def zrS(ho:o.op= .slice t x none (some y) none)(hx:a.eval x= .pointer (some ⟨b,p,none⟩))[h:Ar P t n e z s](hy:a.eval y= .int k i)(h0:0≤i:=by omega)(h1:i≤n:=by omega):(execOp a.eval o).run P w= .ok (.value (.slice (some ⟨b,p,none⟩) i.toNat n)) w:=zsR ho hx h.h h.e hy h0 h1
end
def zqQ(H:Hp T w0 w l){t:TypeId}(ho:o.op= .alloc t){z:List Value}{s:Nat}[ht:Ti P t z s]
 (h:∀g w',w0.heap.size≤g∧w.heap.size≤g→Fr [] w w'→Hp T w0 w' (.blk g z t::l)→K (a.put o.dst (.pointer (some ⟨g,0,none⟩))) w'):o.wp P a w K Q:=zqX H ho ht.h h
def zms(H:Hp T w0 w l){t:TypeId}{lx cx:Operand}(ho:o.op= .makeSlice t lx cx){kl kc:IntKind}{n c:Int}(hl:a.eval lx= .int kl n)(hc:a.eval cx= .int kc c){e:TypeId}{z:List Value}{s by':Nat}[hs:Si P t e z s by']
 (h0:0≤n:=by omega) (h1:n≤c:=by omega) (hb:(by':Int)*c≤281474976710656:=by omega) (h63:c≤9223372036854775807:=by omega)
 (h:∀g w',w0.heap.size≤g∧w.heap.size≤g→Fr [] w w'→Hp T w0 w' (.blk g (List.replicate c.toNat z).flatten e::l)→K (a.put o.dst (.slice (some ⟨g,0,none⟩) n.toNat c.toNat)) w'):o.wp P a w K Q:=zsL H ho hl hc hs.h hs.z h0 h1 hb h63 h
def zme(H:Hp T w0 w l){t:TypeId}{k:Nat}(ho:o.op= .buildSlice t 1 #[(0, .tmp k)]){v:Value}{cs:List Value}(hx:L[k]? =some v)(hc:v.cells=cs.toArray){e:TypeId}{z:List Value}{s by':Nat}[hs:Si P t e z s by'](h24:s≤16777216:=by decide)(h0:s≠0:=by decide)(hl:cs.length=s:=by first|omega|assumption|(simp only[List.length_cons, *];done)|(simp;done)|fail)
 (h:∀g w',w0.heap.size≤g∧w.heap.size≤g→Fr [] w w'→Hp T w0 w' (.blk g cs e::l)→K (Act.put (Act.mk L.toArray ds) o.dst (.slice (some ⟨g,0,none⟩) 1 1)) w'):o.wp P (Act.mk L.toArray ds) w K Q:=zlQ H ho hx hc hs.h hs.z h24 h0 hl h
def zmf(H:Hp T w0 w l){t:TypeId}{v:Value}(ho:o.op= .buildSlice t 1 #[(0, .const v)]){cs:List Value}(hc:v.cells=cs.toArray){e:TypeId}{z:List Value}{s by':Nat}[hs:Si P t e z s by'](h24:s≤16777216:=by decide)(h0:s≠0:=by decide)(hl:cs.length=s:=by first|omega|assumption|(simp only[List.length_cons, *];done)|(simp;done)|fail)
 (h:∀g w',w0.heap.size≤g∧w.heap.size≤g→Fr [] w w'→Hp T w0 w' (.blk g cs e::l)→K (a.put o.dst (.slice (some ⟨g,0,none⟩) 1 1)) w'):o.wp P a w K Q:=znb H ho hc hs.h hs.z h24 h0 hl h
def znc(H:Hp T w0 w l){t:TypeId}{x:Operand}{k:Nat}(ho:o.op= .store t x (.tmp k)){b p:Nat}{v:Value}(hx:(Act.mk L.toArray ds).eval x= .pointer (some ⟨b,p,none⟩))(hy:L[k]? =some v)(h1:v.oneCell'=true:=by rfl)[hs:Sc P t]
 {cs:List Value} {t':TypeId} {f:Nat→List Value→List Ent} [hm:In b cs t' l f] (hp:p<cs.length:=by first|decide|omega|(simp;done)|(simp;omega)|fail)
 (h:∀w',Fr [b] w w'→Hp T w0 w' (f b (cs.set p v))→K (Act.put (Act.mk L.toArray ds) o.dst undef) w'):o.wp P (Act.mk L.toArray ds) w K Q:=zpt H ho hx hy h1 hs.s (hm.h _ _) hp h
def ziT(H:Hp T w0 w l){t:TypeId}{x:Operand}{v:Value}(ho:o.op= .store t x (.const v)){b p:Nat}(hx:a.eval x= .pointer (some ⟨b,p,none⟩))(h1:v.oneCell'=true:=by rfl)[hs:Sc P t]
 {cs:List Value} {t':TypeId} {f:Nat→List Value→List Ent} [hm:In b cs t' l f] (hp:p<cs.length:=by first|decide|omega|(simp;done)|(simp;omega)|fail)
 (h:∀w',Fr [b] w w'→Hp T w0 w' (f b (cs.set p v))→K (a.put o.dst undef) w'):o.wp P a w K Q:=zpF H ho hx h1 hs.s (hm.h _ _) hp h
def zdS(H:Hp T w0 w l){t:TypeId}{x y:Operand}(ho:o.op= .store t x y){b p:Nat}{vs:List Value}(hx:a.eval x= .pointer (some ⟨b,p,none⟩))(hy:a.eval y= .agg vs.toArray){n:Nat}[hs:Ro P t n](hn:vs.length=n:=by first|omega|assumption|(simp only[List.length_cons, *];done)|(simp;done)|fail)
 {cs:List Value} {t':TypeId} {f:Nat→List Value→List Ent} [hm:In b cs t' l f] (h1:∀v∈vs,v.oneCell'=true:=by first|assumption|(simp;done)|fail) (hp:p+n≤cs.length:=by first|omega|(simp only[List.length_cons,List.length_nil, *];omega)|(simp;done)|fail)
 (h:∀w',Fr [b] w w'→Hp T w0 w' (f b (zL cs p vs))→K (a.put o.dst undef) w'):o.wp P a w K Q:=zoo H ho hx hy hs.h hn (hm.h _ _) h1 hp h
def zrR(H:Hp T w0 w l){t:TypeId}{s x:Operand}(ho:o.op= .call {callee:= .builtin .append,args:=#[s,x],argTypes:=#[t,t]})
 {b n cap:Nat} (hs:a.eval s= .slice (some ⟨b,0,none⟩) n cap) {ad:Addr} {m c:Nat} (hx:a.eval x= .slice (some ad) m c) {e:TypeId} {z:List Value} {sz by':Nat} [hsi:Si P t e z sz by']
 {cs xs:List Value} {f:Nat→List Value→List Ent} [hm:In b cs e l f] (hxs:xs<+:cs) (hxl:xs.length=n*sz) (hcl:cs.length=cap*sz) (hcap:cap≤maxLen)
 {news:List Value} (hr:Rd w (.slice (some ad) m c) m news) (hl:news.length=m*sz) (h1:∀u∈news,u.oneCell'=true)
 (h0:0<m) (h48:(n+m)*by'≤140737488355328) (h63:n+m≤maxLen)
 (h:∀g w' cap' pad,(g=b∨w0.heap.size≤g∧w.heap.size≤g)→n+m≤cap'→cap'≤maxLen→(xs++news++pad).length=cap'*sz→Fr [b] w w'→Hp T w0 w' (f g (xs++news++pad))→K (a.put o.dst (.slice (some ⟨g,0,none⟩) (n+m) cap')) w'):o.wp P a w K Q:=zfk H ho hs hx hsi.h hsi.z hm.h hxs hxl hcl hcap hr hl h1 h0 h48 h63 h
def zrQ(H:Hp T w0 w l){t:TypeId}{s x:Operand}(ho:o.op= .call {callee:= .builtin .append,args:=#[s,x],argTypes:=#[t,t]})
 {q:Option Addr} {n cap:Nat} (hs:a.eval s= .slice q n cap) {p:Option Addr} {c:Nat} (hx:a.eval x= .slice p 0 c) {e:TypeId} {z:List Value} {sz by':Nat} [hsi:Si P t e z sz by'] (hn:n≤cap)
 (h:∀w',Fr [] w w'→Hp T w0 w' l→K (a.put o.dst (.slice q n cap)) w'):o.wp P a w K Q:=ze0 H ho hs hn hx hsi.h h
def zvW(H:Hp T w0 w l){d s:Operand}{dT sT:TypeId}(ho:o.op= .call {callee:= .builtin .copy,args:=#[d,s],argTypes:=#[dT,sT]})
 {b off dl dc:Nat} (hd:a.eval d= .slice (some ⟨b,off,none⟩) dl dc) {sp:Option Addr} {sl sc:Nat} (hs:a.eval s= .slice sp sl sc) {e:TypeId} {z:List Value} {sz by':Nat} [hsi:Si P dT e z sz by']
 {cs news:List Value} {t':TypeId} {f:Nat→List Value→List Ent} [hm:In b cs t' l f] {n:Nat} (hn:n=min sl dl) (hr:Rd w (.slice sp n sc) n news) (hl:news.length=n*sz) (h1:∀u∈news,u.oneCell'=true) (hfit:off+news.length≤cs.length)
 (h:∀w',Fr [b] w w'→Hp T w0 w' (f b (zL cs off news))→K (a.put o.dst (.int .i64 n)) w'):o.wp P a w K Q:=zti H ho hd hs hsi.h hn hr hl (hm.h _ _) h1 hfit h
def zk(H:Hp T w0 w l){fn:Func}{R:Ending→World→Prop}{k:Nat}{ty:TypeId}(hr:fn.results=#[.cell k ty]){g:Nat}(hp:L[k]? =some (.pointer (some ⟨g,0,none⟩))){cs:List Value}{t':TypeId}{f:Nat→List Value→List Ent}[i:In g cs t' l f]{n:Nat}[hs:Ro P ty n](hn:cs.length=n)
 (hR:R (.returned (.agg cs.toArray)) w):bodyPost P fn R .ret ⟨L.toArray,[]⟩ w:=zpu H hr hp i.mem hs.h hn hR
end
def nrm:(∀(L:List Value) ds n v,Act.put ⟨L.toArray,ds⟩ (some n) v=⟨(L.set n v).toArray,ds⟩)∧(∀a v,Act.put a none v=a)∧(∀(x:Value) l v,List.set (x::l) 0 v=v::l)∧(∀(x:Value) l n v,List.set (x::l) (n+1) v=x::List.set l n v)∧
 ((none:Option Addr).isNone=true)∧(∀x:Addr,(some x).isNone=false)∧((!true)=false)∧((!false)=true)∧(∀n:Nat,(n:Int).toNat=n)∧(∀n:Nat,n*1=n)∧(∀n:Nat,n-0=n)∧(∀n:Nat,0*n=0)∧(∀n:Nat,n+0=n)∧(∀n:Nat,0+n=n)∧
 (∀(c:Prop) [Decidable c] (x:Addr),(if c then x else x)=x)∧(∀(x:List Value) l,List.flatten (x::l)=x++List.flatten l)∧(List.flatten ([]:List (List Value))=[])∧(∀(x:Value) l r,(x::l)++r=x::(l++r))∧(∀l:List Value,[]++l=l)∧(∀l:List Value,l++[]=l)∧
 (∀(x:Value) l n,List.drop (n+1) (x::l)=List.drop n l)∧(∀l:List Value,List.drop 0 l=l)∧(∀n,List.drop n ([]:List Value)=[])∧(∀(x:Nat) l,(x::l).sum=x+l.sum)∧(([]:List Nat).sum=0)∧(∀l:List UInt8,(l==l)=true):=by
 refine⟨fun L ds n v=>by simp[Act.put],fun a v=>rfl,fun _ _ _=>rfl,fun _ _ _ _=>rfl,rfl,fun _=>rfl,rfl,rfl,fun n=>Int.toNat_natCast n,Nat.mul_one,fun _=>rfl,Nat.zero_mul,fun _=>rfl,Nat.zero_add,fun c _ x=>by split<;>rfl,fun _ _=>rfl,rfl,fun _ _ _=>rfl,fun _=>rfl,List.append_nil,fun _ _ _=>rfl,fun _=>rfl,fun n=>by simp,fun _ _=>rfl,rfl,fun l=>by simp⟩
end
end Go.Proofs.YtaijhllckmndhaaGreatDoor
