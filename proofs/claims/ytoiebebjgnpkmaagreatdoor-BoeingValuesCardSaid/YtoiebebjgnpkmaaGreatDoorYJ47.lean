import Derived.Test.YtoiebebjgnpkmaaGreatDoorYJ30
import Derived.Lib.TrimByte
import Derived.Lib.IndexAny
import Derived.Lib.IndexMore
import Derived.Test.YtoiebebjgnpkmaaGreatDoorYJ46
import Derived.Test.YtoiebebjgnpkmaaGreatDoorYJ16
namespace Go.Proofs.YtoiebebjgnpkmaaGreatDoor
set_option linter.unusedSimpArgs false
set_option linter.unusedVariables false
def up1 (b:UInt8):UInt8:=if 97≤b.toNat∧b.toNat≤122 then b - 32 else b
def ups (s:List UInt8):List UInt8:=s.map up1
def part (a b:Nat) (s:List UInt8):List UInt8:=(s.take b).drop a
def blank (s:List UInt8):List UInt8:=Lib.trimB s 32
structure Lay where
 count:Nat
 width:Nat
 point:Nat
 scale:Nat
deriving DecidableEq
def cntP (s:List UInt8):Nat×Bool:=if s=[] then (0,true) else ((dgts s).1,(dgts s).2&&decide (s.length≤9))
def cntsP (l:List UInt8):List (Nat×Nat)→Option (List Nat)
 | []=>some []
 | (a,b)::r=>if (cntP (blank (part a b l))).2=true then (cntsP l r).map ((cntP (blank (part a b l))).1::·) else none
def innerP (s:List UInt8):Option (List UInt8):=
 if Lib.hasPrefix (ups s) [40]=true∧Lib.hasSuffix (Lib.trimPrefix (ups s) [40]) [41]=true then some (Lib.trimSuffix (Lib.trimPrefix (ups s) [40]) [41]) else none
def shortP (s:List UInt8):Option Nat:=if (dgts s).2=true∧s.length≤3 then some (dgts s).1 else none
def countedP (s ls:List UInt8):Option (Nat×List UInt8):=
 if Lib.indexAny s ls<0 then none
 else if Lib.indexAny s ls=0 then some (1,s.drop 1)
 else (shortP (s.take (Lib.indexAny s ls).toNat)).map fun n=>(n,s.drop ((Lib.indexAny s ls).toNat+1))
def soundP (f:Lay):Bool:=decide (1≤f.count∧1≤f.width∧f.count*f.width≤512)
def wholeP (s:List UInt8):Option Lay:=
 match innerP s with
 | none=>none
 | some r=>match countedP r [73] with
  | none=>none
  | some (c,t)=>match shortP t with
   | none=>none
   | some w=>if soundP ⟨c,w,0,0⟩=true then some ⟨c,w,0,0⟩ else none
def decP1 (sc:Nat) (s:List UInt8):Option Lay:=
 match countedP s [69,68,70] with
 | none=>none
 | some (c,t)=>
  if (Lib.cut t [46]).2.2=true then
   match shortP (Lib.cut t [46]).1,shortP (Lib.cut t [46]).2.1 with
   | some w,some p=>if soundP ⟨c,w,p,sc⟩=true then some ⟨c,w,p,sc⟩ else none
   | _,_ =>none
  else none
def decP (s:List UInt8):Option Lay:=
 match innerP s with
 | none=>none
 | some r=>
  if 1<r.length∧r[1]? =some 80 then
   (if (dgts (r.take 1)).2=true then decP1 (dgts (r.take 1)).1 (Lib.trimPrefix (r.drop 2) [44]) else none)
  else decP1 0 r
def sE:List UInt8:=[101,69,100,68]
def vDig (s:List UInt8):List UInt8:=if Lib.indexAny s sE<0 then s else s.take (Lib.indexAny s sE).toNat
def vExp (f:Lay) (s:List UInt8):Int:=if Lib.indexAny s sE<0 then -(f.scale:Int) else (Lib.atoi (s.drop ((Lib.indexAny s sE).toNat+1))).getD 0
def vPow (f:Lay) (s:List UInt8):Int:=max (if (46:UInt8)∈vDig s then vExp f s else vExp f s - f.point) (-99999)
def valueP (f:Lay) (s:List UInt8):Option Nat:=
 if (dpz 1024 s 0).2=0∧(dpz 1024 (vDig s++101::fmt (vPow f s)) 0).2=0∧finF (dpz 1024 (vDig s++101::fmt (vPow f s)) 0).1=true then some (dpz 1024 (vDig s++101::fmt (vPow f s)) 0).1 else none
def padL (s:List UInt8):List UInt8:=List.replicate (14 - s.length) 32++s
def padR (n:Nat) (s:List UInt8):List UInt8:=s++List.replicate (n - s.length) 32
def sTitle:List UInt8:=[116,105,116,108,101]
def sRUA:List UInt8:=[82,85,65]
def bL1:List UInt8:=padL [51]++padL [49]++padL [49]++padL [49]++padL [48]
def bL2:List UInt8:=padR 14 sRUA++padL [49]++padL [49]++padL [49]++padL [48]
def bL3 (f:List UInt8):List UInt8:=padR 16 [40,50,73,52,41]++padR 16 [40,73,52,41]++f
def bL4:List UInt8:=[32,32,32,49,32,32,32,50]
def bL5:List UInt8:=[32,32,32,49]
def oneB (f v:List UInt8):List UInt8:=sTitle++10::(bL1++10::(bL2++10::(bL3 f++10::(bL4++10::(bL5++10::(v++[10]))))))
theorem lns_cut {s:List UInt8} (h:(10:UInt8)∉s) (cur r:List UInt8):lns cur (s++10::r)=noCR (cur++s)::lns [] r:=by
 induction s generalizing cur with
 | nil=>rw [List.nil_append,List.append_nil,lns,if_pos rfl]
 | cons b s ih=>
  have h1:b≠10:=fun e=>h (by simp [e])
  rw [List.cons_append,lns,if_neg h1,ih (fun m=>h (List.mem_cons_of_mem _ m))]
  simp
theorem lines_one {f v:List UInt8} (hf:(10:UInt8)∉f) (hf2:noCR (bL3 f)=bL3 f) (hv:(10:UInt8)∉v) (hv2:noCR v=v):
 mlines (oneB f v)=[sTitle,bL1,bL2,bL3 f,bL4,bL5,v]:=by
 unfold mlines oneB
 have h3:(10:UInt8)∉bL3 f:=by
  unfold bL3
  intro h
  rcases List.mem_append.1 h with h | h
  ·revert h;decide
  ·exact hf h
 rw [lns_cut (by decide),lns_cut (by decide),lns_cut (by decide),lns_cut h3,lns_cut (by decide),lns_cut (by decide),lns_cut hv]
 rw [List.nil_append,List.nil_append,List.nil_append,List.nil_append,List.nil_append,List.nil_append,List.nil_append,hf2,hv2]
 rfl
theorem cards_one:cntsP bL1 [(0,14),(14,28),(28,42),(42,56),(56,70)]=some [3,1,1,1,0]:=by decide+kernel
theorem sizes_one:cntsP bL2 [(14,28),(28,42),(42,56),(56,70)]=some [1,1,1,0]:=by decide+kernel
theorem kind_one:ups (part 0 3 bL2)=sRUA:=by decide+kernel
theorem title_one:Lib.trimRightB (part 0 72 sTitle) 32=sTitle∧Lib.trimRightB (part 72 80 sTitle) 32=[]:=by decide+kernel
theorem bL3_a (f:List UInt8):part 0 16 (bL3 f)=padR 16 [40,50,73,52,41]:=by
 unfold part bL3
 rw [List.append_assoc,List.take_append,List.take_of_length_le (by decide)]
 rfl
theorem bL3_b (f:List UInt8):part 16 32 (bL3 f)=padR 16 [40,73,52,41]:=by
 unfold part bL3
 rw [List.take_append,List.take_of_length_le (by decide)]
 rfl
theorem bL3_c (f:List UInt8):part 32 52 (bL3 f)=f.take 20:=by
 unfold part bL3
 rw [List.take_append,List.take_of_length_le (by decide),List.drop_append,List.drop_of_length_le (by decide)]
 rfl
theorem whole_a:wholeP (blank (padR 16 [40,50,73,52,41]))=some ⟨2,4,0,0⟩:=by decide+kernel
theorem whole_b:wholeP (blank (padR 16 [40,73,52,41]))=some ⟨1,4,0,0⟩:=by decide+kernel
theorem ints_one:pz (blank (part 0 4 bL4))=(1,0)∧pz (blank (part 4 8 bL4))=(2,0)∧pz (blank (part 0 4 bL5))=(1,0):=by decide+kernel
def v125:List UInt8:=[32,32,32,49,50,53]
theorem awake_lay:decP (blank (([40,51,70,54,46,50,41]:List UInt8).take 20))=some ⟨3,6,2,0⟩:=by decide+kernel
theorem awake_val:valueP ⟨3,6,2,0⟩ (blank (part 0 6 v125))=some 4608308318706860032:=by decide+kernel
end Go.Proofs.YtoiebebjgnpkmaaGreatDoor
namespace Go.Proofs.YtoiebebjgnpkmaaGreatDoor
set_option linter.unusedSimpArgs false
set_option linter.unusedVariables false
end Go.Proofs.YtoiebebjgnpkmaaGreatDoor
namespace Go.Proofs.YtoiebebjgnpkmaaGreatDoor
set_option linter.unusedSimpArgs false
set_option linter.unusedVariables false
def ltE (x y:En):Prop:=x.2.1<y.2.1∨(x.2.1=y.2.1∧x.1<y.1)
def leE (x y:En):Prop:=x.2.1<y.2.1∨(x.2.1=y.2.1∧x.1≤y.1)
def apE (x y:En):Prop:=¬ (x.1=y.1∧x.2.1=y.2.1)
theorem ltE.trans {x y z:En} (h:ltE x y) (k:ltE y z):ltE x z:=by unfold ltE at*;omega
theorem leE.trans {x y z:En} (h:leE x y) (k:leE y z):leE x z:=by unfold leE at*;omega
theorem leE.refl (x:En):leE x x:=by unfold leE;omega
theorem ltE.le {x y:En} (h:ltE x y):leE x y:=by unfold ltE at h;unfold leE;omega
theorem leE.lt {x y:En} (h:leE x y) (k:apE x y):ltE x y:=by unfold leE at h;unfold apE at k;unfold ltE;omega
theorem apE.symm {x y:En} (h:apE x y):apE y x:=by unfold apE at*;omega
theorem perm_ap {L S:List En} (h:L.Perm S) (k:L.Pairwise apE):S.Pairwise apE:=h.pairwise k (fun h=>apE.symm h)
end Go.Proofs.YtoiebebjgnpkmaaGreatDoor
namespace Go.Proofs.YtoiebebjgnpkmaaGreatDoor
open Go.RowKit Go.Shelf
set_option linter.unusedSimpArgs false
set_option linter.unusedVariables false
set_option maxRecDepth 100000 in
set_option maxHeartbeats 2000000 in
theorem bkind_any (w:World) (v1 v2 v3:Value):
 Calls Tryz.prog 18 #[.agg #[.string ⟨#[]⟩, .string ⟨#[]⟩, .int .i64 1, .int .i64 1,v1,v2,v3, .bool false, .int .i64 0]] w fun e w'=>e= .returned (strV [82,85,65])∧Below w.heap.size w w':=by
 refine (callsIn_wide (n:=3)).1 ?_
 refine callsIn_of_wp Tryz.func18 rfl trivial ?_ rfl
 simp only [Tryz.ntmps18,List.size_toArray,List.length_cons,List.length_nil,Nat.reduceAdd,Nat.reduceSub,Array.replicate_succ,Array.replicate_zero,List.push_toArray,List.append_toArray,List.nil_append,List.cons_append]
 gi_wp2
 go_ret
 exact ⟨rfl,(Below.refl _ w).alloc (Nat.le_refl _) _⟩
end Go.Proofs.YtoiebebjgnpkmaaGreatDoor
namespace Go.Proofs.YtoiebebjgnpkmaaGreatDoor
set_option linter.unusedSimpArgs false
set_option linter.unusedVariables false
def k0 (t:Int):Int:=(t*30103).tdiv 100000 - 2
theorem k0_all:∀ i:Nat,i<2300→10 ^ (k0 ((i:Int) - 1150)).toNat*2 ^ (-((i:Int) - 1150)).toNat≤2 ^ ((i:Int) - 1150).toNat*10 ^ (-k0 ((i:Int) - 1150)).toNat:=by decide+kernel
theorem k0_le {t:Int} (h1: -1150≤t) (h2:t<1150):10 ^ (k0 t).toNat*2 ^ (-t).toNat≤2 ^ t.toNat*10 ^ (-k0 t).toNat:=by
 obtain ⟨i,hi⟩:=Int.eq_ofNat_of_zero_le (show 0≤t+1150 by omega)
 have h:=k0_all i (by omega)
 rw [show (i:Int) - 1150=t by omega] at h
 exact h
theorem two_le {N D:Nat} (hN:N≠0) (hD:D≠0) {t:Int} (ht:t=(bl N:Int) - bl D - 1):D*2 ^ t.toNat≤N*2 ^ (-t).toNat:=by
 obtain ⟨h1,h2⟩:=bl_ge hN
 have h3:=bl_lt D
 have e:D*2 ^ t.toNat≤2 ^ bl D*2 ^ t.toNat:=Nat.mul_le_mul_right _ (by omega)
 have e2:2 ^ (bl N - 1)*2 ^ (-t).toNat≤N*2 ^ (-t).toNat:=Nat.mul_le_mul_right _ h1
 rw [← Nat.pow_add] at e e2
 have e3:2 ^ (bl D+t.toNat)≤2 ^ (bl N - 1+(-t).toNat):=Nat.pow_le_pow_right (by decide) (by omega)
 omega
theorem k0_ten {N D:Nat} (hN:N≠0) (hD:D≠0) {t:Int} (ht:t=(bl N:Int) - bl D - 1) (h1: -1150≤t) (h2:t<1150):tenLe N D (k0 t):=by
 rw [tenLe_iff]
 have a:=two_le hN hD ht
 have b:=k0_le h1 h2
 generalize k0 t=k at b ⊢
 have hp:=pow2_pos (-t).toNat
 apply Nat.le_of_mul_le_mul_right _ hp
 calc D*10 ^ k.toNat*2 ^ (-t).toNat=D*(10 ^ k.toNat*2 ^ (-t).toNat):=Nat.mul_assoc _ _ _
  _ ≤D*(2 ^ t.toNat*10 ^ (-k).toNat):=Nat.mul_le_mul_left _ b
  _ =D*2 ^ t.toNat*10 ^ (-k).toNat:=(Nat.mul_assoc _ _ _).symm
  _ ≤N*2 ^ (-t).toNat*10 ^ (-k).toNat:=Nat.mul_le_mul_right _ a
  _ =N*10 ^ (-k).toNat*2 ^ (-t).toNat:=Nat.mul_right_comm _ _ _
theorem two_1100:∀ K:Nat,K=1100→2 ^ K≤10 ^ (333:Nat):=by intro K h;subst h;decide+kernel
theorem k_top {N D:Nat} {k:Int} (hD:D≠0) (hb:bl N≤1100) (h:tenLe N D k):k≤332:=by
 apply Classical.byContradiction
 intro hc
 have h3:=tenLe_mono h (show (333:Int)≤k by omega)
 rw [tenLe_iff] at h3
 rw [show (-(333:Int)).toNat=0 from rfl,show (333:Int).toNat=333 from rfl,Nat.pow_zero,Nat.mul_one] at h3
 have h4:=bl_lt N
 obtain ⟨K,hK⟩:∃ K:Nat,K=1100:=⟨_,rfl⟩
 have h5:2 ^ bl N≤2 ^ K:=Nat.pow_le_pow_right (by decide) (by omega)
 have h6:=two_1100 K hK
 have h7:10 ^ (333:Nat)≤D*10 ^ (333:Nat):=Nat.le_mul_of_pos_left _ (Nat.pos_of_ne_zero hD)
 omega
theorem k0_range {t:Int} (h1: -1150≤t) (h2:t<1150): -400≤k0 t∧k0 t≤400:=by
 unfold k0
 rcases Int.le_total 0 t with h | h
 ·rw [Int.tdiv_eq_ediv_of_nonneg (by omega)];omega
 ·obtain ⟨s,rfl⟩:∃ s,t= -s:=⟨-t,by omega⟩
  rw [show -s*30103= -(s*30103) by omega,Int.neg_tdiv,Int.tdiv_eq_ediv_of_nonneg (by omega)];omega
end Go.Proofs.YtoiebebjgnpkmaaGreatDoor
namespace Go.Proofs.YtoiebebjgnpkmaaGreatDoor
open Go.RowKit
set_option linter.unusedSimpArgs false
set_option linter.unusedVariables false
set_option maxHeartbeats 8000000
set_option maxRecDepth 100000
theorem repeatL_zeros (k:Nat):Lib.repeatL [48] k=List.replicate k 48:=by
 induction k with
 | zero=>rfl
 | succ k ih=>rw [Lib.repeatL,ih];rfl
theorem repeat_any (k:Nat) (hk:k≤1000000) (w:World):
 Calls Tryz.prog 51 #[.string (ByteArray.mk #[48]), .int .i64 (k:Int)] w fun e w'=>e= .returned (strV (List.replicate k 48))∧Fr [] w w':=by
 refine Calls.mono (Tryz.strings_Repeat (ByteArray.mk #[48]) k w (by omega) (by show 1*k≤_;omega)) ?_
 rintro e w' ⟨rfl,hb⟩
 exact ⟨by rw [show (ByteArray.mk #[48]).data.toList=[48] from rfl,repeatL_zeros];rfl,Fr.of_below hb⟩
theorem strs_back (gs:List (List UInt8)):(gs.map fun s=>(⟨s.toArray⟩:ByteArray)).map (·.data.toList)=gs:=by
 rw [List.map_map]
 conv=>rhs;rw [← List.map_id gs]
 exact List.map_congr_left (fun s _ =>by simp)
theorem join_flat (gs:List (List UInt8)):Lib.join gs []=gs.flatten:=by
 unfold Lib.join
 induction gs with
 | nil=>rfl
 | cons x l ih=>
  cases l with
  | nil=>simp
  | cons y l=>rw [List.intercalate_cons_cons,ih];simp
theorem join_any {w:World} {g c n:Nat} (gs:List (List UInt8)) (hln:gs.length=n) (hc:∀ (j:Nat) x,gs[j]? =some x→w.cell? ⟨g,0+j,none⟩=some (strV x)) (hg:g<w.heap.size) (hn:gs.length≤1000000) (hcap:gs.length≤c) (hl:gs.flatten.length≤140737488355328):
 Calls Tryz.prog 19 #[.slice (some ⟨g,0,none⟩) n c, .string (ByteArray.mk #[])] w fun e w'=>e= .returned (strV gs.flatten)∧Fr [] w w':=by
 subst hln
 have hm:=strs_back gs
 have h:=Tryz.strings_Join g 0 c (gs.map fun s=>(⟨s.toArray⟩:ByteArray)) (ByteArray.mk #[]) w (fun j x hx=>by
  rw [List.getElem?_map] at hx
  obtain ⟨s,hs,rfl⟩:=Option.map_eq_some_iff.1 hx
  exact hc j s hs) hg (by rw [List.length_map];omega) (by rw [List.length_map];exact hcap) (by rw [hm,show (ByteArray.mk #[]).data.toList=[] from rfl,join_flat];exact hl)
 rw [hm,List.length_map] at h
 refine Calls.mono h ?_
 rintro e w' ⟨rfl,hb⟩
 exact ⟨by rw [show (ByteArray.mk #[]).data.toList=[] from rfl,join_flat];rfl,Fr.of_below hb⟩
theorem Fr.setCells (b:Nat):∀ (vs:List Value) (o:Nat) (w:World),Fr [b] w (w.setCells b o vs)
 | [],_,_ =>Fr.refl _ _
 | v::vs,o,w=>by
  rw [World.setCells]
  refine Fr.trans ?_ (Fr.setCells b vs (o+1) _)
  exact ⟨rfl,rfl,rfl,by simp,fun k hk hn=>Below.heap_setCell w _ v k (by simpa using hn)⟩
theorem reverse_any {w:World} {g c n:Nat} {e:TypeId} (gs:List (List UInt8)) (pad:List Value) (hln:gs.length=n) (hg:w.heap[g]? =some (.cells ((gs.map strV)++pad).toArray e (0,0))) (hn:gs.length≤1000000):
 Calls Tryz.prog 186 #[.slice (some ⟨g,0,none⟩) n c] w fun e w'=>e= .returned (.tuple #[])∧Fr [g] w w'∧g<w'.heap.size∧∀ (j:Nat) x,gs.reverse[j]? =some x→w'.cell? ⟨g,0+j,none⟩=some (strV x):=by
 subst hln
 have hS:Lib.strsOf (fun i=>⟨(gs.getD i []).toArray⟩) gs.length=gs:=by
  unfold Lib.strsOf
  apply List.ext_getElem
  ·simp
  ·intro i h1 h2
   simp [List.getD,List.getElem?_eq_getElem h2]
 have hc:∀ i,i<gs.length→w.cell? ⟨g,0+i,none⟩=some (strV (gs.getD i [])):=by
  intro i hi
  rw [cell_of_row w g _ _ _ _ hg,Nat.zero_add]
  simp [List.getElem?_append_left,hi,List.getD,List.getElem?_eq_getElem hi]
 refine Calls.mono (Tryz.slices_Reverse_string_cells g 0 gs.length c (fun i=>⟨(gs.getD i []).toArray⟩) w (by omega) hc (fun j _ =>frozen_of_row w g _ _ _ hg)) ?_
 rintro e w' ⟨rfl,q,rfl⟩
 rw [hS]
 have hF:Fr [g] w ((w.drewN q).setCells g 0 (gs.reverse.map encStr)):=(⟨rfl,rfl,rfl,Nat.le_refl _,fun _ _ _ =>rfl⟩:Fr [g] w (w.drewN q)).trans (Fr.setCells g _ _ _)
 refine ⟨rfl,hF,Nat.lt_of_lt_of_le (Array.getElem?_eq_some_iff.1 hg).1 hF.size,fun j x hx=> ?_⟩
 have hj:=(List.getElem?_eq_some_iff.1 hx).1
 have h1:=World.cell?_setCells_in g (gs.reverse.map encStr) 0 (w.drewN q) (fun i hi=>by
  have h2:=hc i (by simpa using hi)
  show (w.cell? _).isSome=true
  rw [h2];rfl) j (by simpa using hj)
 rw [h1]
 simp only [List.getElem_map]
 have h3:=(List.getElem?_eq_some_iff.1 hx).2
 rw [h3]
 rfl
theorem run_strAdd {P:Program} {t:TypeId} {w:World} (s r:List UInt8) (hl:s.length+r.length≤1000000000):(binOp .add t (strV s) (strV r)).run P w= .ok (strV (s++r)) w:=by
 have e:(⟨s.toArray⟩:ByteArray)++⟨r.toArray⟩=⟨(s++r).toArray⟩:=by
  apply ByteArray.ext
  simp [ByteArray.data_append]
 have hn:¬ (((ByteArray.mk s.toArray).size+(ByteArray.mk r.toArray).size:Nat):Int)>IntKind.i64.max:=by
  show ¬ (((s.toArray.size+r.toArray.size:Nat):Int)>9223372036854775807)
  simp only [List.size_toArray]
  omega
 have e2:(Op.stringOp .add ⟨s.toArray⟩ ⟨r.toArray⟩).run P w= .ok (strV (s++r)) w:=by
  unfold Op.stringOp
  simp only [if_neg hn,e]
  rfl
 exact e2
theorem Hp.past {w wr:World} {l:List Ent} {k:Nat} {S:List Nat} {Q:World→Prop} {g:Nat} (H:Hp [] w wr l) (hm: .obj k S Q∈l) (hS:g∈S) {w':World} (hF:Fr [g] wr w'):Fr [] w w':=
 H.fr.andThen hF (fun x hx=>by
  simp only [List.mem_singleton] at hx
  subst hx
  exact (H.ok _ hm).2.2 _ hS)
theorem Dg.fin {N n:Nat} {gs:List (List UInt8)} (h:Dg N n 0 gs) (hne:gs≠[]):gs.reverse.flatten=dec N:=by
 rw [h.d,if_pos ⟨rfl,hne⟩,List.nil_append]
set_option maxHeartbeats 8000000 in
theorem format_any {w:World} {p:Option Addr} {n c:Nat} (neg:Bool) (l:List Nat) (hl:l.length=n) (hn:n≤10000) (h:LR w p c l) (ht:Lib.TabIs Tryz.prog w "internal/strconv.uint64pow10" .u64 Lib.pow10Tab):
 Calls Tryz.prog 137 #[.agg #[.bool neg, .slice p n c]] w fun e w'=>e= .returned (strV (fmt (zv neg l)))∧Fr [] w w':=by
 subst hl
 have Hh:=hid h
 have hA:=hid (h.trim)
 have HT:=hid ht
 have hlen:=digs_len_le h.lim
 have H:=Hp.start [] w
 clear h ht
 obtain ⟨A,hAe⟩:∃ A,val l=A:=⟨_,rfl⟩
 have Hv:=hid hAe
 have Hz:Hid (zv neg l=sg neg A):=hid (by rw [zv_sg,hAe])
 rw [hAe] at hA hlen
 clear hAe
 have HAl:=hid (digs_lt A)
 go_enter Tryz.func137,Tryz.ntmps137
 go_wp2_with (first | refine x_q H ?_ | (revert H;refine x_g ?_;intro g w1 hg hf H;((first | replace hkk:=hid (fun p c l h hn=>LR.frS (hkk.out p c l h hn) hf hn) | replace hkk:=hid (fun p c l h hn=>(hkk.out p c l h hn).fr hf) | skip);clear hf)))
 (refine x_c H (trim_any l rfl (Hh.out.fr H.fr)) ?_;clear H;rintro e w1 ⟨rfl,hF⟩ H;skip)
 rw [Hv.out]
 go_wp2_with fail
 (refine x_c H (clone_any (digs A) rfl (by omega) (hA.out.fr H.fr)) ?_;clear H;rintro e w1 ⟨p1,c1,rfl,hF,hL⟩ H;have HL1:=hid hL;clear hL)
 go_wp2_with fail
 have H1:=H.newRow 0 (e:=9) (sz:=1)
 clear H
 have H:=H1
 clear H1
 go_loopg [3,4] A (fun kk s3 s4 wr=>∃ (p1:Option Addr) (c1:Nat) (gs:List (List UInt8)) (v:Value) (S:List Nat) (m:Nat),s3= .slice p1 (digs kk).length c1∧s4=v∧Hid (LR wr p1 c1 (digs kk))∧Dg A (digs A).length kk gs∧(digs kk).length≤10000∧Hid (gs.length=m)∧m≤320000∧Hp [] w wr [.obj 0 S (RowAt 9 1 v m (gs.map strV) S), .blk g [.bool neg, .slice p l.length c] 112])
 case atStart=>exact ⟨p1,c1,[],_,_,0,rfl,rfl,HL1,Dg.start _ _,by omega,hid rfl,by omega,H⟩
 case round=>
  clear H HL1
  obtain ⟨p1,c1,gs,v,S,m,rfl,hv,HL1,HD,hkl,Hm,hm3,H⟩:=hrel
  obtain ⟨pg,cg,he,hmc,hcm,_⟩:=(H.rowo 0).form
  subst he
  subst hv
  unfold maxLen at hcm
  by_cases h0:gk=0
  ·have h0':(digs gk).length≤0:=by rw [h0,digs_zero];exact Nat.le_refl _
   have H0:=hid h0
   clear h0
   by_cases hm0:m≤0
   ·have hA0:Hid (A=0):=hid (by
     have e:gs=[]:=List.eq_nil_of_length_eq_zero (by have:=Hm.out;omega)
     have:=HD.x
     rw [H0.out,e] at this
     simpa using this.symm)
    go_wp2_with (refine x_q H ?_)
    go_ret
    refine ⟨?_,H.fr⟩
    rw [Hz.out,hA0.out,sg_zero,fmt_zero]
    rfl
   ·have hm1:0<m:=by omega
    have hne:gs≠[]:=fun e=>by have:=Hm.out;rw [e] at this;simp at this;omega
    have Hf:Hid (gs.reverse.flatten=dec A):=hid (by have h1:=HD;rw [H0.out] at h1;exact h1.fin hne)
    have HA0:=hid (HD.nz hne)
    have Hdl:Hid ((dec A).length≤9*320000):=hid (by
     rw [← Hf.out]
     have h1:=HD.bytes
     have h2:gs.reverse.flatten.length=gs.flatten.length:=by
      rw [List.length_flatten,List.length_flatten,List.map_reverse,List.sum_reverse]
     have:=Hm.out
     omega)
    clear hne hm0
    cases neg
    ·go_wp2_with (refine x_q H ?_)
     obtain ⟨hrow0,⟨hS0,hn0',he⟩ | ⟨g0,cap0,pad0,hS0,he,hle,hmax,hlen0,hg0⟩⟩:=H.rowo 0
     ·exact absurd hn0' (by omega)
     injection he with e1 e2 e3
     subst e1 e3
     refine Calls.mono (reverse_any (gs) pad0 Hm.out hg0 (by have:=Hm.out;omega)) ?_
     rintro e w1 ⟨rfl,hF,hgw,hcell⟩
     have hfr:=H.past (g:=g0) (by first | exact .head _ | exact .tail _ (.head _)) (by rw [hS0];simp) hF
     clear H hF hS0 hrow0
     have H:Hp [] w w1 []:=⟨hfr,by simp,by simp⟩
     clear hfr
     have Hcell:=hid hcell
     clear hcell
     go_wp2_with fail
     refine Calls.mono (join_any (gs).reverse (by rw [List.length_reverse];exact Hm.out) (fun j x hx=>Hcell.out j x hx) hgw (by rw [List.length_reverse];have:=Hm.out;omega) (by rw [List.length_reverse];have:=Hm.out;omega) (by rw [Hf.out];have:=Hdl.out;(try simp only [List.length_cons]);omega)) ?_
     rintro e w2 ⟨rfl,hF⟩
     have H1:=H.step hF (by simp)
     clear H hF
     have H:=H1
     clear H1
     rw [Hf.out]
     go_wp2_with fail
     go_ret
     refine ⟨?_,H.fr⟩
     rw [Hz.out,fmt,sg_abs]
     rw [if_neg (by unfold sg;simp)]
     rfl
    ·go_wp2_with (first | refine x_q H ?_ | (refine is_blt (b:= .append) rfl ?_;go_loud (refine wl_rw rfl (fun K hK=>c_aprS H rfl rfl rfl 0 (H.rd (b:=g) (off:=0) (vs:=[strV [45]]) List.prefix_rfl) rfl (by intro u hu;simp only [List.mem_singleton] at hu;subst hu;rfl) (by omega) (by unfold maxLen;omega) (fun p1 c1 w1 S' hf H1=>hK _ _ ?_)));(clear hK K);(clear H;have H:=H1;clear H1;(try dsimp only at H);((first | replace hkk:=hid (fun p c l h hn=>LR.frS (hkk.out p c l h hn) hf hn) | replace hkk:=hid (fun p c l h hn=>(hkk.out p c l h hn).fr hf) | skip);clear hf));(simp only [nrm,↓reduceIte,Nat.reduceAdd])) | (revert H;refine x_g ?_;intro g w1 hg hf H;((first | replace hkk:=hid (fun p c l h hn=>LR.frS (hkk.out p c l h hn) hf hn) | replace hkk:=hid (fun p c l h hn=>(hkk.out p c l h hn).fr hf) | skip);clear hf)))
     rw [show (gs.map strV)++[strV [45]]=(gs++[[45]]).map strV by simp] at H
     have Hm2:Hid ((gs++[[45]]).length=m+1):=hid (by rw [List.length_append,Hm.out];rfl)
     have Hf2:Hid ((gs++[[45]]).reverse.flatten=45::dec A):=hid (by rw [List.reverse_append,List.reverse_singleton,List.singleton_append,List.flatten_cons,Hf.out];rfl)
     obtain ⟨hrow0,⟨hS0,hn0',he⟩ | ⟨g0,cap0,pad0,hS0,he,hle,hmax,hlen0,hg0⟩⟩:=H.rowo 0
     ·exact absurd hn0' (by omega)
     injection he with e1 e2 e3
     subst e1 e3
     refine Calls.mono (reverse_any (gs++[[45]]) pad0 Hm2.out hg0 (by have:=Hm2.out;omega)) ?_
     rintro e w1 ⟨rfl,hF,hgw,hcell⟩
     have hfr:=H.past (g:=g0) (by first | exact .head _ | exact .tail _ (.head _)) (by rw [hS0];simp) hF
     clear H hF hS0 hrow0
     have H:Hp [] w w1 []:=⟨hfr,by simp,by simp⟩
     clear hfr
     have Hcell:=hid hcell
     clear hcell
     go_wp2_with fail
     refine Calls.mono (join_any (gs++[[45]]).reverse (by rw [List.length_reverse];exact Hm2.out) (fun j x hx=>Hcell.out j x hx) hgw (by rw [List.length_reverse];have:=Hm2.out;omega) (by rw [List.length_reverse];have:=Hm2.out;omega) (by rw [Hf2.out];have:=Hdl.out;(try simp only [List.length_cons]);omega)) ?_
     rintro e w2 ⟨rfl,hF⟩
     have H1:=H.step hF (by simp)
     clear H hF
     have H:=H1
     clear H1
     rw [Hf2.out]
     go_wp2_with fail
     go_ret
     refine ⟨?_,H.fr⟩
     rw [Hz.out,fmt,sg_abs]
     rw [if_pos (by have:=HA0.out;unfold sg;simp;omega)]
     rfl
  ·have hkp:0<(digs gk).length:=digs_len_pos h0
   have HN:=HD.next HAl.out h0
   have hlt:=hid (Nat.div_lt_self (Nat.pos_of_ne_zero h0) (show 1<1000000000 by decide))
   have h0:=hid h0
   have hml:=HN.len
   rw [List.length_append,Hm.out,List.length_cons,List.length_nil] at hml
   have hql:=digs_mono (Nat.div_le_self gk 1000000000)
   go_wp2_with (refine x_q H ?_)
   have hSlt:∀ x∈S,x<wr.heap.size:=(H.ok _ (.head _)).2.1.lt _ (H.ok _ (.head _)).1
   (refine x_c H (short_new (digs gk) 1000000000 rfl (by omega) HL1.out (by omega) (by omega)) ?_;clear H;rintro e w1 ⟨p2,c2,rfl,hF,hL,hnw⟩ H;have HL2:=hid hL;have HN2:Hid (∀ b off,p2=some ⟨b,off,none⟩→b∉S):=hid (fun b off e hb=>by have h1:=hnw b off e;have h2:=hSlt b hb;omega);clear hL hnw hSlt)
   rw [val_digs] at HL2 ⊢
   have hr9:gk % 1000000000<1000000000:=Nat.mod_lt _ (by decide)
   have hgr:Hid (grp gk=if gk / 1000000000=0 then dec (gk % 1000000000) else pad9 (gk % 1000000000)):=hid rfl
   generalize gk % 1000000000=r at hr9 hgr ⊢
   generalize gk / 1000000000=X at*
   go_wp2_with (refine x_q H ?_)
   (refine x_c H (itoa_any r (by omega) _ (TabIs.fr HT.out H.fr)) ?_;clear H;rintro e w1 ⟨rfl,hF⟩ H;replace HL2:=hid (HL2.out.fr hF))
   by_cases hX:X=0
   ·have hX0:(digs X).length≤0:=by rw [hX,digs_zero];exact Nat.le_refl _
    have Hg:Hid (grp gk=dec r):=hid (by rw [hgr.out,if_pos hX])
    clear hX hgr
    have hkk:=hid (fun (p:Option Addr) (c:Nat) (l:List Nat) (h:LR w1 p c l) (hn:∀ b off,p=some ⟨b,off,none⟩→b∉S)=>h)
    go_wp2_with (first | refine x_q H ?_ | (refine is_blt (b:= .append) rfl ?_;go_loud (refine wl_rw rfl (fun K hK=>c_aprS H rfl rfl rfl 0 (H.rd (b:=g) (off:=0) (vs:=[strV (dec r)]) List.prefix_rfl) rfl (by intro u hu;simp only [List.mem_singleton] at hu;subst hu;rfl) (by omega) (by unfold maxLen;omega) (fun p1 c1 w1 S' hf H1=>hK _ _ ?_)));(clear hK K);(clear H;have H:=H1;clear H1;(try dsimp only at H);((first | replace hkk:=hid (fun p c l h hn=>LR.frS (hkk.out p c l h hn) hf hn) | replace hkk:=hid (fun p c l h hn=>(hkk.out p c l h hn).fr hf) | skip);clear hf));(simp only [nrm,↓reduceIte,Nat.reduceAdd])) | (revert H;refine x_g ?_;intro g w1 hg hf H;((first | replace hkk:=hid (fun p c l h hn=>LR.frS (hkk.out p c l h hn) hf hn) | replace hkk:=hid (fun p c l h hn=>(hkk.out p c l h hn).fr hf) | skip);clear hf)))
    rw [show (gs.map strV)++[strV (dec r)]=(gs++[grp gk]).map strV by rw [Hg.out];simp] at H
    go_roundg X
    case measure=>exact hlt.out
    case rel=>exact ⟨p2,c2,gs++[grp gk],_,S',m+1,rfl,rfl,hid (hkk.out _ _ _ HL2.out HN2.out),HN,by omega,hid (by rw [List.length_append,Hm.out];rfl),by omega,H.sub (by repeat first | exact List.Sublist.refl _ | exact List.nil_sublist _ | apply List.Sublist.cons_cons | apply List.Sublist.cons)⟩
   ·have hX0:0<(digs X).length:=digs_len_pos hX
    have Hg:Hid (grp gk=pad9 r):=hid (by rw [hgr.out,if_neg hX])
    have hd9:=dec_len9 hr9
    obtain ⟨b,hb⟩:∃ b:ByteArray,b=⟨(dec r).toArray⟩:=⟨_,rfl⟩
    have hbs:b.size=(dec r).length:=by rw [hb];show (dec r).toArray.size=_;simp
    have hbs9:b.size≤9:=by omega
    have Hbs:=hid hbs
    have Hb:Hid (Value.string b=strV (dec r)):=hid (by rw [hb];rfl)
    clear hX hgr hb hbs
    rw [show strV (Lib.decDigits r)=Value.string b from Hb.out.symm]
    go_wp2_with (refine x_q H ?_)
    rw [show (9:Int) - (b.size:Int)=((9 - b.size:Nat):Int) by omega]
    (refine x_c H (repeat_any (9 - b.size) (by omega) _) ?_;clear H;rintro e w1 ⟨rfl,hF⟩ H;replace HL2:=hid (HL2.out.fr hF))
    have Hp9:Hid (List.replicate (9 - b.size) 48++dec r=pad9 r):=hid (by rw [Hbs.out];rfl)
    have hadd:(List.replicate (9 - b.size) (48:UInt8)).length+(dec r).length≤1000000000:=by rw [List.length_replicate];omega
    rw [Hb.out]
    go_wp2_with fail
    rw [run_strAdd _ _ hadd,Hp9.out]
    have hkk:=hid (fun (p:Option Addr) (c:Nat) (l:List Nat) (h:LR w1 p c l) (hn:∀ b off,p=some ⟨b,off,none⟩→b∉S)=>h)
    go_wp2_with (first | (refine is_blt (b:= .append) rfl ?_;go_loud (refine wl_rw rfl (fun K hK=>c_aprS H rfl rfl rfl 0 (H.rd (b:=g) (off:=0) (vs:=[strV (pad9 r)]) List.prefix_rfl) rfl (by intro u hu;simp only [List.mem_singleton] at hu;subst hu;rfl) (by omega) (by unfold maxLen;omega) (fun p1 c1 w1 S' hf H1=>hK _ _ ?_)));(clear hK K);(clear H;have H:=H1;clear H1;(try dsimp only at H);((first | replace hkk:=hid (fun p c l h hn=>LR.frS (hkk.out p c l h hn) hf hn) | replace hkk:=hid (fun p c l h hn=>(hkk.out p c l h hn).fr hf) | skip);clear hf));(simp only [nrm,↓reduceIte,Nat.reduceAdd])) | (revert H;refine x_g ?_;intro g w1 hg hf H;((first | replace hkk:=hid (fun p c l h hn=>LR.frS (hkk.out p c l h hn) hf hn) | replace hkk:=hid (fun p c l h hn=>(hkk.out p c l h hn).fr hf) | skip);clear hf)))
    rw [show (gs.map strV)++[strV (pad9 r)]=(gs++[grp gk]).map strV by rw [Hg.out];simp] at H
    go_roundg X
    case measure=>exact hlt.out
    case rel=>exact ⟨p2,c2,gs++[grp gk],_,S',m+1,rfl,rfl,hid (hkk.out _ _ _ HL2.out HN2.out),HN,by omega,hid (by rw [List.length_append,Hm.out];rfl),by omega,H.sub (by repeat first | exact List.Sublist.refl _ | exact List.nil_sublist _ | apply List.Sublist.cons_cons | apply List.Sublist.cons)⟩
theorem format_ar {w:World} {u:Value} {x:Int} {n:Nat} (h:Av w u x n) (hn:n≤10000) (ht:Lib.TabIs Tryz.prog w "internal/strconv.uint64pow10" .u64 Lib.pow10Tab):
 Calls Tryz.prog 137 #[u] w fun e w'=>e= .returned (strV (fmt x))∧Fr [] w w':=by
 obtain ⟨na,la,p,c,rfl,h1,rfl,h3⟩:=h
 exact format_any na la rfl (by omega) h1 ht
end Go.Proofs.YtoiebebjgnpkmaaGreatDoor
