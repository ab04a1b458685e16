import Derived.Test.YtoiebebjgnpkmaaGreatDoorYJ30
import Derived.Test.YtoiebebjgnpkmaaGreatDoorYJ47
import Derived.Test.YtoiebebjgnpkmaaGreatDoorYJ19
import Derived.Test.YtoiebebjgnpkmaaGreatDoorYJ0
namespace Go.Proofs.YtoiebebjgnpkmaaGreatDoor
open Go.RowKit
set_option linter.unusedSimpArgs false
set_option linter.unusedVariables false
def upk (k:Nat) (s:List UInt8):List UInt8:=(s.take k).map up1++s.drop k
theorem upk_get {k:Nat} {s:List UInt8} {b:UInt8} (h:s[k]? =some b):(upk k s)[k]? =some b:=by
 have hlt:=(List.getElem?_eq_some_iff.1 h).1
 unfold upk
 rw [List.getElem?_append_right (by simp;omega)]
 simp only [List.length_map,List.length_take,Nat.min_eq_left (Nat.le_of_lt hlt),Nat.sub_self,List.getElem?_drop,Nat.add_zero]
 exact h
theorem upk_next {k:Nat} {s:List UInt8} {b:UInt8} (h:s[k]? =some b):(upk k s).set k (up1 b)=upk (k+1) s:=by
 obtain ⟨hlt,rfl⟩:=List.getElem?_eq_some_iff.1 h
 unfold upk
 rw [List.set_append_right _ _ (by simp;omega)]
 simp only [List.length_map,List.length_take,Nat.min_eq_left (Nat.le_of_lt hlt),Nat.sub_self]
 rw [List.drop_eq_getElem_cons hlt,List.set_cons_zero,List.take_add_one,h]
 simp only [Option.toList_some,List.map_append,List.map_cons,List.map_nil,List.append_assoc,List.singleton_append]
theorem upk_same {k:Nat} {s:List UInt8} {b:UInt8} (h:s[k]? =some b) (hb:up1 b=b):upk (k+1) s=upk k s:=by
 rw [← upk_next h,hb]
 have h2:=upk_get h
 refine List.ext_getElem? fun i=> ?_
 by_cases e:i=k
 ·subst e
  rw [List.getElem?_set_self (List.getElem?_eq_some_iff.1 h2).1,h2]
 ·rw [List.getElem?_set_ne (fun h=>e h.symm)]
theorem up1_up {b:UInt8} {n:Nat} (hn:b.toNat=n) (h1:97≤n) (h2:n≤122):(up1 b).toNat=n - 32:=by
 unfold up1
 rw [if_pos (by omega),UInt8.toNat_sub]
 show (2 ^ 8 - 32+b.toNat) % 2 ^ 8=_
 omega
theorem up1_id {b:UInt8} (h:¬ (97≤b.toNat∧b.toNat≤122)):up1 b=b:=by unfold up1;rw [if_neg h]
theorem part_eq (a b:Nat) (s:List UInt8):part a b s=(s.take (min b s.length)).drop (min a s.length):=by
 unfold part
 refine List.ext_getElem? fun i=> ?_
 rw [List.getElem?_drop,List.getElem?_drop,List.getElem?_take,List.getElem?_take]
 by_cases h:a≤s.length
 ·rw [Nat.min_eq_left h]
  by_cases h2:a+i<b
  ·by_cases h3:a+i<s.length
   ·rw [if_pos h2,if_pos (by omega)]
   ·rw [if_pos h2,if_neg (by omega),List.getElem?_eq_none (by omega)]
  ·rw [if_neg h2,if_neg (by omega)]
 ·have e1:s[a+i]? =none:=List.getElem?_eq_none (by omega)
  have e2:s[s.length+i]? =none:=List.getElem?_eq_none (by omega)
  rw [Nat.min_eq_right (by omega),e1,e2]
  split<;>split<;>rfl
theorem blank_len (s:List UInt8):(blank s).length≤s.length:=by
 unfold blank Lib.trimB Lib.trimRightB Lib.trimLeftB
 refine Nat.le_trans (List.dropWhile_suffix _).length_le ?_
 rw [List.length_reverse]
 refine Nat.le_trans (List.dropWhile_suffix _).length_le ?_
 rw [List.length_reverse];exact Nat.le_refl _
theorem part_len (a b:Nat) (s:List UInt8):(part a b s).length≤s.length:=by
 unfold part
 rw [List.length_drop,List.length_take]
 omega
theorem indexAny_lt (ls:List UInt8):∀ s:List UInt8,0≤Lib.indexAny s ls→Lib.indexAny s ls<(s.length:Int)
 | [],h=>absurd h (by simp [Lib.indexAny])
 | b::l,h=>by
  have ih:=indexAny_lt ls l
  have hg:=Lib.indexAny_ge ls l
  rw [Lib.indexAny] at h ⊢
  simp only [List.length_cons]
  split
  ·omega
  ·rename_i hb
   rw [if_neg hb] at h
   split
   ·omega
   ·rename_i h1
    rw [if_neg h1] at h
    have h2:Lib.indexAny l ls≠ -1:=by simpa using h1
    have:=ih (by omega)
    omega
def asc (s:List UInt8):Bool:=s.all fun b=>decide (b.toNat<128)
theorem asc_sub {s r:List UInt8} (h:asc s=true) (hr:∀ b∈r,b∈s):asc r=true:=by
 unfold asc at h ⊢
 rw [List.all_eq_true] at h ⊢
 exact fun b hb=>h b (hr b hb)
theorem asc_take {s:List UInt8} (h:asc s=true) (n:Nat):asc (s.take n)=true:=asc_sub h fun _ hb=>List.mem_of_mem_take hb
theorem asc_drop {s:List UInt8} (h:asc s=true) (n:Nat):asc (s.drop n)=true:=asc_sub h fun _ hb=>List.mem_of_mem_drop hb
theorem asc_part {s:List UInt8} (h:asc s=true) (a b:Nat):asc (part a b s)=true:=asc_drop (asc_take h b) a
theorem asc_blank {s:List UInt8} (h:asc s=true):asc (blank s)=true:=by
 refine asc_sub h fun b hb=> ?_
 unfold blank Lib.trimB Lib.trimRightB Lib.trimLeftB at hb
 have h1:=(List.dropWhile_suffix _).subset hb
 rw [List.mem_reverse] at h1
 have h2:=(List.dropWhile_suffix _).subset h1
 rwa [List.mem_reverse] at h2
theorem asc_ups {s:List UInt8} (h:asc s=true):asc (ups s)=true:=by
 unfold asc at h ⊢
 rw [List.all_eq_true] at h ⊢
 intro b hb
 unfold ups at hb
 obtain ⟨c,hc,rfl⟩:=List.mem_map.1 hb
 have h1:=h c hc
 simp only [decide_eq_true_eq] at h1 ⊢
 by_cases hu:97≤c.toNat∧c.toNat≤122
 ·rw [up1_up rfl hu.1 hu.2];omega
 ·rw [up1_id hu];exact h1
theorem asc_trimPrefix {s p:List UInt8} (h:asc s=true):asc (Lib.trimPrefix s p)=true:=by
 unfold Lib.trimPrefix
 split
 ·exact asc_drop h _
 ·exact h
theorem asc_trimSuffix {s p:List UInt8} (h:asc s=true):asc (Lib.trimSuffix s p)=true:=by
 unfold Lib.trimSuffix
 split
 ·exact asc_take h _
 ·exact h
theorem asc_inner {s r:List UInt8} (h:asc s=true) (hr:innerP s=some r):asc r=true:=by
 unfold innerP at hr
 split at hr
 ·cases hr
  exact asc_trimSuffix (asc_trimPrefix (asc_ups h))
 ·cases hr
theorem short_le {s:List UInt8} {n:Nat} (h:shortP s=some n):n≤999:=by
 unfold shortP at h
 split at h
 ·rename_i hc
  cases h
  obtain ⟨h1,h2⟩:=hc
  unfold dgts at h1 ⊢
  split
  ·rename_i hd
   have h3:=num_lt s hd
   have h4:10 ^ s.length≤10 ^ 3:=Nat.pow_le_pow_right (by decide) h2
   show min (num s) 1073741824≤999
   omega
  ·exact Nat.zero_le _
 ·cases h
theorem counted_le {s ls r:List UInt8} {c:Nat} (h:countedP s ls=some (c,r)):c≤999:=by
 unfold countedP at h
 split at h
 ·cases h
 ·split at h
  ·cases h;decide
  ·rw [Option.map_eq_some_iff] at h
   obtain ⟨n,hn,he⟩:=h
   cases he
   exact short_le hn
end Go.Proofs.YtoiebebjgnpkmaaGreatDoor
namespace Go.Proofs.YtoiebebjgnpkmaaGreatDoor
open Go.RowKit
set_option linter.unusedSimpArgs false
set_option linter.unusedVariables false
set_option maxHeartbeats 8000000
set_option maxRecDepth 100000
end Go.Proofs.YtoiebebjgnpkmaaGreatDoor
namespace Go.Proofs.YtoiebebjgnpkmaaGreatDoor
open Go.RowKit
set_option linter.unusedSimpArgs false
set_option linter.unusedVariables false
set_option maxHeartbeats 8000000
set_option maxRecDepth 100000
section
variable {P:Program} {a:Act} {w:World} {o:Oper}
theorem ev_strEqB {t t':TypeId} {x y:Operand} (ho:o.op= .binOp .eql t x y t') {s r:List UInt8} (hx:a.eval x=strV s) (hy:a.eval y=strV r) {b:Bool} (hs:Hid ((s==r)=b)):(execOp a.eval o).run P w= .ok (.value (.bool b)) w:=by
 rw [← hs.out];exact ev_strEq ho hx hy
end
end Go.Proofs.YtoiebebjgnpkmaaGreatDoor
namespace Go.Proofs.YtoiebebjgnpkmaaGreatDoor
open Go.RowKit
set_option linter.unusedSimpArgs false
set_option linter.unusedVariables false
set_option maxHeartbeats 16000000
set_option maxRecDepth 100000
def eC (x:En):List Value:=[.int .i64 (x.1:Int), .int .i64 (x.2.1:Int), .int .u64 (x.2.2:Int)]
theorem isnan_any (w:World) (x:Int):Calls Tryz.prog 129 #[.int .i64 x] w fun e w'=>e= .returned (.bool false)∧Fr [] w w':=by
 have H:=Hp.start [] w
 go_enter Tryz.func129,Tryz.ntmps129
 (revert H;refine W89df ?_ <;>unhygienic intros)
 go_ret
 exact ⟨rfl,H.fr⟩
end Go.Proofs.YtoiebebjgnpkmaaGreatDoor
namespace Go.Proofs.YtoiebebjgnpkmaaGreatDoor
open Go.RowKit
set_option linter.unusedSimpArgs false
set_option linter.unusedVariables false
set_option maxHeartbeats 16000000
set_option maxRecDepth 100000
attribute [local irreducible] wpList Code.wp Plan.wp
section
variable {P:Program} {a:Act} {w w0:World} {o:Oper} {K:Act→World→Prop} {Q:Exit→Act→World→Prop} {T:List Nat} {l:List Ent} {L:List Value} {ds:List Deferred}
variable {lo:List Oper} {S:World→Prop} {f i:Nat} {k:Plan}
end
section
variable {P:Program} {a:Act} {w w0:World} {o:Oper} {Q:Exit→Act→World→Prop} {T:List Nat} {l:List Ent} {L:List Value} {ds:List Deferred} {lo:List Oper} {S:World→Prop} {f i:Nat} {k:Plan}
theorem p_sf {b:Nat} {l':List Ent} {L':List Value}
 (h:∀ w',Fr [b] w w'→Hp T w0 w' l'→k.wp P lo.toArray Q (fun _ =>True) lo.toArray.size ⟨L'.toArray,ds⟩ w') (hi:lo[i]? =some o:=by rfl)
 (hw:Region.wanted o (yielded lo.toArray L.toArray)=true:=by rfl)
 (he:Hp T w0 w l→∀ K:Act→World→Prop,(∀ w',Fr [b] w w'→Hp T w0 w' l'→K (Act.put ⟨L.toArray,ds⟩ o.dst undef) w')→o.wp P ⟨L.toArray,ds⟩ w K Q:=by
  intro H K hK
  first | exact c_st H rfl rfl rfl (h:=hK) | exact c_stc H rfl rfl (h:=hK) | exact c_stn H rfl rfl rfl (h:=hK))
 (hs:putL L o.dst undef=L':=by ((try simp only [nrm,putL_s,putL_n,↓reduceIte,Nat.reduceAdd]);(try exact rfl)))
 (H:Hp T w0 w l):Plan.wp P lo.toArray Q S f (.ldf i k) ⟨L.toArray,ds⟩ w:=
 pl_rwf hi hw fun K hK=>he H K fun w' h2 h3=>hK _ _ (by rw [put_eq,hs];exact h w' h2 h3)
end
theorem flatE_len (A:List En):(A.flatMap eC).length=A.length*3:=by
 induction A with
 | nil=>rfl
 | cons x A ih=>rw [List.flatMap_cons,List.length_append,ih,List.length_cons];show 3+_ =_;omega
theorem flatE_at (A B:List En) (u:En) (pad:List Value):eC u<+:((A++u::B).flatMap eC++pad).drop (A.length*3):=by
 rw [List.flatMap_append,List.append_assoc,List.drop_append_of_le_length (by rw [flatE_len];exact Nat.le_refl _),List.drop_of_length_le (by rw [flatE_len];exact Nat.le_refl _),List.nil_append,List.flatMap_cons,List.append_assoc]
 exact List.prefix_append _ _
theorem eC_one (x:En):∀ v∈eC x,v.oneCell'=true:=by intro v hv;unfold eC at hv;simp at hv;rcases hv with rfl | rfl | rfl<;>rfl
end Go.Proofs.YtoiebebjgnpkmaaGreatDoor
namespace Go.Proofs.YtoiebebjgnpkmaaGreatDoor
set_option linter.unusedSimpArgs false
set_option linter.unusedVariables false
theorem sound_le {f:Lay} (h:soundP f=true):1≤f.count∧f.count≤512∧1≤f.width∧f.width≤512:=by
 unfold soundP at h
 obtain ⟨h1,h2,h3⟩:=of_decide_eq_true h
 have a:f.count*1≤f.count*f.width:=Nat.mul_le_mul_left _ h2
 have b:1*f.width≤f.count*f.width:=Nat.mul_le_mul_right _ h1
 omega
theorem dec1_sound {sc:Nat} {s:List UInt8} {f:Lay} (h:decP1 sc s=some f):soundP f=true∧f.scale=sc∧f.point≤999:=by
 unfold decP1 at h
 split at h
 ·cases h
 ·split at h
  ·split at h
   ·rename_i hp
    split at h
    ·rename_i hs
     cases h
     exact ⟨hs,rfl,short_le hp⟩
    ·cases h
   ·cases h
  ·cases h
theorem dgts_one {s:List UInt8} (h:s.length≤1):(dgts s).1≤9:=by
 unfold dgts
 split
 ·rename_i hd
  have h3:=num_lt s hd
  have h4:10 ^ s.length≤10 ^ 1:=Nat.pow_le_pow_right (by decide) h
  show min (num s) 1073741824≤9
  omega
 ·exact Nat.zero_le _
theorem dec_sound {s:List UInt8} {f:Lay} (h:decP s=some f):soundP f=true∧f.scale≤9∧f.point≤999:=by
 unfold decP at h
 split at h
 ·cases h
 ·split at h
  ·split at h
   ·obtain ⟨a,b,c⟩:=dec1_sound h
    refine ⟨a, ?_,c⟩
    rw [b]
    exact dgts_one (by rw [List.length_take];omega)
   ·cases h
  ·obtain ⟨a,b,c⟩:=dec1_sound h
   exact ⟨a,by omega,c⟩
theorem cut_none {s:List UInt8} {c:UInt8} (h:c∉s):Lib.cut s [c]=(s,[],false):=by
 unfold Lib.cut
 rcases index_one c s with ⟨h1,_⟩ | ⟨i,_,h2,_,h4⟩
 ·rw [h1,if_neg (by decide)]
 ·exact absurd (by rw [h4];simp) h
end Go.Proofs.YtoiebebjgnpkmaaGreatDoor
