import Derived.Test.YtoiebebjgnpkmaaGreatDoorYJ16
import Derived.Test.YtoiebebjgnpkmaaGreatDoorYJ11
import Derived.Test.YtoiebebjgnpkmaaGreatDoorCards
import Derived.Test.YtoiebebjgnpkmaaGreatDoorTie
import Derived.Lib.SplitLaws
import Derived.Lib.FieldsP
import Derived.Lib.DecodeN
import Derived.Test.YtoiebebjgnpkmaaGreatDoorYJ17
import Derived.Test.YtoiebebjgnpkmaaGreatDoorYJ43
import Derived.Test.YtoiebebjgnpkmaaGreatDoorYJ0
import Derived.Deep.DeepCutAuto
import Derived.Deep.CutBlock
namespace Go.Proofs.YtoiebebjgnpkmaaGreatDoor
open Go.RowKit
set_option linter.unusedSimpArgs false
set_option linter.unusedVariables false
def Av (w:World) (v:Value) (z:Int) (n:Nat):Prop:=∃ neg l p c,v= .agg #[.bool neg, .slice p l.length c]∧LR w p c l∧zv neg l=z∧l.length≤n
def dl (z:Int):Nat:=(digs z.natAbs).length
def Bv (w:World) (v:Value) (z:Int) (n:Nat):Prop:=BigV w v z∧dl z≤n
theorem Av.fr {w w':World} {v:Value} {z:Int} {n:Nat} (h:Av w v z n) (k:Fr [] w w'):Av w' v z n:=by
 obtain ⟨neg,l,p,c,rfl,h1,h2,h3⟩:=h
 exact ⟨neg,l,p,c,rfl,h1.fr k,h2,h3⟩
theorem Bv.fr {w w':World} {v:Value} {z:Int} {n:Nat} (h:Bv w v z n) (k:Fr [] w w'):Bv w' v z n:=⟨h.1.fr k,h.2⟩
theorem Bv.ar {w:World} {v:Value} {z:Int} {n:Nat} (h:Bv w v z n):Av w v z n:=by
 obtain ⟨⟨p,c,rfl,hl⟩,hn⟩:=h
 exact ⟨_,_,p,c,rfl,hl,zv_canon z,hn⟩
def Kp (w w':World):Prop:=∀ p c l,LR w p c l→LR w' p c l
theorem Kp.refl (w:World):Kp w w:=fun _ _ _ h=>h
theorem Kp.trans {a b c:World} (h:Kp a b) (k:Kp b c):Kp a c:=fun p q l x=>k p q l (h p q l x)
theorem Fr.kp {w w':World} (h:Fr [] w w'):Kp w w':=fun _ _ _ k=>k.fr h
theorem lr {w w':World} {p:Option Addr} {c:Nat} {l:List Nat} (h:Hid (LR w p c l)) (k:Kp w w':=by repeat first | assumption | exact Kp.refl _ | refine Kp.trans ?_ (by assumption)):LR w' p c l:=k _ _ _ h.out
theorem av {w w':World} {v:Value} {z:Int} {n:Nat} (h:Hid (Av w v z n)) (k:Kp w w':=by repeat first | assumption | exact Kp.refl _ | refine Kp.trans ?_ (by assumption)):Av w' v z n:=by
 obtain ⟨neg,l,p,c,rfl,h1,h2,h3⟩:=h.out
 exact ⟨neg,l,p,c,rfl,k _ _ _ h1,h2,h3⟩
theorem bv {w w':World} {v:Value} {z:Int} {n:Nat} (h:Hid (Bv w v z n)) (k:Kp w w':=by repeat first | assumption | exact Kp.refl _ | refine Kp.trans ?_ (by assumption)):Bv w' v z n:=by
 obtain ⟨⟨p,c,rfl,hl⟩,hn⟩:=h.out
 exact ⟨⟨p,c,rfl,k _ _ _ hl⟩,hn⟩
theorem Av.dl {w:World} {v:Value} {z:Int} {n:Nat} (h:Av w v z n):dl z≤n:=by
 obtain ⟨neg,l,p,c,rfl,h1,rfl,h3⟩:=h
 unfold Go.Proofs.YtoiebebjgnpkmaaGreatDoor.dl
 rw [zv_abs]
 exact Nat.le_trans (digs_len_le h1.lim) h3
theorem Big.bv {e:Ending} {w w':World} {z:Int} {n:Nat} (h:Big e w w' z) (hn:dl z≤n):∃ v,e= .returned v∧Fr [] w w'∧Bv w' v z n:=by
 obtain ⟨v,h1,h2,h3⟩:=Big.iff.1 h
 exact ⟨v,h1,h2,h3,hn⟩
theorem dl_of {x:Nat} {z:Int} (h:z.natAbs≤x):dl z≤(digs x).length:=digs_mono h
theorem dl_lt {z:Int}:z.natAbs<4294967296 ^ dl z:=digs_lt _
theorem dl_le {z:Int} {n:Nat} (h:z.natAbs<4294967296 ^ n):dl z≤n:=digs_len_of h
theorem dl_add {x y:Int} {n m:Nat} (hx:dl x≤n) (hy:dl y≤m):dl (x+y)≤n+m+1:=by
 have h:=digs_two (digs_lim x.natAbs) (digs_lim y.natAbs) (x:=(x+y).natAbs) (by rw [val_digs,val_digs];omega)
 unfold dl at*
 omega
theorem dl_neg (x:Int):dl (-x)=dl x:=by unfold dl;rw [Int.natAbs_neg]
theorem dl_sub {x y:Int} {n m:Nat} (hx:dl x≤n) (hy:dl y≤m):dl (x - y)≤n+m+1:=by
 rw [Int.sub_eq_add_neg]
 exact dl_add hx (by rw [dl_neg];exact hy)
theorem dl_mul {x y:Int} {n m:Nat} (hx:dl x≤n) (hy:dl y≤m):dl (x*y)≤n+m:=by
 apply dl_le
 rw [Int.natAbs_mul,Nat.pow_add]
 have h1:x.natAbs<4294967296 ^ n:=Nat.lt_of_lt_of_le dl_lt (Nat.pow_le_pow_right (by decide) hx)
 have h2:y.natAbs<4294967296 ^ m:=Nat.lt_of_lt_of_le dl_lt (Nat.pow_le_pow_right (by decide) hy)
 exact Nat.mul_lt_mul'' h1 h2
theorem dl_abs (x:Int):dl (x.natAbs:Int)=dl x:=by unfold dl;rw [Int.natAbs_natCast]
theorem dl_div {x y:Int} {n:Nat} (hx:dl x≤n):dl (x / y)≤n:=Nat.le_trans (dl_of (Int.natAbs_ediv_le_natAbs x y)) hx
theorem dl_mod {x y:Int} {n:Nat} (hy:dl y≤n) (h0:y≠0):dl (x % y)≤n:=by
 refine Nat.le_trans (dl_of (x:=y.natAbs) ?_) hy
 have h1:=Int.emod_nonneg x h0
 have h2:=Int.emod_lt x h0
 omega
theorem add_ar {w:World} {u v:Value} {x y:Int} {n m:Nat} (h:Av w u x n) (k:Av w v y m) (hn:n≤200000) (hm:m≤200000):
 Calls Tryz.prog 188 #[u,v] w fun e w'=>∃ v',e= .returned v'∧Fr [] w w'∧Bv w' v' (x+y) (n+m+1):=by
 have hdx:=h.dl
 have hdy:=k.dl
 obtain ⟨na,la,p,c,rfl,h1,rfl,h3⟩:=h
 obtain ⟨nb,lb,q,d,rfl,k1,rfl,k3⟩:=k
 exact Calls.mono (add_any na nb la lb rfl rfl (by omega) (by omega) h1 k1) (fun e w' hb=>hb.bv (dl_add hdx hdy))
theorem sub_ar {w:World} {u v:Value} {x y:Int} {n m:Nat} (h:Av w u x n) (k:Av w v y m) (hn:n≤200000) (hm:m≤200000):
 Calls Tryz.prog 256 #[u,v] w fun e w'=>∃ v',e= .returned v'∧Fr [] w w'∧Bv w' v' (x - y) (n+m+1):=by
 have hdx:=h.dl
 have hdy:=k.dl
 obtain ⟨na,la,p,c,rfl,h1,rfl,h3⟩:=h
 obtain ⟨nb,lb,q,d,rfl,k1,rfl,k3⟩:=k
 exact Calls.mono (sub_any na nb la lb rfl rfl (by omega) (by omega) h1 k1) (fun e w' hb=>hb.bv (dl_sub hdx hdy))
theorem mul_ar {w:World} {u v:Value} {x y:Int} {n m:Nat} (h:Av w u x n) (k:Av w v y m) (hn:n≤200000) (hm:m≤200000):
 Calls Tryz.prog 146 #[u,v] w fun e w'=>∃ v',e= .returned v'∧Fr [] w w'∧Bv w' v' (x*y) (n+m):=by
 have hdx:=h.dl
 have hdy:=k.dl
 obtain ⟨na,la,p,c,rfl,h1,rfl,h3⟩:=h
 obtain ⟨nb,lb,q,d,rfl,k1,rfl,k3⟩:=k
 exact Calls.mono (mul_any na nb la lb rfl rfl (by omega) (by omega) h1 k1) (fun e w' hb=>hb.bv (dl_mul hdx hdy))
theorem norm_ar {w:World} {u:Value} {x:Int} {n:Nat} (h:Av w u x n) (hn:n≤200000):
 Calls Tryz.prog 241 #[u] w fun e w'=>∃ v',e= .returned v'∧Fr [] w w'∧Bv w' v' (x) n:=by
 have hdx:=h.dl
 obtain ⟨na,la,p,c,rfl,h1,rfl,h3⟩:=h
 refine Calls.mono (norm_any na la rfl (by omega) h1) (fun e w' hb=> ?_)
 have e1:zv na la=zv na la:=rfl
 rw [e1] at hb
 exact hb.bv (hdx)
theorem neg_ar {w:World} {u:Value} {x:Int} {n:Nat} (h:Av w u x n) (hn:n≤200000):
 Calls Tryz.prog 142 #[u] w fun e w'=>∃ v',e= .returned v'∧Fr [] w w'∧Bv w' v' (-x) n:=by
 have hdx:=h.dl
 obtain ⟨na,la,p,c,rfl,h1,rfl,h3⟩:=h
 refine Calls.mono (neg_any na la rfl (by omega) h1) (fun e w' hb=> ?_)
 have e1:zv (!na) la= -(zv na la):=zv_not na la
 rw [e1] at hb
 exact hb.bv ((by rw [dl_neg];exact hdx))
theorem abs_ar {w:World} {u:Value} {x:Int} {n:Nat} (h:Av w u x n) (hn:n≤200000):
 Calls Tryz.prog 233 #[u] w fun e w'=>∃ v',e= .returned v'∧Fr [] w w'∧Bv w' v' ((x.natAbs:Int)) n:=by
 have hdx:=h.dl
 obtain ⟨na,la,p,c,rfl,h1,rfl,h3⟩:=h
 refine Calls.mono (abs_any na la rfl (by omega) h1) (fun e w' hb=> ?_)
 have e1:zv false la=((zv na la).natAbs:Int):=(by rw [zv_abs];rfl)
 rw [e1] at hb
 exact hb.bv ((by rw [dl_abs];exact hdx))
theorem val_ne_of {n:Bool} {l:List Nat} (h:zv n l≠0):val l≠0:=fun e=>h (by unfold zv;rw [e];cases n<;>rfl)
theorem divMod_ar {w:World} {u v:Value} {x y:Int} {n m:Nat} (h:Av w u x n) (k:Av w v y m) (hn:n≤200000) (hm:m≤200000) (h0:y≠0):
 Calls Tryz.prog 187 #[u,v] w fun e w'=>∃ v1 v2,e= .returned (.tuple #[v1,v2, .int .i64 0])∧Fr [] w w'∧Bv w' v1 (x / y) n∧Bv w' v2 (x % y) m:=by
 have hdx:=h.dl
 have hdy:=k.dl
 obtain ⟨na,la,p,c,rfl,h1,rfl,h3⟩:=h
 obtain ⟨nb,lb,q,d,rfl,k1,rfl,k3⟩:=k
 refine Calls.mono (divMod_any na nb la lb rfl rfl (by omega) (by omega) h1 k1 (val_ne_of h0)) ?_
 rintro e w' ⟨v1,v2,rfl,hF,b1,b2⟩
 exact ⟨v1,v2,rfl,hF,⟨b1,dl_div hdx⟩,⟨b2,dl_mod hdy h0⟩⟩
theorem sign_ar {w:World} {u:Value} {x:Int} {n:Nat} (h:Av w u x n) (hn:n≤200000):
 Calls Tryz.prog 189 #[u] w fun e w'=>e= .returned (.int .i64 (Int.sign x))∧Fr [] w w':=by
 obtain ⟨na,la,p,c,rfl,h1,rfl,h3⟩:=h
 exact sign_any na la rfl (by omega) h1
theorem cmp_ar {w:World} {u v:Value} {x y:Int} {n m:Nat} (h:Av w u x n) (k:Av w v y m) (hn:n≤200000) (hm:m≤200000):
 Calls Tryz.prog 183 #[u,v] w fun e w'=>e= .returned (.int .i64 (cmpZ x y))∧Fr [] w w':=by
 obtain ⟨na,la,p,c,rfl,h1,rfl,h3⟩:=h
 obtain ⟨nb,lb,q,d,rfl,k1,rfl,k3⟩:=k
 exact cmp_any na nb la lb rfl rfl (by omega) (by omega) h1 k1
theorem fromInt_ar (w:World) (z:Int) (hz:inr .i64 z):
 Calls Tryz.prog 180 #[.int .i64 z] w fun e w'=>∃ v',e= .returned v'∧Fr [] w w'∧Bv w' v' z 2:=by
 refine Calls.mono (fromInt_any w z hz) (fun e w' hb=>hb.bv (dl_le ?_))
 have h1: -9223372036854775808≤z∧z≤9223372036854775807:=hz
 have h3:(4294967296:Nat) ^ 2=18446744073709551616:=by decide
 omega
theorem int_ar {w:World} {u:Value} {x:Int} {n:Nat} (h:Av w u x n) (hn:n≤200000) (hx: -9223372036854775808≤x∧x≤9223372036854775807):
 Calls Tryz.prog 69 #[u] w fun e w'=>e= .returned (.tuple #[.int .i64 x, .bool true])∧Fr [] w w':=by
 obtain ⟨na,la,p,c,rfl,h1,rfl,h3⟩:=h
 have hi:=int_any na la rfl (by omega) h1 (.inr hx)
 rw [intV,if_pos hx] at hi
 exact hi
end Go.Proofs.YtoiebebjgnpkmaaGreatDoor
namespace Go.Proofs.YtoiebebjgnpkmaaGreatDoor
open Go.RowKit
set_option linter.unusedSimpArgs false
set_option linter.unusedVariables false
set_option maxHeartbeats 4000000
set_option maxRecDepth 100000
theorem Bv.form {w:World} {v:Value} {z:Int} {n:Nat} (h:Bv w v z n):∃ b p m c,v= .agg #[.bool b, .slice p m c]:=by
 obtain ⟨⟨p,c,rfl,_⟩,_⟩:=h
 exact ⟨_,_,_,_,rfl⟩
theorem Av.form {w:World} {v:Value} {z:Int} {n:Nat} (h:Av w v z n):∃ b p m c,v= .agg #[.bool b, .slice p m c]:=by
 obtain ⟨_,_,p,c,rfl,_⟩:=h
 exact ⟨_,_,_,_,rfl⟩
end Go.Proofs.YtoiebebjgnpkmaaGreatDoor
namespace Go.Proofs.YtoiebebjgnpkmaaGreatDoor
open Go.ChangeShapes Go.WideShapes Go.RowKit
set_option linter.unusedSimpArgs false
set_option linter.unusedVariables false
theorem own0:ownKnob Tryz.prog.godebug=none:=by kernel_rfl
def vals (k:IntKind) (zs:List Int):Array Value:=(zs.map fun z=>Value.int k z).toArray
def lits:DataW Unit→List Int
 | .agg l=>l.map fun | .lit (.int _ z)=>z | _ =>0
 | _ =>[]
theorem wp_planF {P:Program} {ops:Array Oper} {Q:Exit→Act→World→Prop} {id:Nat} {a:Act} {w w0:World} {T:List Nat} {l lS:List Ent} (H:Hp T w0 w l) (hs:List.Sublist lS l) (f:Nat) (p:Plan) (hm:P.follows .mixedOrders=true) (hns:Region.noSelect ops=true) (hc:p.chk ops f ops.size (Array.replicate ops.size false)=true)
 (hQ:∀ c a d v w,Q (.panic c) (Act.put a d v) w→Q (.panic c) a w)
 (h:∀ w',Fr [] w w'→Hp T w0 w' l→p.wp P ops Q (fun w=>Hp T w0 w lS) f a w'):(Code.region id ops true).wp P Q a w:=
 wp_region_any hm (wpJ_any _ _ _ _ (Plan.sound hns hQ p _ _ _ _ _ _ (fun k o ho hk=>by simp [Array.getElem?_replicate] at hk;split at hk<;>simp at hk) hc (.inl (H.drew.sub hs)) (h _ (Fr.drew _ _) H.drew)))
theorem w_pF {P:Program} {ops:Array Oper} {Q:Exit→Act→World→Prop} {id:Nat} {a:Act} {w w0:World} {T:List Nat} {l lS:List Ent} (f:Nat) (p:Plan) (h:∀ w',Fr [] w w'→Hp T w0 w' l→p.wp P ops Q (fun w=>Hp T w0 w lS) f a w') (hs:List.Sublist lS l:=by exact List.Sublist.refl _) (hm:P.follows .mixedOrders=true:=by rfl) (hns:Region.noSelect ops=true:=by kernel_rfl) (hc:p.chk ops f ops.size (Array.replicate ops.size false)=true:=by kernel_rfl)
 (hQ:∀ c a d v w,Q (.panic c) (Act.put a d v) w→Q (.panic c) a w:=by intro c a d v w h;cases d<;>exact h) (H:Hp T w0 w l):(Code.region id ops true).wp P Q a w:=wp_planF H hs f p hm hns hc hQ h
theorem cmp_below {w:World} {u v:Value} {x y:Int} {n m:Nat} (h:Av w u x n) (k:Av w v y m) (hn:n≤200000) (hm:m≤200000) (hx:x<y):
 Calls Tryz.prog 183 #[u,v] w fun e w'=>∃ s:Int,e= .returned (.int .i64 s)∧s<0∧Fr [] w w':=
 Calls.mono (cmp_ar h k hn hm) (fun e w' hb=>⟨_,hb.1,by rw [cmpZ_lt hx];decide,hb.2⟩)
end Go.Proofs.YtoiebebjgnpkmaaGreatDoor
namespace Go.Proofs.YtoiebebjgnpkmaaGreatDoor
open Go.RowKit
set_option linter.unusedSimpArgs false
set_option linter.unusedVariables false
theorem sign_is0 {w:World} {u:Value} {x:Int} {n:Nat} (h:Av w u x n) (hn:n≤200000) (hx:x=0):
 Calls Tryz.prog 189 #[u] w fun e w'=>e= .returned (.int .i64 0)∧Fr [] w w':=by
 subst hx
 exact sign_ar h hn
theorem bv_zero (w:World):Bv w (.agg #[.bool false, .slice none 0 0]) 0 0:=⟨BigV.zero w,by simp [dl,digs_zero]⟩
theorem Bv.mono {w:World} {v:Value} {z:Int} {n m:Nat} (h:Bv w v z n) (hm:n≤m):Bv w v z m:=⟨h.1,Nat.le_trans h.2 hm⟩
end Go.Proofs.YtoiebebjgnpkmaaGreatDoor
namespace Go.Proofs.YtoiebebjgnpkmaaGreatDoor
open Go
set_option linter.unusedSimpArgs false
set_option linter.unusedVariables false
def noCR (l:List UInt8):List UInt8:=if l.getLast? =some 13 then l.dropLast else l
def lns:List UInt8→List UInt8→List (List UInt8)
 | cur,[]=>if cur=[] then [] else [noCR cur]
 | cur,b::r=>if b=10 then noCR cur::lns [] r else lns (cur++[b]) r
def mlines (b:List UInt8):List (List UInt8):=lns [] b
def nl:List UInt8→List UInt8→List (List UInt8)
 | cur,[]=>[cur]
 | cur,b::r=>if b=10 then cur::nl [] r else nl (cur++[b]) r
def trimLast (l:List (List UInt8)):List (List UInt8):=if l.getLast? =some [] then l.dropLast else l
theorem nl_ne:∀ (r cur:List UInt8),nl cur r≠[]
 | [],_ =>by simp [nl]
 | b::r,cur=>by
  unfold nl
  split
  ·simp
  ·exact nl_ne r _
theorem lns_nl:∀ (r cur:List UInt8),lns cur r=(trimLast (nl cur r)).map noCR
 | [],cur=>by
  by_cases h:cur=[]
  ·simp [lns,nl,trimLast,h]
  ·simp [lns,nl,trimLast,h]
 | b::r,cur=>by
  unfold lns nl
  by_cases h:b=10
  ·rw [if_pos h,if_pos h,lns_nl r []]
   have hn:=nl_ne r []
   obtain ⟨x,t,hx⟩:=List.exists_cons_of_ne_nil hn
   unfold trimLast
   rw [hx,List.getLast?_cons_cons]
   split
   ·rw [List.dropLast_cons_cons,List.map_cons]
   ·rw [List.map_cons,List.map_cons,List.map_cons]
  ·rw [if_neg h,if_neg h]
   exact lns_nl r _
theorem nl_app:∀ (s r cur:List UInt8),(10:UInt8)∉s→nl cur (s++r)=nl (cur++s) r
 | [],r,cur,_ =>by simp
 | b::s,r,cur,h=>by
  have h1:b≠10:=fun e=>h (by simp [e])
  rw [List.cons_append,nl,if_neg h1,nl_app s r _ (fun m=>h (List.mem_cons_of_mem _ m))]
  simp
theorem index_one (c:UInt8):∀ (s:List UInt8),(Lib.index s [c]= -1∧c∉s)∨∃ i:Nat,Lib.index s [c]=i∧i<s.length∧c∉s.take i∧s=s.take i++c::s.drop (i+1)
 | []=> .inl (by simp [Lib.index])
 | b::l=>by
  by_cases h:b=c
  ·subst h
   exact .inr ⟨0,by rw [Lib.index];simp [List.isPrefixOf],by simp,by simp,by simp⟩
  ·have hp:([c]:List UInt8).isPrefixOf (b::l)=false:=by simp [List.isPrefixOf,Ne.symm h]
   have hix:Lib.index (b::l) [c]=if Lib.index l [c]== -1 then -1 else Lib.index l [c]+1:=by rw [Lib.index,hp];simp
   rcases index_one c l with ⟨h1,h2⟩ | ⟨i,h1,h2,h3,h4⟩
   ·left
    rw [hix,h1]
    exact ⟨rfl,by simp [Ne.symm h,h2]⟩
   ·right
    refine ⟨i+1, ?_,by simp [h2],by simp [Ne.symm h,h3], ?_⟩
    ·rw [hix,h1,if_neg (by simp)];omega
    ·simp only [List.take_succ_cons,List.drop_succ_cons,List.cons_append]
     rw [← h4]
theorem splitK_nl:∀ (k:Nat) (s:List UInt8),s.count 10=k→Lib.splitK [10] 0 k s=nl [] s
 | 0,s,h=>by
  have h0:(10:UInt8)∉s:=List.count_eq_zero.1 h
  have e:=nl_app s [] [] h0
  rw [List.append_nil] at e
  rw [e]
  rfl
 | k+1,s,h=>by
  rcases index_one 10 s with ⟨h1,h2⟩ | ⟨i,h1,h2,h3,h4⟩
  ·rw [List.count_eq_zero.2 h2] at h;omega
  ·have hc:(s.drop (i+1)).count 10=k:=by
    rw [h4,List.count_append,List.count_eq_zero.2 h3,List.count_cons] at h
    simpa using h
   rw [Lib.splitK]
   simp only [h1]
   rw [if_neg (by simp)]
   conv=>rhs;rw [h4,nl_app _ _ _ h3,nl,if_pos rfl,List.nil_append]
   rw [← splitK_nl k _ hc]
   simp
end Go.Proofs.YtoiebebjgnpkmaaGreatDoor
namespace Go.Proofs.YtoiebebjgnpkmaaGreatDoor
set_option linter.unusedSimpArgs false
set_option linter.unusedVariables false
def dsg:List UInt8→Bool×List UInt8
 | []=>(false,[])
 | c::r=>if c=45 then (true,r) else if c=43 then (false,r) else (false,c::r)
def scan:Bool→List UInt8→List UInt8×Nat×List UInt8
 | _,[]=>([],0,[])
 | p,c::r=>
  if dig c then (c::(scan p r).1,(if p then 1 else 0)+(scan p r).2.1,(scan p r).2.2)
  else if c=46∧p=false then scan true r else ([],0,c::r)
def isE (c:UInt8):Bool:=c==101||c==69||c==100||c==68
def dexp (t:List UInt8):Option Int:=
 if (dsg t).2≠[]∧(dsg t).2.all dig=true then some (if (dsg t).1 then -(num (dsg t).2:Int) else num (dsg t).2) else none
def dread (s:List UInt8):Option (Bool×List UInt8×Nat×Int):=
 if (scan false (dsg s).2).1=[] then none else
 match (scan false (dsg s).2).2.2 with
 | []=>some ((dsg s).1,(scan false (dsg s).2).1,(scan false (dsg s).2).2.1,0)
 | e::t=>if isE e then (dexp t).map (fun x=>((dsg s).1,(scan false (dsg s).2).1,(scan false (dsg s).2).2.1,x)) else none
def dval (neg:Bool) (mode:Int) (N:Nat) (x:Int):Nat:=if N=0 then sgnF neg 0 else dvF neg mode N x
def dpz (M:Nat) (s:List UInt8) (mode:Int):Nat×Int:=
 if M<s.length then (0,2) else
 match dread s with
 | none=>(0,7)
 | some (neg,ds,b,x)=>if x< -99999∨99999<x then (0,3) else (dval neg mode (num ds) (x - b),0)
theorem scan_true:∀ s:List UInt8,scan true s=(s.takeWhile dig,(s.takeWhile dig).length,s.dropWhile dig)
 | []=>rfl
 | c::r=>by
  rw [scan]
  cases h:dig c
  ·simp [h]
  ·simp [h,scan_true r,Nat.add_comm]
theorem scan_false:∀ s:List UInt8,scan false s=(match s.dropWhile dig with
 | []=>(s.takeWhile dig,0,[])
 | c::t=>if c=46 then (s.takeWhile dig++t.takeWhile dig,(t.takeWhile dig).length,t.dropWhile dig) else (s.takeWhile dig,0,c::t))
 | []=>rfl
 | c::r=>by
  rw [scan]
  cases h:dig c
  ·rw [if_neg (by decide),List.dropWhile_cons_of_neg (by simp [h]),List.takeWhile_cons_of_neg (by simp [h])]
   simp only [and_true,scan_true,List.nil_append]
  ·rw [if_pos rfl,scan_false r,List.dropWhile_cons_of_pos h,List.takeWhile_cons_of_pos h]
   cases hr:r.dropWhile dig with
   | nil=>simp
   | cons d t=>
    simp only []
    split<;>simp
def expF (B:Nat) (a:Nat) (l:List UInt8):Nat:=l.foldl (fun a b=>min (10*a+(b.toNat - 48)) B) a
theorem expF_num (B:Nat):∀ (l:List UInt8) (a:Nat),expF B (min a B) l=min (numF a l) B
 | [],a=>rfl
 | b::r,a=>by
  rw [numF_cons]
  show expF B (min (10*min a B+(b.toNat - 48)) B) r=_
  rw [← expF_num B r]
  congr 1
  unfold numS
  omega
def lead (l:List UInt8):List UInt8:=l.dropWhile (· ==48)
theorem num_lead:∀ l:List UInt8,num (lead l)=num l
 | []=>rfl
 | b::r=>by
  unfold lead
  by_cases h:b=48
  ·subst h
   rw [List.dropWhile_cons_of_pos (by decide)]
   have e:num (48::r)=num r:=by
    show numF 0 (48::r)=numF 0 r
    rw [numF_cons]
    rfl
   rw [e]
   exact num_lead r
  ·rw [List.dropWhile_cons_of_neg (by simpa using h)]
theorem num_ge {b:UInt8} {r:List UInt8} (hb:dig b=true) (h0:b≠48):10 ^ r.length≤num (b::r):=by
 have e:num (b::r)=num [b]*10 ^ r.length+num r:=num_app [b] r
 have h1:=dig_le hb
 have h2:b.toNat≠48:=fun h=>h0 (UInt8.toNat_inj.1 h)
 have h3:1≤num [b]:=by rw [num_one];omega
 have h4:1*10 ^ r.length≤num [b]*10 ^ r.length:=Nat.mul_le_mul_right _ h3
 omega
theorem lead_head {l:List UInt8} {b:UInt8} {r:List UInt8} (h:lead l=b::r):b≠48:=by
 intro e
 have:=List.head?_dropWhile_not (p:=(· ==(48:UInt8))) l
 unfold lead at h
 rw [h] at this
 subst e
 simp at this
theorem lead_all {l:List UInt8} (h:l.all dig=true):(lead l).all dig=true:=by
 rw [List.all_eq_true] at h ⊢
 intro x hx
 exact h x ((List.dropWhile_sublist _).subset hx)
theorem small_iff {l:List UInt8} (h:l.all dig=true):((lead l).length≤5∧num (lead l)≤99999)↔num l≤99999:=by
 rw [num_lead]
 constructor
 ·exact fun h=>h.2
 ·intro hn
  refine ⟨?_,hn⟩
  cases hl:lead l with
  | nil=>simp
  | cons b r=>
   have ha:=lead_all h
   rw [hl,List.all_cons,Bool.and_eq_true] at ha
   have h1:=num_ge (r:=r) ha.1 (lead_head hl)
   rw [← hl,num_lead] at h1
   apply Classical.byContradiction
   intro hc
   have h2:10 ^ 5≤10 ^ r.length:=Nat.pow_le_pow_right (by decide) (by simp at hc;omega)
   omega
theorem lead_nil {l:List UInt8} (h:l.all dig=true):lead l=[]↔num l=0:=by
 rw [← num_lead]
 constructor
 ·intro e;rw [e];rfl
 ·intro e
  cases hl:lead l with
  | nil=>rfl
  | cons b r=>
   have ha:=lead_all h
   rw [hl,List.all_cons,Bool.and_eq_true] at ha
   have h1:=num_ge (r:=r) ha.1 (lead_head hl)
   rw [← hl,e] at h1
   have:=ten_pos r.length
   omega
end Go.Proofs.YtoiebebjgnpkmaaGreatDoor
namespace Go.Proofs.YtoiebebjgnpkmaaGreatDoor
set_option linter.unusedSimpArgs false
set_option linter.unusedVariables false
def upN (N:Nat) (x:Int):Nat:=N*10 ^ x.toNat
def dnD (D:Nat) (x:Int):Nat:=D*10 ^ (-x).toNat
def tenLe (N D:Nat) (k:Int):Prop:=dnD D (-k)≤upN N (-k)
instance (N D:Nat) (k:Int):Decidable (tenLe N D k):=inferInstanceAs (Decidable (_ ≤_))
theorem tenLe_iff (N D:Nat) (k:Int):tenLe N D k↔D*10 ^ k.toNat≤N*10 ^ (-k).toNat:=by
 unfold tenLe dnD upN
 rw [Int.neg_neg]
theorem tenLe_mono {N D:Nat} {k j:Int} (h:tenLe N D k) (hj:j≤k):tenLe N D j:=by
 rw [tenLe_iff] at h ⊢
 have p:=ten_pos k.toNat
 have q:=ten_pos (-k).toNat
 have h1:D*10 ^ k.toNat*10 ^ (-j).toNat≤N*10 ^ (-k).toNat*10 ^ (-j).toNat:=Nat.mul_le_mul_right _ h
 have h2:10 ^ j.toNat*10 ^ (-k).toNat≤10 ^ k.toNat*10 ^ (-j).toNat:=by
  rw [← Nat.pow_add,← Nat.pow_add]
  exact Nat.pow_le_pow_right (by decide) (by omega)
 apply Nat.le_of_mul_le_mul_right _ q
 calc D*10 ^ j.toNat*10 ^ (-k).toNat=D*(10 ^ j.toNat*10 ^ (-k).toNat):=Nat.mul_assoc _ _ _
  _ ≤D*(10 ^ k.toNat*10 ^ (-j).toNat):=Nat.mul_le_mul_left _ h2
  _ =D*10 ^ k.toNat*10 ^ (-j).toNat:=(Nat.mul_assoc _ _ _).symm
  _ ≤N*10 ^ (-k).toNat*10 ^ (-j).toNat:=h1
  _ =N*10 ^ (-j).toNat*10 ^ (-k).toNat:=Nat.mul_right_comm _ _ _
theorem ten_one {N D:Nat} {k j:Int} (h1:tenLe N D k) (h2:¬ tenLe N D (k+1)) (h3:tenLe N D j) (h4:¬ tenLe N D (j+1)):k=j:=by
 rcases Int.lt_trichotomy k j with h | h | h
 ·exact absurd (tenLe_mono h3 (by omega)) h2
 ·exact h
 ·exact absurd (tenLe_mono h1 (by omega)) h4
theorem tenLe_mul {N D c:Nat} (hc:0<c) (k:Int):tenLe (c*N) (c*D) k↔tenLe N D k:=by
 rw [tenLe_iff,tenLe_iff,Nat.mul_assoc,Nat.mul_assoc,Nat.mul_le_mul_left_iff hc]
def near (N D:Nat) (x:Int):Nat:=rm false 0 (upN N x) (dnD D x)
theorem near_mul {N D c:Nat} (hc:0<c) (x:Int):near (c*N) (c*D) x=near N D x:=by
 unfold near upN dnD
 rw [Nat.mul_assoc,Nat.mul_assoc,rm_mul _ _ _ _ hc]
theorem rup_near (neg:Bool) (c:Int) (odd:Bool):rup neg 0 c odd=(decide (0<c)||(decide (c=0)&&odd)):=by
 unfold rup
 rw [if_neg (by decide),if_neg (by decide),if_neg (by decide)]
theorem near_size {N D:Nat} {k:Int} {n:Nat} (hD:0<D) (hn:1≤n) (h1:tenLe N D k) (h2:¬ tenLe N D (k+1)):10 ^ (n - 1)≤near N D (n - 1 - k)∧near N D (n - 1 - k)≤10 ^ n:=by
 have hd:0<dnD D (n - 1 - k):=Nat.mul_pos hD (ten_pos _)
 have hb:=rm_bounds false 0 (upN N (n - 1 - k)) (dnD D (n - 1 - k))
 rw [tenLe_iff] at h1 h2
 have e1:dnD D (n - 1 - k)*10 ^ (n - 1)≤upN N (n - 1 - k):=by
  unfold dnD upN
  have q:=ten_pos ((-k).toNat)
  apply Nat.le_of_mul_le_mul_right _ q
  have a1:10 ^ (-(n - 1 - k:Int)).toNat*10 ^ (n - 1)*10 ^ (-k).toNat=10 ^ k.toNat*10 ^ ((n:Int) - 1 - k).toNat:=by
   rw [← Nat.pow_add,← Nat.pow_add,← Nat.pow_add]
   congr 1
   omega
  calc D*10 ^ (-(n - 1 - k:Int)).toNat*10 ^ (n - 1)*10 ^ (-k).toNat=D*(10 ^ (-(n - 1 - k:Int)).toNat*10 ^ (n - 1)*10 ^ (-k).toNat):=by simp only [Nat.mul_assoc]
   _ =D*10 ^ k.toNat*10 ^ ((n:Int) - 1 - k).toNat:=by rw [a1,Nat.mul_assoc]
   _ ≤N*10 ^ (-k).toNat*10 ^ ((n:Int) - 1 - k).toNat:=Nat.mul_le_mul_right _ h1
   _ =N*10 ^ ((n:Int) - 1 - k).toNat*10 ^ (-k).toNat:=Nat.mul_right_comm _ _ _
 have e2:upN N (n - 1 - k)<dnD D (n - 1 - k)*10 ^ n:=by
  unfold dnD upN
  have q:=ten_pos ((-(k+1)).toNat)
  apply Nat.lt_of_mul_lt_mul_right (a:=10 ^ (-(k+1)).toNat)
  have a1:10 ^ (-(n - 1 - k:Int)).toNat*10 ^ n*10 ^ (-(k+1)).toNat=10 ^ (k+1).toNat*10 ^ ((n:Int) - 1 - k).toNat:=by
   rw [← Nat.pow_add,← Nat.pow_add,← Nat.pow_add]
   congr 1
   omega
  have h3:N*10 ^ (-(k+1)).toNat<D*10 ^ (k+1).toNat:=by omega
  calc N*10 ^ ((n:Int) - 1 - k).toNat*10 ^ (-(k+1)).toNat=N*10 ^ (-(k+1)).toNat*10 ^ ((n:Int) - 1 - k).toNat:=Nat.mul_right_comm _ _ _
   _ <D*10 ^ (k+1).toNat*10 ^ ((n:Int) - 1 - k).toNat:=Nat.mul_lt_mul_of_pos_right h3 (ten_pos _)
   _ =D*(10 ^ (-(n - 1 - k:Int)).toNat*10 ^ n*10 ^ (-(k+1)).toNat):=by rw [a1,Nat.mul_assoc]
   _ =D*10 ^ (-(n - 1 - k:Int)).toNat*10 ^ n*10 ^ (-(k+1)).toNat:=by simp only [Nat.mul_assoc]
 have f1:10 ^ (n - 1)≤upN N (n - 1 - k) / dnD D (n - 1 - k):=by
  rw [Nat.le_div_iff_mul_le hd,Nat.mul_comm]
  exact e1
 have f2:upN N (n - 1 - k) / dnD D (n - 1 - k)<10 ^ n:=by
  rw [Nat.div_lt_iff_lt_mul hd,Nat.mul_comm]
  exact e2
 unfold near
 omega
end Go.Proofs.YtoiebebjgnpkmaaGreatDoor
namespace Go.Proofs.YtoiebebjgnpkmaaGreatDoor
set_option linter.unusedSimpArgs false
set_option linter.unusedVariables false
def linF (n:Nat) (u:Int):Nat:=(u+1074).toNat*4503599627370496+n
theorem packF_lin (neg:Bool) (mode:Int) {n:Nat} {u:Int} (hu: -1074≤u) (hn:n≤9007199254740992) (h:n<4503599627370496→u= -1074):
 packF neg mode n u=if 9218868437227405312≤linF n u then overF neg mode else sgnF neg (linF n u):=by
 obtain ⟨k,rfl⟩:∃ k:Nat,u=(k:Int) - 1074:=⟨(u+1074).toNat,by omega⟩
 have e0:((k:Int) - 1074+1074).toNat=k:=by omega
 unfold packF linF
 rw [e0]
 simp only []
 by_cases h1:n=9007199254740992
 ·subst h1
  rw [if_pos rfl,if_pos rfl,if_neg (by omega)]
  have e1:((k:Int) - 1074+1+1075).toNat=k+2:=by omega
  rw [e1]
  by_cases h2:(2047:Int)≤(k:Int) - 1074+1+1075
  ·rw [if_pos h2,if_pos (by omega)]
  ·rw [if_neg h2,if_neg (by omega)]
   exact congrArg (sgnF neg) (by omega)
 ·rw [if_neg h1,if_neg h1]
  have e1:((k:Int) - 1074+1075).toNat=k+1:=by omega
  rw [e1]
  by_cases h3:n<4503599627370496
  ·have:=h h3
   have hk:k=0:=by omega
   subst hk
   rw [if_pos h3,if_neg (by omega)]
   exact congrArg (sgnF neg) (by omega)
  ·rw [if_neg h3]
   by_cases h2:(2047:Int)≤(k:Int) - 1074+1075
   ·rw [if_pos h2,if_pos (by omega)]
   ·rw [if_neg h2,if_neg (by omega)]
    exact congrArg (sgnF neg) (by omega)
theorem rnd_unit {N D:Nat} {e u:Int} (hN:0<N) (hD:0<D) (hu:max (lg N D+e - 52) (-1074)=u):
 N*2 ^ (e - u).toNat / (D*2 ^ (u - e).toNat)<9007199254740992∧(N*2 ^ (e - u).toNat / (D*2 ^ (u - e).toNat)<4503599627370496→u= -1074):=by
 have hs:=lg_shift hN hD e u
 have hN':=Nat.mul_pos hN (pow2_pos (e - u).toNat)
 have hD':=Nat.mul_pos hD (pow2_pos (u - e).toNat)
 generalize N*2 ^ (e - u).toNat=X at hs hN' ⊢
 generalize D*2 ^ (u - e).toNat=Y at hs hD' ⊢
 constructor
 ·apply Classical.byContradiction
  intro hc
  have h1:9007199254740992≤X / Y:=by omega
  rw [Nat.le_div_iff_mul_le hD',Nat.mul_comm] at h1
  have h2:=lg_ge (t:=53) hN' hD' (by simpa using h1)
  omega
 ·intro hc
  apply Classical.byContradiction
  intro h0
  have ht:lg X Y=52:=by omega
  obtain ⟨k1,k2⟩:=lg_iff hN' hD'
  rw [ht] at k1
  have k3:4503599627370496≤X / Y:=by
   rw [Nat.le_div_iff_mul_le hD',Nat.mul_comm]
   simpa using k1
  omega
theorem rndF_lin (neg:Bool) (mode:Int) {N D:Nat} {e u:Int} (hN:0<N) (hD:0<D) (hu:max (lg N D+e - 52) (-1074)=u):
 rndF neg mode N D e=if 9218868437227405312≤linF (rm neg mode (N*2 ^ (e - u).toNat) (D*2 ^ (u - e).toNat)) u then overF neg mode else sgnF neg (linF (rm neg mode (N*2 ^ (e - u).toNat) (D*2 ^ (u - e).toNat)) u):=by
 obtain ⟨a1,a2⟩:=rnd_unit hN hD hu
 have hb:=rm_bounds neg mode (N*2 ^ (e - u).toNat) (D*2 ^ (u - e).toNat)
 unfold rndF
 simp only []
 rw [hu]
 exact packF_lin neg mode (by omega) (by omega) (fun h=>a2 (by omega))
end Go.Proofs.YtoiebebjgnpkmaaGreatDoor
namespace Go.Proofs.YtoiebebjgnpkmaaGreatDoor
set_option linter.unusedSimpArgs false
set_option linter.unusedVariables false
def mir (m:Int):Int:=if m=1 then 2 else if m=2 then 1 else m
theorem rup_mir (m c:Int) (o:Bool):rup true (mir m) c o=rup false m c o:=by
 unfold rup mir
 by_cases h1:m=1
 ·subst h1;simp
 ·by_cases h2:m=2
  ·subst h2;simp
  ·simp [h1,h2]
theorem rm_mir (m:Int) (N D:Nat):rm true (mir m) N D=rm false m N D:=by
 unfold rm
 simp only [rup_mir]
theorem over_mir (m:Int):overF true (mir m)=overF false m+9223372036854775808:=by
 unfold overF mir sgnF
 by_cases h1:m=1
 ·subst h1;simp
 ·by_cases h2:m=2
  ·subst h2;simp
  ·simp [h1,h2]
theorem pack_mir (m:Int) (n:Nat) (u:Int):packF true (mir m) n u=packF false m n u+9223372036854775808:=by
 unfold packF
 rw [over_mir]
 unfold sgnF
 simp only [if_true,Bool.false_eq_true,if_false]
 generalize (if n=9007199254740992 then 4503599627370496 else n)=a
 generalize (if n=9007199254740992 then u+1 else u)=b
 by_cases h1:a<4503599627370496
 ·rw [if_pos h1,if_pos h1]
 ·rw [if_neg h1,if_neg h1]
  by_cases h2:2047≤b+1075
  ·rw [if_pos h2,if_pos h2]
  ·rw [if_neg h2,if_neg h2]
theorem rndF_mir (m:Int) (N D:Nat) (e:Int):rndF true (mir m) N D e=rndF false m N D e+9223372036854775808:=by
 unfold rndF
 simp only [rm_mir,pack_mir]
theorem dval_mir (m:Int) (N:Nat) (x:Int):dval true (mir m) N x=dval false m N x+9223372036854775808:=by
 unfold dval
 by_cases h:N=0
 ·rw [if_pos h,if_pos h];rfl
 ·rw [if_neg h,if_neg h];exact rndF_mir m _ _ 0
theorem scan_app {a:List UInt8} (ha:a.all dig=true) (p:Bool) (r:List UInt8):scan p (a++r)=(a++(scan p r).1,(if p then a.length else 0)+(scan p r).2.1,(scan p r).2.2):=by
 induction a with
 | nil=>cases p<;>simp
 | cons c t ih=>
  rw [List.all_cons,Bool.and_eq_true] at ha
  rw [List.cons_append,scan,if_pos ha.1,ih ha.2]
  cases p
  ·simp
  ·simp only [if_true,List.length_cons,List.cons_append]
   refine Prod.ext rfl (Prod.ext ?_ rfl)
   simp only []
   omega
theorem scan_stop {c:UInt8} (r:List UInt8) (p:Bool) (h1:dig c=false) (h2:c≠46):scan p (c::r)=([],0,c::r):=by
 rw [scan,if_neg (by simp [h1]),if_neg (by simp [h2])]
theorem isE_dig {c:UInt8} (h:isE c=true):dig c=false∧c≠46:=by
 unfold isE at h
 simp only [Bool.or_eq_true,beq_iff_eq] at h
 rcases h with ((h | h) | h) | h<;>subst h<;>decide
theorem dsg_cons {c:UInt8} (hc:dig c=true) (r:List UInt8):dsg (c::r)=(false,c::r):=by
 have h:=dig_le hc
 rw [dsg,if_neg (fun e=>by subst e;have:=h.1;simp at this),if_neg (fun e=>by subst e;have:=h.1;simp at this)]
theorem dsg_digs {a:List UInt8} (ha:a.all dig=true):dsg a=(false,a):=by
 cases a with
 | nil=>rfl
 | cons c t=>
  rw [List.all_cons,Bool.and_eq_true] at ha
  exact dsg_cons ha.1 t
theorem dread_plain {a t:List UInt8} {c:UInt8} {x:Int} (ha:a.all dig=true) (h0:a≠[]) (hc:isE c=true) (hx:dexp t=some x):dread (a++c::t)=some (false,a,0,x):=by
 have hd:dsg (a++c::t)=(false,a++c::t):=by
  cases a with
  | nil=>exact absurd rfl h0
  | cons d r=>
   rw [List.all_cons,Bool.and_eq_true] at ha
   exact dsg_cons ha.1 _
 obtain ⟨c1,c2⟩:=isE_dig hc
 unfold dread
 rw [hd]
 simp only [scan_app ha,scan_stop t false c1 c2,List.append_nil]
 rw [if_neg h0]
 simp [hc,hx]
theorem dread_minus {a t:List UInt8} {c:UInt8} {x:Int} (ha:a.all dig=true) (h0:a≠[]) (hc:isE c=true) (hx:dexp t=some x):dread (45::(a++c::t))=some (true,a,0,x):=by
 obtain ⟨c1,c2⟩:=isE_dig hc
 unfold dread
 rw [show dsg (45::(a++c::t))=(true,a++c::t) from rfl]
 simp only [scan_app ha,scan_stop t false c1 c2,List.append_nil]
 rw [if_neg h0]
 simp [hc,hx]
theorem dexp_fmt (z:Int):dexp (fmt z)=some z:=by
 obtain ⟨h1,h2,h3⟩:=dec_digits z.natAbs
 unfold fmt
 split
 ·rename_i h
  unfold dexp
  rw [show dsg (45::dec z.natAbs)=(true,dec z.natAbs) from rfl,if_pos ⟨h3,h1⟩]
  simp only [if_true,h2]
  congr 1
  omega
 ·rename_i h
  unfold dexp
  rw [dsg_digs h1,if_pos ⟨h3,h1⟩]
  simp only [Bool.false_eq_true,if_false,h2]
  congr 1
  omega
end Go.Proofs.YtoiebebjgnpkmaaGreatDoor
namespace Go.Proofs.YtoiebebjgnpkmaaGreatDoor
set_option linter.unusedSimpArgs false
set_option linter.unusedVariables false
theorem dec_size:∀ (k N:Nat),N<10 ^ (k+1)→0<N→1≤(dec N).length∧10 ^ ((dec N).length - 1)≤N∧N<10 ^ (dec N).length
 | 0,N,h,h0=>by
  rw [dec_small (by simpa using h)]
  simp only [List.length_cons,List.length_nil]
  omega
 | k+1,N,h,h0=>by
  by_cases h10:N<10
  ·rw [dec_small h10]
   simp only [List.length_cons,List.length_nil]
   omega
  ·have hq:N / 10<10 ^ (k+1):=by
    rw [Nat.pow_succ] at h
    exact Nat.div_lt_of_lt_mul (by rw [Nat.mul_comm];exact h)
   obtain ⟨a1,a2,a3⟩:=dec_size k (N / 10) hq (by omega)
   rw [dec_ten (by omega)]
   simp only [List.length_append,List.length_cons,List.length_nil]
   generalize (dec (N / 10)).length=s at a1 a2 a3
   obtain ⟨j,rfl⟩:∃ j,s=j+1:=⟨s - 1,by omega⟩
   rw [Nat.add_sub_cancel] at a2
   refine ⟨by omega, ?_, ?_⟩
   ·show 10 ^ (j+1+1 - 1)≤N
    rw [Nat.add_sub_cancel,Nat.pow_succ]
    omega
   ·show N<10 ^ (j+1+1)
    rw [Nat.pow_succ]
    omega
theorem dec_pow {N:Nat} (h:0<N):10 ^ ((dec N).length - 1)≤N∧N<10 ^ (dec N).length∧1≤(dec N).length:=by
 have h1:N<10 ^ (N+1):=by
  have:N<2 ^ N:=Nat.lt_two_pow_self
  have h2:2 ^ N≤10 ^ N:=Nat.pow_le_pow_left (by decide) _
  have h3:10 ^ N≤10 ^ (N+1):=Nat.pow_le_pow_right (by decide) (by omega)
  omega
 obtain ⟨a1,a2,a3⟩:=dec_size N N h1 h
 exact ⟨a2,a3,a1⟩
theorem dvF_pos (neg:Bool) (mode:Int) (N n:Nat):dvF neg mode N n=rndF neg mode (N*10 ^ n) 1 0:=by
 unfold dvF
 rw [show (-(n:Int)).toNat=0 by omega,Int.toNat_natCast,Nat.pow_zero]
theorem dvF_neg (neg:Bool) (mode:Int) (N n:Nat):dvF neg mode N (-(n:Int))=rndF neg mode N (10 ^ n) 0:=by
 unfold dvF
 rw [show (-(n:Int)).toNat=0 by omega,show (-(-(n:Int))).toNat=n by omega,Nat.pow_zero,Nat.mul_one]
theorem pow_round {out ten n P:Nat} (h:out*ten ^ n=P):(if n % 2=1 then out*ten else out)*(ten*ten) ^ (n / 2)=P:=by
 rw [← h,← Nat.pow_two,← Nat.pow_mul]
 have e:=Nat.div_add_mod n 2
 split
 ·rename_i h1
  rw [Nat.mul_assoc,← Nat.pow_succ',show (2*(n / 2)).succ=n by omega]
 ·rw [show 2*(n / 2)=n by omega]
end Go.Proofs.YtoiebebjgnpkmaaGreatDoor
namespace Go.Proofs.YtoiebebjgnpkmaaGreatDoor
set_option linter.unusedSimpArgs false
set_option linter.unusedVariables false
theorem lg_le {N D t:Nat} (hN:0<N) (hD:0<D) (h:N<D*2 ^ t):lg N D<t:=by
 obtain ⟨k1,k2⟩:=lg_iff hN hD
 generalize lg N D=s at k1 k2
 apply Classical.byContradiction
 intro hs
 have e1:(-s).toNat=0:=by omega
 rw [e1,Nat.pow_zero,Nat.mul_one] at k1
 have e2:2 ^ t≤2 ^ s.toNat:=Nat.pow_le_pow_right (by decide) (by omega)
 have e3:D*2 ^ t≤D*2 ^ s.toNat:=Nat.mul_le_mul_left _ e2
 omega
def manF (b:Nat):Nat:=if b / 4503599627370496=0 then b else b % 4503599627370496+4503599627370496
def expoF (b:Nat):Int:=if b / 4503599627370496=0 then -1074 else ((b / 4503599627370496:Nat):Int) - 1075
theorem rm_one (neg:Bool) (mode:Int) (N:Nat):rm neg mode N 1=N:=by
 rw [rm_exact neg mode (Nat.mod_one N),Nat.div_one]
theorem unit_back {b:Nat} (h0:0<b):max (lg (manF b) 1+expoF b - 52) (-1074)=expoF b:=by
 unfold manF expoF
 by_cases hf:b / 4503599627370496=0
 ·rw [if_pos hf,if_pos hf]
  have h1:=lg_le (N:=b) (D:=1) (t:=52) h0 (by decide) (by rw [Nat.one_mul];show b<4503599627370496;omega)
  omega
 ·rw [if_neg hf,if_neg hf]
  have h1:=lg_le (N:=b % 4503599627370496+4503599627370496) (D:=1) (t:=53) (by omega) (by decide) (by rw [Nat.one_mul];show _ <9007199254740992;omega)
  have h2:=lg_ge (N:=b % 4503599627370496+4503599627370496) (D:=1) (t:=52) (by omega) (by decide) (by rw [Nat.one_mul];show 4503599627370496≤_;omega)
  omega
theorem lin_back (b:Nat):linF (manF b) (expoF b)=b:=by
 unfold linF manF expoF
 by_cases hf:b / 4503599627370496=0
 ·rw [if_pos hf,if_pos hf]
  have e:((-1074:Int)+1074).toNat=0:=rfl
  rw [e]
  omega
 ·rw [if_neg hf,if_neg hf]
  have e:(((b / 4503599627370496:Nat):Int) - 1075+1074).toNat=b / 4503599627370496 - 1:=by omega
  rw [e]
  omega
theorem manF_pos {b:Nat} (h:0<b):0<manF b:=by
 unfold manF
 split<;>omega
theorem rnd_back (neg:Bool) (mode:Int) {b:Nat} (h0:0<b) (hb:b<9218868437227405312):rndF neg mode (manF b) 1 (expoF b)=sgnF neg b:=by
 rw [rndF_lin neg mode (manF_pos h0) (by decide) (unit_back h0)]
 rw [show (expoF b - expoF b).toNat=0 by omega,Nat.pow_zero,Nat.mul_one,Nat.mul_one,rm_one,lin_back,if_neg (by omega)]
end Go.Proofs.YtoiebebjgnpkmaaGreatDoor
namespace Go.Proofs.YtoiebebjgnpkmaaGreatDoor
open Go.RowKit Go.Shelf
set_option linter.unusedSimpArgs false
set_option linter.unusedVariables false
def spL (n:Nat) (s:List UInt8):List UInt8:=List.replicate (n - s.length) 32++s
def spR (n:Nat) (s:List UInt8):List UInt8:=s++List.replicate (n - s.length) 32
theorem repeatL_spaces (k:Nat):Lib.repeatL [32] k=List.replicate k 32:=by
 induction k with
 | zero=>rfl
 | succ k ih=>rw [Lib.repeatL,ih];rfl
theorem repeatS_any (k:Nat) (hk:k≤1000000) (w:World):
 Calls Tryz.prog 51 #[.string (ByteArray.mk #[32]), .int .i64 (k:Int)] w fun e w'=>e= .returned (strV (List.replicate k 32))∧Below w.heap.size w w':=by
 refine Calls.mono (Tryz.strings_Repeat (ByteArray.mk #[32]) k w (by omega) (by show 1*k≤_;omega)) ?_
 rintro e w' ⟨rfl,hb⟩
 exact ⟨by rw [show (ByteArray.mk #[32]).data.toList=[32] from rfl,repeatL_spaces];rfl,hb⟩
theorem str_add {P:Program} {w:World} {t:TypeId} (s r:List UInt8) (hl:s.length+r.length≤1000000000):Sem.run P (binOp BinOp.add t (strV s) (strV r)) w= .ok (strV (s++r)) w:=by
 have e:(⟨s.toArray⟩:ByteArray)++⟨r.toArray⟩=⟨(s++r).toArray⟩:=by
  apply ByteArray.ext
  simp [ByteArray.data_append]
 have e2:(Op.stringOp .add ⟨s.toArray⟩ ⟨r.toArray⟩).run P w= .ok (strV (s++r)) w:=by
  unfold Op.stringOp
  have hn:¬ (((ByteArray.mk s.toArray).size+(ByteArray.mk r.toArray).size:Nat):Int)>IntKind.i64.max:=by
   show ¬ (((s.toArray.size+r.toArray.size:Nat):Int)>9223372036854775807)
   simp only [List.size_toArray]
   omega
  simp only [if_neg hn,e]
  rfl
 exact e2
set_option maxRecDepth 100000 in
set_option maxHeartbeats 2000000 in
theorem bright_any (w:World) (s:List UInt8) (n:Nat) (hs:s.length≤1000) (hn:n≤1000):
 Calls Tryz.prog 50 #[strV s, .int .i64 (n:Int)] w fun e w'=>e= .returned (strV (spL n s))∧Below w.heap.size w w':=by
 refine (callsIn_wide (n:=3)).1 ?_
 refine callsIn_of_wp Tryz.func50 rfl trivial ?_ rfl
 simp only [Tryz.ntmps50,List.size_toArray,List.length_cons,List.length_nil,Nat.reduceAdd,Nat.reduceSub,Array.replicate_succ,Array.replicate_zero,List.push_toArray,List.append_toArray,List.nil_append,List.cons_append]
 have hcat:∀ w':World,Sem.run Tryz.prog (binOp BinOp.add 9 (strV (List.replicate (n - s.length) 32)) (strV s)) w'= .ok (strV (spL n s)) w':=fun w'=>str_add _ _ (by rw [List.length_replicate];omega)
 have hlen:∀ w':World,Sem.run Tryz.prog (Builtin.len_ #[9] 3 #[strV s]) w'= .ok (.int .i64 (s.length:Int)) w':=fun w'=>by
  unfold strV
  show Result.ok (Value.int .i64 ((ByteArray.mk s.toArray).size:Int)) w'=_
  congr 2
 have hmx:max (0:Int) ((n:Int) - (s.length:Int))=((n - s.length:Nat):Int):=by omega
 gi_wp2_with (refine ⟨trivial, ?_⟩;gi_at_call 51;refine (callsIn_wide.2 (repeatS_any (n - s.length) (by omega) _)).mono ?_;rintro e w' ⟨rfl,hb'⟩)
 go_ret
 exact ⟨rfl,hb'⟩
set_option maxRecDepth 100000 in
set_option maxHeartbeats 2000000 in
theorem bleft_any (w:World) (s:List UInt8) (n:Nat) (hs:s.length≤1000) (hn:n≤1000):
 Calls Tryz.prog 16 #[strV s, .int .i64 (n:Int)] w fun e w'=>e= .returned (strV (spR n s))∧Below w.heap.size w w':=by
 refine (callsIn_wide (n:=3)).1 ?_
 refine callsIn_of_wp Tryz.func16 rfl trivial ?_ rfl
 simp only [Tryz.ntmps16,List.size_toArray,List.length_cons,List.length_nil,Nat.reduceAdd,Nat.reduceSub,Array.replicate_succ,Array.replicate_zero,List.push_toArray,List.append_toArray,List.nil_append,List.cons_append]
 have hcat:∀ w':World,Sem.run Tryz.prog (binOp BinOp.add 9 (strV s) (strV (List.replicate (n - s.length) 32))) w'= .ok (strV (spR n s)) w':=fun w'=>str_add _ _ (by rw [List.length_replicate];omega)
 have hlen:∀ w':World,Sem.run Tryz.prog (Builtin.len_ #[9] 3 #[strV s]) w'= .ok (.int .i64 (s.length:Int)) w':=fun w'=>by
  unfold strV
  show Result.ok (Value.int .i64 ((ByteArray.mk s.toArray).size:Int)) w'=_
  congr 2
 have hmx:max (0:Int) ((n:Int) - (s.length:Int))=((n - s.length:Nat):Int):=by omega
 gi_wp2_with (refine ⟨trivial, ?_⟩;gi_at_call 51;refine (callsIn_wide.2 (repeatS_any (n - s.length) (by omega) _)).mono ?_;rintro e w' ⟨rfl,hb'⟩)
 go_ret
 exact ⟨rfl,hb'⟩
end Go.Proofs.YtoiebebjgnpkmaaGreatDoor
namespace Go.Proofs.YtoiebebjgnpkmaaGreatDoor
open Go.RowKit
set_option linter.unusedSimpArgs false
set_option linter.unusedVariables false
set_option maxHeartbeats 4000000
set_option maxRecDepth 100000
set_option maxHeartbeats 8000000 in
theorem short_new {w:World} {p:Option Addr} {n c:Nat} (a:List Nat) (dv:Nat) (hn:a.length=n) (hn0:n≤1000000) (h:LR w p c a) (hd0:0<dv) (hdB:dv<4294967296):
 Calls Tryz.prog 185 #[.slice p n c, .int .u32 (dv:Int)] w fun e w'=>∃ p' c',e= .returned (.tuple #[.slice p' (digs (val a / dv)).length c', .int .u32 ((val a % dv:Nat):Int)])∧Fr [] w w'∧LR w' p' c' (digs (val a / dv))∧∀ b off,p'=some ⟨b,off,none⟩→w.heap.size≤b:=by
 subst hn
 have Hh:=hid h
 clear h
 have H:=Hp.start [] w
 go_enter Tryz.func185,Tryz.ntmps185
 (revert H;refine W08de ?_ <;>unhygienic intros)
 rw [show ((a.length:Int)).toNat=a.length by omega,zeros_limbs] at H
 go_loopw [7,8] (fun s7 s8 wr=>∃ (i r:Nat) (o:List Nat),i≤a.length∧s7= .int .u64 r∧s8= .int .i64 ((i:Int) - 1)∧r<dv∧Hid (o.length=a.length)∧Hid (Lim o)∧Hid (val (a.drop i)=dv*val (o.drop i)+r)∧Hp [] w wr [.blk g (limbs o) 162]) (fun _ v _ =>(intOf v+1).toNat)
 case atStart=>exact ⟨a.length,0,List.replicate a.length 0,Nat.le_refl _,rfl,rfl,hd0,hid List.length_replicate,hid (Lim.zeros _),hid (by rw [List.drop_eq_nil_of_le (Nat.le_refl _),List.drop_eq_nil_of_le (by rw [List.length_replicate];exact Nat.le_refl _)];simp [val]),H⟩
 case round=>
  clear H
  obtain ⟨i,r,o,hi,rfl,rfl,hr,Hol,Hlo,Hv,H⟩:=hrel
  by_cases h0:i=0
  ·have HV:Hid (val a=dv*val o+r):=hid (by
    have:=Hv.out
    rwa [h0,List.drop_zero,List.drop_zero] at this)
   have h0':(i:Int) - 1<0:=by omega
   clear h0
   (revert H;refine W08de ?_ <;>unhygienic intros)
   have hL:LR _ (some ⟨g,0,none⟩) a.length o:=LR.of_blk (pad:=[]) (by rw [List.append_nil];exact H.at g) Hlo.out (by rw [Hol.out];exact Nat.le_refl _) (by unfold maxLen;omega)
   have HL:=hid hL
   have HQ:Hid (val o=val a / dv):=hid (by rw [HV.out,Nat.mul_add_div hd0,Nat.div_eq_of_lt hr,Nat.add_zero])
   have HR:Hid (val a % dv=r):=hid (by rw [HV.out,Nat.mul_add_mod,Nat.mod_eq_of_lt hr])
   refine Calls.mono (trim_any o Hol.out HL.out) ?_
   rintro e w1 ⟨rfl,hF⟩
   have HL2:=hid (hL.fr hF).trim
   have H1:=H.step hF (by simp)
   clear H hF hL HL
   have H:=H1
   clear H1
   (revert H;refine W08de ?_ <;>unhygienic intros)
   refine bodyPost_ret (results_tmp2 rfl _ _ _) rfl ?_
   rw [HQ.out] at HL2
   exact ⟨_,_,by rw [HQ.out,HR.out];rfl,H.fr,HL2.out,fun b off e=>by cases e;exact hg.1⟩
  ·obtain ⟨j,rfl⟩:∃ j,i=j+1:=⟨i - 1,by omega⟩
   obtain ⟨x,hx⟩:∃ x,a[j]? =some x:=⟨_,List.getElem?_eq_getElem (by omega)⟩
   have hxv:=limbs_at hx
   have hxB:=Hh.out.lim.at hx
   have Hx:=hid hx
   clear hx h0
   obtain ⟨b0,off,rfl,hb0,hcell⟩:=Hh.out.rd.rng (limbs_ne (i:=j) (by omega))
   have H1:=H.pushRng (b:=b0) (off:=off) hb0 (by simp) hcell
   clear H hcell
   have H:=H1
   clear H1
   have e1:(((j+1:Nat):Int) - 1)=(j:Int):=by omega
   rw [e1]
   clear e1
   have hjo:j<o.length:=by rw [Hol.out];omega
   obtain ⟨ov,hov⟩:∃ ov,o[j]? =some ov:=⟨_,List.getElem?_eq_getElem hjo⟩
   have hovv:=limbs_at hov
   have hlim:=short_limb hr hxB
   have Hlim:=hid hlim
   clear hov hlim
   (revert H;refine W45a6 ?_ <;>unhygienic intros)
   have e1:((r:Int)*4294967296+(x:Int)) / (dv:Int) % 4294967296=(((r*4294967296+x) / dv:Nat):Int):=by
    have e2:((r:Int)*4294967296+(x:Int)) / (dv:Int)=(((r*4294967296+x) / dv:Nat):Int):=by rw [Int.natCast_ediv];congr 1
    rw [e2]
    have h:=Hlim.out
    generalize (r*4294967296+x) / dv=q at h ⊢
    omega
   have e3:((r:Int)*4294967296+(x:Int)) % (dv:Int)=(((r*4294967296+x) % dv:Nat):Int):=by rw [Int.natCast_emod];congr 1
   rw [e1,limbs_set] at H
   rw [e3]
   go_roundw
   case rel=>exact ⟨j,(r*4294967296+x) % dv,o.set j ((r*4294967296+x) / dv),by omega,rfl,rfl,Nat.mod_lt _ hd0,hid (by rw [List.length_set];exact Hol.out),hid (Hlo.out.set _ Hlim.out),hid (by rw [drop_set _ _ _ hjo,drop_cons_at Hx.out];simp only [val];exact short_round Hv.out),H.sub (by repeat first | exact List.Sublist.refl _ | exact List.nil_sublist _ | apply List.Sublist.cons_cons | apply List.Sublist.cons)⟩
   case measure=>(simp [intOf];try omega)
end Go.Proofs.YtoiebebjgnpkmaaGreatDoor
