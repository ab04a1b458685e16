import Derived.Test.YtoiebebjgnpkmaaGreatDoorYJ0
import Derived.Test.YtoiebebjgnpkmaaGreatDoorYJ34
import Derived.Test.YtoiebebjgnpkmaaGreatDoorYJ37
import Derived.Test.YtoiebebjgnpkmaaGreatDoorYJ22
import Derived.Test.YtoiebebjgnpkmaaGreatDoorYJ47
import Derived.Test.YtoiebebjgnpkmaaGreatDoorYJ46
import Derived.Test.YtoiebebjgnpkmaaGreatDoorYJ44
namespace Go.Proofs.YtoiebebjgnpkmaaGreatDoor
open Go.RowKit
set_option linter.unusedSimpArgs false
set_option linter.unusedVariables false
set_option maxHeartbeats 8000000
set_option maxRecDepth 100000
attribute [local irreducible] wpList Code.wp Plan.wp
theorem ev_subY {P:Program} {a:Act} {w:World} {o:Oper} {t t':TypeId} {x y:Operand} (ho:o.op= .binOp .sub t x y t') {m n:Int} (z:Int) (hx:a.eval x= .int .i64 m) (hy:a.eval y= .int .i64 n) (hz:Hid (m - n=z)) (hr:inr .i64 z:=by simp only [inr];omega):(execOp a.eval o).run P w= .ok (.value (.int .i64 z)) w:=by
 have hz:=hz.out
 subst hz
 exact ev_sub ho hx hy hr
theorem value_fin' {f:Lay} {s:List UInt8} {v:Nat} (h:valueP f s=some v):finF v=true∧v<18446744073709551616:=by
 unfold valueP at h
 split at h
 ·rename_i k
  cases h
  exact ⟨k.2.2,dpz_lt _ _ _⟩
 ·cases h
theorem fmt_short2 {x:Int} (h1: -99999≤x) (h2:x≤99999999):(fmt x).length≤100:=by
 have h:∀ n:Nat,n≤99999999→(dec n).length≤99:=by
  intro n hn
  have h8:=(padk_eq 8 n (by omega)).1
  omega
 unfold fmt
 split
 ·have:=h x.natAbs (by omega)
  simp only [List.length_cons]
  omega
 ·have:=h x.natAbs (by omega)
  omega
theorem itoaZ_any (x:Int) (hx: -9223372036854775808≤x∧x≤9223372036854775807) (w:World) (ht:La w) {l:List UInt8} (hl:Hid (fmt x=l)):
 Calls Tryz.prog 13 #[.int .i64 x] w fun e w'=>e= .returned (strV l)∧Fr [] w w':=by
 refine Calls.mono (Tryz.strconv_Itoa x (by omega) (by omega) w ht.2) ?_
 rintro e w' ⟨rfl,k,os,rfl⟩
 refine ⟨?_,Fr.grow w k os⟩
 rw [← hl.out]
 unfold Lib.itoa fmt dec
 split
 ·rfl
 ·rw [show x.toNat=x.natAbs by omega];rfl
theorem parseP_any (w:World) (s:List UInt8) (mode:Int) (hT:La w) {v:Nat} {e:Int} (h:Hid (dpz 1024 s mode=(v,e))):
 Calls Tryz.prog 92 #[strV s, .int .i64 mode] w fun r w'=>r= .returned (.tuple #[.int .u64 (v:Int), .int .i64 e])∧Fr [] w w':=by
 have hp:=parseD_any w s mode hT
 rw [h.out] at hp
 exact hp
theorem contains_any (w:World) (s:List UInt8) {b:Bool} (hb:Hid (decide ((46:UInt8)∈s)=b)):Calls Tryz.prog 48 #[strV s, .string (ByteArray.mk #[46])] w fun e w'=>e= .returned (.bool b)∧Fr [] w w':=by
 refine Calls.mono (Tryz.strings_Contains_one ⟨s.toArray⟩ 46 w) ?_
 rintro e w' ⟨rfl,rfl⟩
 refine ⟨?_,Fr.refl _ _⟩
 rw [ba_lst,← index_byte,← hb.out]
 rcases index_one 46 s with ⟨h1,h2⟩ | ⟨i,h1,_,_,h4⟩
 ·rw [h1,decide_eq_false h2];rfl
 ·have hm:(46:UInt8)∈s:=by rw [h4];simp
  rw [h1,decide_eq_true hm,decide_eq_true (by omega)]
theorem atoiS_any (w:World) (s:List UInt8) (hl:s.length≤18) {n:Int} (h:Hid (Lib.atoi s=some n)):Calls Tryz.prog 114 #[strV s] w fun e w'=>e= .returned (.tuple #[.int .i64 n, .nilIface])∧Fr [] w w':=by
 refine Calls.mono (Tryz.strconv_Atoi ⟨s.toArray⟩ n (by rw [ba_size];exact hl) (by rw [ba_lst];exact h.out) w) ?_
 rintro e w' ⟨rfl,t,rfl⟩
 exact ⟨rfl,Fr.of_below (Lib.bytesWorld_below _ _ _)⟩
def atOK (s:List UInt8):Bool:=decide (Lib.indexAny s sE<0)||(Lib.atoi (s.drop ((Lib.indexAny s sE).toNat+1))).isSome&&decide (-100000≤(Lib.atoi (s.drop ((Lib.indexAny s sE).toNat+1))).getD 0∧(Lib.atoi (s.drop ((Lib.indexAny s sE).toNat+1))).getD 0≤100000)&&decide ((s.drop ((Lib.indexAny s sE).toNat+1)).length≤18)
set_option maxHeartbeats 32000000 in
theorem value_any (w:World) (c wd:Int) (p sc:Nat) (hp9:p≤999) (hs9:sc≤9) (s:List UInt8) (hs:s.length≤40) (ha:asc s=true) (hat:atOK s=true) (hT:La w) {c' w':Nat} {v:Nat} (hv:Hid (valueP ⟨c',w',p,sc⟩ s=some v)):
 Calls Tryz.prog 71 #[.agg #[.int .i64 c, .int .i64 wd, .int .i64 (p:Int), .int .i64 (sc:Int)],strV s] w fun e w'=>e= .returned (.tuple #[.int .u64 (v:Int), .bool true])∧Fr [] w w':=by
 have hv0:=hv.out
 have hv64:=(value_fin' hv0).2
 have HFI:=hid (value_fin' hv0).1
 obtain ⟨d,hd⟩:∃ d,vDig s=d:=⟨_,rfl⟩
 obtain ⟨x,hx⟩:∃ x,vExp ⟨c',w',p,sc⟩ s=x:=⟨_,rfl⟩
 obtain ⟨q,hq0⟩:∃ q,vPow ⟨c',w',p,sc⟩ s=q:=⟨_,rfl⟩
 obtain ⟨b,hb⟩:∃ b,decide ((46:UInt8)∈d)=b:=⟨_,rfl⟩
 obtain ⟨fq,hfq⟩:∃ fq,fmt q=fq:=⟨_,rfl⟩
 obtain ⟨t,ht⟩:∃ t,d++101::fq=t:=⟨_,rfl⟩
 obtain ⟨v1,e1,hp1⟩:∃ v1 e1,dpz 1024 s 0=(v1,e1):=⟨_,_,rfl⟩
 have hdl:d.length≤40:=by
  rw [← hd];unfold vDig
  split
  ·exact hs
  ·rw [List.length_take];omega
 have hfl:fq.length≤100:=by
  have hq1: -99999≤q:=by rw [← hq0];unfold vPow;omega
  have hq2:q≤99999999:=by
   rw [← hq0];unfold vPow
   have hx2:x≤100000:=by
    rw [← hx];unfold vExp
    split
    ·show -(sc:Int)≤100000
     omega
    ·rename_i hn
     unfold atOK at hat
     rw [decide_eq_false hn,Bool.false_or,Bool.and_eq_true,Bool.and_eq_true] at hat
     exact (of_decide_eq_true hat.1.2).2
   rw [hx]
   show max (if (46:UInt8)∈vDig s then x else x - (p:Int)) (-99999)≤99999999
   split<;>omega
  rw [← hfq]
  exact fmt_short2 hq1 hq2
 have HVP:=hid (show max (if b=true then x else x - (p:Int)) (-99999)=q by
  rw [← hq0,← hb];unfold vPow
  rw [hd,hx]
  by_cases hm:(46:UInt8)∈d
  ·rw [if_pos hm,if_pos (by simpa using hm)]
  ·rw [if_neg hm,if_neg (by simpa using hm)])
 obtain ⟨he1,hp2⟩:e1=0∧dpz 1024 t 0=(v,0):=by
  unfold valueP at hv0
  rw [hd,hq0,hfq,ht,hp1] at hv0
  split at hv0
  ·rename_i h
   exact ⟨h.1,Prod.ext (Option.some.inj hv0) h.2.1⟩
  ·cases hv0
 subst he1
 have HP1:=hid hp1
 have HP2:=hid hp2
 have HB:=hid hb
 have HFQ:=hid hfq
 have HC2:=hid (show (d++[101])++fq=t by rw [← ht];simp)
 have HT:=hid hT
 have HASC:=hid ha
 obtain ⟨z,hz⟩:∃ z,Lib.indexAny s sE=z:=⟨_,rfl⟩
 have hge:=Lib.indexAny_ge sE s
 have hlt:=indexAny_lt sE s
 rw [hz] at hge hlt
 have hx9: -1000000≤x∧x≤1000000:=by
  rw [← hx];unfold vExp
  split
  ·show -1000000≤ -(sc:Int)∧ -(sc:Int)≤1000000
   omega
  ·rename_i hn
   unfold atOK at hat
   rw [decide_eq_false hn,Bool.false_or,Bool.and_eq_true,Bool.and_eq_true] at hat
   have:=of_decide_eq_true hat.1.2
   omega
 clear hp1 hp2 hb hfq ht hq0 hv0 hv hT ha
 have H:=Hp.start [] w
 rcases Int.lt_or_le z 0 with h0 | h0
 ·obtain rfl:z= -1:=by omega
  have hds:d=s:=by rw [← hd];unfold vDig;rw [hz,if_pos (by decide)]
  have hxs:x= -(sc:Int):=by rw [← hx];unfold vExp;rw [hz,if_pos (by decide)]
  have HX:=hid (show (0:Int) - (sc:Int)=x by rw [hxs];omega)
  subst hds
  have HZ:=hid hz
  clear hz hlt hge h0 hd hx hxs hat
  go_enter Tryz.func71,Tryz.ntmps71
  ((try simp only [Int.not_lt,Int.not_le] at*);revert H;refine W02cb ?_ <;>unhygienic intros)
  (refine x_c H (parseP_any _ d 0 (HT.out.fr H.fr) HP1) ?_;clear H;rintro e w1 ⟨rfl,hF⟩ H;clear hF)
  ((try simp only [Int.not_lt,Int.not_le] at*);revert H;refine W02cb ?_ <;>unhygienic intros)
  (refine x_c H (indexAny_any _ d sE (by omega) (by decide) HASC.out (by decide) HZ) ?_;clear H;rintro e w1 ⟨rfl,hF⟩ H;clear hF)
  ((try simp only [Int.not_lt,Int.not_le] at*);revert H;refine Wd10a ?_ <;>unhygienic intros)
  (refine x_c H (contains_any _ d HB) ?_;clear H;rintro e w1 ⟨rfl,hF⟩ H;clear hF)
  cases b with
  | true=>
   have HQ:=hid (show max x (-99999)=q by rw [← HVP.out];rfl)
   have hq: -9223372036854775808≤q∧q≤9223372036854775807:=by have:=HQ.out;omega
   ((try simp only [Int.not_lt,Int.not_le] at*);revert H;refine We343 ?_ <;>unhygienic intros)
   (refine x_c H (itoaZ_any q hq _ (HT.out.fr H.fr) HFQ) ?_;clear H;rintro e w1 ⟨rfl,hF⟩ H;clear hF)
   ((try simp only [Int.not_lt,Int.not_le] at*);revert H;refine W6634 ?_ <;>unhygienic intros)
   (refine x_c H (parseP_any _ t 0 (HT.out.fr H.fr) HP2) ?_;clear H;rintro e w1 ⟨rfl,hF⟩ H;clear hF)
   ((try simp only [Int.not_lt,Int.not_le] at*);revert H;refine W02cb ?_ <;>unhygienic intros)
   (refine x_c H (isFin_any _ hv64 HFI) ?_;clear H;rintro e w1 ⟨rfl,hF⟩ H;clear hF)
   ((try simp only [Int.not_lt,Int.not_le] at*);revert H;refine W02cb ?_ <;>unhygienic intros)
   go_ret2
   exact ⟨rfl,H.fr⟩
  | false=>
   have HQ:=hid (show max (x - (p:Int)) (-99999)=q by rw [← HVP.out];rfl)
   have hq: -9223372036854775808≤q∧q≤9223372036854775807:=by have:=HQ.out;omega
   ((try simp only [Int.not_lt,Int.not_le] at*);revert H;refine We343 ?_ <;>unhygienic intros)
   (refine x_c H (itoaZ_any q hq _ (HT.out.fr H.fr) HFQ) ?_;clear H;rintro e w1 ⟨rfl,hF⟩ H;clear hF)
   ((try simp only [Int.not_lt,Int.not_le] at*);revert H;refine W6634 ?_ <;>unhygienic intros)
   (refine x_c H (parseP_any _ t 0 (HT.out.fr H.fr) HP2) ?_;clear H;rintro e w1 ⟨rfl,hF⟩ H;clear hF)
   ((try simp only [Int.not_lt,Int.not_le] at*);revert H;refine W02cb ?_ <;>unhygienic intros)
   (refine x_c H (isFin_any _ hv64 HFI) ?_;clear H;rintro e w1 ⟨rfl,hF⟩ H;clear hF)
   ((try simp only [Int.not_lt,Int.not_le] at*);revert H;refine W02cb ?_ <;>unhygienic intros)
   go_ret2
   exact ⟨rfl,H.fr⟩
 ·obtain ⟨k,rfl⟩:=Int.eq_ofNat_of_zero_le h0
  have hk:k<s.length:=by have:=hlt h0;omega
  have hds:s.take k=d:=by rw [← hd];unfold vDig;rw [hz,if_neg (by omega),Int.toNat_natCast]
  have hxs:(Lib.atoi (s.drop (k+1))).getD 0=x:=by rw [← hx];unfold vExp;rw [hz,if_neg (by omega),Int.toNat_natCast]
  have hao:Lib.atoi (s.drop (k+1))=some x:=by
   unfold atOK at hat
   rw [hz,decide_eq_false (by omega),Bool.false_or,Bool.and_eq_true,Bool.and_eq_true,Int.toNat_natCast,Option.isSome_iff_exists] at hat
   obtain ⟨⟨⟨y,hy⟩,_⟩,_⟩:=hat
   rw [hy] at hxs
   rw [hy,← hxs];rfl
  have h18:(s.drop (k+1)).length≤18:=by
   unfold atOK at hat
   rw [hz,decide_eq_false (by omega),Bool.false_or,Bool.and_eq_true,Int.toNat_natCast] at hat
   exact of_decide_eq_true hat.2
  have HAO:=hid hao
  have HR1:=hid (show s.take ((k:Int)).toNat=d by rw [Int.toNat_natCast,hds])
  have HR2:=hid (show s.drop ((k:Int)+1).toNat=s.drop (k+1) by rw [show ((k:Int)+1).toNat=k+1 by omega])
  have HZ:=hid hz
  clear hz hlt hge h0 hd hx hxs hat hao hds
  go_enter Tryz.func71,Tryz.ntmps71
  ((try simp only [Int.not_lt,Int.not_le] at*);revert H;refine W02cb ?_ <;>unhygienic intros)
  (refine x_c H (parseP_any _ s 0 (HT.out.fr H.fr) HP1) ?_;clear H;rintro e w1 ⟨rfl,hF⟩ H;clear hF)
  ((try simp only [Int.not_lt,Int.not_le] at*);revert H;refine W02cb ?_ <;>unhygienic intros)
  (refine x_c H (indexAny_any _ s sE (by omega) (by decide) HASC.out (by decide) HZ) ?_;clear H;rintro e w1 ⟨rfl,hF⟩ H;clear hF)
  ((try simp only [Int.not_lt,Int.not_le] at*);revert H;refine W84d3 ?_ <;>unhygienic intros)
  (refine x_c H (atoiS_any _ (s.drop (k+1)) h18 HAO) ?_;clear H;rintro e w1 ⟨rfl,hF⟩ H;clear hF)
  ((try simp only [Int.not_lt,Int.not_le] at*);revert H;refine W02cb ?_ <;>unhygienic intros)
  (refine x_c H (contains_any _ d HB) ?_;clear H;rintro e w1 ⟨rfl,hF⟩ H;clear hF)
  cases b with
  | true=>
   have HQ:=hid (show max x (-99999)=q by rw [← HVP.out];rfl)
   have hq: -9223372036854775808≤q∧q≤9223372036854775807:=by have:=HQ.out;omega
   ((try simp only [Int.not_lt,Int.not_le] at*);revert H;refine We343 ?_ <;>unhygienic intros)
   (refine x_c H (itoaZ_any q hq _ (HT.out.fr H.fr) HFQ) ?_;clear H;rintro e w1 ⟨rfl,hF⟩ H;clear hF)
   ((try simp only [Int.not_lt,Int.not_le] at*);revert H;refine W6634 ?_ <;>unhygienic intros)
   (refine x_c H (parseP_any _ t 0 (HT.out.fr H.fr) HP2) ?_;clear H;rintro e w1 ⟨rfl,hF⟩ H;clear hF)
   ((try simp only [Int.not_lt,Int.not_le] at*);revert H;refine W02cb ?_ <;>unhygienic intros)
   (refine x_c H (isFin_any _ hv64 HFI) ?_;clear H;rintro e w1 ⟨rfl,hF⟩ H;clear hF)
   ((try simp only [Int.not_lt,Int.not_le] at*);revert H;refine W02cb ?_ <;>unhygienic intros)
   go_ret2
   exact ⟨rfl,H.fr⟩
  | false=>
   have HQ:=hid (show max (x - (p:Int)) (-99999)=q by rw [← HVP.out];rfl)
   have hq: -9223372036854775808≤q∧q≤9223372036854775807:=by have:=HQ.out;omega
   ((try simp only [Int.not_lt,Int.not_le] at*);revert H;refine We343 ?_ <;>unhygienic intros)
   (refine x_c H (itoaZ_any q hq _ (HT.out.fr H.fr) HFQ) ?_;clear H;rintro e w1 ⟨rfl,hF⟩ H;clear hF)
   ((try simp only [Int.not_lt,Int.not_le] at*);revert H;refine W6634 ?_ <;>unhygienic intros)
   (refine x_c H (parseP_any _ t 0 (HT.out.fr H.fr) HP2) ?_;clear H;rintro e w1 ⟨rfl,hF⟩ H;clear hF)
   ((try simp only [Int.not_lt,Int.not_le] at*);revert H;refine W02cb ?_ <;>unhygienic intros)
   (refine x_c H (isFin_any _ hv64 HFI) ?_;clear H;rintro e w1 ⟨rfl,hF⟩ H;clear hF)
   ((try simp only [Int.not_lt,Int.not_le] at*);revert H;refine W02cb ?_ <;>unhygienic intros)
   go_ret2
   exact ⟨rfl,H.fr⟩
end Go.Proofs.YtoiebebjgnpkmaaGreatDoor
namespace Go.Proofs.YtoiebebjgnpkmaaGreatDoor
open Go.RowKit
set_option linter.unusedSimpArgs false
set_option linter.unusedVariables false
set_option maxHeartbeats 8000000
set_option maxRecDepth 100000
attribute [local irreducible] wpList Code.wp Plan.wp
end Go.Proofs.YtoiebebjgnpkmaaGreatDoor
namespace Go.Proofs.YtoiebebjgnpkmaaGreatDoor
open Go.RowKit
set_option linter.unusedSimpArgs false
set_option linter.unusedVariables false
section
variable {T:List Nat} {w0 w:World} {l:List Ent}
theorem Hp.rowOpen (H:Hp T w0 w l) (k:Nat) {S:List Nat} {e:TypeId} {sz n:Nat} {v:Value} {xs:List Value} {f:Ent→List Ent} [i:Oi k S (RowAt e sz v n xs S) l f] (hn:0<n):
 ∃ g cap pad,v= .slice (some ⟨g,0,none⟩) n cap∧S=[g]∧n≤cap∧cap≤maxLen∧(xs++pad).length=cap*sz∧Hp T w0 w (f (.blk g (xs++pad) e)):=by
 obtain ⟨h0,⟨h1,h2,h3⟩ | ⟨g,cap,pad,rfl,rfl,h2,h3,h4,h5⟩⟩:=H.ob k
 ·omega
 ·exact ⟨g,cap,pad,rfl,rfl,h2,h3,h4,H.recast (i.h _) rfl ⟨h5,H.home k g (by simp)⟩⟩
theorem Hp.rowShut {g:Nat} {e:TypeId} {cs:List Value} {f:Nat→List Value→List Ent} (H:Hp T w0 w l) (k:Nat) {sz n cap:Nat} {xs pad:List Value} [i:In g cs e l f] (hcs:cs=xs++pad) (h0:xs.length=n*sz) (h2:n≤cap) (h3:cap≤maxLen) (h4:(xs++pad).length=cap*sz) {l':List Ent} (hl:Rep (.blk g cs e) (.obj k [g] (RowAt e sz (.slice (some ⟨g,0,none⟩) n cap) n xs [g])) l l'):Hp T w0 w l':=by
 have hm:=hl.mem
 have hb:=H.at g
 refine H.recast hl rfl ⟨⟨h0, .inr ⟨g,cap,pad,rfl,rfl,h2,h3,h4,by rw [← hcs];exact hb⟩⟩,RowAt.firm,fun x hx=> ?_⟩
 simp only [List.mem_singleton] at hx
 subst hx
 exact (H.ok _ hm).2
end
end Go.Proofs.YtoiebebjgnpkmaaGreatDoor
namespace Go.Proofs.YtoiebebjgnpkmaaGreatDoor
set_option linter.unusedSimpArgs false
set_option linter.unusedVariables false
theorem indexAny_at {ls:List UInt8} {e:UInt8} (he:e∈ls) (r:List UInt8):∀ {a:List UInt8},(∀ b∈a,b∉ls)→Lib.indexAny (a++e::r) ls=a.length
 | [],_ =>by
  have h1:ls.contains e=true:=by simpa using he
  rw [List.nil_append,Lib.indexAny,h1]
  rfl
 | b::a,h=>by
  have h1:ls.contains b=false:=by simpa using h b (by simp)
  rw [List.cons_append,Lib.indexAny,h1,indexAny_at he r (fun c hc=>h c (List.mem_cons_of_mem _ hc))]
  have h2:((a.length:Int)== -1)=false:=by simp
  rw [h2]
  simp
theorem dig_ne {b:UInt8} (h:dig b=true):b≠32∧b≠46∧b∉sE∧b≠10∧b≠13:=by
 have h1:=dig_le h
 refine ⟨?_, ?_, ?_, ?_, ?_⟩
 ·rintro rfl;revert h1;decide
 ·rintro rfl;revert h1;decide
 ·intro hm
  simp only [sE,List.mem_cons,List.not_mem_nil,or_false] at hm
  rcases hm with rfl | rfl | rfl | rfl<;>(revert h1;decide)
 ·rintro rfl;revert h1;decide
 ·rintro rfl;revert h1;decide
theorem dec_dig {n:Nat} {b:UInt8} (h:b∈dec n):dig b=true:=List.all_eq_true.1 (dec_digits n).1 b h
structure Good (b:List UInt8) (l0:List UInt8) (v:Nat):Prop where
 ok:∃ f x lay,mlines b=[l0,bL1,bL2,bL3 f,bL4,bL5,x]∧decP (blank (f.take 20))=some lay∧valueP lay (blank (part 0 lay.width x))=some v
end Go.Proofs.YtoiebebjgnpkmaaGreatDoor
namespace Go.Proofs.YtoiebebjgnpkmaaGreatDoor
open Go.RowKit
set_option linter.unusedSimpArgs false
set_option linter.unusedVariables false
set_option maxHeartbeats 8000000
set_option maxRecDepth 100000
attribute [local irreducible] wpList Code.wp Plan.wp
section
variable {P:Program} {a:Act} {w:World} {o:Oper}
theorem ev_cut1 {t:TypeId} {x y y2:Operand} (ho:o.op= .slice t x (some y) (some y2) none) {b n c:Nat} (hx:a.eval x= .slice (some ⟨b,0,none⟩) n c) {k k2:IntKind} {i j:Nat} (hy:a.eval y= .int k (i:Int)) (hy2:a.eval y2= .int k2 (j:Int)) {e:TypeId} {z:List Value} {by':Nat} [h:Si P t e z 1 by'] (m:Nat) (hij:i+m=j) (h2:j≤c) (h3:i<c):(execOp a.eval o).run P w= .ok (.value (.slice (some ⟨b,i,none⟩) m (c - i))) w:=by
 have:=c_sslh (P:=P) (w:=w) ho hx hy hy2 (by omega) (by omega) (by omega)
 rw [if_neg (by omega)] at this
 rw [this]
 have e1:((j:Int).toNat - (i:Int).toNat)=m:=by omega
 have e2:0+(i:Int).toNat*1=i:=by omega
 rw [e1,e2]
 rfl
end
structure M1 (b ga gb gc c1 c2 c3:Nat) (w:World):Prop where
 h0:w.cell? ⟨ga,0,none⟩=some (.int .i64 0)
 h1:w.cell? ⟨ga,1,none⟩=some (.int .i64 1)
 h2:w.cell? ⟨gb,0,none⟩=some (.int .i64 0)
 h3:w.cell? ⟨gc,0,none⟩=some (.int .u64 (b:Int))
 n1:2≤c1
 n2:1≤c2
 n3:1≤c3
 hb:b<18446744073709551616
theorem M1.fr {b ga gb gc c1 c2 c3:Nat} {w w':World} (h:M1 b ga gb gc c1 c2 c3 w) (k:Fr [] w w'):M1 b ga gb gc c1 c2 c3 w':=
 ⟨k.cell h.h0 (by simp),k.cell h.h1 (by simp),k.cell h.h2 (by simp),k.cell h.h3 (by simp),h.n1,h.n2,h.n3,h.hb⟩
theorem M1.cr {b ga gb gc c1 c2 c3:Nat} {w:World} (h:M1 b ga gb gc c1 c2 c3 w):CelR w (some ⟨ga,0,none⟩) (([0,1]:List Nat).map iV):=by
 intro j u hj
 rcases j with _ | _ | j
 ·obtain rfl:iV 0=u:=by simpa using hj
  exact ⟨ga,rfl,h.h0⟩
 ·obtain rfl:iV 1=u:=by simpa using hj
  exact ⟨ga,rfl,h.h1⟩
 ·exact absurd hj (by simp)
set_option maxHeartbeats 32000000 in
theorem columns1_any (w:World) {b ga gb gc c1 c2 c3:Nat} (h:M1 b ga gb gc c1 c2 c3 w):
 Calls Tryz.prog 36 #[.agg ([.int .i64 1, .int .i64 1, .slice (some ⟨ga,0,none⟩) 2 c1, .slice (some ⟨gb,0,none⟩) 1 c2, .slice (some ⟨gc,0,none⟩) 1 c3]).toArray] w fun e w'=>e= .returned (.bool true)∧Fr [] w w':=by
 have H0:=hid h.h0;have H1':=hid h.h1;have H2:=hid h.h2;have HC:=hid h.cr
 have n1:=h.n1;have n2:=h.n2;have n3:=h.n3
 clear h
 have H:=Hp.start [] w
 go_enter Tryz.func36,Tryz.ntmps36
 (revert H;refine W0ede ?_ <;>unhygienic intros)
 (revert H;refine w_p 41 (.st 0 (.st 1 (.st 2 (.st 3 (.st 4 (.st 5 (.st 6 (.st 7 (.st 8 (.st 9 (.st 10 (.st 11 (.st 12 (.st 13 (.st 14 (.st 15 (.st 16 (.ld 17 (.st 18 (.st 19 (.st 20 (.st 21 (.st 22 (.st 23 (.st 24 (.st 25 (.st 26 (.st 27 (.st 28 (.st 29 (.st 30 (.st 31 (.st 32 (.st 33 (.st 34 (.st 35 (.st 36 (.st 37 (.st 38 (.st 39 (.st 40 .done))))))))))))))))))))))))))))))))))))))))) ?_;intro w1 H)
 iterate 8 refine p_q ?_
 iterate 3 (first | refine p_q ?_ | refine p_n ?_)
 (first | refine p_e rfl (fun w H=>c_ldc rfl rfl (H.fr.cell H0.out (by simp))) ?_ | refine p_n ?_)
 (first | refine p_q ?_ | refine p_n ?_)
 iterate 2 refine p_q ?_
 iterate 2 (first | refine p_q ?_ | refine p_n ?_)
 ((first | (refine p_c H rfl rfl Tryz.func72 (issorted_any _ [0,1] rfl (by decide) (by decide) (by decide) (HC.out.fr H.fr)) ?_;clear H;rintro e w1 ⟨rfl,hF⟩ H;refine p_r ?_;clear hF) | refine p_n ?_))
 (first | refine p_q ?_ | refine p_n ?_)
 iterate 2 refine p_q ?_
 iterate 4 (first | refine p_q ?_ | refine p_n ?_)
 (first | refine p_e rfl (fun w H=>ev_ixE 1 1 rfl rfl rfl (hid rfl)) ?_ | refine p_n ?_)
 (first | refine p_e rfl (fun w H=>c_ldc rfl rfl (H.fr.cell H1'.out (by simp))) ?_ | refine p_n ?_)
 iterate 4 (first | refine p_q ?_ | refine p_n ?_)
 iterate 2 refine p_q ?_
 iterate 7 (first | refine p_q ?_ | refine p_n ?_)
 refine p_q ?_
 (refine pl_done ?_)
 (revert H;refine W0ede ?_ <;>unhygienic intros)
 go_loopw [50] (fun s50 wr=>(s50= .int .i64 0∨s50= .int .i64 1)∧Hp [] w wr [.blk g0 [.int .i64 1, .int .i64 1, .slice (some ⟨ga,0,none⟩) 2 c1, .slice (some ⟨gb,0,none⟩) 1 c2, .slice (some ⟨gc,0,none⟩) 1 c3] 27]) (fun v _ =>1 - (intOf v).toNat)
 case atStart=>exact ⟨.inl rfl,H.arr (by repeat (first | exact Pm.nil _ | (apply Pm.cons;· (repeat first | exact Rm.here _ | apply Rm.there))))⟩
 case round=>
  clear H
  obtain ⟨hj,H⟩:=hrel
  rcases hj with rfl | rfl
  ·(revert H;refine W0ede ?_ <;>unhygienic intros)
   (revert H;refine w_p 16 (.st 0 (.st 1 (.st 2 (.st 3 (.st 4 (.st 5 (.st 6 (.st 7 (.st 8 (.st 9 (.st 10 (.st 11 (.st 12 (.st 13 (.st 14 (.st 15 .done)))))))))))))))) ?_;intro w1 H)
   iterate 6 refine p_q ?_
   (refine p_e rfl (fun w H=>c_ldc rfl rfl (H.fr.cell H0.out (by simp))) ?_)
   iterate 5 refine p_q ?_
   (refine p_e rfl (fun w H=>c_ldc rfl rfl (H.fr.cell H1'.out (by simp))) ?_)
   (refine p_e rfl (fun w H=>ev_cut1 (i:=0) (j:=1) rfl rfl rfl rfl 1 rfl (by omega) (by omega)) ?_)
   iterate 2 refine p_q ?_
   (refine pl_done ?_)
   (revert H;refine W0ede ?_ <;>unhygienic intros)
   go_loopw [4,68] (fun s4 s68 wr=>((s4= .int .i64 (-1)∧s68= .int .i64 0)∨(s4= .int .i64 0∧s68= .int .i64 1))∧Hp [] w wr [.blk g0 [.int .i64 1, .int .i64 1, .slice (some ⟨ga,0,none⟩) 2 c1, .slice (some ⟨gb,0,none⟩) 1 c2, .slice (some ⟨gc,0,none⟩) 1 c3] 27]) (fun _ v _ =>1 - (intOf v).toNat)
   case atStart=>exact ⟨.inl ⟨rfl,rfl⟩,H.arr (by repeat (first | exact Pm.nil _ | (apply Pm.cons;· (repeat first | exact Rm.here _ | apply Rm.there))))⟩
   case round=>
    clear H
    obtain ⟨hj,H⟩:=hrel
    rcases hj with ⟨rfl,rfl⟩ | ⟨rfl,rfl⟩
    ·(revert H;refine W042d ?_ <;>unhygienic intros)
     go_roundw
     case rel=>exact ⟨.inr ⟨rfl,rfl⟩,H.arr (by repeat (first | exact Pm.nil _ | (apply Pm.cons;· (repeat first | exact Rm.here _ | apply Rm.there))))⟩
     case measure=>(simp [intOf];try omega)
    ·(revert H;refine W0ede ?_ <;>unhygienic intros)
     go_roundw
     case rel=>exact ⟨.inr rfl,H.arr (by repeat (first | exact Pm.nil _ | (apply Pm.cons;· (repeat first | exact Rm.here _ | apply Rm.there))))⟩
     case measure=>(simp [intOf];try omega)
  ·(revert H;refine W0ede ?_ <;>unhygienic intros)
   go_ret
   exact ⟨rfl,H.fr⟩
theorem checkZ_any (w:World) {b:Nat} (hb:b<18446744073709551616) {z:Bool} (hfz:Hid (finF b=z)):Calls Tryz.prog 37 #[.int .u64 (b:Int)] w fun e w'=>e= .returned (.bool (!z))∧Fr [] w w':=by
 have H:=Hp.start [] w
 cases z with
 | false=>
  go_enter Tryz.func37,Tryz.ntmps37
  (revert H;refine W0ede ?_ <;>unhygienic intros)
  (refine x_c H (isFin_any _ hb hfz) ?_;clear H;rintro e w1 ⟨rfl,hF⟩ H;clear hF)
  (revert H;refine W0ede ?_ <;>unhygienic intros)
  go_ret
  exact ⟨rfl,H.fr⟩
 | true=>
  go_enter Tryz.func37,Tryz.ntmps37
  (revert H;refine W0ede ?_ <;>unhygienic intros)
  (refine x_c H (isFin_any _ hb hfz) ?_;clear H;rintro e w1 ⟨rfl,hF⟩ H;clear hF)
  (revert H;refine W0ede ?_ <;>unhygienic intros)
  go_ret
  exact ⟨rfl,H.fr⟩
theorem indexZ_any (w:World) {b ga gb gc c1 c2 c3:Nat} (h:M1 b ga gb gc c1 c2 c3 w) {z:Bool} (hfz:Hid (finF b=z)):
 Calls Tryz.prog 44 #[.slice (some ⟨gc,0,none⟩) 1 c3, .func (.func 37) #[] #[]] w fun e w'=>e= .returned (.int .i64 (if z then -1 else 0))∧Fr [] w w':=by
 have H3:=hid h.h3
 have hb:=h.hb
 clear h
 have H:=Hp.start [] w
 cases z with
 | false=>
  go_enter Tryz.func44,Tryz.ntmps44
  (revert H;refine W0ede ?_ <;>unhygienic intros)
  go_loopw [8] (fun s8 wr=>s8= .int .i64 0∧Hp [] w wr []) (fun v _ =>1 - (intOf v).toNat)
  case atStart=>exact ⟨rfl,H⟩
  case round=>
   clear H
   obtain ⟨rfl,H⟩:=hrel
   (revert H;refine W7ffd ?_ <;>unhygienic intros)
   (refine x_c H (checkZ_any _ hb hfz) ?_;clear H;rintro e w1 ⟨rfl,hF⟩ H;clear hF)
   (revert H;refine W0ede ?_ <;>unhygienic intros)
   go_ret
   exact ⟨rfl,H.fr⟩
 | true=>
  go_enter Tryz.func44,Tryz.ntmps44
  (revert H;refine W0ede ?_ <;>unhygienic intros)
  go_loopw [8] (fun s8 wr=>(s8= .int .i64 0∨s8= .int .i64 1)∧Hp [] w wr []) (fun v _ =>1 - (intOf v).toNat)
  case atStart=>exact ⟨.inl rfl,H⟩
  case round=>
   clear H
   obtain ⟨hj,H⟩:=hrel
   rcases hj with rfl | rfl
   ·(revert H;refine W7ffd ?_ <;>unhygienic intros)
    (refine x_c H (checkZ_any _ hb hfz) ?_;clear H;rintro e w1 ⟨rfl,hF⟩ H;clear hF)
    (revert H;refine W0ede ?_ <;>unhygienic intros)
    go_roundw
    case rel=>exact ⟨.inr rfl,H⟩
    case measure=>(simp [intOf];try omega)
   ·(revert H;refine W0ede ?_ <;>unhygienic intros)
    go_ret
    exact ⟨rfl,H.fr⟩
theorem containsZ_any (w:World) {b ga gb gc c1 c2 c3:Nat} (h:M1 b ga gb gc c1 c2 c3 w) {z:Bool} (hfz:Hid (finF b=z)):
 Calls Tryz.prog 11 #[.slice (some ⟨gc,0,none⟩) 1 c3, .func (.func 37) #[] #[]] w fun e w'=>e= .returned (.bool (!z))∧Fr [] w w':=by
 have HM:=hid h
 clear h
 have H:=Hp.start [] w
 cases z with
 | false=>
  go_enter Tryz.func11,Tryz.ntmps11
  (revert H;refine W0ede ?_ <;>unhygienic intros)
  (refine x_c H (indexZ_any _ (HM.out.fr H.fr) hfz) ?_;clear H;rintro e w1 ⟨rfl,hF⟩ H;clear hF)
  (revert H;refine W0ede ?_ <;>unhygienic intros)
  go_ret
  exact ⟨rfl,H.fr⟩
 | true=>
  go_enter Tryz.func11,Tryz.ntmps11
  (revert H;refine W0ede ?_ <;>unhygienic intros)
  (refine x_c H (indexZ_any _ (HM.out.fr H.fr) hfz) ?_;clear H;rintro e w1 ⟨rfl,hF⟩ H;clear hF)
  (revert H;refine W0ede ?_ <;>unhygienic intros)
  go_ret
  exact ⟨rfl,H.fr⟩
theorem check1_any (w:World) {b ga gb gc c1 c2 c3:Nat} (h:M1 b ga gb gc c1 c2 c3 w) {z:Bool} (hfz:Hid (finF b=z)):
 Calls Tryz.prog 8 #[.agg ([.int .i64 1, .int .i64 1, .slice (some ⟨ga,0,none⟩) 2 c1, .slice (some ⟨gb,0,none⟩) 1 c2, .slice (some ⟨gc,0,none⟩) 1 c3]).toArray] w fun e w'=>e= .returned (.int .i64 (if z then 0 else 4))∧Fr [] w w':=by
 have HM:=hid h
 clear h
 have H:=Hp.start [] w
 cases z with
 | false=>
  go_enter Tryz.func8,Tryz.ntmps8
  (revert H;refine W0ede ?_ <;>unhygienic intros)
  (refine x_c H (within_any _ 1 0 200 (hid (show decide ((0:Int)≤1∧(1:Int)≤200)=true by decide))) ?_;clear H;rintro e w1 ⟨rfl,hF⟩ H;clear hF)
  (revert H;refine W0ede ?_ <;>unhygienic intros)
  (refine x_c H (within_any _ 1 0 200 (hid (show decide ((0:Int)≤1∧(1:Int)≤200)=true by decide))) ?_;clear H;rintro e w1 ⟨rfl,hF⟩ H;clear hF)
  (revert H;refine W0ede ?_ <;>unhygienic intros)
  (refine x_c H (columns1_any _ (HM.out.fr H.fr)) ?_;clear H;rintro e w1 ⟨rfl,hF⟩ H;clear hF)
  (revert H;refine W0ede ?_ <;>unhygienic intros)
  (refine x_c H (containsZ_any _ (HM.out.fr H.fr) hfz) ?_;clear H;rintro e w1 ⟨rfl,hF⟩ H;clear hF)
  (revert H;refine W0ede ?_ <;>unhygienic intros)
  go_ret
  exact ⟨rfl,H.fr⟩
 | true=>
  go_enter Tryz.func8,Tryz.ntmps8
  (revert H;refine W0ede ?_ <;>unhygienic intros)
  (refine x_c H (within_any _ 1 0 200 (hid (show decide ((0:Int)≤1∧(1:Int)≤200)=true by decide))) ?_;clear H;rintro e w1 ⟨rfl,hF⟩ H;clear hF)
  (revert H;refine W0ede ?_ <;>unhygienic intros)
  (refine x_c H (within_any _ 1 0 200 (hid (show decide ((0:Int)≤1∧(1:Int)≤200)=true by decide))) ?_;clear H;rintro e w1 ⟨rfl,hF⟩ H;clear hF)
  (revert H;refine W0ede ?_ <;>unhygienic intros)
  (refine x_c H (columns1_any _ (HM.out.fr H.fr)) ?_;clear H;rintro e w1 ⟨rfl,hF⟩ H;clear hF)
  (revert H;refine W0ede ?_ <;>unhygienic intros)
  (refine x_c H (containsZ_any _ (HM.out.fr H.fr) hfz) ?_;clear H;rintro e w1 ⟨rfl,hF⟩ H;clear hF)
  (revert H;refine W0ede ?_ <;>unhygienic intros)
  go_ret
  exact ⟨rfl,H.fr⟩
end Go.Proofs.YtoiebebjgnpkmaaGreatDoor
namespace Go.Proofs.YtoiebebjgnpkmaaGreatDoor
open Go.RowKit
set_option linter.unusedSimpArgs false
set_option linter.unusedVariables false
set_option maxHeartbeats 8000000
set_option maxRecDepth 100000
attribute [local irreducible] wpList Code.wp Plan.wp
def rowP (L:List Nat):List UInt8:=L.flatMap fun (n:Nat)=>spL 14 (fmt (n:Int))
theorem spL_size (wd:Nat) (t:List UInt8):(spL wd t).length≤wd+t.length:=by
 unfold spL
 rw [List.length_append,List.length_replicate]
 omega
theorem fmt_size {n:Nat} (h:n≤1000):(fmt (n:Int)).length≤10:=by
 have:=fmt_short (x:=(n:Int)) (by omega)
 omega
theorem rowP_len:∀ L:List Nat,(∀ u∈L,u≤1000)→(rowP L).length≤30*L.length
 | [],_ =>Nat.zero_le _
 | u::L,h=>by
  have ih:=rowP_len L (fun x hx=>h x (List.mem_cons_of_mem _ hx))
  have h1:=spL_size 14 (fmt (u:Int))
  have h2:=fmt_size (h u (List.mem_cons_self ..))
  unfold rowP at*
  rw [List.flatMap_cons,List.length_append,List.length_cons]
  omega
theorem brow_any (w:World) {g c n:Nat} (L:List Nat) (hn:L.length=n) (hn2:n≤10) (hc:n≤c) (hu:∀ u∈L,u≤1000) (hL:∀ (j:Nat) (u:Nat),L[j]? =some u→w.cell? ⟨g,j,none⟩=some (.int .i64 (u:Int))) (hT:La w) {s:List UInt8} (hs:Hid (rowP L=s)):
 Calls Tryz.prog 17 #[.slice (some ⟨g,0,none⟩) n c] w fun e w'=>e= .returned (strV s)∧Fr [] w w':=by
 have HL:=hid hL;have HT:=hid hT;have HU:=hid hu;have HN:=hid hn
 clear hL hT hu hn
 have H:=Hp.start [] w
 go_enter Tryz.func17,Tryz.ntmps17
 (revert H;refine W179f ?_ <;>unhygienic intros)
 go_loopw [3,8] (fun s3 s8 wr=>∃ (k:Nat) (u:List UInt8),s3=strV u∧s8= .int .i64 (k:Int)∧k≤n∧Hid (u=rowP (L.take k))∧Hp [] w wr []) (fun _ v _ =>n - (intOf v).toNat)
 case atStart=>exact ⟨0,[],rfl,rfl,Nat.zero_le _,hid rfl,H⟩
 case round=>
  clear H
  obtain ⟨k,u,rfl,rfl,hk,HU1,H⟩:=hrel
  by_cases hlt:k<n
  ·obtain ⟨x,hx⟩:∃ x,L[k]? =some x:=⟨_,List.getElem?_eq_getElem (by rw [HN.out];exact hlt)⟩
   have hx1:=HU.out x (List.mem_of_getElem? hx)
   have HX:=hid (HL.out k x hx)
   obtain ⟨q,hq⟩:∃ q,fmt (x:Int)=q:=⟨_,rfl⟩
   have hql:q.length≤10:=hq ▸ fmt_size hx1
   have HQ:=hid hq
   obtain ⟨t,ht⟩:∃ t,u++spL 14 q=t:=⟨_,rfl⟩
   have hul:u.length≤300:=by
    rw [HU1.out]
    have h1:=rowP_len (L.take k) (fun v hv=>HU.out v (List.mem_of_mem_take hv))
    rw [List.length_take,HN.out] at h1
    have h2:30*min k n≤30*10:=Nat.mul_le_mul_left _ (by omega)
    omega
   have hsl:=spL_size 14 q
   have HC:=hid ht
   have HN1:=hid (show t=rowP (L.take (k+1)) by
    rw [← ht,HU1.out,List.take_add_one,hx,← hq]
    unfold rowP
    rw [List.flatMap_append,Option.toList_some,List.flatMap_cons,List.flatMap_nil,List.append_nil])
   clear hx ht hq
   (revert H;refine Wd948 ?_ <;>unhygienic intros)
   (refine x_c H (itoaZ_any _ (by omega) _ (HT.out.fr H.fr) HQ) ?_;clear H;rintro e w1 ⟨rfl,hF⟩ H;clear hF)
   (revert H;refine W179f ?_ <;>unhygienic intros)
   refine Calls.mono (bright_any _ q 14 (by omega) (by decide)) ?_
   rintro e w2 ⟨rfl,hB⟩
   have H1:=H.step (Fr.of_below (T:=[]) hB) (by simp)
   clear H hB
   have H:=H1
   clear H1
   (revert H;refine W73b0 ?_ <;>unhygienic intros)
   go_roundw
   case rel=>exact ⟨k+1,t,rfl,rfl,by omega,HN1,H⟩
   case measure=>(simp [intOf];try omega)
  ·obtain rfl:k=n:=by omega
   have HE:=hid (show u=s by rw [HU1.out,← hs.out,← HN.out,List.take_length])
   (revert H;refine W179f ?_ <;>unhygienic intros)
   go_ret
   exact ⟨by rw [HE.out];rfl,H.fr⟩
end Go.Proofs.YtoiebebjgnpkmaaGreatDoor
namespace Go.Proofs.YtoiebebjgnpkmaaGreatDoor
open Go.RowKit
set_option linter.unusedSimpArgs false
set_option linter.unusedVariables false
set_option maxHeartbeats 8000000
set_option maxRecDepth 100000
theorem ev_quoT {P:Program} {w:World} {a:Act} {o:Oper} {t t':TypeId} {x:Operand} (ho:o.op= .binOp .quo t x (.const (.int .i64 100000)) t') {m z:Int} (hx:a.eval x= .int .i64 m) (hz:Hid (m.tdiv 100000=z)) (hr:inr .i64 z:=by simp only [inr];omega):(execOp a.eval o).run P w= .ok (.value (.int .i64 z)) w:=by
 have e:IntKind.i64.wrap (m.tdiv 100000)=z:=by rw [hz.out];exact wrap_inr hr
 exact ev_bin ho hx rfl (fun w=>by
  simp [binOp,Op.intDiv,e])
theorem cmp_ge {w:World} {u v:Value} {x y:Int} {n m:Nat} (h:Av w u x n) (k:Av w v y m) (hn:n≤200000) (hm:m≤200000) (hx:y≤x):
 Calls Tryz.prog 183 #[u,v] w fun e w'=>∃ s:Int,e= .returned (.int .i64 s)∧0≤s∧Fr [] w w':=
 Calls.mono (cmp_ar h k hn hm) (fun e w' hb=>⟨_,hb.1,by unfold cmpZ;(repeat' split)<;>omega,hb.2⟩)
theorem scaledZ_any {w:World} {u v:Value} {N D:Nat} {z:Int} (n:Int) (hz:z=n) (hu:Bv w u (N:Int) (bl N)) (hv:Bv w v (D:Int) (bl D)) (hN:bl N≤10000) (hD:bl D≤10000) (hn: -3000≤n∧n≤3000) {X Y:Nat} (hX:Hid (upN N n=X)) (hY:Hid (dnD D n=Y)):
 Calls Tryz.prog 139 #[u,v, .int .i64 z] w fun r w'=>∃ v1 v2,r= .returned (.tuple #[v1,v2])∧Fr [] w w'∧Bv w' v1 (X:Int) (bl X)∧Bv w' v2 (Y:Int) (bl Y):=by
 subst hz
 rw [← hX.out,← hY.out]
 exact scaled_any z hu hv hN hD hn
theorem bl_upN {N:Nat} {n:Int} (h:n≤3000):bl (upN N n)≤bl N+12001:=by
 unfold upN
 have h1:=bl_prod N (10 ^ n.toNat)
 have h2:=bl_ten n.toNat
 omega
theorem bl_dnD {N:Nat} {n:Int} (h: -3000≤n):bl (dnD N n)≤bl N+12001:=by
 unfold dnD
 have h1:=bl_prod N (10 ^ (-n).toNat)
 have h2:=bl_ten (-n).toNat
 omega
set_option maxHeartbeats 16000000 in
theorem magnitude_any {w:World} {u v:Value} {N D:Nat} (hu:Bv w u (N:Int) (bl N)) (hv:Bv w v (D:Int) (bl D)) (hN:bl N≤1100) (hD:bl D≤1100) (hN0:0<N) (hD0:0<D):
 Calls Tryz.prog 136 #[u,v] w fun r w'=>∃ k:Int,r= .returned (.int .i64 k)∧Fr [] w w'∧tenLe N D k∧¬ tenLe N D (k+1)∧ -400≤k∧k≤400:=by
 obtain ⟨b1,p1,m1,c1,rfl⟩:=hu.form
 obtain ⟨b2,p2,m2,c2,rfl⟩:=hv.form
 have HB1:=hid hu
 have HB2:=hid hv
 have hb1:=bl_pos (show N≠0 by omega)
 have hb2:=bl_pos (show D≠0 by omega)
 obtain ⟨t,ht⟩:∃ t:Int,(bl N:Int) - bl D - 1=t:=⟨_,rfl⟩
 have htr: -1150≤t∧t<1150:=by omega
 have H0:=hid (k0_ten (show N≠0 by omega) (show D≠0 by omega) ht.symm htr.1 htr.2)
 have hk0:=k0_range htr.1 htr.2
 obtain ⟨k,hk⟩:∃ k,k0 t=k:=⟨_,rfl⟩
 rw [hk] at H0 hk0
 have HKK:Hid ((((bl N:Int) - bl D - 1)*30103).tdiv 100000=k+2):=hid (by rw [ht];have:=hk;unfold k0 at this;omega)
 have hD1:D≠0:=by omega
 have HD1:=hid hD1
 clear hu hv ht hk htr
 have H:=Hp.start [] w
 go_enter Tryz.func136,Tryz.ntmps136
 go_wp2_with (revert H;refine x_g ?_;intro g w1 hg hf H;replace hf:=hf.kp)
 rename_i ga wa hga hfa xa ya
 (revert H;refine w_pF 9 (.st 0 (.st 2 (.ld 1 (.ld 3 (.st 4 (.st 5 (.st 6 (.st 7 (.st 8 .done))))))))) ?_;intro w1 hf H;(first | replace hf:=hf.kp | clear hf))
 iterate 2 refine p_q ?_
 ((refine p_c H rfl rfl Tryz.func182 (bitLen_ar (HB1.out.fr H.fr).ar (by omega)) ?_;clear H;rintro e w1 ⟨rfl,hF⟩ H;refine p_r ?_;replace hF:=hF.kp);rw [Int.natAbs_natCast])
 ((refine p_c H rfl rfl Tryz.func182 (bitLen_ar (HB2.out.fr H.fr).ar (by omega)) ?_;clear H;rintro e w1 ⟨rfl,hF⟩ H;refine p_r ?_;replace hF:=hF.kp);rw [Int.natAbs_natCast])
 iterate 3 refine p_q ?_
 (refine p_e rfl (fun w H=>ev_quoT rfl rfl HKK) ?_)
 refine p_q ?_
 (refine pl_done ?_)
 all_goals
  go_wp2_with fail
  go_loopw [5] (fun s5 wr=>∃ k:Int,s5= .int .i64 k∧ -400≤k∧Hid (tenLe N D k)∧Hp [] w wr [.blk g [.bool b2, .slice p2 m2 c2] 112, .blk ga [.bool b1, .slice p1 m1 c1] 112]) (fun v _ =>(400 - intOf v).toNat)
  case atStart=>exact ⟨k,by go_num,by omega,H0,H⟩
  case round=>
   clear H H0
   obtain ⟨k,rfl,hk1,HT,H⟩:=hrel
   have hk2:=k_top HD1.out hN HT.out
   have hbu:=bl_upN (N:=N) (n:= -(k+1)) (by omega)
   have hbd:=bl_dnD (N:=D) (n:= -(k+1)) (by omega)
   obtain ⟨X,hX⟩:∃ X,upN N (-(k+1))=X:=⟨_,rfl⟩
   obtain ⟨Y,hY⟩:∃ X,dnD D (-(k+1))=X:=⟨_,rfl⟩
   have HIF:Hid (tenLe N D (k+1)↔Y≤X):=hid (by unfold tenLe;rw [hX,hY])
   rw [hX] at hbu
   rw [hY] at hbd
   have HX:=hid hX
   have HY:=hid hY
   clear hX hY
   go_wp2_with (refine x_q H ?_)
   (refine x_c H (scaledZ_any (z:= -k - 1) (-(k+1)) (by omega) (HB1.out.fr H.fr) (HB2.out.fr H.fr) (by omega) (by omega) (by omega) HX HY) ?_;clear H;rintro e w1 ⟨v3,v4,rfl,hF,hB,hB2⟩ H;replace hF:=hF.kp;obtain ⟨b3,p3,m3,c3,rfl⟩:=hB.form;have HB3:=hid hB;clear hB;obtain ⟨b4,p4,m4,c4,rfl⟩:=hB2.form;have HB4:=hid hB2;clear hB2)
   go_wp2_with (first | refine x_q H ?_ | (revert H;refine x_sF ?_;intro w1 hf H hk;clear hf;change Kp _ _ at hk) | (revert H;refine x_g ?_;intro g w1 hg hf H;replace hf:=hf.kp))
   by_cases hlt:X<Y
   ·(refine x_c H (cmp_below (bv HB3).ar (bv HB4).ar (by omega) (by omega) (by omega)) ?_;clear H;rintro e w1 ⟨s,rfl,hs,hF⟩ H;replace hF:=hF.kp;skip)
    go_wp2_with (refine x_q H ?_)
    go_ret
    exact ⟨k,rfl,H.fr,HT.out,fun h=>by have:=HIF.out.1 h;omega,by omega,by omega⟩
   ·have HT2:=hid (HIF.out.2 (by omega))
    clear HT HIF
    (refine x_c H (cmp_ge (bv HB3).ar (bv HB4).ar (by omega) (by omega) (by omega)) ?_;clear H;rintro e w1 ⟨s,rfl,hs,hF⟩ H;replace hF:=hF.kp;skip)
    go_wp2_with (refine x_q H ?_)
    go_roundw
    case rel=>exact ⟨k+1,rfl,by omega,HT2,by (refine Hp.arr H ?_;repeat (first | exact Pm.nil _ | (apply Pm.cons;· (repeat first | exact Rm.here _ | apply Rm.there))))⟩
    case measure=>(simp [intOf];try omega)
end Go.Proofs.YtoiebebjgnpkmaaGreatDoor
