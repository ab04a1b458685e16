import Derived.Test.YtoiebebjgnpkmaaGreatDoorYJ45
import Derived.Test.YtoiebebjgnpkmaaGreatDoorYJ21
import Derived.Test.YtoiebebjgnpkmaaGreatDoorYJ0
import Derived.Test.YtoiebebjgnpkmaaGreatDoorYJ16
import Derived.Test.YtoiebebjgnpkmaaGreatDoorYJ47
import Derived.Test.YtoiebebjgnpkmaaGreatDoorYJ36
namespace Go.Proofs.YtoiebebjgnpkmaaGreatDoor
set_option linter.unusedSimpArgs false
set_option linter.unusedVariables false
def sgl (neg:Bool):List UInt8:=if neg then [45] else []
theorem dsg_sg {c:UInt8} (hc:dig c=true) (neg:Bool) (r:List UInt8):dsg (sgl neg++c::r)=(neg,c::r):=by
 cases neg
 ·exact dsg_cons hc r
 ·rfl
theorem dread_full {neg:Bool} {a b t:List UInt8} {c:UInt8} {x:Int} (ha:a.all dig=true) (hb:b.all dig=true) (ha0:a≠[]) (hc:isE c=true) (hx:dexp t=some x):dread (sgl neg++(a++46::(b++c::t)))=some (neg,a++b,b.length,x):=by
 obtain ⟨c1,c2⟩:=isE_dig hc
 have h1:scan false (46::(b++c::t))=(b,b.length,c::t):=by
  rw [scan,if_neg (by decide),if_pos ⟨rfl,rfl⟩,scan_app hb,scan_stop t true c1 c2]
  simp
 have hd:dsg (sgl neg++(a++46::(b++c::t)))=(neg,a++46::(b++c::t)):=by
  cases a with
  | nil=>exact absurd rfl ha0
  | cons y r=>
   simp only [List.all_cons,Bool.and_eq_true] at ha
   exact dsg_sg ha.1 _ _
 unfold dread
 rw [hd]
 simp only [scan_app ha,h1]
 rw [if_neg (by simp [ha0])]
 simp [hc,hx]
theorem dread_nopt {neg:Bool} {a t:List UInt8} {c:UInt8} {x:Int} (ha:a.all dig=true) (ha0:a≠[]) (hc:isE c=true) (hx:dexp t=some x):dread (sgl neg++(a++c::t))=some (neg,a,0,x):=by
 cases neg
 ·exact dread_plain ha ha0 hc hx
 ·exact dread_minus ha ha0 hc hx
theorem dval_ten (neg:Bool) (mode:Int) (N:Nat) (x:Int):dval neg mode (N*10) (x - 1)=dval neg mode N x:=by
 unfold dval
 by_cases h:N=0
 ·rw [if_pos h,if_pos (by omega)]
 ·rw [if_neg h,if_neg (by omega)]
  unfold dvF
  by_cases hx:1≤x
  ·obtain ⟨k,rfl⟩:∃ k:Nat,x=((k+1:Nat):Int):=⟨(x - 1).toNat,by omega⟩
   have e1:(((k+1:Nat):Int) - 1).toNat=k:=by omega
   have e2:(-(((k+1:Nat):Int) - 1)).toNat=0:=by omega
   have e3:(-((k+1:Nat):Int)).toNat=0:=by omega
   rw [e1,e2,e3,Int.toNat_natCast,Nat.pow_succ,Nat.mul_assoc,Nat.mul_comm 10 (10 ^ k)]
  ·obtain ⟨k,rfl⟩:∃ k:Nat,x= -(k:Int):=⟨(-x).toNat,by omega⟩
   have e1:(-(k:Int) - 1).toNat=0:=by omega
   have e2:(-(-(k:Int) - 1)).toNat=k+1:=by omega
   have e3:(-(k:Int)).toNat=0:=by omega
   have e4:(- -(k:Int)).toNat=k:=by omega
   rw [e1,e2,e3,e4,Nat.pow_zero,Nat.mul_one,Nat.mul_one,Nat.pow_succ,Nat.mul_comm N 10,Nat.mul_comm (10 ^ k) 10]
   exact rndF_mul neg mode 0 (Nat.pos_of_ne_zero h) (ten_pos k) (by decide)
def FmA (b:Nat) (l:List UInt8):Prop:=
 (∃ (neg:Bool) (a r:List UInt8) (x:Int),a.all dig=true∧a.length=1∧r.all dig=true∧r.length≤16∧ -999≤x∧x≤999∧l=sgl neg++(a++((if r=[] then [] else 46::r)++101::fmt x))∧dpz 1024 l 0=(b,0))
 ∨∃ neg:Bool,l=sgl neg++[48]∧dpz 1024 l 0=(b,0)
def textP (l:List UInt8):List UInt8:=
 (if (46:UInt8)∈(Lib.cut l [101]).1 then (Lib.cut l [101]).1 else (Lib.cut l [101]).1++[46,48])++69::(if (Lib.cut l [101]).2.2=true then (Lib.cut l [101]).2.1 else [48])
theorem cut_at {c:UInt8} {a r:List UInt8} (h:c∉a):Lib.cut (a++c::r) [c]=(a,r,true):=by
 have e:Lib.index (a++c::r) [c]=a.length:=by
  rcases index_one c (a++c::r) with ⟨_,h2⟩ | ⟨i,h1,hi,h3,h4⟩
  ·exact absurd (by simp) h2
  ·rw [h1]
   rcases Nat.lt_trichotomy i a.length with hlt | heq | hgt
   ·exfalso
    have e1:(a++c::r)[i]? =some c:=by
     rw [h4,List.getElem?_append_right (by rw [List.length_take];omega),List.length_take,Nat.min_eq_left (by omega),Nat.sub_self];rfl
    rw [List.getElem?_append_left hlt] at e1
    exact h (List.mem_of_getElem? e1)
   ·rw [heq]
   ·exfalso
    refine h3 ?_
    have e1:((a++c::r).take i)[a.length]? =some c:=by
     rw [List.getElem?_take_of_lt hgt,List.getElem?_append_right (Nat.le_refl _),Nat.sub_self];rfl
    exact List.mem_of_getElem? e1
 unfold Lib.cut
 rw [e,if_pos (by omega),Int.toNat_natCast]
 simp
theorem text_form {b:Nat} {l:List UInt8} (h:FmA b l):∃ (neg:Bool) (a r:List UInt8) (x:Int),a.all dig=true∧a.length=1∧r.all dig=true∧r≠[]∧r.length≤16∧ -999≤x∧x≤999∧
 textP l=sgl neg++(a++46::(r++69::fmt x))∧dpz 1024 (sgl neg++(a++46::(r++101::fmt x))) 0=(b,0):=by
 have hsg:∀ neg:Bool,(101:UInt8)∉sgl neg∧(46:UInt8)∉sgl neg:=fun neg=>by cases neg<;>decide
 have hdg:∀ {a:List UInt8},a.all dig=true→(101:UInt8)∉a∧(46:UInt8)∉a:=fun {a} ha=>by
  rw [List.all_eq_true] at ha
  exact ⟨fun hm=>absurd (ha _ hm) (by decide),fun hm=>absurd (ha _ hm) (by decide)⟩
 rcases h with ⟨neg,a,r,x,ha,hal,hr,hrl,hx1,hx2,hl,hp⟩ | ⟨neg,hl,hp⟩
 ·have hcut:Lib.cut l [101]=(sgl neg++(a++(if r=[] then [] else 46::r)),fmt x,true):=by
   rw [hl,show sgl neg++(a++((if r=[] then [] else 46::r)++101::fmt x))=(sgl neg++(a++(if r=[] then [] else 46::r)))++101::fmt x by simp]
   refine cut_at ?_
   rw [List.mem_append,List.mem_append,not_or,not_or]
   refine ⟨(hsg neg).1,(hdg ha).1, ?_⟩
   split
   ·simp
   ·rw [List.mem_cons,not_or];exact ⟨by decide,(hdg hr).1⟩
  have ha0:a≠[]:=by intro e;rw [e] at hal;simp at hal
  by_cases hr0:r=[]
  ·subst hr0
   refine ⟨neg,a,[48],x,ha,hal,by decide,by decide,by decide,hx1,hx2, ?_, ?_⟩
   ·unfold textP
    rw [hcut]
    simp only [if_true,List.append_nil]
    rw [if_neg (by rw [List.mem_append,not_or];exact ⟨(hsg neg).2,(hdg ha).2⟩)]
    simp
   ·rw [hl] at hp
    simp only [if_true,List.nil_append] at hp
    rw [dpz_of 0 (by
     rw [List.length_append,List.length_append,List.length_cons,hal]
     have:=fmt_short (x:=x) (by omega)
     have h3:(sgl neg).length≤1:=by cases neg<;>decide
     omega) (dread_nopt (neg:=neg) ha ha0 (c:=101) (by decide) (dexp_fmt x)) (by omega)] at hp
    rw [dpz_of 0 (by
     simp only [List.length_append,List.length_cons,List.length_nil,hal]
     have:=fmt_short (x:=x) (by omega)
     have h3:(sgl neg).length≤1:=by cases neg<;>decide
     omega) (dread_full (neg:=neg) ha (b:=[48]) (by decide) ha0 (c:=101) (by decide) (dexp_fmt x)) (by omega)]
    rw [num_app,num_one]
    have e:num a*10 ^ [(48:UInt8)].length+((48:UInt8).toNat - 48)=num a*10:=rfl
    rw [e]
    have e2:x - (([(48:UInt8)].length:Nat):Int)=x - 1:=rfl
    rw [e2,dval_ten]
    simpa using hp
  ·refine ⟨neg,a,r,x,ha,hal,hr,hr0,hrl,hx1,hx2, ?_, ?_⟩
   ·unfold textP
    rw [hcut]
    simp only [if_true,if_neg hr0]
    rw [if_pos (by simp)]
    simp
   ·rw [hl,if_neg hr0] at hp
    simpa using hp
 ·have hcut:Lib.cut l [101]=(l,[],false):=by
   refine cut_none ?_
   rw [hl,List.mem_append,not_or]
   exact ⟨(hsg neg).1,by decide⟩
  refine ⟨neg,[48],[48],0,by decide,rfl,by decide,by decide,by decide,by decide,by decide, ?_, ?_⟩
  ·unfold textP
   rw [hcut]
   simp only [Bool.false_eq_true,if_false]
   rw [hl,if_neg (by rw [List.mem_append,not_or];exact ⟨(hsg neg).2,by decide⟩)]
   have:fmt 0=[48]:=by unfold fmt;rw [if_neg (by decide)];exact dec_small (by decide)
   rw [this]
   simp
  ·rw [dpz_of 0 (by
    simp only [List.length_append,List.length_cons,List.length_nil]
    have:=fmt_short (x:=0) (by omega)
    have h3:(sgl neg).length≤1:=by cases neg<;>decide
    omega) (dread_full (neg:=neg) (a:=[48]) (b:=[48]) (by decide) (by decide) (by decide) (c:=101) (by decide) (dexp_fmt 0)) (by omega)]
   rw [hl] at hp
   have hr:dread (sgl neg++[48])=some (neg,[48],0,0):=by cases neg<;>decide
   rw [dpz_of 0 (by cases neg<;>decide) hr (by omega)] at hp
   have e1:num ([48]++[48])=0:=by decide
   have e2:num [48]=0:=by decide
   rw [e2] at hp
   rw [e1,← hp]
   unfold dval
   rw [if_pos rfl,if_pos rfl]
end Go.Proofs.YtoiebebjgnpkmaaGreatDoor
namespace Go.Proofs.YtoiebebjgnpkmaaGreatDoor
set_option linter.unusedSimpArgs false
set_option linter.unusedVariables false
theorem atoi_fmt (x:Int):Lib.atoi (fmt x)=some x:=by
 obtain ⟨h1,h2,h3⟩:=dec_digits x.natAbs
 unfold fmt
 split
 ·rename_i hx
  have e:Lib.atoi (45::dec x.natAbs)=(Lib.decNat (dec x.natAbs)).map fun (m:Nat)=> -(m:Int):=rfl
  have e2:=atoi_num h1 h3
  rw [e]
  obtain ⟨c,r,hc⟩:=List.exists_cons_of_ne_nil h3
  rw [hc] at e2 h1 h2 ⊢
  rw [List.all_cons,Bool.and_eq_true] at h1
  have hb:=dig_le h1.1
  have n1:(c==45)=false:=by
   rw [beq_eq_false_iff_ne];rintro rfl;revert hb;decide
  have n2:(c==43)=false:=by
   rw [beq_eq_false_iff_ne];rintro rfl;revert hb;decide
  rw [show Lib.atoi (c::r)=(Lib.decNat (c::r)).map fun (m:Nat)=>(m:Int) by
   show (if (c==45)=true then _ else if (c==43)=true then _ else _)=_
   rw [n1,n2];rfl] at e2
  obtain ⟨m,hm,he⟩:=Option.map_eq_some_iff.1 e2
  rw [hm]
  simp only [Option.map_some]
  congr 1
  rw [he,h2]
  omega
 ·rename_i hx
  rw [atoi_num h1 h3,h2]
  congr 1
  omega
theorem fmt_asc (x:Int):∀ b∈fmt x,b=45∨dig b=true:=by
 intro b hb
 unfold fmt at hb
 split at hb
 ·rcases List.mem_cons.1 hb with h | h
  ·exact .inl h
  ·exact .inr (dec_dig h)
 ·exact .inr (dec_dig hb)
theorem text_value {b:Nat} {l:List UInt8} (h:FmA b l) (hf:finF b=true):
 valueP ⟨3,26,18,0⟩ (textP l)=some b∧(textP l).length≤25∧(∀ c∈textP l,c=45∨c=46∨c=69∨dig c=true)∧textP l≠[]∧
  (∃ k:Nat,Lib.indexAny (textP l) sE=(k:Int)∧k<(textP l).length∧((textP l).drop (k+1)).length≤6∧∃ x:Int,Lib.atoi ((textP l).drop (k+1))=some x∧ -999≤x∧x≤999):=by
 obtain ⟨neg,a,r,x,ha,hal,hr,hr0,hrl,hx1,hx2,ht,hp⟩:=text_form h
 have ha0:a≠[]:=by intro e;rw [e] at hal;simp at hal
 have hfx:=fmt_short (x:=x) (by omega)
 have hsl:(sgl neg).length≤1:=by cases neg<;>decide
 have hfx2:(fmt x).length≤4:=by
  have h3:=(padk_eq 2 x.natAbs (by omega)).1
  unfold fmt
  split
  ·rw [List.length_cons];omega
  ·omega
 obtain ⟨d,hd⟩:∃ d,sgl neg++(a++46::r)=d:=⟨_,rfl⟩
 have ht2:textP l=d++69::fmt x:=by rw [ht,← hd];simp
 have hdl:d.length≤19∧1≤d.length:=by
  rw [← hd]
  simp only [List.length_append,List.length_cons,hal]
  omega
 have hno:∀ c∈d,c∉sE∧(c=45∨c=46∨c=69∨dig c=true):=by
  intro c hc
  rw [← hd,List.mem_append,List.mem_append,List.mem_cons] at hc
  rcases hc with hc | hc | hc | hc
  ·have:c=45:=by cases neg<;>simp [sgl] at hc;exact hc
   subst this;exact ⟨by decide, .inl rfl⟩
  ·rw [List.all_eq_true] at ha;exact ⟨(dig_ne (ha c hc)).2.2.1, .inr (.inr (.inr (ha c hc)))⟩
  ·subst hc;exact ⟨by decide, .inr (.inl rfl)⟩
  ·rw [List.all_eq_true] at hr;exact ⟨(dig_ne (hr c hc)).2.2.1, .inr (.inr (.inr (hr c hc)))⟩
 have hix:Lib.indexAny (textP l) sE=(d.length:Int):=by
  rw [ht2];exact indexAny_at (by decide) _ (fun c hc=>(hno c hc).1)
 have hdr:(textP l).drop (d.length+1)=fmt x:=by
  rw [ht2,List.drop_append,List.drop_of_length_le (by omega),List.nil_append,show d.length+1 - d.length=1 by omega]
  rfl
 have hlen:(textP l).length=d.length+1+(fmt x).length:=by rw [ht2,List.length_append,List.length_cons];omega
 have hvd:vDig (textP l)=d:=by
  unfold vDig
  rw [hix,if_neg (by omega),Int.toNat_natCast,ht2,List.take_left']
  rfl
 have hve:vExp ⟨3,26,18,0⟩ (textP l)=x:=by
  unfold vExp
  rw [hix,if_neg (by omega),Int.toNat_natCast,hdr,atoi_fmt]
  rfl
 have hmem:(46:UInt8)∈d:=by rw [← hd];simp
 have hvp:vPow ⟨3,26,18,0⟩ (textP l)=x:=by
  unfold vPow
  rw [hvd,hve,if_pos hmem]
  omega
 have h2:dpz 1024 (vDig (textP l)++101::fmt (vPow ⟨3,26,18,0⟩ (textP l))) 0=(b,0):=by
  rw [hvd,hvp,← hd,← hp]
  simp
 have h1:(dpz 1024 (textP l) 0).2=0:=by
  rw [dpz_of 0 (by omega) (by rw [ht];exact dread_full (neg:=neg) ha hr ha0 (c:=69) (by decide) (dexp_fmt x)) (by omega)]
 refine ⟨?_,by omega, ?_,by rw [ht2];simp,⟨d.length,hix,by omega,by rw [hdr];omega,x,by rw [hdr];exact atoi_fmt x,hx1,hx2⟩⟩
 ·unfold valueP
  rw [h2,if_pos ⟨h1,rfl,hf⟩]
 ·intro c hc
  rw [ht2,List.mem_append,List.mem_cons] at hc
  rcases hc with hc | hc | hc
  ·exact (hno c hc).2
  ·exact .inr (.inr (.inl hc))
  ·rcases fmt_asc x c hc with h | h
   ·exact .inl h
   ·exact .inr (.inr (.inr h))
def sp (n:Nat) (s:List UInt8):List UInt8:=List.replicate (n - s.length) 32++s
def vL3:List UInt8:=padR 16 [40,56,73,49,48,41]++padR 16 [40,56,73,49,48,41]++[40,51,69,50,54,46,49,56,41]
def vL4:List UInt8:=sp 10 [49]++sp 10 [50]
def vL5:List UInt8:=sp 10 [49]
def vFile (t:List UInt8):List UInt8:=List.replicate 72 32++10::(bL1++10::(bL2++10::(vL3++10::(vL4++10::(vL5++10::(sp 26 t++[10]))))))
theorem v_head:wholeP (blank (part 0 16 vL3))=some ⟨8,10,0,0⟩∧wholeP (blank (part 16 32 vL3))=some ⟨8,10,0,0⟩∧decP (blank (part 32 52 vL3))=some ⟨3,26,18,0⟩∧asc vL3=true∧vL3.length≤1000:=by decide+kernel
theorem v_ints:pz (blank (part 0 10 vL4))=(1,0)∧pz (blank (part 10 20 vL4))=(2,0)∧pz (blank (part 0 10 vL5))=(1,0):=by decide+kernel
theorem v_lines {t:List UInt8} (h:∀ c∈t,c≠10∧c≠13) (h0:t≠[]):mlines (vFile t)=[List.replicate 72 32,bL1,bL2,vL3,vL4,vL5,sp 26 t]:=by
 have h1:(10:UInt8)∉sp 26 t:=by
  intro hm
  rcases List.mem_append.1 hm with hm | hm
  ·have:=List.eq_of_mem_replicate hm
   revert this;decide
  ·exact (h _ hm).1 rfl
 have h2:noCR (sp 26 t)=sp 26 t:=by
  unfold noCR
  rw [if_neg]
  intro hl
  have hm:(13:UInt8)∈sp 26 t:=List.mem_of_getLast? hl
  rcases List.mem_append.1 hm with hm | hm
  ·have:=List.eq_of_mem_replicate hm
   revert this;decide
  ·exact (h _ hm).2 rfl
 unfold mlines vFile
 rw [lns_cut (by decide),lns_cut (by decide),lns_cut (by decide),lns_cut (by decide),lns_cut (by decide),lns_cut (by decide),lns_cut h1]
 rw [List.nil_append,List.nil_append,List.nil_append,List.nil_append,List.nil_append,List.nil_append,List.nil_append,h2]
 rfl
theorem blank_sp {t:List UInt8} {n:Nat} (h0:t≠[]) (h:∀ c∈t,c≠32) (hn:t.length≤n):blank (part 0 n (sp n t))=t:=by
 have hl:(sp n t).length=n:=by unfold sp;rw [List.length_append,List.length_replicate];omega
 unfold part
 rw [List.drop_zero,List.take_of_length_le (by omega)]
 unfold blank Lib.trimB Lib.trimRightB Lib.trimLeftB sp
 rw [List.reverse_append]
 obtain ⟨c,y,hy⟩:=List.exists_cons_of_ne_nil (show t.reverse≠[] by simpa using h0)
 have hc:c≠32:=h c (by rw [← List.mem_reverse,hy];simp)
 rw [hy,List.cons_append,List.dropWhile_cons_of_neg (by simp [hc]),← List.cons_append,← hy,← List.reverse_append,List.reverse_reverse]
 obtain ⟨d,z,hz⟩:=List.exists_cons_of_ne_nil h0
 have hd:d≠32:=h d (by rw [hz];simp)
 have key:∀ k:Nat,List.dropWhile (· ==(32:UInt8)) (List.replicate k 32++t)=t:=by
  intro k
  induction k with
  | zero=>rw [List.replicate_zero,List.nil_append,hz,List.dropWhile_cons_of_neg (by simp [hd])]
  | succ k ih=>rw [List.replicate_succ,List.cons_append,List.dropWhile_cons_of_pos (by decide)];exact ih
 exact key _
end Go.Proofs.YtoiebebjgnpkmaaGreatDoor
namespace Go.Proofs.YtoiebebjgnpkmaaGreatDoor
open Go.RowKit
set_option linter.unusedSimpArgs false
set_option linter.unusedVariables false
set_option maxHeartbeats 8000000
set_option maxRecDepth 100000
attribute [local irreducible] wpList Code.wp Plan.wp
set_option maxHeartbeats 32000000 in
theorem entries1_any (w:World) {b ga gb gc c1 c2 c3:Nat} (h:M1 b ga gb gc c1 c2 c3 w):
 Calls Tryz.prog 84 #[.agg ([.int .i64 1, .int .i64 1, .slice (some ⟨ga,0,none⟩) 2 c1, .slice (some ⟨gb,0,none⟩) 1 c2, .slice (some ⟨gc,0,none⟩) 1 c3]).toArray] w fun e w'=>∃ v,e= .returned v∧Fr [] w w'∧w'.ownsRow w.heap.size 46 3 v 1 (eC (0,0,b)):=by
 have H0:=hid h.h0;have H1':=hid h.h1;have H2:=hid h.h2;have H3:=hid h.h3
 have n1:=h.n1;have n2:=h.n2;have n3:=h.n3
 clear h
 have H:=(Hp.start [] w).newRow 2 (e:=46) (sz:=3)
 go_enter Tryz.func84,Tryz.ntmps84
 (revert H;refine W0ede ?_ <;>unhygienic intros)
 go_loopw [3,8] (fun s3 s8 wr=>(s3= .slice none 0 0∧s8= .int .i64 0∧Hp [] w wr [.blk g0 [.int .i64 1, .int .i64 1, .slice (some ⟨ga,0,none⟩) 2 c1, .slice (some ⟨gb,0,none⟩) 1 c2, .slice (some ⟨gc,0,none⟩) 1 c3] 27, .obj 2 [] (RowAt 46 3 (.slice none 0 0) 0 [] [])])
  ∨(∃ p c S,s3= .slice p 1 c∧s8= .int .i64 1∧Hp [] w wr [.blk g0 [.int .i64 1, .int .i64 1, .slice (some ⟨ga,0,none⟩) 2 c1, .slice (some ⟨gb,0,none⟩) 1 c2, .slice (some ⟨gc,0,none⟩) 1 c3] 27, .obj 2 S (RowAt 46 3 (.slice p 1 c) 1 (eC (0,0,b)) S)])) (fun _ v _ =>1 - (intOf v).toNat)
 case atStart=>exact .inl ⟨rfl,rfl,H.arr (by repeat (first | exact Pm.nil _ | (apply Pm.cons;· (repeat first | exact Rm.here _ | apply Rm.there))))⟩
 case round=>
  clear H
  rcases hrel with ⟨rfl,rfl,H⟩ | ⟨p,c,S,rfl,rfl,H⟩
  ·(revert H;refine W2e9e ?_ <;>unhygienic intros)
   go_loopw [3,5] (fun s3 s5 wr=>(s3= .slice none 0 0∧s5= .int .i64 0∧Hp [] w wr [.blk g0 [.int .i64 1, .int .i64 1, .slice (some ⟨ga,0,none⟩) 2 c1, .slice (some ⟨gb,0,none⟩) 1 c2, .slice (some ⟨gc,0,none⟩) 1 c3] 27, .obj 2 [] (RowAt 46 3 (.slice none 0 0) 0 [] [])])
    ∨(∃ p c S,s3= .slice p 1 c∧s5= .int .i64 1∧Hp [] w wr [.blk g0 [.int .i64 1, .int .i64 1, .slice (some ⟨ga,0,none⟩) 2 c1, .slice (some ⟨gb,0,none⟩) 1 c2, .slice (some ⟨gc,0,none⟩) 1 c3] 27, .obj 2 S (RowAt 46 3 (.slice p 1 c) 1 (eC (0,0,b)) S)])) (fun _ v _ =>1 - (intOf v).toNat)
   case atStart=>exact .inl ⟨rfl,rfl,H.arr (by repeat (first | exact Pm.nil _ | (apply Pm.cons;· (repeat first | exact Rm.here _ | apply Rm.there))))⟩
   case round=>
    clear H
    rcases hrel with ⟨rfl,rfl,H⟩ | ⟨p,c,S,rfl,rfl,H⟩
    ·(revert H;refine Wae42 ?_ <;>unhygienic intros)
     (revert H;refine w_p 16 (.st 0 (.st 1 (.st 2 (.st 3 (.st 4 (.st 5 (.st 6 (.st 7 (.st 8 (.st 9 (.st 10 (.st 11 (.st 12 (.ld 13 (.ld 14 (.st 15 .done)))))))))))))))) ?_ (hs:=(.cons_cons _ (List.nil_sublist _)));intro w1 H)
     iterate 5 refine p_q ?_
     (refine p_e rfl (fun w H=>c_ldc rfl rfl (H.fr.cell H2.out (by simp))) ?_)
     iterate 5 refine p_q ?_
     (refine p_e rfl (fun w H=>c_ldc rfl rfl (H.fr.cell H3.out (by simp))) ?_)
     refine p_q ?_
     (revert H;refine p_g ?_;intro gi w1 hg hf H;(first | replace hf:=hf.kp | clear hf))
     (go_loud (refine pl_rw rfl rfl (fun K hK=>c_aprS H rfl rfl rfl 2 (H.rd (b:=gi) (off:=0) (vs:=eC (0,0,b)) List.prefix_rfl) rfl (by simp [Value.oneCell',eC]) (by omega) (by unfold maxLen;omega) (fun p2' c2' w1 S2' hf H1=>hK _ _ (fun hne=>by first | exact absurd rfl hne | exact trivial | exact H1.sub (by repeat first | exact List.Sublist.refl _ | exact List.nil_sublist _ | apply List.Sublist.cons_cons | apply List.Sublist.cons)) ?_)));(clear hK K);(clear H;have H:=H1;clear H1;(try dsimp only at H);(first | replace hf:=hf.kp | clear hf));(simp only [nrm,↓reduceIte,Nat.reduceAdd]))
     refine p_q ?_
     (refine pl_done ?_)
     all_goals
      (revert H;refine W0ede ?_ <;>unhygienic intros)
      go_roundw
      case rel=>exact .inr ⟨p2',c2',S2',rfl,rfl,H.arr (by repeat (first | exact Pm.nil _ | (apply Pm.cons;· (repeat first | exact Rm.here _ | apply Rm.there))))⟩
      case measure=>(simp [intOf];try omega)
    ·(revert H;refine Wae42 ?_ <;>unhygienic intros)
     go_roundw
     case rel=>exact .inr ⟨p,c,S,rfl,rfl,H.arr (by repeat (first | exact Pm.nil _ | (apply Pm.cons;· (repeat first | exact Rm.here _ | apply Rm.there))))⟩
     case measure=>(simp [intOf];try omega)
  ·(revert H;refine W0ede ?_ <;>unhygienic intros)
   go_ret
   exact ⟨_,rfl,H.fr,(H.rowo 2).owns (fun x hx=>(H.home 2 x hx).resolve_left (by simp))⟩
theorem entriesM_any (w:World) {b ga gb gc c1 c2 c3:Nat} (h:M1 b ga gb gc c1 c2 c3 w) (hfz:Hid (finF b=true)):
 Calls Tryz.prog 40 #[.agg ([.int .i64 1, .int .i64 1, .slice (some ⟨ga,0,none⟩) 2 c1, .slice (some ⟨gb,0,none⟩) 1 c2, .slice (some ⟨gc,0,none⟩) 1 c3]).toArray] w fun e w'=>∃ v,e= .returned v∧Fr [] w w'∧w'.ownsRow w.heap.size 46 3 v 1 (eC (0,0,b)):=by
 have HM:=hid h
 clear h
 have H:=Hp.start [] w
 go_enter Tryz.func40,Tryz.ntmps40
 (revert H;refine W0ede ?_ <;>unhygienic intros)
 (refine x_c H (check1_any _ (HM.out.fr H.fr) hfz) ?_;clear H;rintro e w1 ⟨rfl,hF⟩ H;clear hF)
 (revert H;refine W0ede ?_ <;>unhygienic intros)
 (refine Calls.mono (entries1_any _ (HM.out.fr H.fr)) ?_;rintro e w1 ⟨v,rfl,hF,hown⟩;obtain ⟨S,H1⟩:=H.rowNew 2 hF hown;clear H hF hown;have H:=H1;clear H1)
 obtain ⟨g2,c2',hvv,rfl⟩:=(H.rowo 2).some (by decide)
 subst hvv
 (revert H;refine W0ede ?_ <;>unhygienic intros)
 go_ret
 exact ⟨_,rfl,H.fr,(H.rowo 2).owns (fun x hx=>(H.home 2 x hx).resolve_left (by simp))⟩
theorem written1_any (w:World) {b ga gb gc c1 c2 c3:Nat} (h:M1 b ga gb gc c1 c2 c3 w) (hfz:Hid (finF b=true)):
 Calls Tryz.prog 10 #[.agg ([.int .i64 1, .int .i64 1, .slice (some ⟨ga,0,none⟩) 2 c1, .slice (some ⟨gb,0,none⟩) 1 c2, .slice (some ⟨gc,0,none⟩) 1 c3]).toArray, .int .i64 0] w fun e w'=>∃ v,e= .returned (.tuple #[v, .bool true])∧Fr [] w w'∧w'.ownsRow w.heap.size 46 3 v 1 (eC (0,0,b)):=by
 have HM:=hid h
 clear h
 have H:=Hp.start [] w
 go_enter Tryz.func10,Tryz.ntmps10
 (revert H;refine W0ede ?_ <;>unhygienic intros)
 (refine Calls.mono (entriesM_any _ (HM.out.fr H.fr) hfz) ?_;rintro e w1 ⟨v,rfl,hF,hown⟩;obtain ⟨S,H1⟩:=H.rowNew 2 hF hown;clear H hF hown;have H:=H1;clear H1)
 obtain ⟨g2,c2',hvv,rfl⟩:=(H.rowo 2).some (by decide)
 subst hvv
 (revert H;refine W0ede ?_ <;>unhygienic intros)
 go_ret2
 exact ⟨_,rfl,H.fr,(H.rowo 2).owns (fun x hx=>(H.home 2 x hx).resolve_left (by simp))⟩
end Go.Proofs.YtoiebebjgnpkmaaGreatDoor
namespace Go.Proofs.YtoiebebjgnpkmaaGreatDoor
open Go.RowKit
set_option linter.unusedSimpArgs false
set_option linter.unusedVariables false
set_option maxHeartbeats 8000000
set_option maxRecDepth 100000
theorem formatN_any {w:World} {u:Value} {n:Nat} (h:Av w u (n:Int) (bl n)) (hn:bl n≤10000) (hT:La w) {l:List UInt8} (hl:Hid (dec n=l)):
 Calls Tryz.prog 137 #[u] w fun e w'=>e= .returned (strV l)∧Fr [] w w':=by
 have hf:=format_ar h (by omega) hT.2
 have e:fmt (n:Int)=l:=by unfold fmt;rw [if_neg (by omega),Int.natAbs_natCast,hl.out]
 rw [e] at hf
 exact hf
theorem nearestD_any {w:World} {u v:Value} {X Y:Nat} (hu:Bv w u (X:Int) (bl X)) (hv:Bv w v (Y:Int) (bl Y)) (hX:bl X≤60000) (hY:bl Y≤60000) (hY0:0<Y) (hT:La w) {q:Nat} (hq:Hid (rm false 0 X Y=q)):
 Calls Tryz.prog 138 #[u,v] w fun r w'=>∃ v1,r= .returned v1∧Fr [] w w'∧Bv w' v1 (q:Int) (bl q):=by
 rw [← hq.out];exact nearest_any hu hv hX hY hY0 hT
set_option maxHeartbeats 16000000 in
theorem digitsF_any (w:World) {b z:Nat} {n:Nat} (hb:b<18446744073709551616) (hk:kindF b=1) (hz:Hid (b % 9223372036854775808=z)) (h0:0<z) (hz1:z<9218868437227405312) (hn1:1≤n) (hn2:n≤800) (hT:La w):
 Calls Tryz.prog 91 #[.int .u64 (b:Int), .int .i64 (n:Int)] w fun r w'=>∃ ds x,r= .returned (.tuple #[strV ds, .int .i64 x, .int .i64 0])∧Fr [] w w'∧Dgs z n ds x:=by
 have HK:=hid hk
 have HK3:=hid (show kindF b≠3 by rw [hk];decide)
 have HT:=hid hT
 have HDF:=hid (dF_pos z)
 clear hk hT
 have H:=Hp.start [] w
 go_enter Tryz.func91,Tryz.ntmps91
 (revert H;refine W678e ?_ <;>unhygienic intros)
 (refine x_c H (kindI_any _ hb HK) ?_;clear H;rintro e w1 ⟨rfl,hF⟩ H;replace hF:=hF.kp;skip)
 (revert H;refine W678e ?_ <;>unhygienic intros)
 (refine x_c H (fraction_any _ hb HK3.out hz h0 hz1 (HT.out.fr H.fr)) ?_;clear H;rintro e w1 ⟨v3,v4,rfl,hF,N,D,hB,hB2,hN0,hD0,hND,hNb,hDb⟩ H;replace hF:=hF.kp;obtain ⟨b3,p3,m3,c3,rfl⟩:=hB.form;have HB3:=hid hB;clear hB;obtain ⟨b4,p4,m4,c4,rfl⟩:=hB2.form;have HB4:=hid hB2;clear hB2)
 have HND:=hid hND
 have HP:=hid hN0
 have HPD:=hid hD0
 clear hND
 (revert H;refine W678e ?_ <;>unhygienic intros)
 (refine x_c H (magnitude_any (bv HB3) (bv HB4) hNb hDb HP.out HPD.out) ?_;clear H;rintro e w1 ⟨k,rfl,hF,ht1,ht2,hk1,hk2⟩ H;replace hF:=hF.kp;skip)
 have HNF:=hid (nF_pos h0)
 have HT1:=hid ((tenLe_same HNF.out HP.out HDF.out HPD.out HND.out k).1 ht1)
 have HT2:=hid (fun h=>ht2 ((tenLe_same HNF.out HP.out HDF.out HPD.out HND.out (k+1)).2 h))
 clear ht1 ht2
 have hbu:=bl_upN (N:=N) (n:=(n:Int) - 1 - k) (by omega)
 have hbd:=bl_dnD (N:=D) (n:=(n:Int) - 1 - k) (by omega)
 have hyp:0<dnD D ((n:Int) - 1 - k):=Nat.mul_pos HPD.out (ten_pos _)
 have hqe:rm false 0 (upN N ((n:Int) - 1 - k)) (dnD D ((n:Int) - 1 - k))=near (nF z) (dF z) ((n:Int) - 1 - k):=near_same HDF.out HPD.out HND.out _
 have hqs:=near_size (n:=n) HDF.out hn1 HT1.out HT2.out
 obtain ⟨q,hq⟩:∃ q,near (nF z) (dF z) ((n:Int) - 1 - k)=q:=⟨_,rfl⟩
 rw [hq] at hqe hqs
 have hqb:bl q≤4*n+1:=Nat.le_trans (bl_mono hqs.2) (bl_ten n)
 have HQ:=hid hqe
 obtain ⟨X,hX⟩:∃ X,upN N ((n:Int) - 1 - k)=X:=⟨_,rfl⟩
 obtain ⟨Y,hY⟩:∃ X,dnD D ((n:Int) - 1 - k)=X:=⟨_,rfl⟩
 rw [hX,hY] at HQ
 rw [hX] at hbu
 rw [hY] at hbd hyp
 have HX:=hid hX
 have HY:=hid hY
 obtain ⟨l,hl⟩:∃ l,dec q=l:=⟨_,rfl⟩
 have HL:=hid hl
 have HDG:Hid (∀ ds x,ds=l.take n→x=(if n<l.length then k+1 else k)→Dgs z n ds x):=hid (fun ds x h1 h2=>⟨k,HT1.out,HT2.out,by rw [hq,hl];exact h1,by rw [hq,hl];exact h2⟩)
 clear hX hY hq hl hqs hqe HT1 HT2 HND HNF HDF
 (revert H;refine W678e ?_ <;>unhygienic intros)
 (refine x_c H (scaledZ_any (z:=(n:Int) - 1 - k) _ rfl (bv HB3) (bv HB4) (by omega) (by omega) (by omega) HX HY) ?_;clear H;rintro e w1 ⟨v5,v6,rfl,hF,hB,hB2⟩ H;replace hF:=hF.kp;obtain ⟨b5,p5,m5,c5,rfl⟩:=hB.form;have HB5:=hid hB;clear hB;obtain ⟨b6,p6,m6,c6,rfl⟩:=hB2.form;have HB6:=hid hB2;clear hB2)
 (revert H;refine W678e ?_ <;>unhygienic intros)
 (refine x_c H (nearestD_any (bv HB5) (bv HB6) (by omega) (by omega) hyp (HT.out.fr H.fr) HQ) ?_;clear H;rintro e w1 ⟨v7,rfl,hF,hB⟩ H;replace hF:=hF.kp;obtain ⟨b7,p7,m7,c7,rfl⟩:=hB.form;have HB7:=hid hB;clear hB)
 (revert H;refine W678e ?_ <;>unhygienic intros)
 (refine x_c H (formatN_any (bv HB7).ar (by omega) (HT.out.fr H.fr) HL) ?_;clear H;rintro e w1 ⟨rfl,hF⟩ H;replace hF:=hF.kp;skip)
 by_cases hlt:n<l.length
 ·have HTK:Hid (l.take (n:Int).toNat=l.take n):=hid rfl
  (revert H;refine Wb09a ?_ <;>unhygienic intros)
  refine bodyPost_ret (results_tmp3 rfl _ _ _) rfl ?_
  exact ⟨_,_,rfl,H.fr,HDG.out _ _ rfl (by rw [if_pos hlt])⟩
 ·have HTK:Hid (l=l.take n):=hid (List.take_of_length_le (by omega)).symm
  (revert H;refine W677c ?_ <;>unhygienic intros)
  refine bodyPost_ret (results_tmp3 rfl _ _ _) rfl ?_
  exact ⟨_,_,rfl,H.fr,HDG.out _ _ HTK.out (by rw [if_neg hlt])⟩
end Go.Proofs.YtoiebebjgnpkmaaGreatDoor
namespace Go.Proofs.YtoiebebjgnpkmaaGreatDoor
open Go.RowKit
set_option linter.unusedSimpArgs false
set_option linter.unusedVariables false
set_option maxHeartbeats 8000000
set_option maxRecDepth 100000
theorem itoaF_any (x:Int) (hx: -9223372036854775808≤x∧x≤9223372036854775807) (w:World) (ht:La w) {l:List UInt8} (hl:Hid (fmt x=l)):
 Calls Tryz.prog 13 #[.int .i64 x] w fun e w'=>e= .returned (strV l)∧Fr [] w w':=by
 refine Calls.mono (Tryz.strconv_Itoa x (by omega) (by omega) w ht.2) ?_
 rintro e w' ⟨rfl,k,os,rfl⟩
 refine ⟨?_,Fr.grow w k os⟩
 rw [← hl.out]
 unfold Lib.itoa fmt dec
 split
 ·rfl
 ·rw [show x.toNat=x.natAbs by omega];rfl
theorem parsePF_any (w:World) (s:List UInt8) (mode:Int) (hT:La w) {v:Nat} {e:Int} (h:Hid (dpz 1024 s mode=(v,e))):
 Calls Tryz.prog 92 #[strV s, .int .i64 mode] w fun r w'=>r= .returned (.tuple #[.int .u64 (v:Int), .int .i64 e])∧Fr [] w w':=by
 have hp:=parseD_any w s mode hT
 rw [h.out] at hp
 exact hp
def mns (b:Nat):List UInt8:=if 9223372036854775808≤b then [45] else []
def Fmt (b z:Nat) (l:List UInt8):Prop:=∃ n ds x,1≤n∧n≤17∧Dgs z n ds x∧dpz 1024 (txt n ds x) 0=(z,0)∧(∀ m es y,1≤m→m<n→Dgs z m es y→dpz 1024 (txt m es y) 0≠(z,0))∧l=mns b++txt n ds x
set_option maxHeartbeats 16000000 in
theorem format_any1 (w:World) {b z:Nat} (hb:b<18446744073709551616) (hk:kindF b=1) (hz:Hid (b % 9223372036854775808=z)) (h0:0<z) (hz1:z<9218868437227405312) (hT:La w):
 Calls Tryz.prog 47 #[.int .u64 (b:Int)] w fun r w'=>∃ l,r= .returned (strV l)∧Fr [] w w'∧Fmt b z l:=by
 have HK:=hid hk
 have HT:=hid hT
 clear hk hT
 have H:=Hp.start [] w
 by_cases hm:9223372036854775808≤b
 ·have HI:=hid (show (if 9223372036854775808≤b then 9223372036854775808 else 0:Nat)=9223372036854775808 from if_pos hm)
  have HMN:Hid (mns b=[45]):=hid (if_pos hm)
  clear hm
  go_enter Tryz.func47,Tryz.ntmps47
  ((try simp only [Int.not_lt,Int.not_le] at*);revert H;refine W2d1f ?_ <;>unhygienic intros)
  (refine x_c H (kindI_any _ hb HK) ?_;clear H;rintro e w1 ⟨rfl,hF⟩ H;replace hF:=hF.kp;skip)
  ((try simp only [Int.not_lt,Int.not_le] at*);revert H;refine W678e ?_ <;>unhygienic intros)
  go_loopw [4] (fun s4 wr=>∃ n:Nat,s4= .int .i64 (n:Int)∧1≤n∧n≤17∧Hid (∀ m es y,1≤m→m<n→Dgs z m es y→dpz 1024 (txt m es y) 0≠(z,0))∧Hp [] w wr []) (fun v _ =>(17 - intOf v).toNat)
  case atStart=>exact ⟨1,rfl,by omega,by omega,hid (fun m es y h1 h2=>by omega),H⟩
  case round=>
   clear H
   obtain ⟨n,rfl,hn1,hn2,HALL,H⟩:=hrel
   ((try simp only [Int.not_lt,Int.not_le] at*);revert H;refine W678e ?_ <;>unhygienic intros)
   (refine x_c H (digitsF_any _ hb HK.out hz h0 hz1 hn1 (by omega) (HT.out.fr H.fr)) ?_;clear H;rintro e w1 ⟨ds,x,rfl,hF,hdg⟩ H;replace hF:=hF.kp;skip)
   have HDG:=hid hdg
   have hdv:=hdg.val h0 hn1
   have hxb: -332≤x∧x≤310:=by
    obtain ⟨k,h1,h2,_,_,_,hx,_⟩:=hdv
    have:=k_bounds h0 hz1 h1 h2
    omega
   have hdl:ds.length=n:=by
    obtain ⟨k,_,_,h,_⟩:=hdv
    exact h
   have hfl:=fmt_short (x:=x) (by omega)
   have hpz:=txt_pz hdg h0 hz1 hn1 (by omega) 0
   have h17:n=17→dpz 1024 (txt n ds x) 0=(z,0):=fun h=>by subst h;exact back_txt hdg h0 hz1
   obtain ⟨A,hA⟩:∃ A,ds.take 1=A:=⟨_,rfl⟩
   obtain ⟨B,hB⟩:∃ A,ds.drop 1=A:=⟨_,rfl⟩
   obtain ⟨F,hF2⟩:∃ A,fmt x=A:=⟨_,rfl⟩
   have hAl:A.length≤1:=by rw [← hA,List.length_take];omega
   have hBl:B.length≤17:=by rw [← hB,List.length_drop];omega
   rw [hF2] at hfl
   have HA:Hid (ds.take (1:Int).toNat=A):=hid hA
   have HB:Hid (ds.drop (1:Int).toNat=B):=hid hB
   have HF:=hid hF2
   obtain ⟨C,hC⟩:∃ W,[46]++B=W:=⟨_,rfl⟩
   obtain ⟨S1,hS1⟩:∃ W,A++C=W:=⟨_,rfl⟩
   obtain ⟨E,hE⟩:∃ W,[101]++F=W:=⟨_,rfl⟩
   obtain ⟨S,hS⟩:∃ S,txt n ds x=S:=⟨_,rfl⟩
   have hCl:C.length≤18:=by rw [← hC,List.length_append,List.length_singleton];omega
   have hSl1:S1.length≤19:=by rw [← hS1,List.length_append];omega
   have hEl:E.length≤7:=by rw [← hE,List.length_append,List.length_singleton];omega
   have hS2:(if 1<n then S1++E else A++E)=S:=by
    rw [← hS];unfold txt
    rw [hA,hB,hF2,← hS1,← hE,← hC]
    split<;>simp
   have hSl:S.length≤26:=by rw [← hS2];split<;>rw [List.length_append]<;>omega
   rw [hS] at hpz h17
   obtain ⟨V,hV⟩:∃ V,dval false 0 (num ds) (x - (n - 1))=V:=⟨_,rfl⟩
   rw [hV] at hpz
   have HPZ:=hid hpz
   have HC:=hid hC
   have HS1:=hid hS1
   have HE:=hid hE
   have HSS:=hid hS
   have H17:=hid h17
   obtain ⟨R,hR⟩:∃ R,[45]++S=R:=⟨_,rfl⟩
   have HM:=hid hR
   clear hA hB hF2 hC hS1 hE hS hdv hdg hV hpz h17 hR
   by_cases hn0:1<n
   ·have HS2:=hid (show S1++E=S by rw [if_pos hn0] at hS2;exact hS2)
    clear hS2
    ((try simp only [Int.not_lt,Int.not_le] at*);revert H;refine Wdeb0 ?_ <;>unhygienic intros)
    (refine x_c H (itoaF_any x (by omega) _ (HT.out.fr H.fr) HF) ?_;clear H;rintro e w1 ⟨rfl,hF⟩ H;replace hF:=hF.kp;skip)
    ((try simp only [Int.not_lt,Int.not_le] at*);revert H;refine Wdeb0 ?_ <;>unhygienic intros)
    (refine x_c H (parsePF_any _ S 0 (HT.out.fr H.fr) HPZ) ?_;clear H;rintro e w1 ⟨rfl,hF⟩ H;replace hF:=hF.kp;skip)
    ((try simp only [Int.not_lt,Int.not_le] at*);revert H;refine W678e ?_ <;>unhygienic intros)
    (refine x_c H (absF_any _ hb (by rw [HK.out];decide) hz) ?_;clear H;rintro e w1 ⟨rfl,hF⟩ H;replace hF:=hF.kp;skip)
    by_cases hVz:V=z
    ·have HFM:Hid (Fmt b z R):=hid ⟨n,ds,x,hn1,hn2,HDG.out,by rw [HSS.out,HPZ.out,hVz],HALL.out,by rw [HMN.out,HSS.out,HM.out]⟩
     ((try simp only [Int.not_lt,Int.not_le] at*);revert H;refine W16ee ?_ <;>unhygienic intros)
     go_ret
     exact ⟨_,rfl,H.fr,HFM.out⟩
    ·have hn17:n<17:=by
      have h:=H17.out
      rcases Nat.lt_or_ge n 17 with h1 | h1
      ·exact h1
      ·have h2:=h (by omega)
       rw [HPZ.out] at h2
       exact absurd (congrArg Prod.fst h2) hVz
     have HALL2:Hid (∀ m es y,1≤m→m<n+1→Dgs z m es y→dpz 1024 (txt m es y) 0≠(z,0)):=hid (fun m es y h1 h2 h3=>by
      by_cases hmn:m=n
      ·subst hmn
       obtain ⟨rfl,rfl⟩:=h3.one HDG.out
       rw [HSS.out,HPZ.out]
       exact fun h=>hVz (congrArg Prod.fst h)
      ·exact HALL.out m es y h1 (by omega) h3)
     clear HALL H17
     ((try simp only [Int.not_lt,Int.not_le] at*);revert H;refine W179f ?_ <;>unhygienic intros)
     go_roundw
     case rel=>exact ⟨n+1,rfl,by omega,by omega,HALL2,H⟩
     case measure=>(simp [intOf];try omega)
   ·have HS2:=hid (show A++E=S by rw [if_neg hn0] at hS2;exact hS2)
    clear hS2
    ((try simp only [Int.not_lt,Int.not_le] at*);revert H;refine Wdeb0 ?_ <;>unhygienic intros)
    (refine x_c H (itoaF_any x (by omega) _ (HT.out.fr H.fr) HF) ?_;clear H;rintro e w1 ⟨rfl,hF⟩ H;replace hF:=hF.kp;skip)
    ((try simp only [Int.not_lt,Int.not_le] at*);revert H;refine Wdeb0 ?_ <;>unhygienic intros)
    (refine x_c H (parsePF_any _ S 0 (HT.out.fr H.fr) HPZ) ?_;clear H;rintro e w1 ⟨rfl,hF⟩ H;replace hF:=hF.kp;skip)
    ((try simp only [Int.not_lt,Int.not_le] at*);revert H;refine W678e ?_ <;>unhygienic intros)
    (refine x_c H (absF_any _ hb (by rw [HK.out];decide) hz) ?_;clear H;rintro e w1 ⟨rfl,hF⟩ H;replace hF:=hF.kp;skip)
    by_cases hVz:V=z
    ·have HFM:Hid (Fmt b z R):=hid ⟨n,ds,x,hn1,hn2,HDG.out,by rw [HSS.out,HPZ.out,hVz],HALL.out,by rw [HMN.out,HSS.out,HM.out]⟩
     ((try simp only [Int.not_lt,Int.not_le] at*);revert H;refine W16ee ?_ <;>unhygienic intros)
     go_ret
     exact ⟨_,rfl,H.fr,HFM.out⟩
    ·have hn17:n<17:=by
      have h:=H17.out
      rcases Nat.lt_or_ge n 17 with h1 | h1
      ·exact h1
      ·have h2:=h (by omega)
       rw [HPZ.out] at h2
       exact absurd (congrArg Prod.fst h2) hVz
     have HALL2:Hid (∀ m es y,1≤m→m<n+1→Dgs z m es y→dpz 1024 (txt m es y) 0≠(z,0)):=hid (fun m es y h1 h2 h3=>by
      by_cases hmn:m=n
      ·subst hmn
       obtain ⟨rfl,rfl⟩:=h3.one HDG.out
       rw [HSS.out,HPZ.out]
       exact fun h=>hVz (congrArg Prod.fst h)
      ·exact HALL.out m es y h1 (by omega) h3)
     clear HALL H17
     ((try simp only [Int.not_lt,Int.not_le] at*);revert H;refine W179f ?_ <;>unhygienic intros)
     go_roundw
     case rel=>exact ⟨n+1,rfl,by omega,by omega,HALL2,H⟩
     case measure=>(simp [intOf];try omega)
 ·have HI:=hid (show (if 9223372036854775808≤b then 9223372036854775808 else 0:Nat)=0 from if_neg hm)
  have HMN:Hid (mns b=[]):=hid (if_neg hm)
  clear hm
  go_enter Tryz.func47,Tryz.ntmps47
  ((try simp only [Int.not_lt,Int.not_le] at*);revert H;refine W2d1f ?_ <;>unhygienic intros)
  (refine x_c H (kindI_any _ hb HK) ?_;clear H;rintro e w1 ⟨rfl,hF⟩ H;replace hF:=hF.kp;skip)
  ((try simp only [Int.not_lt,Int.not_le] at*);revert H;refine W678e ?_ <;>unhygienic intros)
  go_loopw [4] (fun s4 wr=>∃ n:Nat,s4= .int .i64 (n:Int)∧1≤n∧n≤17∧Hid (∀ m es y,1≤m→m<n→Dgs z m es y→dpz 1024 (txt m es y) 0≠(z,0))∧Hp [] w wr []) (fun v _ =>(17 - intOf v).toNat)
  case atStart=>exact ⟨1,rfl,by omega,by omega,hid (fun m es y h1 h2=>by omega),H⟩
  case round=>
   clear H
   obtain ⟨n,rfl,hn1,hn2,HALL,H⟩:=hrel
   ((try simp only [Int.not_lt,Int.not_le] at*);revert H;refine W678e ?_ <;>unhygienic intros)
   (refine x_c H (digitsF_any _ hb HK.out hz h0 hz1 hn1 (by omega) (HT.out.fr H.fr)) ?_;clear H;rintro e w1 ⟨ds,x,rfl,hF,hdg⟩ H;replace hF:=hF.kp;skip)
   have HDG:=hid hdg
   have hdv:=hdg.val h0 hn1
   have hxb: -332≤x∧x≤310:=by
    obtain ⟨k,h1,h2,_,_,_,hx,_⟩:=hdv
    have:=k_bounds h0 hz1 h1 h2
    omega
   have hdl:ds.length=n:=by
    obtain ⟨k,_,_,h,_⟩:=hdv
    exact h
   have hfl:=fmt_short (x:=x) (by omega)
   have hpz:=txt_pz hdg h0 hz1 hn1 (by omega) 0
   have h17:n=17→dpz 1024 (txt n ds x) 0=(z,0):=fun h=>by subst h;exact back_txt hdg h0 hz1
   obtain ⟨A,hA⟩:∃ A,ds.take 1=A:=⟨_,rfl⟩
   obtain ⟨B,hB⟩:∃ A,ds.drop 1=A:=⟨_,rfl⟩
   obtain ⟨F,hF2⟩:∃ A,fmt x=A:=⟨_,rfl⟩
   have hAl:A.length≤1:=by rw [← hA,List.length_take];omega
   have hBl:B.length≤17:=by rw [← hB,List.length_drop];omega
   rw [hF2] at hfl
   have HA:Hid (ds.take (1:Int).toNat=A):=hid hA
   have HB:Hid (ds.drop (1:Int).toNat=B):=hid hB
   have HF:=hid hF2
   obtain ⟨C,hC⟩:∃ W,[46]++B=W:=⟨_,rfl⟩
   obtain ⟨S1,hS1⟩:∃ W,A++C=W:=⟨_,rfl⟩
   obtain ⟨E,hE⟩:∃ W,[101]++F=W:=⟨_,rfl⟩
   obtain ⟨S,hS⟩:∃ S,txt n ds x=S:=⟨_,rfl⟩
   have hCl:C.length≤18:=by rw [← hC,List.length_append,List.length_singleton];omega
   have hSl1:S1.length≤19:=by rw [← hS1,List.length_append];omega
   have hEl:E.length≤7:=by rw [← hE,List.length_append,List.length_singleton];omega
   have hS2:(if 1<n then S1++E else A++E)=S:=by
    rw [← hS];unfold txt
    rw [hA,hB,hF2,← hS1,← hE,← hC]
    split<;>simp
   have hSl:S.length≤26:=by rw [← hS2];split<;>rw [List.length_append]<;>omega
   rw [hS] at hpz h17
   obtain ⟨V,hV⟩:∃ V,dval false 0 (num ds) (x - (n - 1))=V:=⟨_,rfl⟩
   rw [hV] at hpz
   have HPZ:=hid hpz
   have HC:=hid hC
   have HS1:=hid hS1
   have HE:=hid hE
   have HSS:=hid hS
   have H17:=hid h17
   obtain ⟨R,hR⟩:∃ R,[]++S=R:=⟨_,rfl⟩
   have HM:=hid hR
   clear hA hB hF2 hC hS1 hE hS hdv hdg hV hpz h17 hR
   by_cases hn0:1<n
   ·have HS2:=hid (show S1++E=S by rw [if_pos hn0] at hS2;exact hS2)
    clear hS2
    ((try simp only [Int.not_lt,Int.not_le] at*);revert H;refine Wdeb0 ?_ <;>unhygienic intros)
    (refine x_c H (itoaF_any x (by omega) _ (HT.out.fr H.fr) HF) ?_;clear H;rintro e w1 ⟨rfl,hF⟩ H;replace hF:=hF.kp;skip)
    ((try simp only [Int.not_lt,Int.not_le] at*);revert H;refine Wdeb0 ?_ <;>unhygienic intros)
    (refine x_c H (parsePF_any _ S 0 (HT.out.fr H.fr) HPZ) ?_;clear H;rintro e w1 ⟨rfl,hF⟩ H;replace hF:=hF.kp;skip)
    ((try simp only [Int.not_lt,Int.not_le] at*);revert H;refine W678e ?_ <;>unhygienic intros)
    (refine x_c H (absF_any _ hb (by rw [HK.out];decide) hz) ?_;clear H;rintro e w1 ⟨rfl,hF⟩ H;replace hF:=hF.kp;skip)
    by_cases hVz:V=z
    ·have HFM:Hid (Fmt b z R):=hid ⟨n,ds,x,hn1,hn2,HDG.out,by rw [HSS.out,HPZ.out,hVz],HALL.out,by rw [HMN.out,HSS.out,HM.out]⟩
     ((try simp only [Int.not_lt,Int.not_le] at*);revert H;refine W4d41 ?_ <;>unhygienic intros)
     go_ret
     exact ⟨_,rfl,H.fr,HFM.out⟩
    ·have hn17:n<17:=by
      have h:=H17.out
      rcases Nat.lt_or_ge n 17 with h1 | h1
      ·exact h1
      ·have h2:=h (by omega)
       rw [HPZ.out] at h2
       exact absurd (congrArg Prod.fst h2) hVz
     have HALL2:Hid (∀ m es y,1≤m→m<n+1→Dgs z m es y→dpz 1024 (txt m es y) 0≠(z,0)):=hid (fun m es y h1 h2 h3=>by
      by_cases hmn:m=n
      ·subst hmn
       obtain ⟨rfl,rfl⟩:=h3.one HDG.out
       rw [HSS.out,HPZ.out]
       exact fun h=>hVz (congrArg Prod.fst h)
      ·exact HALL.out m es y h1 (by omega) h3)
     clear HALL H17
     ((try simp only [Int.not_lt,Int.not_le] at*);revert H;refine W179f ?_ <;>unhygienic intros)
     go_roundw
     case rel=>exact ⟨n+1,rfl,by omega,by omega,HALL2,H⟩
     case measure=>(simp [intOf];try omega)
   ·have HS2:=hid (show A++E=S by rw [if_neg hn0] at hS2;exact hS2)
    clear hS2
    ((try simp only [Int.not_lt,Int.not_le] at*);revert H;refine Wdeb0 ?_ <;>unhygienic intros)
    (refine x_c H (itoaF_any x (by omega) _ (HT.out.fr H.fr) HF) ?_;clear H;rintro e w1 ⟨rfl,hF⟩ H;replace hF:=hF.kp;skip)
    ((try simp only [Int.not_lt,Int.not_le] at*);revert H;refine Wdeb0 ?_ <;>unhygienic intros)
    (refine x_c H (parsePF_any _ S 0 (HT.out.fr H.fr) HPZ) ?_;clear H;rintro e w1 ⟨rfl,hF⟩ H;replace hF:=hF.kp;skip)
    ((try simp only [Int.not_lt,Int.not_le] at*);revert H;refine W678e ?_ <;>unhygienic intros)
    (refine x_c H (absF_any _ hb (by rw [HK.out];decide) hz) ?_;clear H;rintro e w1 ⟨rfl,hF⟩ H;replace hF:=hF.kp;skip)
    by_cases hVz:V=z
    ·have HFM:Hid (Fmt b z R):=hid ⟨n,ds,x,hn1,hn2,HDG.out,by rw [HSS.out,HPZ.out,hVz],HALL.out,by rw [HMN.out,HSS.out,HM.out]⟩
     ((try simp only [Int.not_lt,Int.not_le] at*);revert H;refine W4d41 ?_ <;>unhygienic intros)
     go_ret
     exact ⟨_,rfl,H.fr,HFM.out⟩
    ·have hn17:n<17:=by
      have h:=H17.out
      rcases Nat.lt_or_ge n 17 with h1 | h1
      ·exact h1
      ·have h2:=h (by omega)
       rw [HPZ.out] at h2
       exact absurd (congrArg Prod.fst h2) hVz
     have HALL2:Hid (∀ m es y,1≤m→m<n+1→Dgs z m es y→dpz 1024 (txt m es y) 0≠(z,0)):=hid (fun m es y h1 h2 h3=>by
      by_cases hmn:m=n
      ·subst hmn
       obtain ⟨rfl,rfl⟩:=h3.one HDG.out
       rw [HSS.out,HPZ.out]
       exact fun h=>hVz (congrArg Prod.fst h)
      ·exact HALL.out m es y h1 (by omega) h3)
     clear HALL H17
     ((try simp only [Int.not_lt,Int.not_le] at*);revert H;refine W179f ?_ <;>unhygienic intros)
     go_roundw
     case rel=>exact ⟨n+1,rfl,by omega,by omega,HALL2,H⟩
     case measure=>(simp [intOf];try omega)
end Go.Proofs.YtoiebebjgnpkmaaGreatDoor
