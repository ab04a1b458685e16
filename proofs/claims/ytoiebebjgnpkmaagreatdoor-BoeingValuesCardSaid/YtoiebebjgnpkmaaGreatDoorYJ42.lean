import Derived.Test.YtoiebebjgnpkmaaGreatDoorYJ45
import Derived.Test.YtoiebebjgnpkmaaGreatDoorYJ48
import Derived.Test.YtoiebebjgnpkmaaGreatDoorYJ41
namespace Go.Proofs.YtoiebebjgnpkmaaGreatDoor
set_option linter.unusedSimpArgs false
set_option linter.unusedVariables false
structure OneOK (f x:List UInt8) (lay:Lay) (v:Nat):Prop where
 nf:f.length≤1000
 af:asc f=true
 nx:x.length≤18
 ax:asc x=true
 lines:mlines (oneB f x)=[sTitle,bL1,bL2,bL3 f,bL4,bL5,x]
 fmt_ :decP (blank (f.take 20))=some lay
 val:valueP lay (blank (part 0 lay.width x))=some v
 at_ :atOK (blank (part 0 lay.width x))=true
theorem asc_bL3 {f:List UInt8} (h:asc f=true):asc (bL3 f)=true:=by
 unfold asc at*
 unfold bL3
 rw [List.all_append,h,Bool.and_true]
 decide
theorem len_bL3 {f:List UInt8} (h:f.length≤1000):(bL3 f).length≤100000:=by
 unfold bL3
 rw [List.length_append]
 have:(padR 16 [40,50,73,52,41]++padR 16 [40,73,52,41]).length=32:=by decide
 omega
theorem head_ok {f:List UInt8} (hf:f.length≤1000) (ha:asc f=true) {o:Option Lay} (ho:decP (blank (f.take 20))=o):HeadOK 2 4 1 4 bL1 bL2 (bL3 f) o:=
 ⟨by decide,by decide,len_bL3 hf,asc_bL3 ha,cards_one,kind_one,sizes_one,by rw [bL3_a];exact whole_a,by rw [bL3_b];exact whole_b,by rw [bL3_c];exact ho,by decide,by decide⟩
theorem body_ok {f x:List UInt8} {lay:Lay} {v:Nat} (h:OneOK f x lay v):BodyOK 2 4 1 4 sTitle bL4 bL5 x lay sTitle v:=by
 obtain ⟨i1,i2,i3⟩:=ints_one
 obtain ⟨t1,t2⟩:=title_one
 refine ⟨by decide,by decide,by decide,by have:=h.nx;omega, ?_, ?_, ?_,dec_sound h.fmt_,by decide,by decide,value_fin' h.val,t1,t2⟩
 ·intro k u hk
  rcases k with _ | _ | k
  ·obtain rfl:1=u:=by simpa using hk
   exact ⟨i1,by decide⟩
  ·obtain rfl:2=u:=by simpa using hk
   exact ⟨i2,by decide⟩
  ·exact absurd hk (by simp)
 ·intro k u hk
  rcases k with _ | k
  ·obtain rfl:1=u:=by simpa using hk
   exact ⟨i3,by decide⟩
  ·exact absurd hk (by simp)
 ·intro k u hk
  rcases k with _ | k
  ·obtain rfl:v=u:=by simpa using hk
   rw [Nat.zero_mul,Nat.zero_add]
   exact ⟨Nat.le_trans (blank_len _) (Nat.le_trans (part_len _ _ _) (Nat.le_trans h.nx (by decide))),asc_blank (asc_part h.ax _ _),h.at_,h.val⟩
  ·exact absurd hk (by simp)
theorem one_len {f x:List UInt8} (hf:f.length≤1000) (hx:x.length≤18):(oneB f x).length≤100000:=by
 unfold oneB
 have h1:bL1.length=70:=by decide
 have h2:bL2.length=70:=by decide
 have h3:=len_bL3 hf
 have h3':(bL3 f).length≤2000:=by
  unfold bL3
  rw [List.length_append]
  have:(padR 16 [40,50,73,52,41]++padR 16 [40,73,52,41]).length=32:=by decide
  omega
 have h4:bL4.length=8:=by decide
 have h5:bL5.length=4:=by decide
 have h6:sTitle.length=5:=by decide
 simp only [List.length_append,List.length_cons,List.length_nil]
 omega
theorem awake_one:OneOK [40,51,70,54,46,50,41] v125 ⟨3,6,2,0⟩ 4608308318706860032:=
 ⟨by decide,by decide,by decide,by decide,lines_one (by decide) (by decide) (by decide) (by decide),awake_lay,awake_val,by decide+kernel⟩
theorem v_head_ok:HeadOK 8 10 8 10 bL1 bL2 vL3 (some ⟨3,26,18,0⟩):=by
 obtain ⟨h1,h2,h3,h4,h5⟩:=v_head
 exact ⟨by decide,by decide,by omega,h4,cards_one,kind_one,sizes_one,h1,h2,h3,by decide,by decide⟩
theorem v_asc {t:List UInt8} (h:∀ c∈t,c=45∨c=46∨c=69∨dig c=true):∀ c∈t,c.toNat<128∧c≠32∧c≠10∧c≠13:=by
 intro c hc
 rcases h c hc with rfl | rfl | rfl | hd
 ·decide
 ·decide
 ·decide
 ·have h2:=dig_le hd
  refine ⟨by omega, ?_, ?_, ?_⟩<;>(rintro rfl;revert h2;decide)
theorem v_body_ok {b:Nat} {l:List UInt8} (h:FmA b l) (hf:finF b=true) (hb:b<18446744073709551616):BodyOK 8 10 8 10 (List.replicate 72 32) vL4 vL5 (sp 26 (textP l)) ⟨3,26,18,0⟩ [] b:=by
 obtain ⟨hv,hl,hc,h0,k,hk,hkl,hd,x,hx,hx1,hx2⟩:=text_value h hf
 obtain ⟨i1,i2,i3⟩:=v_ints
 have ha:=v_asc hc
 have hbl:=blank_sp h0 (fun c hc=>(ha c hc).2.1) (n:=26) (by omega)
 have hsl:(sp 26 (textP l)).length=26:=by unfold sp;rw [List.length_append,List.length_replicate];omega
 refine ⟨by decide,by decide,by decide,by omega, ?_, ?_, ?_,by decide,by decide,by decide,⟨hf,hb⟩,by decide,by decide⟩
 ·intro k u hk
  rcases k with _ | _ | k
  ·obtain rfl:1=u:=by simpa using hk
   exact ⟨i1,by decide⟩
  ·obtain rfl:2=u:=by simpa using hk
   exact ⟨i2,by decide⟩
  ·exact absurd hk (by simp)
 ·intro k u hk
  rcases k with _ | k
  ·obtain rfl:1=u:=by simpa using hk
   exact ⟨i3,by decide⟩
  ·exact absurd hk (by simp)
 ·intro j u hj
  rcases j with _ | j
  ·obtain rfl:b=u:=by simpa using hj
   rw [Nat.zero_mul,Nat.zero_add]
   show (blank (part 0 26 (sp 26 (textP l)))).length≤40∧asc (blank (part 0 26 (sp 26 (textP l))))=true∧atOK (blank (part 0 26 (sp 26 (textP l))))=true∧valueP ⟨3,26,18,0⟩ (blank (part 0 26 (sp 26 (textP l))))=some b
   rw [hbl]
   refine ⟨by omega, ?_, ?_,hv⟩
   ·unfold asc
    rw [List.all_eq_true]
    intro c hc
    simpa using (ha c hc).1
   ·unfold atOK
    rw [hk,Int.toNat_natCast,hx]
    simp only [Option.isSome_some,Option.getD_some,Bool.true_and]
    rw [decide_eq_true (show -100000≤x∧x≤100000 by omega),decide_eq_true (show ((textP l).drop (k+1)).length≤18 by omega)]
    simp
  ·exact absurd hj (by simp)
theorem v_file_len {t:List UInt8} (h:t.length≤26):(vFile t).length≤100000:=by
 unfold vFile
 have h1:bL1.length=70:=by decide
 have h2:bL2.length=70:=by decide
 have h3:vL3.length=41:=by decide
 have h4:vL4.length=20:=by decide
 have h5:vL5.length=10:=by decide
 have h6:(sp 26 t).length=26:=by unfold sp;rw [List.length_append,List.length_replicate];omega
 simp only [List.length_append,List.length_cons,List.length_nil,List.length_replicate]
 omega
theorem v_file_lines {b:Nat} {l:List UInt8} (h:FmA b l) (hf:finF b=true):mlines (vFile (textP l))=[List.replicate 72 32,bL1,bL2,vL3,vL4,vL5,sp 26 (textP l)]:=by
 obtain ⟨hv,hl,hc,h0,_⟩:=text_value h hf
 exact v_lines (fun c hc2=>⟨(v_asc hc c hc2).2.2.1,(v_asc hc c hc2).2.2.2⟩) h0
end Go.Proofs.YtoiebebjgnpkmaaGreatDoor
