import Derived.Test.YtoiebebjgnpkmaaGreatDoorYJ0
import Derived.Test.YtoiebebjgnpkmaaGreatDoorYJ21
import Derived.Test.YtoiebebjgnpkmaaGreatDoorYJ26
import Derived.Test.YtoiebebjgnpkmaaGreatDoorYJ30
namespace Go.Proofs.YtoiebebjgnpkmaaGreatDoor
open Go.RowKit
set_option linter.unusedSimpArgs false
set_option linter.unusedVariables false
set_option maxHeartbeats 16000000
set_option maxRecDepth 100000
theorem index_byte (c:UInt8):∀ l:List UInt8,Lib.index l [c]=Lib.indexByte l c
 | []=>rfl
 | b::l=>by
  rw [Lib.index,Lib.indexByte,index_byte c l]
  have e:([c]:List UInt8).isPrefixOf (b::l)=(b==c):=by
   rw [Bool.beq_comm];simp [List.isPrefixOf]
  rw [e]
theorem split_nl (w:World) (s:List UInt8) (hs:s.length≤2000000):Calls Tryz.prog 59 #[strV s, .string (ByteArray.mk #[10])] w fun e w'=>
 ∃ g,e= .returned (.slice (some ⟨g,0,none⟩) (nl [] s).length (nl [] s).length)∧Fr [] w w'∧w.heap.size≤g∧w'.heap[g]? =some (.cells ((nl [] s).map strV).toArray 9 (0,0)):=by
 have hsz:(ByteArray.mk s.toArray).size=s.length:=ba_size s
 have hcount:Lib.countB ⟨s.toArray⟩ ⟨#[10]⟩=s.count 10:=by
  show Lib.count (ByteArray.mk s.toArray).data.toList [10]=_
  rw [Lib.count_one]
 have hle:s.count 10≤s.length:=List.count_le_length
 have hspl:(Lib.splitB ⟨#[10]⟩ 0 (s.count 10) ⟨s.toArray⟩).map (·.data.toList)=nl [] s:=by
  rw [Lib.splitB_data]
  exact splitK_nl _ s rfl
 have hlen:(Lib.splitB ⟨#[10]⟩ 0 (s.count 10) ⟨s.toArray⟩).length=s.count 10+1:=Lib.splitB_all _ (by decide) 0 _ _ hcount
 have hlen2:(nl [] s).length=s.count 10+1:=by rw [← hspl,List.length_map,hlen]
 have hstr:(Lib.splitB ⟨#[10]⟩ 0 (s.count 10) ⟨s.toArray⟩).map Value.string=(nl [] s).map strV:=by
  rw [← hspl,List.map_map];rfl
 have key:=Any.strings_genSplit_core (P:=Tryz.prog) (ρ:=Tryz.lays146_ren) {Tryz.lays146 with} (by kernel_rfl) ⟨s.toArray⟩ ⟨#[10]⟩ 0 (-1) (s.count 10+1) w (by rw [hsz]<;>omega) (by decide) (by decide)
  (fun x c hx=>by
   refine Calls.mono (Tryz.strings_Index_one x 10 _) ?_
   rintro e w' ⟨rfl,rfl⟩
   exact ⟨by rw [← index_byte],rfl⟩)
  (by
   refine Calls.mono (Tryz.strings_Count_one ⟨s.toArray⟩ 10 w) ?_
   rintro e w' ⟨rfl,rfl⟩
   refine ⟨?_,rfl⟩
   rw [hcount]
   first | done | rfl) (by decide) (by decide) (by rw [hcount,hsz,if_pos (by decide)];omega)
 have H:=Hp.start [] w
 go_enter Tryz.func59,Tryz.ntmps59
 (revert H;refine W3d60 ?_ <;>unhygienic intros)
 refine Calls.mono key ?_
 rw [Nat.add_sub_cancel,hlen]
 rintro e w' ⟨rfl,rfl⟩
 have hcells:Lib.cellsOf (Lib.splitB ⟨#[10]⟩ 0 (s.count 10) ⟨s.toArray⟩) (s.count 10+1)=((nl [] s).map strV).toArray:=by
  rw [← hlen,Lib.cellsOf_full,hstr]
 rw [hcells]
 clear H
 have H:=(Hp.start [] w).step (Fr.alloc [] w (.cells ((nl [] s).map strV).toArray 9)) (by simp)
 (revert H;refine W3d60 ?_ <;>unhygienic intros)
 go_ret
 refine ⟨w.heap.size, ?_,H.fr,Nat.le_refl _,heap_alloc_new w _⟩
 rw [hlen2]
 rfl
theorem split_is (w:World) {s:List UInt8} {P:List (List UInt8)} {n:Nat} (h:Hid (nl [] s=P)) (hn:Hid (P.length=n+1)) (hs:s.length≤2000000):Calls Tryz.prog 59 #[strV s, .string (ByteArray.mk #[10])] w fun e w'=>
 ∃ g,e= .returned (.slice (some ⟨g,0,none⟩) (n+1) (n+1))∧Fr [] w w'∧w.heap.size≤g∧w'.heap[g]? =some (.cells (P.map strV).toArray 9 (0,0)):=by
 rw [← hn.out,← h.out];exact split_nl w s hs
theorem trimCR (l:List UInt8):Lib.trimSuffix l [13]=noCR l:=by
 unfold Lib.trimSuffix noCR Lib.hasSuffix
 rcases List.eq_nil_or_concat l with rfl | ⟨a,b,rfl⟩
 ·rfl
 ·rw [List.concat_eq_append]
  have e:([13]:List UInt8).isSuffixOf (a++[b])=(b==13):=by
   rw [List.isSuffixOf]
   simp [List.isPrefixOf]
   rw [Bool.beq_comm]
  rw [e,List.getLast?_concat,List.dropLast_concat]
  by_cases h:b=13
  ·simp [h]
  ·simp [h]
theorem trimS_any (w:World) (s:List UInt8) (hs:s.length≤2000000):Calls Tryz.prog 60 #[strV s, .string (ByteArray.mk #[13])] w fun e w'=>e= .returned (strV (noCR s))∧Fr [] w w':=by
 refine Calls.mono (Tryz.strings_TrimSuffix ⟨s.toArray⟩ ⟨#[13]⟩ w (by rw [ba_size];omega)) ?_
 rintro e w' ⟨rfl,rfl⟩
 refine ⟨?_,Fr.refl _ _⟩
 rw [show (ByteArray.mk s.toArray).data.toList=s by simp]
 show Ending.returned (.string ⟨(Lib.trimSuffix s [13]).toArray⟩)=_
 rw [trimCR]
 rfl
theorem capk_next {ws:List (List UInt8)} {k:Nat} {s:List UInt8} (h:ws[k]? =some s):(((ws.take k).map noCR++ws.drop k).map strV).set k (strV (noCR s))=((ws.take (k+1)).map noCR++ws.drop (k+1)).map strV:=by
 obtain ⟨hlt,rfl⟩:=List.getElem?_eq_some_iff.1 h
 rw [← List.map_set,List.set_append_right _ _ (by simp;omega)]
 simp only [List.length_map,List.length_take,Nat.min_eq_left (Nat.le_of_lt hlt),Nat.sub_self]
 rw [List.drop_eq_getElem_cons hlt,List.set_cons_zero,List.take_add_one,h]
 simp only [Option.toList_some,List.map_append,List.map_cons,List.map_nil,List.append_assoc,List.singleton_append]
theorem capk_get {ws:List (List UInt8)} {k:Nat} {s:List UInt8} (h:ws[k]? =some s):(((ws.take k).map noCR++ws.drop k).map strV)[k]? =some (strV s):=by
 obtain ⟨hlt,he⟩:=List.getElem?_eq_some_iff.1 h
 rw [List.getElem?_map,List.getElem?_append_right (by simp;omega)]
 simp only [List.length_map,List.length_take,Nat.min_eq_left (Nat.le_of_lt hlt),Nat.sub_self,List.getElem?_drop,Nat.add_zero]
 rw [h];rfl
theorem nl_size:∀ (r cur x:List UInt8),x∈nl cur r→x.length≤cur.length+r.length
 | [],cur,x,h=>by
  unfold nl at h
  rw [List.mem_singleton] at h;subst h;omega
 | b::r,cur,x,h=>by
  unfold nl at h
  rw [List.length_cons]
  split at h
  ·rcases List.mem_cons.1 h with h | h
   ·subst h;omega
   ·have:=nl_size r _ x h;rw [List.length_nil] at this;omega
  ·have:=nl_size r _ x h;rw [List.length_append,List.length_singleton] at this;omega
theorem nl_count:∀ (r cur:List UInt8),(nl cur r).length≤r.length+1
 | [],cur=>by unfold nl;simp
 | b::r,cur=>by
  unfold nl
  split
  ·have:=nl_count r [];rw [List.length_cons,List.length_cons];omega
  ·have:=nl_count r (cur++[b]);rw [List.length_cons];omega
theorem lines_any (w:World) (s:List UInt8) (hs:s.length≤1500000) {v:Value} (hv:Rd w v s.length (bytesV s)):Calls Tryz.prog 23 #[v] w fun e w'=>
 ∃ g,e= .returned (.slice (some ⟨g,0,none⟩) (mlines s).length (nl [] s).length)∧Fr [] w w'∧w.heap.size≤g∧g<w'.heap.size∧∀ j x,(mlines s)[j]? =some x→w'.cell? ⟨g,j,none⟩=some (strV x):=by
 have HV:=hid hv
 clear hv
 have hml:mlines s=(trimLast (nl [] s)).map noCR:=lns_nl s []
 have H:=Hp.start [] w
 obtain ⟨P,hP⟩:∃ P,nl [] s=P:=⟨_,rfl⟩
 have hPc:=nl_count s []
 have HPZ:=hid (show ∀ x∈P,x.length≤2000000 from fun x hx=>Nat.le_trans (nl_size s [] x (hP ▸ hx)) (by rw [List.length_nil];omega))
 have hPn:=nl_ne s []
 rw [hP] at hPc hPn hml
 obtain ⟨n,hn⟩:∃ n,P.length=n+1:=⟨P.length - 1,by have:=List.length_pos_iff.2 hPn;omega⟩
 obtain ⟨z,hz⟩:∃ z,P[n]? =some z:=⟨_,List.getElem?_eq_getElem (by omega)⟩
 have hlast:P.getLast? =some z:=by rw [List.getLast?_eq_getElem?,hn];exact hz
 have hzs:(P.map strV)[n]? =some (strV z):=by rw [List.getElem?_map,hz];rfl
 have hSP:=hid hP
 have HCP:=hid (show (nl [] s).length=n+1 by rw [hP];exact hn)
 go_enter Tryz.func23,Tryz.ntmps23
 (revert H;refine We3bb ?_ <;>unhygienic intros)
 (have H0:=H;refine Calls.mono (split_is _ hSP (hid hn) (by omega)) ?_;clear H;rintro e w1 ⟨q,rfl,hF,hq,hc⟩;have HQ:=hid (Nat.le_trans H0.fr.size hq);have H:=H0.bornB hF hq hc;clear H0;clear hF hq hc)
 by_cases hz0:z=[]
 ·have HZ:=hid (show (z==[])=true by simp [hz0])
  obtain ⟨m,hm⟩:∃ m,n=m:=⟨_,rfl⟩
  have htl:trimLast P=P.take m:=by
   unfold trimLast
   rw [hlast,hz0,if_pos rfl,List.dropLast_eq_take,hn,hm]
   rfl
  have HLM:=hid (show (mlines s).length=m by rw [hml,htl,List.length_map,List.length_take];omega)
  have HT:=hid (show ∀ (j:Nat) (y:List UInt8),(mlines s)[j]? =some y→((P.take m).map noCR++P.drop m)[j]? =some y by
   intro j y hj
   rw [hml,htl] at hj
   rw [List.getElem?_append_left (List.getElem?_eq_some_iff.1 hj).1]
   exact hj)
  have hzm:(P.map strV)[m]? =some (strV z):=by rw [← hm];exact hzs
  clear hml htl hP hlast hz hz0 hPn hSP hzm
  subst hm
  (revert H;refine W3d60 ?_ <;>unhygienic intros)
  go_loopw [23] (fun s23 wr=>∃ (k:Nat) (cs:List Value),s23= .int .i64 (k:Int)∧k≤n∧cs.length=P.length∧Hid (cs=((P.take k).map noCR++P.drop k).map strV)∧Hp [] w wr [.blk q cs 9]) (fun v _ =>n - (intOf v).toNat)
  case atStart=>exact ⟨0,P.map strV,rfl,Nat.zero_le _,by simp,hid (by simp),H⟩
  case round=>
   clear H
   obtain ⟨k,cs,rfl,hk,hcl,HC,H⟩:=hrel
   by_cases hlt:k<n
   ·obtain ⟨x,hx⟩:∃ x,P[k]? =some x:=⟨_,List.getElem?_eq_getElem (by omega)⟩
    have hget:cs[k]? =some (strV x):=by rw [HC.out];exact capk_get hx
    have HC2:=hid (show cs.set k (strV (noCR x))=((P.take (k+1)).map noCR++P.drop (k+1)).map strV by rw [HC.out];exact capk_next hx)
    have hxl:=HPZ.out x (List.mem_of_getElem? hx)
    clear HC
    (revert H;refine W3d60 ?_ <;>unhygienic intros)
    (refine x_c H (trimS_any _ x (by omega)) ?_;clear H;rintro e w1 ⟨rfl,hF⟩ H;clear hF)
    (revert H;refine W3d60 ?_ <;>unhygienic intros)
    go_roundw
    case rel=>exact ⟨k+1,_,rfl,by omega,by rw [List.length_set];exact hcl,HC2,H⟩
    case measure=>(simp [intOf];try omega)
   ·have hke:k=n:=by omega
    subst hke
    clear hlt
    (revert H;refine W3d60 ?_ <;>unhygienic intros)
    go_ret
    refine ⟨q, ?_,H.fr,HQ.out,H.lt (.head _), ?_⟩
    ·rw [HLM.out,HCP.out];rfl
    ·intro j y hj
     refine H.blkCell (.head _) ?_
     rw [HC.out,List.getElem?_map,HT.out j y hj]
     rfl
 ·have HZ:=hid (show (z==[])=false by simp [hz0])
  obtain ⟨m,hm⟩:∃ m,P.length=m:=⟨_,rfl⟩
  have htl:trimLast P=P:=by
   unfold trimLast
   rw [hlast,if_neg (by simp [hz0])]
  have HLM:=hid (show (mlines s).length=m by rw [hml,htl,List.length_map];omega)
  have HT:=hid (show ∀ (j:Nat) (y:List UInt8),(mlines s)[j]? =some y→((P.take m).map noCR++P.drop m)[j]? =some y by
   intro j y hj
   rw [hml,htl] at hj
   rw [← hm,List.take_length,List.drop_length,List.append_nil]
   exact hj)
  obtain rfl:m=n+1:=by omega
  clear hml htl hP hlast hz hz0 hPn hSP
  (revert H;refine W3d60 ?_ <;>unhygienic intros)
  go_loopw [23] (fun s23 wr=>∃ (k:Nat) (cs:List Value),s23= .int .i64 (k:Int)∧k≤(n+1)∧cs.length=P.length∧Hid (cs=((P.take k).map noCR++P.drop k).map strV)∧Hp [] w wr [.blk q cs 9]) (fun v _ =>(n+1) - (intOf v).toNat)
  case atStart=>exact ⟨0,P.map strV,rfl,Nat.zero_le _,by simp,hid (by simp),H⟩
  case round=>
   clear H
   obtain ⟨k,cs,rfl,hk,hcl,HC,H⟩:=hrel
   by_cases hlt:k<(n+1)
   ·obtain ⟨x,hx⟩:∃ x,P[k]? =some x:=⟨_,List.getElem?_eq_getElem (by omega)⟩
    have hget:cs[k]? =some (strV x):=by rw [HC.out];exact capk_get hx
    have HC2:=hid (show cs.set k (strV (noCR x))=((P.take (k+1)).map noCR++P.drop (k+1)).map strV by rw [HC.out];exact capk_next hx)
    have hxl:=HPZ.out x (List.mem_of_getElem? hx)
    clear HC
    (revert H;refine W3d60 ?_ <;>unhygienic intros)
    (refine x_c H (trimS_any _ x (by omega)) ?_;clear H;rintro e w1 ⟨rfl,hF⟩ H;clear hF)
    (revert H;refine W3d60 ?_ <;>unhygienic intros)
    go_roundw
    case rel=>exact ⟨k+1,_,rfl,by omega,by rw [List.length_set];exact hcl,HC2,H⟩
    case measure=>(simp [intOf];try omega)
   ·have hke:k=(n+1):=by omega
    subst hke
    clear hlt
    (revert H;refine W3d60 ?_ <;>unhygienic intros)
    go_ret
    refine ⟨q, ?_,H.fr,HQ.out,H.lt (.head _), ?_⟩
    ·rw [HLM.out,HCP.out];rfl
    ·intro j y hj
     refine H.blkCell (.head _) ?_
     rw [HC.out,List.getElem?_map,HT.out j y hj]
     rfl
end Go.Proofs.YtoiebebjgnpkmaaGreatDoor
namespace Go.Proofs.YtoiebebjgnpkmaaGreatDoor
open Go.RowKit
set_option linter.unusedSimpArgs false
set_option linter.unusedVariables false
set_option maxHeartbeats 8000000
set_option maxRecDepth 100000
theorem ev_m63I {P:Program} {w:World} {a:Act} {o:Oper} {t t':TypeId} {x:Operand} (ho:o.op= .binOp .and t x (.const (.int .u64 9223372036854775808)) t') {m z:Nat} (hx:a.eval x= .int .u64 (m:Int)) (hz:Hid ((if 9223372036854775808≤m then 9223372036854775808 else 0:Nat)=z)) (hm:m<18446744073709551616:=by omega):(execOp a.eval o).run P w= .ok (.value (.int .u64 (z:Int))) w:=by
 rw [← hz.out];exact ev_m63 ho hx hm
theorem parts_any (w:World) (b:Nat) (hb:b<18446744073709551616):
 Calls Tryz.prog 80 #[.int .u64 (b:Int)] w fun r w'=>r= .returned (.tuple #[.int .i64 ((b / 4503599627370496 % 2048:Nat):Int), .int .u64 ((b % 4503599627370496:Nat):Int)])∧Fr [] w w':=by
 have H:=Hp.start [] w
 go_enter Tryz.func80,Tryz.ntmps80
 (revert H;refine W4a73 ?_ <;>unhygienic intros)
 refine bodyPost_ret (results_tmp2 rfl _ _ _) rfl ?_
 exact ⟨rfl,H.fr⟩
theorem partsI_any (w:World) {b x y:Nat} (hb:b<18446744073709551616) (hx:Hid (b / 4503599627370496 % 2048=x)) (hy:Hid (b % 4503599627370496=y)):
 Calls Tryz.prog 80 #[.int .u64 (b:Int)] w fun r w'=>r= .returned (.tuple #[.int .i64 (x:Int), .int .u64 (y:Int)])∧Fr [] w w':=by
 rw [← hx.out,← hy.out];exact parts_any w b hb
theorem kind_any (w:World) (b:Nat) (hb:b<18446744073709551616):
 Calls Tryz.prog 90 #[.int .u64 (b:Int)] w fun r w'=>r= .returned (.int .i64 (kindF b))∧Fr [] w w':=by
 have H:=Hp.start [] w
 have HK:Hid (kindF b=if b / 4503599627370496 % 2048=2047 then (if b % 4503599627370496=0 then 2 else 3) else if b / 4503599627370496 % 2048=0∧b % 4503599627370496=0 then 0 else 1):=hid rfl
 have hx:b / 4503599627370496 % 2048<2048:=Nat.mod_lt _ (by decide)
 obtain ⟨x,hX⟩:∃ x,b / 4503599627370496 % 2048=x:=⟨_,rfl⟩
 obtain ⟨y,hY⟩:∃ x,b % 4503599627370496=x:=⟨_,rfl⟩
 have hy:b % 4503599627370496<4503599627370496:=Nat.mod_lt _ (by decide)
 rw [hX,hY] at HK
 rw [hX] at hx
 rw [hY] at hy
 have HX:=hid hX
 have HY:=hid hY
 clear hX hY
 by_cases h1:x=2047
 ·by_cases h2:y=0
  ·have HV:Hid (kindF b=2):=hid (HK.out.trans (by rw [if_pos h1,if_pos h2]))
   go_enter Tryz.func90,Tryz.ntmps90
   (revert H;refine W4a73 ?_ <;>unhygienic intros)
   (refine x_c H (partsI_any _ hb HX HY) ?_;clear H;rintro e w1 ⟨rfl,hF⟩ H;replace hF:=hF.kp;skip)
   (revert H;refine W4a73 ?_ <;>unhygienic intros)
   go_ret
   exact ⟨by rw [HV.out];rfl,H.fr⟩
  ·have HV:Hid (kindF b=3):=hid (HK.out.trans (by rw [if_pos h1,if_neg h2]))
   go_enter Tryz.func90,Tryz.ntmps90
   (revert H;refine W4a73 ?_ <;>unhygienic intros)
   (refine x_c H (partsI_any _ hb HX HY) ?_;clear H;rintro e w1 ⟨rfl,hF⟩ H;replace hF:=hF.kp;skip)
   (revert H;refine W4a73 ?_ <;>unhygienic intros)
   go_ret
   exact ⟨by rw [HV.out];rfl,H.fr⟩
 ·by_cases h2:x=0
  ·by_cases h3:y=0
   ·have HV:Hid (kindF b=0):=hid (HK.out.trans (by rw [if_neg h1,if_pos ⟨h2,h3⟩]))
    go_enter Tryz.func90,Tryz.ntmps90
    (revert H;refine W4a73 ?_ <;>unhygienic intros)
    (refine x_c H (partsI_any _ hb HX HY) ?_;clear H;rintro e w1 ⟨rfl,hF⟩ H;replace hF:=hF.kp;skip)
    (revert H;refine W4a73 ?_ <;>unhygienic intros)
    go_ret
    exact ⟨by rw [HV.out];rfl,H.fr⟩
   ·have HV:Hid (kindF b=1):=hid (HK.out.trans (by rw [if_neg h1,if_neg (fun h=>h3 h.2)]))
    go_enter Tryz.func90,Tryz.ntmps90
    (revert H;refine W4a73 ?_ <;>unhygienic intros)
    (refine x_c H (partsI_any _ hb HX HY) ?_;clear H;rintro e w1 ⟨rfl,hF⟩ H;replace hF:=hF.kp;skip)
    (revert H;refine W4a73 ?_ <;>unhygienic intros)
    go_ret
    exact ⟨by rw [HV.out];rfl,H.fr⟩
  ·have HV:Hid (kindF b=1):=hid (HK.out.trans (by rw [if_neg h1,if_neg (fun h=>h2 h.1)]))
   go_enter Tryz.func90,Tryz.ntmps90
   (revert H;refine W4a73 ?_ <;>unhygienic intros)
   (refine x_c H (partsI_any _ hb HX HY) ?_;clear H;rintro e w1 ⟨rfl,hF⟩ H;replace hF:=hF.kp;skip)
   (revert H;refine W4a73 ?_ <;>unhygienic intros)
   go_ret
   exact ⟨by rw [HV.out];rfl,H.fr⟩
theorem kindI_any (w:World) {b:Nat} {k:Int} (hb:b<18446744073709551616) (hk:Hid (kindF b=k)):
 Calls Tryz.prog 90 #[.int .u64 (b:Int)] w fun r w'=>r= .returned (.int .i64 k)∧Fr [] w w':=by
 rw [← hk.out];exact kind_any w b hb
theorem negative_any (w:World) (b:Nat) (hb:b<18446744073709551616):
 Calls Tryz.prog 217 #[.int .u64 (b:Int)] w fun r w'=>r= .returned (.bool (decide (9223372036854775808≤b)))∧Fr [] w w':=by
 have H:=Hp.start [] w
 by_cases h:9223372036854775808≤b
 ·have HI:=hid (show (if 9223372036854775808≤b then 9223372036854775808 else 0:Nat)=9223372036854775808 from if_pos h)
  rw [decide_eq_true h]
  go_enter Tryz.func217,Tryz.ntmps217
  (revert H;refine W2d1f ?_ <;>unhygienic intros)
  go_ret
  exact ⟨rfl,H.fr⟩
 ·have HI:=hid (show (if 9223372036854775808≤b then 9223372036854775808 else 0:Nat)=0 from if_neg h)
  rw [decide_eq_false h]
  go_enter Tryz.func217,Tryz.ntmps217
  (revert H;refine W2d1f ?_ <;>unhygienic intros)
  go_ret
  exact ⟨rfl,H.fr⟩
end Go.Proofs.YtoiebebjgnpkmaaGreatDoor
namespace Go.Proofs.YtoiebebjgnpkmaaGreatDoor
open Go.RowKit
set_option linter.unusedSimpArgs false
set_option linter.unusedVariables false
set_option maxHeartbeats 8000000
set_option maxRecDepth 100000
theorem nan1_any {w:World} {g c b:Nat} (hb:b<18446744073709551616) (hc:w.cell? ⟨g,0,none⟩=some (.int .u64 (b:Int))):
 Calls Tryz.prog 85 #[.slice (some ⟨g,0,none⟩) 1 c] w fun r w'=>r= .returned (.bool (decide (kindF b=3)))∧Fr [] w w':=by
 have HC:=hid hc
 obtain ⟨k,hk⟩:∃ k,kindF b=k:=⟨_,rfl⟩
 have HK:=hid hk
 rw [hk]
 clear hc hk
 have H:=Hp.start [] w
 go_enter Tryz.func85,Tryz.ntmps85
 ((try simp only [Int.not_lt,Int.not_le] at*);revert H;refine W678e ?_ <;>unhygienic intros)
 go_loopw [7] (fun s7 wr=>((s7= .int .i64 0)∨(s7= .int .i64 1∧Hid (k≠3)))∧Hp [] w wr []) (fun v _ =>(2 - intOf v).toNat)
 case atStart=>exact ⟨.inl rfl,H⟩
 case round=>
  clear H
  obtain ⟨hs,H⟩:=hrel
  rcases hs with rfl | ⟨rfl,HN⟩
  ·have HC2:=H.fr.cell HC.out (by simp)
   ((try simp only [Int.not_lt,Int.not_le] at*);revert H;refine W2a3c ?_ <;>unhygienic intros)
   (refine x_c H (kindI_any _ hb HK) ?_;clear H;rintro e w1 ⟨rfl,hF⟩ H;replace hF:=hF.kp;skip)
   by_cases h3:k=3
   ·subst h3
    ((try simp only [Int.not_lt,Int.not_le] at*);revert H;refine W678e ?_ <;>unhygienic intros)
    go_ret
    exact ⟨rfl,H.fr⟩
   ·have HN:=hid h3
    ((try simp only [Int.not_lt,Int.not_le] at*);revert H;refine W678e ?_ <;>unhygienic intros)
    go_roundw
    case rel=>exact ⟨.inr ⟨rfl,HN⟩,H⟩
    case measure=>(simp [intOf];try omega)
  ·((try simp only [Int.not_lt,Int.not_le] at*);revert H;refine W678e ?_ <;>unhygienic intros)
   go_ret
   exact ⟨by rw [decide_eq_false HN.out];rfl,H.fr⟩
theorem andNot_top {b:Nat} (hb:b<18446744073709551616):bits .andNot .u64 (b:Int) 9223372036854775808=((b % 9223372036854775808:Nat):Int):=by
 have hx:b % 9223372036854775808<2 ^ 64:=Nat.lt_of_lt_of_le (Nat.mod_lt _ (by decide)) (by decide)
 have h1:(BitVec.ofInt 64 (b:Int)).toNat=b:=by
  rw [BitVec.ofInt_natCast,BitVec.toNat_ofNat];exact Nat.mod_eq_of_lt (by omega)
 have h2:(~~~ (BitVec.ofInt 64 9223372036854775808)).toNat=2 ^ 63 - 1:=by decide
 show IntKind.u64.wrap ((BitVec.ofInt 64 (b:Int)&&& ~~~ (BitVec.ofInt 64 9223372036854775808)).toNat:Int)=_
 rw [BitVec.toNat_and,h1,h2,Nat.and_two_pow_sub_one_eq_mod]
 exact wrap_inr (by simp only [inr];omega)
theorem ev_an63 {P:Program} {w:World} {a:Act} {o:Oper} {t t':TypeId} {x:Operand} (ho:o.op= .binOp .andNot t x (.const (.int .u64 9223372036854775808)) t') {m z:Nat} (hx:a.eval x= .int .u64 (m:Int)) (hz:Hid (m % 9223372036854775808=z)) (hm:m<18446744073709551616:=by omega):(execOp a.eval o).run P w= .ok (.value (.int .u64 (z:Int))) w:=
 ev_bin ho hx rfl (fun w=>by
  have e:=andNot_top hm
  rw [hz.out] at e
  show (pure (Value.int .u64 (bits .andNot .u64 (m:Int) 9223372036854775808)):Sem Value).run P w=_
  rw [e];rfl)
theorem ev_h52 {P:Program} {w:World} {a:Act} {o:Oper} {t t':TypeId} {x:Operand} (ho:o.op= .binOp .or t x (.const (.int .u64 4503599627370496)) t') {m z:Nat} (hx:a.eval x= .int .u64 (m:Int)) (hz:Hid (m+4503599627370496=z)) (hm:m<4503599627370496:=by omega):(execOp a.eval o).run P w= .ok (.value (.int .u64 (z:Int))) w:=by
 rw [← hz.out]
 exact ev_bits ho (.inr rfl) hx (n:=4503599627370496) rfl (by
  rw [or_nat _ _ (by omega) (by decide)]
  have h1:=Nat.two_pow_add_eq_or_of_lt (i:=52) (b:=m) (by simpa using hm) 1
  have e:(2:Nat) ^ 52=4503599627370496:=by decide
  rw [e] at h1
  have h2:m||| 4503599627370496=m+4503599627370496:=by rw [Nat.or_comm,Nat.add_comm];simpa using h1.symm
  rw [h2])
theorem man_of {b:Nat} (hb:b<18446744073709551616):manF (b % 9223372036854775808)=(if b / 4503599627370496 % 2048=0 then b % 4503599627370496 else b % 4503599627370496+4503599627370496)∧expoF (b % 9223372036854775808)=(if b / 4503599627370496 % 2048=0 then -1074 else ((b / 4503599627370496 % 2048:Nat):Int) - 1075):=by
 have e:b % 9223372036854775808 / 4503599627370496=b / 4503599627370496 % 2048:=by omega
 unfold manF expoF
 rw [e]
 constructor
 ·split<;>omega
 ·rfl
set_option maxHeartbeats 16000000 in
theorem ofF_any (w:World) {b:Nat} (hb:b<18446744073709551616) (hk:b / 4503599627370496 % 2048≠2047) (hT:La w):
 Calls Tryz.prog 167 #[.int .u64 (b:Int)] w fun r w'=>∃ v1,r= .returned v1∧Fr [] w w'∧Dn w' v1 (sg (decide (9223372036854775808≤b)) (manF (b % 9223372036854775808))) (expoF (b % 9223372036854775808)):=by
 obtain ⟨h1,h2⟩:=man_of hb
 rw [h1,h2]
 clear h1 h2
 have HT:=hid hT
 have hx:b / 4503599627370496 % 2048<2048:=Nat.mod_lt _ (by decide)
 have hy:b % 4503599627370496<4503599627370496:=Nat.mod_lt _ (by decide)
 obtain ⟨x,hX⟩:∃ x,b / 4503599627370496 % 2048=x:=⟨_,rfl⟩
 obtain ⟨y,hY⟩:∃ x,b % 4503599627370496=x:=⟨_,rfl⟩
 rw [hX] at hx hk ⊢
 rw [hY] at hy ⊢
 have HX:=hid hX
 have HY:=hid hY
 obtain ⟨n,hn⟩:∃ n,decide (9223372036854775808≤b)=n:=⟨_,rfl⟩
 rw [hn]
 have HN:=hid hn
 clear hX hY hT hn
 have H:=Hp.start [] w
 by_cases h0:x=0
 ·rw [if_pos h0,if_pos h0]
  subst h0
  have hbl:bl y≤53:=bl_le (by omega)
  have HM:Hid (y+4503599627370496=y+4503599627370496):=hid rfl
  go_enter Tryz.func167,Tryz.ntmps167
  ((try simp only [Int.not_lt,Int.not_le] at*);revert H;refine W678e ?_ <;>unhygienic intros)
  (refine x_c H (partsI_any _ hb HX HY) ?_;clear H;rintro e w1 ⟨rfl,hF⟩ H;replace hF:=hF.kp;skip)
  ((try simp only [Int.not_lt,Int.not_le] at*);revert H;refine W4c78 ?_ <;>unhygienic intros)
  (refine x_c H (fromInt_ar _ ((y:Nat):Int) (by simp only [inr];omega)) ?_;clear H;rintro e w1 ⟨v4,rfl,hF,hB⟩ H;replace hF:=hF.kp;replace hB:=hB.c;rw [Int.natAbs_natCast] at hB;obtain ⟨b4,p4,m4,c4,rfl⟩:=hB.form;have HB4:=hid hB;clear hB)
  ((try simp only [Int.not_lt,Int.not_le] at*);revert H;refine W678e ?_ <;>unhygienic intros)
  (refine x_c H (negative_any _ b hb) ?_;clear H;rintro e w1 ⟨rfl,hF⟩ H;replace hF:=hF.kp;rw [HN.out])
  cases n
  ·((try simp only [Int.not_lt,Int.not_le] at*);revert H;refine W678e ?_ <;>unhygienic intros)
   (refine x_c H (make_any (bv HB4).ar (by omega) (by rw [Int.natAbs_natCast];omega) (by omega) (HT.out.fr H.fr)) ?_;clear H;rintro e w1 ⟨v5,rfl,hF,hD⟩ H;replace hF:=hF.kp;obtain ⟨m5,e5,b5,p5,n5,c5,rfl,hN,hB⟩:=hD;have HN5:=hid hN;have HB5:=hid hB;clear hN hB)
   ((try simp only [Int.not_lt,Int.not_le] at*);revert H;refine W678e ?_ <;>unhygienic intros)
   refine c_post H rfl rfl rfl ?_
   exact ⟨_,rfl,H.fr,_,_,_,_,_,_,rfl,HN5.out,bv HB5⟩
  ·((try simp only [Int.not_lt,Int.not_le] at*);revert H;refine W678e ?_ <;>unhygienic intros)
   (refine x_c H (neg_ar (bv HB4).ar (by omega)) ?_;clear H;rintro e w1 ⟨v6,rfl,hF,hB⟩ H;replace hF:=hF.kp;obtain ⟨b6,p6,m6,c6,rfl⟩:=hB.form;have HB6:=hid hB;clear hB)
   ((try simp only [Int.not_lt,Int.not_le] at*);revert H;refine W678e ?_ <;>unhygienic intros)
   (refine x_c H (make_any (bv HB6).ar (by omega) (by rw [Int.natAbs_neg,Int.natAbs_natCast];omega) (by omega) (HT.out.fr H.fr)) ?_;clear H;rintro e w1 ⟨v5,rfl,hF,hD⟩ H;replace hF:=hF.kp;obtain ⟨m5,e5,b5,p5,n5,c5,rfl,hN,hB⟩:=hD;have HN5:=hid hN;have HB5:=hid hB;clear hN hB)
   ((try simp only [Int.not_lt,Int.not_le] at*);revert H;refine W678e ?_ <;>unhygienic intros)
   refine c_post H rfl rfl rfl ?_
   exact ⟨_,rfl,H.fr,_,_,_,_,_,_,rfl,HN5.out,bv HB5⟩
 ·rw [if_neg h0,if_neg h0]
  obtain ⟨M,hM⟩:∃ M,y+4503599627370496=M:=⟨_,rfl⟩
  have HM:=hid hM
  have hMb:M<9007199254740992:=by omega
  rw [hM]
  have hbl:bl M≤53:=bl_le (by omega)
  clear hM
  go_enter Tryz.func167,Tryz.ntmps167
  ((try simp only [Int.not_lt,Int.not_le] at*);revert H;refine W678e ?_ <;>unhygienic intros)
  (refine x_c H (partsI_any _ hb HX HY) ?_;clear H;rintro e w1 ⟨rfl,hF⟩ H;replace hF:=hF.kp;skip)
  ((try simp only [Int.not_lt,Int.not_le] at*);revert H;refine W4c78 ?_ <;>unhygienic intros)
  (refine x_c H (fromInt_ar _ ((M:Nat):Int) (by simp only [inr];omega)) ?_;clear H;rintro e w1 ⟨v4,rfl,hF,hB⟩ H;replace hF:=hF.kp;replace hB:=hB.c;rw [Int.natAbs_natCast] at hB;obtain ⟨b4,p4,m4,c4,rfl⟩:=hB.form;have HB4:=hid hB;clear hB)
  ((try simp only [Int.not_lt,Int.not_le] at*);revert H;refine W678e ?_ <;>unhygienic intros)
  (refine x_c H (negative_any _ b hb) ?_;clear H;rintro e w1 ⟨rfl,hF⟩ H;replace hF:=hF.kp;rw [HN.out])
  cases n
  ·((try simp only [Int.not_lt,Int.not_le] at*);revert H;refine W678e ?_ <;>unhygienic intros)
   (refine x_c H (make_any (bv HB4).ar (by omega) (by rw [Int.natAbs_natCast];omega) (by omega) (HT.out.fr H.fr)) ?_;clear H;rintro e w1 ⟨v5,rfl,hF,hD⟩ H;replace hF:=hF.kp;obtain ⟨m5,e5,b5,p5,n5,c5,rfl,hN,hB⟩:=hD;have HN5:=hid hN;have HB5:=hid hB;clear hN hB)
   ((try simp only [Int.not_lt,Int.not_le] at*);revert H;refine W678e ?_ <;>unhygienic intros)
   refine c_post H rfl rfl rfl ?_
   exact ⟨_,rfl,H.fr,_,_,_,_,_,_,rfl,HN5.out,bv HB5⟩
  ·((try simp only [Int.not_lt,Int.not_le] at*);revert H;refine W678e ?_ <;>unhygienic intros)
   (refine x_c H (neg_ar (bv HB4).ar (by omega)) ?_;clear H;rintro e w1 ⟨v6,rfl,hF,hB⟩ H;replace hF:=hF.kp;obtain ⟨b6,p6,m6,c6,rfl⟩:=hB.form;have HB6:=hid hB;clear hB)
   ((try simp only [Int.not_lt,Int.not_le] at*);revert H;refine W678e ?_ <;>unhygienic intros)
   (refine x_c H (make_any (bv HB6).ar (by omega) (by rw [Int.natAbs_neg,Int.natAbs_natCast];omega) (by omega) (HT.out.fr H.fr)) ?_;clear H;rintro e w1 ⟨v5,rfl,hF,hD⟩ H;replace hF:=hF.kp;obtain ⟨m5,e5,b5,p5,n5,c5,rfl,hN,hB⟩:=hD;have HN5:=hid hN;have HB5:=hid hB;clear hN hB)
   ((try simp only [Int.not_lt,Int.not_le] at*);revert H;refine W678e ?_ <;>unhygienic intros)
   refine c_post H rfl rfl rfl ?_
   exact ⟨_,rfl,H.fr,_,_,_,_,_,_,rfl,HN5.out,bv HB5⟩
theorem absF_any (w:World) {b z:Nat} (hb:b<18446744073709551616) (hk:kindF b≠3) (hz:Hid (b % 9223372036854775808=z)):
 Calls Tryz.prog 93 #[.int .u64 (b:Int)] w fun r w'=>r= .returned (.int .u64 (z:Int))∧Fr [] w w':=by
 have HK:Hid (decide (kindF b=3)=false):=hid (decide_eq_false hk)
 clear hk
 have H:=Hp.start [] w
 go_enter Tryz.func93,Tryz.ntmps93
 ((try simp only [Int.not_lt,Int.not_le] at*);revert H;refine W678e ?_ <;>unhygienic intros)
 (refine x_c H (nan1_any hb (H.cell (p:=0) rfl)) ?_;clear H;rintro e w1 ⟨rfl,hF⟩ H;replace hF:=hF.kp;rw [HK.out])
 ((try simp only [Int.not_lt,Int.not_le] at*);revert H;refine Wc3f4 ?_ <;>unhygienic intros)
 go_ret
 exact ⟨rfl,H.fr⟩
end Go.Proofs.YtoiebebjgnpkmaaGreatDoor
