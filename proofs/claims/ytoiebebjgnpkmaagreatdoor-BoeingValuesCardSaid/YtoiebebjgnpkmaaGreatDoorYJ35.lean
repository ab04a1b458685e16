import Derived.Test.YtoiebebjgnpkmaaGreatDoorYJ0
import Derived.Test.YtoiebebjgnpkmaaGreatDoorYJ22
import Derived.Test.YtoiebebjgnpkmaaGreatDoorYJ17
import Derived.Test.YtoiebebjgnpkmaaGreatDoorYJ26
namespace Go.Proofs.YtoiebebjgnpkmaaGreatDoor
open Go.RowKit
set_option linter.unusedSimpArgs false
set_option linter.unusedVariables false
set_option maxHeartbeats 8000000
set_option maxRecDepth 100000
attribute [local irreducible] wpList Code.wp Plan.wp
theorem ba_lst (s:List UInt8):(ByteArray.mk s.toArray).data.toList=s:=by simp
theorem trim1_any (w:World) (s:List UInt8) (hs:s.length≤4000000):Calls Tryz.prog 73 #[strV s, .string (ByteArray.mk #[32])] w fun e w'=>e= .returned (strV (blank s))∧Fr [] w w':=by
 refine Calls.mono (Tryz.strings_Trim_one ⟨s.toArray⟩ 32 (by decide) w (by rw [ba_size];omega)) ?_
 rintro e w' ⟨rfl,rfl | rfl⟩
 ·exact ⟨by rw [ba_lst];rfl,Fr.refl _ _⟩
 ·exact ⟨by rw [ba_lst];rfl,Fr.drew _ _⟩
theorem trimR_any (w:World) (s:List UInt8) (hs:s.length≤4000000):Calls Tryz.prog 31 #[strV s, .string (ByteArray.mk #[32])] w fun e w'=>e= .returned (strV (Lib.trimRightB s 32))∧Fr [] w w':=by
 refine Calls.mono (Tryz.strings_TrimRight_one ⟨s.toArray⟩ 32 (by decide) w (by rw [ba_size];omega)) ?_
 rintro e w' ⟨rfl,rfl⟩
 exact ⟨by rw [ba_lst];rfl,Fr.refl _ _⟩
theorem cutPre_any (w:World) (s:List UInt8):Calls Tryz.prog 156 #[strV s, .string (ByteArray.mk #[40])] w fun e w'=>e= .returned (.tuple #[strV (Lib.trimPrefix s [40]), .bool (Lib.hasPrefix s [40])])∧Fr [] w w':=by
 refine Calls.mono (Tryz.strings_CutPrefix ⟨s.toArray⟩ ⟨#[40]⟩ w) ?_
 rintro e w' ⟨rfl,rfl⟩
 exact ⟨by rw [ba_lst];rfl,Fr.refl _ _⟩
theorem cutSuf_any (w:World) (s:List UInt8) (hs:s.length≤4000000):Calls Tryz.prog 157 #[strV s, .string (ByteArray.mk #[41])] w fun e w'=>e= .returned (.tuple #[strV (Lib.trimSuffix s [41]), .bool (Lib.hasSuffix s [41])])∧Fr [] w w':=by
 refine Calls.mono (Tryz.strings_CutSuffix ⟨s.toArray⟩ ⟨#[41]⟩ w (by rw [ba_size];omega)) ?_
 rintro e w' ⟨rfl,rfl⟩
 exact ⟨by rw [ba_lst];rfl,Fr.refl _ _⟩
theorem blank_any (w:World) (s:List UInt8) (hs:s.length≤4000000) {r:List UInt8} (hr:Hid (blank s=r)):Calls Tryz.prog 30 #[strV s] w fun e w'=>e= .returned (strV r)∧Fr [] w w':=by
 have H:=Hp.start [] w
 go_enter Tryz.func30,Tryz.ntmps30
 ((try simp only [Int.not_lt,Int.not_le] at*);revert H;refine W90d7 ?_ <;>unhygienic intros)
 (refine x_c H (trim1_any _ s hs) ?_;clear H;rintro e w1 ⟨rfl,hF⟩ H;clear hF)
 rw [hr.out]
 ((try simp only [Int.not_lt,Int.not_le] at*);revert H;refine W90d7 ?_ <;>unhygienic intros)
 go_ret
 exact ⟨rfl,H.fr⟩
theorem ev_strMid {P:Program} {a:Act} {w:World} {o:Oper} {t:TypeId} {x y z:Operand} (ho:o.op= .slice t x (some y) (some z) none) {s r:List UInt8} (hx:a.eval x=strV s) {k k':IntKind} {i j:Int} (hy:a.eval y= .int k i) (hz:a.eval z= .int k' j) [h:Sy P t] (hr:Hid ((s.take j.toNat).drop i.toNat=r)) (h0:0≤i:=by omega) (h1:i≤j:=by omega) (h2:j≤s.length:=by omega):(execOp a.eval o).run P w= .ok (.value (strV r)) w:=by
 rw [← hr.out]
 unfold strV at hx
 have e:=run_slice_string (P:=P) (w:=w) t ⟨s.toArray⟩ k k' i j h.h h0 h1 (by rw [ba_size];omega)
 rw [ba_extract] at e
 unfold execOp
 simp only [ho,hx,hy,hz,Option.map_none,Option.map_some,Sem.run_bind,run_sliceAt_string _ _ _ _ _ _ h.h,e,Result.andThen_ok,Sem.run_pure]
 rfl
theorem part_any (w:World) (s:List UInt8) (hs:s.length≤4000000) (a b:Nat) (hab:a≤b) {r:List UInt8} (hr:Hid (part a b s=r)):Calls Tryz.prog 32 #[strV s, .int .i64 (a:Int), .int .i64 (b:Int)] w fun e w'=>e= .returned (strV r)∧Fr [] w w':=by
 have H:=Hp.start [] w
 have HR:=hid (show (s.take (min (b:Int) (s.length:Int)).toNat).drop (min (a:Int) (s.length:Int)).toNat=r by
  rw [← hr.out,part_eq]
  congr 1
  ·omega
  ·congr 1;omega)
 clear hr
 go_enter Tryz.func32,Tryz.ntmps32
 ((try simp only [Int.not_lt,Int.not_le] at*);revert H;refine W6345 ?_ <;>unhygienic intros)
 go_ret
 exact ⟨rfl,H.fr⟩
theorem shortB_any (w:World) (s:List UInt8) (hs:s.length≤4000000):Calls Tryz.prog 107 #[strV s] w fun e w'=>∃ (n:Nat) (b:Bool),e= .returned (.tuple #[.int .i64 (n:Int), .bool b])∧Fr [] w w'∧(b=true→shortP s=some n)∧(b=false→shortP s=none):=by
 obtain ⟨n,b,hv0⟩:∃ n b,dgts s=(n,b):=⟨_,_,rfl⟩
 have hv:=hid hv0
 have HP:Hid (shortP s=if b=true∧s.length≤3 then some n else none):=hid (by unfold shortP;rw [hv0])
 clear hv0
 have H:=Hp.start [] w
 go_enter Tryz.func107,Tryz.ntmps107
 ((try simp only [Int.not_lt,Int.not_le] at*);revert H;refine W90d7 ?_ <;>unhygienic intros)
 (refine x_c H (digits_any _ s hs hv) ?_;clear H;rintro e w1 ⟨rfl,hF⟩ H;clear hF)
 cases b with
 | false=>
  ((try simp only [Int.not_lt,Int.not_le] at*);revert H;refine W90d7 ?_ <;>unhygienic intros)
  go_ret2
  exact ⟨n,false,rfl,H.fr,(fun h=>by simp at h),fun _ =>by rw [HP.out];simp⟩
 | true=>
  by_cases h3:s.length≤3
  ·((try simp only [Int.not_lt,Int.not_le] at*);revert H;refine W90d7 ?_ <;>unhygienic intros)
   go_ret2
   exact ⟨n,true,rfl,H.fr,(fun _ =>by rw [HP.out];simp [h3]),fun h=>by simp at h⟩
  ·have h3':3<s.length:=by omega
   clear h3
   ((try simp only [Int.not_lt,Int.not_le] at*);revert H;refine W90d7 ?_ <;>unhygienic intros)
   go_ret2
   exact ⟨n,false,rfl,H.fr,(fun h=>by simp at h),fun _ =>by rw [HP.out];simp;omega⟩
theorem inner_any (w:World) (s:List UInt8) (hs:s.length≤4000000):Calls Tryz.prog 105 #[strV s] w fun e w'=>∃ (r:List UInt8) (b:Bool),e= .returned (.tuple #[strV r, .bool b])∧Fr [] w w'∧(b=true→innerP s=some r)∧(b=false→innerP s=none)∧r.length≤s.length:=by
 obtain ⟨u,hu0⟩:∃ u,ups s=u:=⟨_,rfl⟩
 obtain ⟨p,hp0⟩:∃ p,Lib.trimPrefix u [40]=p:=⟨_,rfl⟩
 obtain ⟨q,hq0⟩:∃ q,Lib.trimSuffix p [41]=q:=⟨_,rfl⟩
 obtain ⟨b,hb0⟩:∃ b,Lib.hasPrefix u [40]=b:=⟨_,rfl⟩
 obtain ⟨c,hc0⟩:∃ c,Lib.hasSuffix p [41]=c:=⟨_,rfl⟩
 have hul:u.length=s.length:=by rw [← hu0];simp [ups]
 have hpl:p.length≤u.length:=by rw [← hp0];unfold Lib.trimPrefix;split<;>simp
 have hql:q.length≤p.length:=by rw [← hq0];unfold Lib.trimSuffix;split<;>simp
 have HI:Hid (innerP s=if b=true∧c=true then some q else none):=hid (by unfold innerP;rw [hu0,hp0,hq0,hb0,hc0])
 have H:=Hp.start [] w
 have HU:=hid hu0;have HP:=hid hp0;have HQ:=hid hq0;have HB:=hid hb0;have HC:=hid hc0
 clear hu0 hp0 hq0 hb0 hc0
 go_enter Tryz.func105,Tryz.ntmps105
 ((try simp only [Int.not_lt,Int.not_le] at*);revert H;refine W90d7 ?_ <;>unhygienic intros)
 (refine x_c H (upper_any _ s hs) ?_;clear H;rintro e w1 ⟨rfl,hF⟩ H;clear hF)
 rw [HU.out]
 ((try simp only [Int.not_lt,Int.not_le] at*);revert H;refine W90d7 ?_ <;>unhygienic intros)
 (refine x_c H (cutPre_any _ u) ?_;clear H;rintro e w1 ⟨rfl,hF⟩ H;clear hF)
 rw [HP.out,HB.out]
 cases b with
 | false=>
  ((try simp only [Int.not_lt,Int.not_le] at*);revert H;refine W90d7 ?_ <;>unhygienic intros)
  go_ret2
  exact ⟨[],false,rfl,H.fr,(fun h=>by simp at h),(fun _ =>by rw [HI.out];simp),by simp⟩
 | true=>
  ((try simp only [Int.not_lt,Int.not_le] at*);revert H;refine W90d7 ?_ <;>unhygienic intros)
  (refine x_c H (cutSuf_any _ p (by omega)) ?_;clear H;rintro e w1 ⟨rfl,hF⟩ H;clear hF)
  rw [HQ.out,HC.out]
  ((try simp only [Int.not_lt,Int.not_le] at*);revert H;refine W90d7 ?_ <;>unhygienic intros)
  go_ret2
  exact ⟨q,c,rfl,H.fr,(fun h=>by rw [HI.out,h];simp),(fun h=>by rw [HI.out,h];simp),by omega⟩
end Go.Proofs.YtoiebebjgnpkmaaGreatDoor
namespace Go.Proofs.YtoiebebjgnpkmaaGreatDoor
open Go.RowKit
set_option linter.unusedSimpArgs false
set_option linter.unusedVariables false
set_option maxHeartbeats 8000000
set_option maxRecDepth 100000
attribute [local irreducible] wpList Code.wp Plan.wp
theorem count_any (w:World) (s:List UInt8) (hs:s.length≤4000000) (a b:Nat) (hab:a≤b):
 Calls Tryz.prog 103 #[strV s, .int .i64 (a:Int), .int .i64 (b:Int)] w fun e w'=>∃ (n:Nat) (o:Bool),e= .returned (.tuple #[.int .i64 (n:Int), .bool o])∧Fr [] w w'∧cntP (blank (part a b s))=(n,o):=by
 obtain ⟨p,hp0⟩:∃ p,part a b s=p:=⟨_,rfl⟩
 obtain ⟨x,hx0⟩:∃ x,blank p=x:=⟨_,rfl⟩
 have hpl:p.length≤s.length:=hp0 ▸ part_len a b s
 have hxl:x.length≤p.length:=hx0 ▸ blank_len p
 obtain ⟨n,d,hv0⟩:∃ n d,dgts x=(n,d):=⟨_,_,rfl⟩
 obtain ⟨z,hz0⟩:∃ z,(x==[])=z:=⟨_,rfl⟩
 have HC:Hid (cntP (blank (part a b s))=if z=true then (0,true) else (n,d&&decide (x.length≤9))):=hid (by
  rw [hp0,hx0];unfold cntP;rw [← hz0,hv0];simp)
 have HP:=hid hp0;have HX:=hid hx0;have hv:=hid hv0;have hz:=hid hz0
 clear hp0 hx0 hv0 hz0
 have H:=Hp.start [] w
 go_enter Tryz.func103,Tryz.ntmps103
 ((try simp only [Int.not_lt,Int.not_le] at*);revert H;refine Wc223 ?_ <;>unhygienic intros)
 (refine x_c H (part_any _ s hs a b hab HP) ?_;clear H;rintro e w1 ⟨rfl,hF⟩ H;clear hF)
 ((try simp only [Int.not_lt,Int.not_le] at*);revert H;refine Wc223 ?_ <;>unhygienic intros)
 (refine x_c H (blank_any _ p (by omega) HX) ?_;clear H;rintro e w1 ⟨rfl,hF⟩ H;clear hF)
 cases z with
 | true=>
  ((try simp only [Int.not_lt,Int.not_le] at*);revert H;refine Wc223 ?_ <;>unhygienic intros)
  go_ret2
  exact ⟨0,true,rfl,H.fr,by rw [HC.out];rfl⟩
 | false=>
  ((try simp only [Int.not_lt,Int.not_le] at*);revert H;refine Wc223 ?_ <;>unhygienic intros)
  (refine x_c H (digits_any _ x (by omega) hv) ?_;clear H;rintro e w1 ⟨rfl,hF⟩ H;clear hF)
  cases d with
  | false=>
   ((try simp only [Int.not_lt,Int.not_le] at*);revert H;refine Wc223 ?_ <;>unhygienic intros)
   go_ret2
   exact ⟨n,false,rfl,H.fr,by rw [HC.out];rfl⟩
  | true=>
   by_cases h9:x.length≤9
   ·((try simp only [Int.not_lt,Int.not_le] at*);revert H;refine Wc223 ?_ <;>unhygienic intros)
    go_ret2
    exact ⟨n,true,rfl,H.fr,by rw [HC.out];simp [h9]⟩
   ·have h9':9<x.length:=by omega
    clear h9
    ((try simp only [Int.not_lt,Int.not_le] at*);revert H;refine Wc223 ?_ <;>unhygienic intros)
    go_ret2
    exact ⟨n,false,rfl,H.fr,by rw [HC.out];simp;omega⟩
end Go.Proofs.YtoiebebjgnpkmaaGreatDoor
namespace Go.Proofs.YtoiebebjgnpkmaaGreatDoor
open Go.RowKit
set_option linter.unusedSimpArgs false
set_option linter.unusedVariables false
set_option maxHeartbeats 8000000
set_option maxRecDepth 100000
theorem bl_ten (n:Nat):bl (10 ^ n)≤4*n+1:=bl_le (by
 have h1:10 ^ n≤16 ^ n:=Nat.pow_le_pow_left (by decide) n
 have h2:(16:Nat) ^ n=2 ^ (4*n):=by rw [Nat.pow_mul]
 rw [h2] at h1
 exact Nat.lt_of_le_of_lt h1 (Nat.pow_lt_pow_right (by decide) (by omega)))
theorem power_any (w:World) (n:Nat) (hn:n≤5000):
 Calls Tryz.prog 147 #[.int .i64 (n:Int)] w fun e w'=>∃ v1,e= .returned v1∧Fr [] w w'∧Bv w' v1 ((10 ^ n:Nat):Int) (bl (10 ^ n)):=by
 obtain ⟨P,hP⟩:∃ P,10 ^ n=P:=⟨_,rfl⟩
 have hbP:=bl_ten n
 have hP0:0<P:=by rw [← hP];exact ten_pos n
 rw [hP] at hbP ⊢
 have HP:=hid hP
 clear hP
 have H:=Hp.start [] w
 go_enter Tryz.func147,Tryz.ntmps147
 go_wp2_with (first | refine x_q H ?_ | refine x_cm (fun h=> ?_) (fun h=> ?_) | refine x_l H ?_ | refine x_e (ev_dyad rfl rfl rfl) ?_ | (revert H;refine x_sF ?_;intro w1 hf H hk;clear hf;change Kp _ _ at hk) | (revert H;refine x_g ?_;intro g w1 hg hf H;replace hf:=hf.kp) | (revert H;refine x_s ?_;intro w1 hf H;clear hf))
 (refine x_c H (fromInt_ar _ 1 (by simp only [inr];omega)) ?_;clear H;rintro e w1 ⟨v3,rfl,hF,hB⟩ H;replace hF:=hF.kp;obtain ⟨b3,p3,m3,c3,rfl⟩:=hB.form;have HB3:=hid hB;clear hB)
 go_wp2_with (first | refine x_q H ?_ | refine x_cm (fun h=> ?_) (fun h=> ?_) | refine x_l H ?_ | refine x_e (ev_dyad rfl rfl rfl) ?_ | (revert H;refine x_sF ?_;intro w1 hf H hk;clear hf;change Kp _ _ at hk) | (revert H;refine x_g ?_;intro g w1 hg hf H;replace hf:=hf.kp) | (revert H;refine x_s ?_;intro w1 hf H;clear hf))
 (refine x_c H (fromInt_ar _ 10 (by simp only [inr];omega)) ?_;clear H;rintro e w1 ⟨v4,rfl,hF,hB⟩ H;replace hF:=hF.kp;obtain ⟨b4,p4,m4,c4,rfl⟩:=hB.form;have HB4:=hid hB;clear hB)
 go_wp2_with (first | refine x_q H ?_ | refine x_cm (fun h=> ?_) (fun h=> ?_) | refine x_l H ?_ | refine x_e (ev_dyad rfl rfl rfl) ?_ | (revert H;refine x_sF ?_;intro w1 hf H hk;clear hf;change Kp _ _ at hk) | (revert H;refine x_g ?_;intro g w1 hg hf H;replace hf:=hf.kp) | (revert H;refine x_s ?_;intro w1 hf H;clear hf))
 rename_i g2 wa ha fa wb Fb wc g3 wd hd fd we wf kf xa xb
 go_loopw [0] (fun s0 wr=>∃ (k out ten:Nat) (b3 b4:Bool) (p3 p4:Option Addr) (m3 c3 m4 c4:Nat),s0= .int .i64 (k:Int)∧k≤5000∧Hid (out*ten ^ k=P)∧bl ten≤100000∧Hp [] w wr [.blk g [.bool b4, .slice p4 m4 c4] 112, .blk g3 [.bool b3, .slice p3 m3 c3] 112, .blk g2 [.bool false, .slice none 0 0] 112]∧Hid (Bv wr (.agg #[.bool b3, .slice p3 m3 c3]) (out:Int) (bl out))∧Hid (Bv wr (.agg #[.bool b4, .slice p4 m4 c4]) (ten:Int) (bl ten))) (fun v _ =>(intOf v).toNat)
 case atStart=>exact ⟨n,1,10,_,_,_,_,_,_,_,_,rfl,hn,hid (by rw [Nat.one_mul];exact HP.out),by decide,H,hid (bv HB3).c,hid (bv HB4).c⟩
 case round=>
  clear H HB3 HB4
  obtain ⟨k,out,ten,b3,b4,p3,p4,m3,c3,m4,c4,rfl,hk5,HO,hbt,H,HB3,HB4⟩:=hrel
  have hout:bl out≤bl P:=bl_mono (by
   have h:=HO.out
   rcases Nat.eq_zero_or_pos (ten ^ k) with h0 | h0
   ·rw [h0,Nat.mul_zero] at h;omega
   ·rw [← h];exact Nat.le_mul_of_pos_right _ h0)
  by_cases hk:k=0
  ·subst hk
   have HE:Hid (out=P):=hid (by have h:=HO.out;rwa [Nat.pow_zero,Nat.mul_one] at h)
   clear HO
   go_wp2_with (first | refine x_q H ?_ | refine x_cm (fun h=> ?_) (fun h=> ?_) | refine x_l H ?_ | refine x_e (ev_dyad rfl rfl rfl) ?_ | (revert H;refine x_sF ?_;intro w1 hf H hk;clear hf;change Kp _ _ at hk) | (revert H;refine x_g ?_;intro g w1 hg hf H;replace hf:=hf.kp) | (revert H;refine x_s ?_;intro w1 hf H;clear hf))
   refine c_post H rfl rfl rfl ?_
   exact ⟨_,rfl,H.fr,by rw [← HE.out];exact bv HB3⟩
  ·have hten:bl ten≤bl P:=bl_mono (by
    have h:=HO.out
    obtain ⟨j,rfl⟩:∃ j,k=j+1:=⟨k - 1,by omega⟩
    rw [Nat.pow_succ,← Nat.mul_assoc] at h
    rw [← h]
    exact Nat.le_mul_of_pos_left _ (Nat.pos_of_ne_zero (fun h0=>by rw [h0,Nat.zero_mul] at h;omega)))
   have htt:=bl_prod ten ten
   have hot:=bl_prod out ten
   have hkk:(k:Int).tdiv 2=((k / 2:Nat):Int):=by rw [Int.tdiv_eq_ediv_of_nonneg (by omega)];omega
   have hk2:k / 2<k:=by omega
   have hPR:=hid (pow_round HO.out)
   clear HO
   have hmod:(k:Int).tmod 2=((k % 2:Nat):Int):=by rw [Int.tmod_eq_emod_of_nonneg (by omega)];omega
   by_cases h1:k % 2=1
   ·have HPR:=hid (show out*ten*(ten*ten) ^ (k / 2)=P by have h:=hPR.out;rwa [if_pos h1] at h)
    have hm1:(k:Int).tmod 2=1:=by omega
    clear hPR
    go_wp2_with (first | refine x_q H ?_ | refine x_cm (fun h=> ?_) (fun h=> ?_) | refine x_l H ?_ | refine x_e (ev_dyad rfl rfl rfl) ?_ | (revert H;refine x_sF ?_;intro w1 hf H hk;clear hf;change Kp _ _ at hk) | (revert H;refine x_g ?_;intro g w1 hg hf H;replace hf:=hf.kp) | (revert H;refine x_s ?_;intro w1 hf H;clear hf))
    (refine x_c H (mul_ar (bv HB3).ar (bv HB4).ar (by omega) (by omega)) ?_;clear H;rintro e w1 ⟨v5,rfl,hF,hB⟩ H;replace hF:=hF.kp;replace hB:=hB.c;rw [← Int.natCast_mul,Int.natAbs_natCast] at hB;obtain ⟨b5,p5,m5,c5,rfl⟩:=hB.form;have HB5:=hid hB;clear hB)
    go_wp2_with (first | refine x_q H ?_ | refine x_cm (fun h=> ?_) (fun h=> ?_) | refine x_l H ?_ | refine x_e (ev_dyad rfl rfl rfl) ?_ | (revert H;refine x_sF ?_;intro w1 hf H hk;clear hf;change Kp _ _ at hk) | (revert H;refine x_g ?_;intro g w1 hg hf H;replace hf:=hf.kp) | (revert H;refine x_s ?_;intro w1 hf H;clear hf))
    (refine x_c H (mul_ar (bv HB4).ar (bv HB4).ar (by omega) (by omega)) ?_;clear H;rintro e w1 ⟨v6,rfl,hF,hB⟩ H;replace hF:=hF.kp;replace hB:=hB.c;rw [← Int.natCast_mul,Int.natAbs_natCast] at hB;obtain ⟨b6,p6,m6,c6,rfl⟩:=hB.form;have HB6:=hid hB;clear hB)
    go_wp2_with (first | refine x_q H ?_ | refine x_cm (fun h=> ?_) (fun h=> ?_) | refine x_l H ?_ | refine x_e (ev_dyad rfl rfl rfl) ?_ | (revert H;refine x_sF ?_;intro w1 hf H hk;clear hf;change Kp _ _ at hk) | (revert H;refine x_g ?_;intro g w1 hg hf H;replace hf:=hf.kp) | (revert H;refine x_s ?_;intro w1 hf H;clear hf))
    go_roundw
    case rel=>exact ⟨k / 2,out*ten,ten*ten,_,_,_,_,_,_,_,_,by first | rfl | rw [hkk],by omega,HPR,by omega,H,hid (bv HB5),hid (bv HB6)⟩
    case measure=>(simp [intOf];try omega)
   ·have HPR:=hid (show out*(ten*ten) ^ (k / 2)=P by have h:=hPR.out;rwa [if_neg h1] at h)
    have hm1:(k:Int).tmod 2=0:=by omega
    clear hPR
    go_wp2_with (first | refine x_q H ?_ | refine x_cm (fun h=> ?_) (fun h=> ?_) | refine x_l H ?_ | refine x_e (ev_dyad rfl rfl rfl) ?_ | (revert H;refine x_sF ?_;intro w1 hf H hk;clear hf;change Kp _ _ at hk) | (revert H;refine x_g ?_;intro g w1 hg hf H;replace hf:=hf.kp) | (revert H;refine x_s ?_;intro w1 hf H;clear hf))
    (refine x_c H (mul_ar (bv HB4).ar (bv HB4).ar (by omega) (by omega)) ?_;clear H;rintro e w1 ⟨v6,rfl,hF,hB⟩ H;replace hF:=hF.kp;replace hB:=hB.c;rw [← Int.natCast_mul,Int.natAbs_natCast] at hB;obtain ⟨b6,p6,m6,c6,rfl⟩:=hB.form;have HB6:=hid hB;clear hB)
    go_wp2_with (first | refine x_q H ?_ | refine x_cm (fun h=> ?_) (fun h=> ?_) | refine x_l H ?_ | refine x_e (ev_dyad rfl rfl rfl) ?_ | (revert H;refine x_sF ?_;intro w1 hf H hk;clear hf;change Kp _ _ at hk) | (revert H;refine x_g ?_;intro g w1 hg hf H;replace hf:=hf.kp) | (revert H;refine x_s ?_;intro w1 hf H;clear hf))
    go_roundw
    case rel=>exact ⟨k / 2,out,ten*ten,_,_,_,_,_,_,_,_,by first | rfl | rw [hkk],by omega,HPR,by omega,H,hid (bv HB3),hid (bv HB6)⟩
    case measure=>(simp [intOf];try omega)
end Go.Proofs.YtoiebebjgnpkmaaGreatDoor
