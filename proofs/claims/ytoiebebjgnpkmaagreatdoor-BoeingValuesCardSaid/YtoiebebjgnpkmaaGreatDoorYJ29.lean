import Derived.Test.YtoiebebjgnpkmaaGreatDoorYJ28
namespace Go.Proofs.YtoiebebjgnpkmaaGreatDoor
open Go.RowKit
set_option linter.unusedSimpArgs false
set_option linter.unusedVariables false
set_option maxHeartbeats 8000000
set_option maxRecDepth 100000
theorem signedF_any (w:World) (f:Nat) (neg:Bool) (hf:f<9223372036854775808):
 Calls Tryz.prog 235 #[.int .u64 (f:Int), .bool neg] w fun r w'=>r= .returned (.int .u64 (sgnF neg f:Nat))∧Fr [] w w':=by
 have H:=Hp.start [] w
 cases neg
 ·go_enter Tryz.func235,Tryz.ntmps235
  go_wp2_with fail
  go_ret
  exact ⟨rfl,H.fr⟩
 ·go_enter Tryz.func235,Tryz.ntmps235
  go_wp2_with (refine x_e (ev_o63 rfl rfl) ?_)
  go_ret
  exact ⟨rfl,H.fr⟩
theorem overflow_any (w:World) (neg:Bool) (mode:Int):
 Calls Tryz.prog 236 #[.bool neg, .int .i64 mode] w fun r w'=>r= .returned (.int .u64 (overF neg mode:Nat))∧Fr [] w w':=by
 have H:=Hp.start [] w
 have HO:Hid (overF neg mode=sgnF neg (if mode=3∨(mode=1∧neg=false)∨(mode=2∧neg=true) then 9218868437227405311 else 9218868437227405312)):=hid rfl
 have fin1:∀ {X:Nat},sgnF neg X=overF neg mode→(sgnF neg X:Int)=(overF neg mode:Nat):=fun h=>by rw [h]
 by_cases m3:mode=3
 ·subst m3
  have HV:=hid (HO.out.trans (congrArg (sgnF neg) (if_pos (.inl rfl))))
  go_enter Tryz.func236,Tryz.ntmps236
  go_wp2_with (refine x_q H ?_)
  (refine x_c H (signedF_any _ 9218868437227405311 neg (by decide)) ?_;clear H;rintro e w1 ⟨rfl,hF⟩ H;replace hF:=hF.kp;skip)
  go_wp2_with fail
  go_ret
  exact ⟨by rw [HV.out];rfl,H.fr⟩
 ·by_cases m1:mode=1
  ·subst m1
   cases neg
   ·have HV:=hid (HO.out.trans (congrArg (sgnF false) (if_pos (.inr (.inl ⟨rfl,rfl⟩)))))
    go_enter Tryz.func236,Tryz.ntmps236
    go_wp2_with (refine x_q H ?_)
    (refine x_c H (signedF_any _ 9218868437227405311 false (by decide)) ?_;clear H;rintro e w1 ⟨rfl,hF⟩ H;replace hF:=hF.kp;skip)
    go_wp2_with fail
    go_ret
    exact ⟨by rw [HV.out];rfl,H.fr⟩
   ·have HV:=hid (HO.out.trans (congrArg (sgnF true) (if_neg (by decide))))
    go_enter Tryz.func236,Tryz.ntmps236
    go_wp2_with (refine x_q H ?_)
    (refine x_c H (signedF_any _ 9218868437227405312 true (by decide)) ?_;clear H;rintro e w1 ⟨rfl,hF⟩ H;replace hF:=hF.kp;skip)
    go_wp2_with fail
    go_ret
    exact ⟨by rw [HV.out];rfl,H.fr⟩
  ·by_cases m2:mode=2
   ·subst m2
    cases neg
    ·have HV:=hid (HO.out.trans (congrArg (sgnF false) (if_neg (by decide))))
     go_enter Tryz.func236,Tryz.ntmps236
     go_wp2_with (refine x_q H ?_)
     (refine x_c H (signedF_any _ 9218868437227405312 false (by decide)) ?_;clear H;rintro e w1 ⟨rfl,hF⟩ H;replace hF:=hF.kp;skip)
     go_wp2_with fail
     go_ret
     exact ⟨by rw [HV.out];rfl,H.fr⟩
    ·have HV:=hid (HO.out.trans (congrArg (sgnF true) (if_pos (.inr (.inr ⟨rfl,rfl⟩)))))
     go_enter Tryz.func236,Tryz.ntmps236
     go_wp2_with (refine x_q H ?_)
     (refine x_c H (signedF_any _ 9218868437227405311 true (by decide)) ?_;clear H;rintro e w1 ⟨rfl,hF⟩ H;replace hF:=hF.kp;skip)
     go_wp2_with fail
     go_ret
     exact ⟨by rw [HV.out];rfl,H.fr⟩
   ·have HV:=hid (HO.out.trans (congrArg (sgnF neg) (if_neg (by rintro (h | ⟨h,_⟩ | ⟨h,_⟩);exact m3 h;exact m1 h;exact m2 h))))
    go_enter Tryz.func236,Tryz.ntmps236
    go_wp2_with (refine x_q H ?_)
    (refine x_c H (signedF_any _ 9218868437227405312 neg (by decide)) ?_;clear H;rintro e w1 ⟨rfl,hF⟩ H;replace hF:=hF.kp;skip)
    go_wp2_with fail
    go_ret
    exact ⟨by rw [HV.out];rfl,H.fr⟩
theorem pack_small {neg:Bool} {mode:Int} {k:Nat} {u:Int} (h:k<4503599627370496):packF neg mode k u=sgnF neg k:=by
 unfold packF
 have h1:¬ k=9007199254740992:=by omega
 simp only [if_neg h1,if_pos h]
theorem pack_big {neg:Bool} {mode:Int} {k:Nat} {u:Int} (h:4503599627370496≤k) (h1:k≠9007199254740992):packF neg mode k u=if 2047≤u+1075 then overF neg mode else sgnF neg ((u+1075).toNat*4503599627370496+(k - 4503599627370496)):=by
 unfold packF
 simp only [if_neg h1]
 rw [if_neg (by omega)]
theorem pack_full0 {neg:Bool} {mode:Int} {u:Int}:packF neg mode 9007199254740992 u=if 2047≤u+1+1075 then overF neg mode else sgnF neg ((u+1+1075).toNat*4503599627370496+0):=rfl
theorem pack_full {neg:Bool} {mode:Int} {u:Int}:packF neg mode 9007199254740992 u=if 2047≤u+1+1075 then overF neg mode else sgnF neg ((u+1+1075).toNat*4503599627370496):=by
 rw [pack_full0,Nat.add_zero]
section
variable {P:Program} {w:World} {a:Act} {o:Oper} {t t':TypeId} {x y:Operand}
theorem ev_l52Z {kk:IntKind} (ho:o.op= .binOp .shl t x (.const (.int kk 52)) t') {z:Int} (hx:a.eval x= .int .u64 z) (h0:0≤z:=by omega) (hm:z<2048:=by omega):(execOp a.eval o).run P w= .ok (.value (.int .u64 (z*4503599627370496))) w:=by
 obtain ⟨m,rfl⟩:=Int.eq_ofNat_of_zero_le h0
 have h:=ev_l52 (P:=P) (w:=w) ho hx (by omega)
 rw [h,Int.natCast_mul];rfl
theorem ev_o52Z (ho:o.op= .binOp .or t x y t') {z n:Int} (hx:a.eval x= .int .u64 (z*4503599627370496)) (hy:a.eval y= .int .u64 n) (h0:0≤z:=by omega) (hm:z<2048:=by omega) (hn0:0≤n:=by omega) (hn:n<4503599627370496:=by omega):(execOp a.eval o).run P w= .ok (.value (.int .u64 (z*4503599627370496+n))) w:=by
 obtain ⟨m,rfl⟩:=Int.eq_ofNat_of_zero_le h0
 obtain ⟨k,rfl⟩:=Int.eq_ofNat_of_zero_le hn0
 have h:=ev_o52 (P:=P) (w:=w) (m:=m) (n:=k) ho (by rw [hx,Int.natCast_mul];rfl) hy (by omega) (by omega)
 rw [h,Int.natCast_add,Int.natCast_mul];rfl
end
theorem signedZ_any (w:World) {z:Int} (f:Nat) (neg:Bool) (hz:z=(f:Int)) (hf:f<9223372036854775808):
 Calls Tryz.prog 235 #[.int .u64 z, .bool neg] w fun r w'=>r= .returned (.int .u64 (sgnF neg f:Nat))∧Fr [] w w':=by
 subst hz
 exact signedF_any w f neg hf
set_option maxHeartbeats 16000000 in
theorem rounded_any {w:World} {v:Value} {neg:Bool} {N D:Nat} {E:Int} (mode:Int) (h:Rl w v neg N D E) (hT:La w):
 Calls Tryz.prog 198 #[v, .int .i64 mode] w fun r w'=>r= .returned (.int .u64 (rndF neg mode N D E:Nat))∧Fr [] w w':=by
 obtain ⟨b,p,kk,c,n,m,ex,more,rfl,hB,hN,hD,hm,h0,hex,hmo,hmm,hbm,hx1,hx2⟩:=h
 obtain ⟨u,hu⟩:∃ u,max (ex+bl m - 1 - 52) (-1074)=u:=⟨_,rfl⟩
 obtain ⟨k,hk,hk2,hr,hks⟩:=rnd_of neg mode hN hD hm h0 hex hu hmm
 have hb0:=bl_pos h0
 have HA1:=hid hB
 have HT:=hid hT
 rw [← hmo] at hk
 have HK:=hid hk
 have HR:=hid hr
 have HU:=hid hu
 have hu1: -1074≤u∧ex+bl m - 53≤u∧(u= -1074∨u=ex+bl m - 53):=by omega
 have hE:ex<u∨more=false:=by
  rcases hmm with hz | hz
  ·right;rw [hmo,decide_eq_false (by rw [hz];simp)]
  ·left;omega
 clear hB hN hD hm hex hmo hmm hT hk hr hu
 rw [HR.out]
 clear HR
 have H:=Hp.start [] w
 go_enter Tryz.func198,Tryz.ntmps198
 go_wp2_with (first | refine x_q H ?_ | (revert H;refine x_g ?_;intro g w1 hg hf H;replace hf:=hf.kp))
 (refine x_c H (log2R_any (HA1.out.fr H.fr).ar (by omega) (by omega) ⟨hx1,hx2⟩) ?_;clear H;rintro e w1 ⟨rfl,hF⟩ H;replace hF:=hF.kp;skip)
 go_wp2_with (first | refine x_q H ?_ | refine x_e (ev_max (z:=u) rfl rfl rfl HU.out) ?_)
 by_cases hlt:ex<u
 ·have HK2:=hid ((if_pos hlt).symm.trans HK.out)
  (refine x_c H (multiple_any (u - ex).toNat (by omega) (HA1.out.fr H.fr).ar (by omega) h0 (by omega) (by omega) (by omega) (by omega) ⟨hx1,hx2⟩ (HT.out.fr H.fr)) ?_;clear H;rintro e w1 ⟨v3,rfl,hF,hB⟩ H;replace hF:=hF.kp;rw [HK2.out] at hB;obtain ⟨b3,p3,m3,c3,rfl⟩:=hB.form;have HB3:=hid hB;clear hB)
  have hbk2:bl k≤54:=bl_le (by omega)
  go_wp2_with fail
  (refine x_c H (abs_ar (bv HB3).ar (by omega)) ?_;clear H;rintro e w1 ⟨v4,rfl,hF,hB⟩ H;replace hF:=hF.kp;rw [sg_abs] at hB;obtain ⟨b4,p4,m4,c4,rfl⟩:=hB.form;have HB4:=hid hB;clear hB)
  go_wp2_with fail
  (refine x_c H (int_ar (bv HB4).ar (by omega) (by omega)) ?_;clear H;rintro e w1 ⟨rfl,hF⟩ H;replace hF:=hF.kp;skip)
  clear HK HK2
  by_cases hfu:k=9007199254740992
  ·subst hfu
   by_cases ho:2047≤u+1+1075
   ·have HV:Hid (packF neg mode 9007199254740992 u=overF neg mode):=hid (pack_full.trans (if_pos ho))
    go_wp2_with (refine x_q H ?_)
    (refine x_c H (overflow_any _ neg mode) ?_;clear H;rintro e w1 ⟨rfl,hF⟩ H;replace hF:=hF.kp;skip)
    go_wp2_with fail
    go_ret
    exact ⟨by rw [HV.out];rfl,H.fr⟩
   ·have HV:Hid (packF neg mode 9007199254740992 u=sgnF neg ((u+1+1075).toNat*4503599627370496)):=hid (pack_full.trans (if_neg ho))
    go_wp2_with (first | refine x_q H ?_ | refine x_e (ev_l52Z rfl rfl) ?_ | refine x_e (ev_o52Z rfl rfl rfl) ?_)
    (refine x_c H (signedZ_any _ ((u+1+1075).toNat*4503599627370496) neg (by omega) (by omega)) ?_;clear H;rintro e w1 ⟨rfl,hF⟩ H;replace hF:=hF.kp;skip)
    go_wp2_with fail
    go_ret
    exact ⟨by rw [HV.out];rfl,H.fr⟩
  ·by_cases hsm:k<4503599627370496
   ·have HV:Hid (packF neg mode k u=sgnF neg k):=hid (pack_small hsm)
    go_wp2_with (refine x_q H ?_)
    (refine x_c H (signedF_any _ k neg (by omega)) ?_;clear H;rintro e w1 ⟨rfl,hF⟩ H;replace hF:=hF.kp;skip)
    go_wp2_with fail
    go_ret
    exact ⟨by rw [HV.out];rfl,H.fr⟩
   ·by_cases ho:2047≤u+1075
    ·have HV:Hid (packF neg mode k u=overF neg mode):=hid ((pack_big (by omega) hfu).trans (if_pos ho))
     go_wp2_with (refine x_q H ?_)
     (refine x_c H (overflow_any _ neg mode) ?_;clear H;rintro e w1 ⟨rfl,hF⟩ H;replace hF:=hF.kp;skip)
     go_wp2_with fail
     go_ret
     exact ⟨by rw [HV.out];rfl,H.fr⟩
    ·have HV:Hid (packF neg mode k u=sgnF neg ((u+1075).toNat*4503599627370496+(k - 4503599627370496))):=hid ((pack_big (by omega) hfu).trans (if_neg ho))
     go_wp2_with (first | refine x_q H ?_ | refine x_e (ev_l52Z rfl rfl) ?_ | refine x_e (ev_o52Z rfl rfl rfl) ?_)
     (refine x_c H (signedZ_any _ ((u+1075).toNat*4503599627370496+(k - 4503599627370496)) neg (by omega) (by omega)) ?_;clear H;rintro e w1 ⟨rfl,hF⟩ H;replace hF:=hF.kp;skip)
     go_wp2_with fail
     go_ret
     exact ⟨by rw [HV.out];rfl,H.fr⟩
 ·obtain rfl:more=false:=by rcases hE with h | h;exact absurd h hlt;exact h
  have HK2:=hid ((if_neg hlt).symm.trans HK.out)
  have hbk:bl (m*2 ^ (ex - u).toNat)=bl m+(ex - u).toNat:=bl_mul_pow h0 _
  (refine x_c H (multipleE_any (ex - u).toNat (by omega) (HA1.out.fr H.fr).ar (by omega) (by omega) (by omega) (by omega) ⟨hx1,hx2⟩) ?_;clear H;rintro e w1 ⟨v3,rfl,hF,hB⟩ H;replace hF:=hF.kp;rw [HK2.out] at hB;obtain ⟨b3,p3,m3,c3,rfl⟩:=hB.form;have HB3:=hid hB;clear hB)
  have hbk2:bl k≤54:=bl_le (by omega)
  go_wp2_with fail
  (refine x_c H (abs_ar (bv HB3).ar (by omega)) ?_;clear H;rintro e w1 ⟨v4,rfl,hF,hB⟩ H;replace hF:=hF.kp;rw [sg_abs] at hB;obtain ⟨b4,p4,m4,c4,rfl⟩:=hB.form;have HB4:=hid hB;clear hB)
  go_wp2_with fail
  (refine x_c H (int_ar (bv HB4).ar (by omega) (by omega)) ?_;clear H;rintro e w1 ⟨rfl,hF⟩ H;replace hF:=hF.kp;skip)
  clear HK HK2
  by_cases hfu:k=9007199254740992
  ·subst hfu
   by_cases ho:2047≤u+1+1075
   ·have HV:Hid (packF neg mode 9007199254740992 u=overF neg mode):=hid (pack_full.trans (if_pos ho))
    go_wp2_with (refine x_q H ?_)
    (refine x_c H (overflow_any _ neg mode) ?_;clear H;rintro e w1 ⟨rfl,hF⟩ H;replace hF:=hF.kp;skip)
    go_wp2_with fail
    go_ret
    exact ⟨by rw [HV.out];rfl,H.fr⟩
   ·have HV:Hid (packF neg mode 9007199254740992 u=sgnF neg ((u+1+1075).toNat*4503599627370496)):=hid (pack_full.trans (if_neg ho))
    go_wp2_with (first | refine x_q H ?_ | refine x_e (ev_l52Z rfl rfl) ?_ | refine x_e (ev_o52Z rfl rfl rfl) ?_)
    (refine x_c H (signedZ_any _ ((u+1+1075).toNat*4503599627370496) neg (by omega) (by omega)) ?_;clear H;rintro e w1 ⟨rfl,hF⟩ H;replace hF:=hF.kp;skip)
    go_wp2_with fail
    go_ret
    exact ⟨by rw [HV.out];rfl,H.fr⟩
  ·by_cases hsm:k<4503599627370496
   ·have HV:Hid (packF neg mode k u=sgnF neg k):=hid (pack_small hsm)
    go_wp2_with (refine x_q H ?_)
    (refine x_c H (signedF_any _ k neg (by omega)) ?_;clear H;rintro e w1 ⟨rfl,hF⟩ H;replace hF:=hF.kp;skip)
    go_wp2_with fail
    go_ret
    exact ⟨by rw [HV.out];rfl,H.fr⟩
   ·by_cases ho:2047≤u+1075
    ·have HV:Hid (packF neg mode k u=overF neg mode):=hid ((pack_big (by omega) hfu).trans (if_pos ho))
     go_wp2_with (refine x_q H ?_)
     (refine x_c H (overflow_any _ neg mode) ?_;clear H;rintro e w1 ⟨rfl,hF⟩ H;replace hF:=hF.kp;skip)
     go_wp2_with fail
     go_ret
     exact ⟨by rw [HV.out];rfl,H.fr⟩
    ·have HV:Hid (packF neg mode k u=sgnF neg ((u+1075).toNat*4503599627370496+(k - 4503599627370496))):=hid ((pack_big (by omega) hfu).trans (if_neg ho))
     go_wp2_with (first | refine x_q H ?_ | refine x_e (ev_l52Z rfl rfl) ?_ | refine x_e (ev_o52Z rfl rfl rfl) ?_)
     (refine x_c H (signedZ_any _ ((u+1075).toNat*4503599627370496+(k - 4503599627370496)) neg (by omega) (by omega)) ?_;clear H;rintro e w1 ⟨rfl,hF⟩ H;replace hF:=hF.kp;skip)
     go_wp2_with fail
     go_ret
     exact ⟨by rw [HV.out];rfl,H.fr⟩
end Go.Proofs.YtoiebebjgnpkmaaGreatDoor
