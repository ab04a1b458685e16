import Derived.Test.YthbeeeclgbpopaaGreatDoorYHa1
import Derived.Test.YthbeeeclgbpopaaGreatDoorYEa4
import Derived.Deep.DeepCutAuto
import Derived.Deep.CutBlock
namespace Go.Proofs.YthbeeeclgbpopaaGreatDoor
open Go.RowKit
set_option linter.unusedSimpArgs false
set_option linter.unusedVariables false
set_option maxHeartbeats 16000000
set_option maxRecDepth 100000

theorem half_zero (m : Nat) (more : Bool) : half m 0 more = -1 := by unfold half; rw [if_pos (by simp; omega)]
theorem half_bits {m k : Nat} (more : Bool) (hk : 1 ≤ k) : half m k more = if m / 2 ^ (k - 1) % 2 = 1 then (if more = false ∧ m % 2 ^ (k - 1) = 0 then 0 else 1) else -1 := by
 have e : 2 ^ k = 2 ^ (k - 1) * 2 := by rw [← Nat.pow_succ]; congr 1; omega
 have hP := pow2_pos (k - 1)
 have h1 := Nat.mod_lt m hP
 unfold half
 rw [e, Nat.mod_mul]
 generalize 2 ^ (k - 1) = P at *
 by_cases h : m / P % 2 = 1
 ·rw [h, if_pos rfl, Nat.mul_one, if_neg (by omega)]
  by_cases hm : m % P = 0
  ·rw [hm, Nat.zero_add]
   simp
  ·rw [if_neg (fun h => by omega), if_neg (fun h => hm h.2)]
 ·have h2 : m / P % 2 = 0 := by omega
  rw [h2, if_neg (show ¬ (0 : Nat) = 1 by decide), Nat.mul_zero, Nat.add_zero, if_pos h1]
theorem rsign_z {w : World} {u : Value} {x : Int} {n : Nat} (h : Av w u x n) (hn : n ≤ 200000) (hx : x = 0) :
  Calls Tryz.prog 75 #[u] w fun e w' => e = .returned (.int .i64 0) ∧ Fr [] w w' := by
 subst hx
 exact rsign_ar h hn
theorem rsign_nz {w : World} {u : Value} {x : Int} {n : Nat} (h : Av w u x n) (hn : n ≤ 200000) (hx : x ≠ 0) :
  Calls Tryz.prog 75 #[u] w fun e w' => ∃ s : Int, e = .returned (.int .i64 s) ∧ s ≠ 0 ∧ Fr [] w w' :=
 Calls.mono (rsign_ar h hn) (fun e w' hb => ⟨_, hb.1, fun h0 => hx (Int.sign_eq_zero_iff_zero.1 h0), hb.2⟩)
theorem rup_any (w : World) {neg od R : Bool} {mode h hv : Int} (hh : hv = h) (hr : Hid (rup neg mode hv od = R)) :
  Calls Tryz.prog 224 #[.bool neg, .int .i64 h, .bool od, .int .i64 mode] w fun r w' => r = .returned (.bool R) ∧ Fr [] w w' := by
 subst hh
 have H := Hp.start [] w
 by_cases m1 : mode = 1
 ·subst m1
  have HR : Hid (neg = R) := hid (by rw [← hr.out]; rfl)
  clear hr
  go_enter Tryz.func224, Tryz.ntmps224
  go_wp2_with (refine x_q H ?_)
  go_ret
  exact ⟨by rw [HR.out]; rfl, H.fr⟩
 ·by_cases m2 : mode = 2
  ·subst m2
   have HR : Hid ((!neg) = R) := hid (by rw [← hr.out]; rfl)
   clear hr
   go_enter Tryz.func224, Tryz.ntmps224
   go_wp2_with (refine x_q H ?_)
   go_ret
   exact ⟨by rw [HR.out]; rfl, H.fr⟩
  ·by_cases m3 : mode = 3
   ·subst m3
    have HR : Hid (false = R) := hid (by rw [← hr.out]; rfl)
    clear hr
    go_enter Tryz.func224, Tryz.ntmps224
    go_wp2_with (refine x_q H ?_)
    go_ret
    exact ⟨by rw [HR.out]; rfl, H.fr⟩
   ·have hr2 := hr.out
    rw [rupN m1 m2 m3] at hr2
    clear hr
    rcases Int.lt_trichotomy hv 0 with h0 | h0 | h0
    ·have HR : Hid (false = R) := hid (by rw [← hr2, decide_eq_false (by omega), decide_eq_false (by omega)]; rfl)
     clear hr2
     go_enter Tryz.func224, Tryz.ntmps224
     go_wp2_with (refine x_q H ?_)
     go_ret
     exact ⟨by rw [HR.out]; rfl, H.fr⟩
    ·subst h0
     have HR : Hid (od = R) := hid (by rw [← hr2]; simp)
     clear hr2
     go_enter Tryz.func224, Tryz.ntmps224
     go_wp2_with (refine x_q H ?_)
     go_ret
     exact ⟨by rw [HR.out]; rfl, H.fr⟩
    ·have HR : Hid (true = R) := hid (by rw [← hr2, decide_eq_true h0]; rfl)
     clear hr2
     go_enter Tryz.func224, Tryz.ntmps224
     go_wp2_with (refine x_q H ?_)
     go_ret
     exact ⟨by rw [HR.out]; rfl, H.fr⟩
theorem rlost_any {w : World} {u : Value} {m : Nat} {z : Int} {n : Nat} (k : Nat) (hz : z = (k : Int)) (h : Av w u (m : Int) n) (hn : n ≤ 100000) (hk : k ≤ 1048576) {lo : Bool} (hlo : Hid (decide (m % 2 ^ k ≠ 0) = lo)) :
  Calls Tryz.prog 223 #[u, .int .i64 z] w fun e w' => e = .returned (.bool lo) ∧ Fr [] w w' := by
 subst hz
 obtain ⟨neg, l, p, c, rfl, hL, hzv, hln⟩ := h
 have hA : val l = m := by have := congrArg Int.natAbs hzv; rw [zv_abs] at this; simpa using this
 have hdl := digs_len_le hL.lim
 rw [hA] at hdl
 have HL := hid hL
 have HA := hid hA
 clear hL hA hzv
 have H := Hp.start [] w
 go_enter Tryz.func223, Tryz.ntmps223
 go_wp2_with (first | refine x_q H ?_ | (revert H; refine x_g ?_; intro g w1 hg hf H; replace hf := hf.kp))
 (refine x_c H (rtrim_v l rfl (by omega) HA (lr HL)) ?_; clear H; rintro e w1 ⟨p3, c3, rfl, hF, hL3⟩ H; replace hF := hF.kp; have HL3 := hid hL3; clear hL3)
 go_wp2_with fail
 (refine x_c H (rshr_any (digs m) k rfl (by omega) (by omega) (lr HL3)) ?_; clear H; rintro e w1 ⟨p5, c5, o, rfl, hF, hL5, hol, hvo⟩ H; replace hF := hF.kp; clear hL5 hvo; rw [val_digs, hlo.out])
 go_wp2_with fail
 go_ret
 exact ⟨rfl, H.fr⟩
theorem rcut_any {w : World} {neg more : Bool} {u : Value} {m n : Nat} {z mode : Int} (k : Nat) (hz : z = (k : Int)) (h : Av w u (m : Int) n) (hn : n ≤ 100000) (hk : k ≤ 1000000) (hb : bl m ≤ 100000) (hT : La w) {X : Nat} (hX : Hid (mcut neg mode m k more = X)) :
  Calls Tryz.prog 202 #[.bool neg, u, .int .i64 z, .bool more, .int .i64 mode] w fun r w' => ∃ v1, r = .returned v1 ∧ Fr [] w w' ∧ Bv w' v1 (X : Int) (bl (X : Int).natAbs) := by
 subst hz
 obtain ⟨b1, p1, m1, c1, rfl⟩ := h.form
 have HA1 := hid h
 have HT := hid hT
 obtain ⟨N, hN⟩ : ∃ N, m / 2 ^ k = N := ⟨_, rfl⟩
 have hbN : bl N ≤ bl m := by rw [← hN]; exact bl_mono (Nat.div_le_self _ _)
 obtain ⟨lost, hlo⟩ : ∃ l, decide (m % 2 ^ k ≠ 0) = l := ⟨_, rfl⟩
 have hX1 := hX.out
 unfold mcut at hX1
 obtain ⟨hv, hhv⟩ : ∃ v, half m k more = v := ⟨_, rfl⟩
 obtain ⟨od, hod⟩ : ∃ v, (N % 2 == 1) = v := ⟨_, rfl⟩
 obtain ⟨R, hR⟩ : ∃ v, rup neg mode hv od = v := ⟨_, rfl⟩
 rw [hN, hhv, hod, hR] at hX1
 have HN := hid hN
 have HLO := hid hlo
 have HR := hid hR
 have HOD := hid hod
 have HHV := hid hhv
 have H0 := hid (show (m % 2 ^ k = 0 ∧ more = false) ↔ (lost = false ∧ more = false) by rw [← hlo]; simp)
 have HXX := hid hX1
 clear h hT hN hlo hX1 hX hhv hod hR
 have H := Hp.start [] w
 go_enter Tryz.func202, Tryz.ntmps202
 go_wp2_with (first | refine x_q H ?_ | (revert H; refine x_g ?_; intro g w1 hg hf H; replace hf := hf.kp))
 (refine x_c H (rdown_any k rfl (av HA1) hn (by omega)) ?_; clear H; rintro e w1 ⟨v3, rfl, hF, hB⟩ H; replace hF := hF.kp; rw [HN.out] at hB; obtain ⟨b3, p3, m3, c3, rfl⟩ := hB.form; have HB3 := hid hB; clear hB)
 go_wp2_with (first | refine x_q H ?_ | (revert H; refine xSF ?_; intro w1 H hk) | (revert H; refine x_g ?_; intro g w1 hg hf H; replace hf := hf.kp))
 (refine x_c H (rlost_any k rfl (av HA1) hn (by omega) HLO) ?_; clear H; rintro e w1 ⟨rfl, hF⟩ H; replace hF := hF.kp)
 go_upto_region 3 with (first | refine x_q H ?_ | refine x_cm (fun h => ?_) (fun h => ?_) | (revert H; (first | (refine x_g ?_; intro g w1 hg hf H) | (refine x_s ?_; intro w1 hf H)); (first | replace hf := hf.kp | clear hf)))
 go_cut [6, 10, 11, 27] (fun s6 s10 s11 s27 wx => ∃ g1 g2 g3 : Nat, s6 = .pointer (some ⟨g1, 0, none⟩) ∧ s10 = .pointer (some ⟨g2, 0, none⟩) ∧ s11 = .pointer (some ⟨g3, 0, none⟩) ∧ s27 = .bool (!lost && !more) ∧ Hp [] w wx [.blk g3 [.bool b3, .slice p3 m3 c3] 50, .blk g2 [.bool false, .slice none 0 0] 50, .blk g1 [.bool b1, .slice p1 m1 c1] 50] ∧ Hid (Bv wx (.agg #[.bool b3, .slice p3 m3 c3]) (N : Int) (bl N)))
 case first =>
  cases lost <;> cases more
  all_goals
   go_wp2_with fail
   go_meet
   case rel => exact ⟨_, _, _, rfl, rfl, rfl, rfl, by (refine Hp.arr H ?_; repeat (first | exact Pm.nil _ | (apply Pm.cons; · (repeat first | exact Rm.here _ | apply Rm.there)))), hid (bv HB3)⟩
 case rest =>
  clear H HB3
  obtain ⟨g1, g2, g3, rfl, rfl, rfl, rfl, H, HB3⟩ := hcut
  by_cases hex : lost = false ∧ more = false
  ·have HX3 : Hid (N = X) := hid (by have := HXX.out; rwa [if_pos (H0.out.2 hex)] at this)
   obtain ⟨rfl, rfl⟩ := hex
   go_wp2_with (first | refine x_q H ?_ | (revert H; refine xSF ?_; intro w1 H hk))
   refine c_post H rfl rfl rfl ?_
   exact ⟨_, rfl, H.fr, by rw [← HX3.out]; exact (bv HB3).c⟩
  ·have HX3 : Hid ((if R = true then N + 1 else N) = X) := hid (by have := HXX.out; rwa [if_neg (fun h => hex (H0.out.1 h))] at this)
   rw [show (!lost && !more) = false by cases lost <;> cases more <;> first | rfl | exact absurd ⟨rfl, rfl⟩ hex]
   clear HXX H0
   obtain ⟨kp, hkp⟩ : ∃ v, decide ((k : Int) > 0) = v := ⟨_, rfl⟩
   have HKP := hid hkp
   clear hkp
   go_upto_region 6 with (first | refine x_q H ?_ | refine x_cm (fun h => ?_) (fun h => ?_) | (revert H; (first | (refine x_g ?_; intro g w1 hg hf H) | (refine x_s ?_; intro w1 hf H)); (first | replace hf := hf.kp | clear hf)))
   go_cut [30] (fun s30 wx => s30 = .bool kp ∧ Hp [] w wx [.blk g3 [.bool b3, .slice p3 m3 c3] 50, .blk g2 [.bool false, .slice none 0 0] 50, .blk g1 [.bool b1, .slice p1 m1 c1] 50] ∧ Hid (Bv wx (.agg #[.bool b3, .slice p3 m3 c3]) (N : Int) (bl N)))
   case first =>
    by_cases k0 : k = 0
    ·obtain rfl : kp = false := by rw [← HKP.out, k0]; rfl
     clear HKP
     subst k0
     go_wp2_with (refine x_q H ?_)
     go_meet
     case rel => exact ⟨rfl, by (refine Hp.arr H ?_; repeat (first | exact Pm.nil _ | (apply Pm.cons; · (repeat first | exact Rm.here _ | apply Rm.there)))), hid (bv HB3)⟩
    ·obtain rfl : kp = true := by rw [← HKP.out]; exact decide_eq_true (by omega)
     clear HKP
     go_wp2_with (refine x_q H ?_)
     go_meet
     case rel => exact ⟨rfl, by (refine Hp.arr H ?_; repeat (first | exact Pm.nil _ | (apply Pm.cons; · (repeat first | exact Rm.here _ | apply Rm.there)))), hid (bv HB3)⟩
   case rest =>
    clear H HB3
    obtain ⟨rfl, H, HB3⟩ := hcut
    go_upto_if 30 with fail
    go_cut [13] (fun s13 wx => s13 = .int .i64 hv ∧ Hp [] w wx [.blk g3 [.bool b3, .slice p3 m3 c3] 50, .blk g2 [.bool false, .slice none 0 0] 50, .blk g1 [.bool b1, .slice p1 m1 c1] 50] ∧ Hid (Bv wx (.agg #[.bool b3, .slice p3 m3 c3]) (N : Int) (bl N)))
    case first =>
     by_cases k0 : k = 0
     ·subst k0
      have hm0 : more = true := by
       have hl0 : lost = false := by rw [← HLO.out]; exact decide_eq_false (by rw [Nat.pow_zero]; omega)
       cases more
       ·exact absurd ⟨hl0, rfl⟩ hex
       ·rfl
      have HV : Hid (hv = -1) := hid (by rw [← HHV.out]; exact half_zero m more)
      obtain rfl : kp = false := by rw [← HKP.out]; rfl
      clear HHV hex hm0
      go_wp2_with fail
      go_meet
      case rel => exact ⟨by rw [HV.out], by (refine Hp.arr H ?_; repeat (first | exact Pm.nil _ | (apply Pm.cons; · (repeat first | exact Rm.here _ | apply Rm.there)))), hid (bv HB3)⟩
     ·obtain rfl : kp = true := by rw [← HKP.out]; exact decide_eq_true (by omega)
      have hk1 : 1 ≤ k := by omega
      have hhb := half_bits (m := m) more hk1
      rw [HHV.out] at hhb
      obtain ⟨B, hB⟩ : ∃ B, m / 2 ^ (k - 1) = B := ⟨_, rfl⟩
      obtain ⟨l2, hl2⟩ : ∃ l, decide (m % 2 ^ (k - 1) ≠ 0) = l := ⟨_, rfl⟩
      have hbB : bl B ≤ bl m := by rw [← hB]; exact bl_mono (Nat.div_le_self _ _)
      rw [hB] at hhb
      have hC : (B % 2 = 1 ∧ more = false ∧ l2 = false ∧ hv = 0) ∨ (B % 2 = 1 ∧ more = false ∧ l2 = true ∧ hv = 1) ∨ (B % 2 = 1 ∧ more = true ∧ hv = 1) ∨ (B = 0 ∧ hv = -1) ∨ (B ≠ 0 ∧ B % 2 ≠ 1 ∧ hv = -1) := by
       by_cases b1 : B % 2 = 1
       ·rw [if_pos b1] at hhb
        cases more
        ·by_cases hm : m % 2 ^ (k - 1) = 0
         ·exact .inl ⟨b1, rfl, by rw [← hl2]; simp [hm], by rw [hhb, if_pos ⟨rfl, hm⟩]⟩
         ·exact .inr (.inl ⟨b1, rfl, by rw [← hl2]; simp [hm], by rw [hhb, if_neg (fun h => hm h.2)]⟩)
        ·exact .inr (.inr (.inl ⟨b1, rfl, by rw [hhb, if_neg (fun h => by cases h.1)]⟩))
       ·rw [if_neg b1] at hhb
        by_cases b0 : B = 0
        ·exact .inr (.inr (.inr (.inl ⟨b0, hhb⟩)))
        ·exact .inr (.inr (.inr (.inr ⟨b0, b1, hhb⟩)))
      have HBB := hid hB
      have HL2 := hid hl2
      have HC := hid hC
      clear hB hhb HHV k0 hC hl2 hex
      go_wp2_with (refine x_q H ?_)
      (refine x_c H (rdown_any (k - 1) (by omega) (HA1.out.fr H.fr) hn (by omega)) ?_; clear H; rintro e w1 ⟨v4, rfl, hF, hB⟩ H; replace hF := hF.kp; rw [HBB.out] at hB; obtain ⟨b4, p4, m4, c4, rfl⟩ := hB.form; have HB4 := hid hB; clear hB)
      go_wp2_with (first | refine x_q H ?_ | (revert H; refine xSF ?_; intro w1 H hk) | (revert H; refine x_g ?_; intro g w1 hg hf H; replace hf := hf.kp))
      rcases HC.out with ⟨b1, hm, hl, hV⟩ | ⟨b1, hm, hl, hV⟩ | ⟨b1, hm, hV⟩ | ⟨b0, hV⟩ | ⟨b0, b1, hV⟩
      ·clear HC
       subst hm hl
       have HV := hid hV
       clear hV
       have HZ := hid (tz_odd b1)
       have HB0 := hid (show (B : Int) ≠ 0 by omega)
       clear b1
       (refine x_c H (rTrailing_ar (bv HB4).ar (by omega) (HT.out.fr H.fr).1) ?_; clear H; rintro e w1 ⟨rfl, hF⟩ H; replace hF := hF.kp; rw [Int.natAbs_natCast, HZ.out])
       go_wp2_with (refine x_q H ?_)
       (refine x_c H (rsign_nz (bv HB4).ar (by omega) HB0.out) ?_; clear H; rintro e w1 ⟨s4, rfl, hs4, hF⟩ H; replace hF := hF.kp)
       go_wp2_with (refine x_q H ?_)
       (refine x_c H (rlost_any (k - 1) (by omega) (HA1.out.fr H.fr) hn (by omega) HL2) ?_; clear H; rintro e w1 ⟨rfl, hF⟩ H; replace hF := hF.kp)
       go_wp2_with fail
       go_meet
       case rel => exact ⟨by rw [HV.out], by (refine Hp.arr H ?_; repeat (first | exact Pm.nil _ | (apply Pm.cons; · (repeat first | exact Rm.here _ | apply Rm.there)))), hid (bv HB3)⟩
      ·clear HC
       subst hm hl
       have HV := hid hV
       clear hV
       have HZ := hid (tz_odd b1)
       have HB0 := hid (show (B : Int) ≠ 0 by omega)
       clear b1
       (refine x_c H (rTrailing_ar (bv HB4).ar (by omega) (HT.out.fr H.fr).1) ?_; clear H; rintro e w1 ⟨rfl, hF⟩ H; replace hF := hF.kp; rw [Int.natAbs_natCast, HZ.out])
       go_wp2_with (refine x_q H ?_)
       (refine x_c H (rsign_nz (bv HB4).ar (by omega) HB0.out) ?_; clear H; rintro e w1 ⟨s4, rfl, hs4, hF⟩ H; replace hF := hF.kp)
       go_wp2_with (refine x_q H ?_)
       (refine x_c H (rlost_any (k - 1) (by omega) (HA1.out.fr H.fr) hn (by omega) HL2) ?_; clear H; rintro e w1 ⟨rfl, hF⟩ H; replace hF := hF.kp)
       go_wp2_with fail
       go_meet
       case rel => exact ⟨by rw [HV.out], by (refine Hp.arr H ?_; repeat (first | exact Pm.nil _ | (apply Pm.cons; · (repeat first | exact Rm.here _ | apply Rm.there)))), hid (bv HB3)⟩
      ·clear HC
       subst hm
       have HV := hid hV
       clear hV
       have HZ := hid (tz_odd b1)
       have HB0 := hid (show (B : Int) ≠ 0 by omega)
       clear b1
       (refine x_c H (rTrailing_ar (bv HB4).ar (by omega) (HT.out.fr H.fr).1) ?_; clear H; rintro e w1 ⟨rfl, hF⟩ H; replace hF := hF.kp; rw [Int.natAbs_natCast, HZ.out])
       go_wp2_with (refine x_q H ?_)
       (refine x_c H (rsign_nz (bv HB4).ar (by omega) HB0.out) ?_; clear H; rintro e w1 ⟨s4, rfl, hs4, hF⟩ H; replace hF := hF.kp)
       go_wp2_with (refine x_q H ?_)
       go_wp2_with fail
       go_meet
       case rel => exact ⟨by rw [HV.out], by (refine Hp.arr H ?_; repeat (first | exact Pm.nil _ | (apply Pm.cons; · (repeat first | exact Rm.here _ | apply Rm.there)))), hid (bv HB3)⟩
      ·clear HC
       have HV := hid hV
       have HB0 := hid (show (B : Int) = 0 by omega)
       have HZ : Hid (tz B = 0) := hid (by rw [b0]; exact tz_zero)
       clear b0 hV
       (refine x_c H (rTrailing_ar (bv HB4).ar (by omega) (HT.out.fr H.fr).1) ?_; clear H; rintro e w1 ⟨rfl, hF⟩ H; replace hF := hF.kp; rw [Int.natAbs_natCast, HZ.out])
       go_wp2_with (refine x_q H ?_)
       (refine x_c H (rsign_z (bv HB4).ar (by omega) HB0.out) ?_; clear H; rintro e w1 ⟨rfl, hF⟩ H; replace hF := hF.kp)
       go_wp2_with (refine x_q H ?_)
       go_meet
       case rel => exact ⟨by rw [HV.out], by (refine Hp.arr H ?_; repeat (first | exact Pm.nil _ | (apply Pm.cons; · (repeat first | exact Rm.here _ | apply Rm.there)))), hid (bv HB3)⟩
      ·clear HC
       have HV := hid hV
       obtain ⟨j, hj⟩ := tz_pos b0 b1
       have HZ := hid hj
       clear b0 b1 hj hV
       (refine x_c H (rTrailing_ar (bv HB4).ar (by omega) (HT.out.fr H.fr).1) ?_; clear H; rintro e w1 ⟨rfl, hF⟩ H; replace hF := hF.kp; rw [Int.natAbs_natCast, HZ.out])
       go_wp2_with (refine x_q H ?_)
       go_meet
       case rel => exact ⟨by rw [HV.out], by (refine Hp.arr H ?_; repeat (first | exact Pm.nil _ | (apply Pm.cons; · (repeat first | exact Rm.here _ | apply Rm.there)))), hid (bv HB3)⟩
    case rest =>
     clear H HB3
     obtain ⟨rfl, H, HB3⟩ := hcut
     go_wp2_with (refine x_q H ?_)
     cases od
     ·by_cases n0 : N = 0
      ·have HN0 := hid (show (N : Int) = 0 by omega)
       clear n0
       (refine x_c H (rsign_z (bv HB3).ar (by omega) HN0.out) ?_; clear H; rintro e w1 ⟨rfl, hF⟩ H; replace hF := hF.kp)
       go_wp2_with (refine x_q H ?_)
       (refine x_c H (rup_any _ rfl HR) ?_; clear H; rintro e w1 ⟨rfl, hF⟩ H; replace hF := hF.kp)
       cases R
       ·have HX4 : Hid (N = X) := hid (by have := HX3.out; simpa using this)
        go_wp2_with (first | refine x_q H ?_ | (revert H; refine xSF ?_; intro w1 H hk))
        refine c_post H rfl rfl rfl ?_
        exact ⟨_, rfl, H.fr, by rw [← HX4.out]; exact (bv HB3).c⟩
       ·have HX4 : Hid (N + 1 = X) := hid (by have := HX3.out; simpa using this)
        go_wp2_with fail
        (revert H; refine w_pF 3 (.st 0 (.ld 1 (.ld 2 (.ld 3 .done)))) ?_; intro w1 hf H; (first | replace hf := hf.kp | clear hf))
        (refine p_l ?_)
        ((refine p_c H rfl rfl Tryz.func67 (rfromInt_ar _ 1 (by simp only [inr]; omega)) ?_; clear H; rintro e w1 ⟨v8, rfl, hF, hB⟩ H; refine p_r ?_; replace hF := hF.kp); obtain ⟨b8, p8, m8, c8, rfl⟩ := hB.form; have HB8 := hid hB; clear hB)
        ((refine p_c H rfl rfl Tryz.func66 (radd_ar (bv HB3).ar (bv HB8).ar (by omega) (by omega)) ?_; clear H; rintro e w1 ⟨v9, rfl, hF, hB⟩ H; refine p_r ?_; replace hF := hF.kp); rw [show (N : Int) + 1 = ((N + 1 : Nat) : Int) from rfl, HX4.out] at hB; obtain ⟨b9, p9, m9, c9, rfl⟩ := hB.form; have HB9 := hid hB; clear hB)
        (revert H; refine pSF ?_; intro w1 H hk)
        (refine pl_done ?_)
        all_goals
         go_wp2_with (first | refine x_q H ?_ | (revert H; refine xSF ?_; intro w1 H hk))
         refine c_post H rfl rfl rfl ?_
         exact ⟨_, rfl, H.fr, (bv HB9).c⟩
      ·have HN0 := hid (show (N : Int) ≠ 0 by omega)
       obtain ⟨j, hj⟩ := tz_pos n0 (by have := HOD.out; simpa using this)
       have HZ := hid hj
       clear n0 hj
       (refine x_c H (rsign_nz (bv HB3).ar (by omega) HN0.out) ?_; clear H; rintro e w1 ⟨s5, rfl, hs5, hF⟩ H; replace hF := hF.kp)
       go_wp2_with (refine x_q H ?_)
       (refine x_c H (rTrailing_ar (bv HB3).ar (by omega) (HT.out.fr H.fr).1) ?_; clear H; rintro e w1 ⟨rfl, hF⟩ H; replace hF := hF.kp; rw [Int.natAbs_natCast, HZ.out])
       go_wp2_with (refine x_q H ?_)
       (refine x_c H (rup_any _ rfl HR) ?_; clear H; rintro e w1 ⟨rfl, hF⟩ H; replace hF := hF.kp)
       cases R
       ·have HX4 : Hid (N = X) := hid (by have := HX3.out; simpa using this)
        go_wp2_with (first | refine x_q H ?_ | (revert H; refine xSF ?_; intro w1 H hk))
        refine c_post H rfl rfl rfl ?_
        exact ⟨_, rfl, H.fr, by rw [← HX4.out]; exact (bv HB3).c⟩
       ·have HX4 : Hid (N + 1 = X) := hid (by have := HX3.out; simpa using this)
        go_wp2_with fail
        (revert H; refine w_pF 3 (.st 0 (.ld 1 (.ld 2 (.ld 3 .done)))) ?_; intro w1 hf H; (first | replace hf := hf.kp | clear hf))
        (refine p_l ?_)
        ((refine p_c H rfl rfl Tryz.func67 (rfromInt_ar _ 1 (by simp only [inr]; omega)) ?_; clear H; rintro e w1 ⟨v8, rfl, hF, hB⟩ H; refine p_r ?_; replace hF := hF.kp); obtain ⟨b8, p8, m8, c8, rfl⟩ := hB.form; have HB8 := hid hB; clear hB)
        ((refine p_c H rfl rfl Tryz.func66 (radd_ar (bv HB3).ar (bv HB8).ar (by omega) (by omega)) ?_; clear H; rintro e w1 ⟨v9, rfl, hF, hB⟩ H; refine p_r ?_; replace hF := hF.kp); rw [show (N : Int) + 1 = ((N + 1 : Nat) : Int) from rfl, HX4.out] at hB; obtain ⟨b9, p9, m9, c9, rfl⟩ := hB.form; have HB9 := hid hB; clear hB)
        (revert H; refine pSF ?_; intro w1 H hk)
        (refine pl_done ?_)
        all_goals
         go_wp2_with (first | refine x_q H ?_ | (revert H; refine xSF ?_; intro w1 H hk))
         refine c_post H rfl rfl rfl ?_
         exact ⟨_, rfl, H.fr, (bv HB9).c⟩
     ·have n1 : N % 2 = 1 := by have := HOD.out; simpa using this
      have HN0 := hid (show (N : Int) ≠ 0 by omega)
      have HZ := hid (tz_odd n1)
      clear n1
      (refine x_c H (rsign_nz (bv HB3).ar (by omega) HN0.out) ?_; clear H; rintro e w1 ⟨s5, rfl, hs5, hF⟩ H; replace hF := hF.kp)
      go_wp2_with (refine x_q H ?_)
      (refine x_c H (rTrailing_ar (bv HB3).ar (by omega) (HT.out.fr H.fr).1) ?_; clear H; rintro e w1 ⟨rfl, hF⟩ H; replace hF := hF.kp; rw [Int.natAbs_natCast, HZ.out])
      go_wp2_with (refine x_q H ?_)
      (refine x_c H (rup_any _ rfl HR) ?_; clear H; rintro e w1 ⟨rfl, hF⟩ H; replace hF := hF.kp)
      cases R
      ·have HX4 : Hid (N = X) := hid (by have := HX3.out; simpa using this)
       go_wp2_with (first | refine x_q H ?_ | (revert H; refine xSF ?_; intro w1 H hk))
       refine c_post H rfl rfl rfl ?_
       exact ⟨_, rfl, H.fr, by rw [← HX4.out]; exact (bv HB3).c⟩
      ·have HX4 : Hid (N + 1 = X) := hid (by have := HX3.out; simpa using this)
       go_wp2_with fail
       (revert H; refine w_pF 3 (.st 0 (.ld 1 (.ld 2 (.ld 3 .done)))) ?_; intro w1 hf H; (first | replace hf := hf.kp | clear hf))
       (refine p_l ?_)
       ((refine p_c H rfl rfl Tryz.func67 (rfromInt_ar _ 1 (by simp only [inr]; omega)) ?_; clear H; rintro e w1 ⟨v8, rfl, hF, hB⟩ H; refine p_r ?_; replace hF := hF.kp); obtain ⟨b8, p8, m8, c8, rfl⟩ := hB.form; have HB8 := hid hB; clear hB)
       ((refine p_c H rfl rfl Tryz.func66 (radd_ar (bv HB3).ar (bv HB8).ar (by omega) (by omega)) ?_; clear H; rintro e w1 ⟨v9, rfl, hF, hB⟩ H; refine p_r ?_; replace hF := hF.kp); rw [show (N : Int) + 1 = ((N + 1 : Nat) : Int) from rfl, HX4.out] at hB; obtain ⟨b9, p9, m9, c9, rfl⟩ := hB.form; have HB9 := hid hB; clear hB)
       (revert H; refine pSF ?_; intro w1 H hk)
       (refine pl_done ?_)
       all_goals
        go_wp2_with (first | refine x_q H ?_ | (revert H; refine xSF ?_; intro w1 H hk))
        refine c_post H rfl rfl rfl ?_
        exact ⟨_, rfl, H.fr, (bv HB9).c⟩
end Go.Proofs.YthbeeeclgbpopaaGreatDoor
