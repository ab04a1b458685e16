import Derived.Test.YthbeeeclgbpopaaGreatDoorYHp
import Derived.Test.YthbeeeclgbpopaaGreatDoorYIz6
import Derived.Test.YthbeeeclgbpopaaGreatDoorYIw32
import Derived.Test.YthbeeeclgbpopaaGreatDoorYHa2
import Derived.Test.YthbeeeclgbpopaaGreatDoorYEa6
namespace Go.Proofs.YthbeeeclgbpopaaGreatDoor
open Go.RowKit
set_option linter.unusedSimpArgs false
set_option linter.unusedVariables false
set_option maxHeartbeats 8000000
set_option maxRecDepth 100000
theorem intV_in {z : Int} (h : -9223372036854775808 ≤ z ∧ z ≤ 9223372036854775807) : intV z = .tuple #[.int .i64 z, .bool true] := by rw [intV, if_pos h]
theorem intV_out {z : Int} (h : ¬ (-9223372036854775808 ≤ z ∧ z ≤ 9223372036854775807)) : intV z = .tuple #[.int .i64 0, .bool false] := by rw [intV, if_neg h]
theorem rint_ar {w : World} {v : Value} {x : Int} {n : Nat} (h : Av w v x n) (hn : n ≤ 200000) :
  Calls Tryz.prog 203 #[v] w fun e w' => e = .returned (intV x) ∧ Fr [] w w' := by
 obtain ⟨b1, p1, m1, c1, rfl⟩ := h.form
 have HA1 := hid h
 clear h
 have H := Hp.start [] w
 go_enter Tryz.func203, Tryz.ntmps203
 go_wp2_with (first | refine x_q H ?_ | (revert H; refine x_g ?_; intro g w1 hg hf H; replace hf := hf.kp))
 (refine x_c H (rnorm_ar (av HA1) (by omega)) ?_; clear H; rintro e w1 ⟨v3, rfl, hF, hB⟩ H; replace hF := hF.kp)
 obtain ⟨b3, p3, m3, c3, rfl⟩ := hB.form
 obtain ⟨hL3, hl3, hb3, hmn3⟩ := hB.parts
 have HX : Hid (x = sg b3 x.natAbs) := hid (by rw [← hb3, sg_canon])
 have HN : Hid (b3 = true → x < 0) := hid (fun e => of_decide_eq_true (by rw [hb3]; exact e))
 have HL3 := hid hL3
 obtain ⟨A, hA⟩ : ∃ A, x.natAbs = A := ⟨_, rfl⟩
 rw [hA] at HL3 hl3 HX
 clear hL3 hb3 hB hA
 by_cases h2 : 2 < m3
 ·have hr := hid (two_ge (by rw [hl3]; exact h2))
  clear hl3
  go_wp2_with (first | refine x_q H ?_ | (revert H; refine xSB ?_; intro w1 H hk))
  ((try simp only [Exit.inBlock, Exit.then]); refine bodyPost_ret (results_tmp2 rfl _ _ _) rfl ?_)
  refine ⟨?_, H.fr⟩
  rw [intV_out (by rw [HX.out]; have := hr.out; unfold sg; cases b3 <;> simp <;> omega)]
  rfl
 ·have hA64 := two_lt (digs_lim A) (by omega)
  rw [val_digs] at hA64
  have Hl3 := hid hl3
  clear hl3
  go_wp2_with (first | refine x_q H ?_ | (revert H; refine xSB ?_; intro w1 H hk))
  have HL := hid (lr HL3)
  have Hf0 := hid H.fr
  have hg1 := H.at g
  have HG := (Hp.start [] w1).pushRng (b := g) (off := 0) (cs := [.bool b3, .slice p3 m3 c3]) (lt_of_get hg1) (by simp) (fun j u hj => by rw [Nat.zero_add]; exact H.cell hj)
  clear H hg1 HL3
  have H := HG
  clear HG
  go_loopw [4, 5] (fun s4 s5 wr => ∃ i u : Nat, i ≤ m3 ∧ s5 = .int .i64 (i : Int) ∧ s4 = .int .u64 (u : Int) ∧ Hid (u = val ((digs A).take i)) ∧ Hp [] w1 wr [.rng g 0 [.bool b3, .slice p3 m3 c3]]) (fun _ v _ => m3 - (intOf v).toNat)
  case atStart => exact ⟨0, 0, Nat.zero_le _, rfl, rfl, hid rfl, H⟩
  case round =>
   clear H
   obtain ⟨i, u, hi, rfl, rfl, Hu, H⟩ := hrel
   by_cases hin : i < m3
   ·obtain ⟨x', hx⟩ : ∃ x', (digs A)[i]? = some x' := ⟨_, List.getElem?_eq_getElem (by rw [Hl3.out]; exact hin)⟩
    have hxv := limbs_at hx
    have hxB := (digs_lim A).at hx
    obtain ⟨b0, off, rfl, hb0, hcell⟩ := HL.out.rd.rng (limbs_ne (i := i) (by rw [Hl3.out]; exact hin))
    have H1 := H.pushRng (b := b0) (off := off) hb0 (by simp) hcell
    clear H hcell
    have H := H1
    clear H1
    have hi1 : i ≤ 1 := by omega
    obtain ⟨z, hz⟩ : ∃ z, x' * 4294967296 ^ i = z := ⟨_, rfl⟩
    have hsum : Hid (val ((digs A).take (i + 1)) = u + z) := hid (by rw [val_take_succ hx, ← Hu.out, ← hz, Nat.mul_comm])
    have hS64 : u + z < 18446744073709551616 := by
     rw [← hsum.out]
     exact two_lt ((digs_lim A).take _) (by rw [List.length_take]; omega)
    have hz64 : z < 18446744073709551616 := by omega
    have hor : bits .or .u64 (u : Int) (z : Int) = ((u + z : Nat) : Int) := or_nat64 (s := 32 * i) (x := x') (by
     rw [Hu.out, ← powB]
     have h1 := val_lt ((digs_lim A).take i)
     rwa [List.length_take, Nat.min_eq_left (by rw [Hl3.out]; exact hi)] at h1) (by rw [← hz, powB]) hS64
    have HOR : Hid (bits .or .u64 (u : Int) (IntKind.u64.wrap ((x' : Int) * 2 ^ (32 * i))) = ((u + z : Nat) : Int)) := hid (by
     rw [wrapN z (by rw [← hz, powB, Int.natCast_mul, Int.natCast_pow]; rfl) hz64, hor])
    clear hx hor hz
    go_wp2_with (refine x_q H ?_)
    go_roundw
    case rel => exact ⟨i + 1, u + z, by omega, by go_num, by rw [HOR.out], hid hsum.out.symm, H.sub (by repeat first | exact List.Sublist.refl _ | exact List.nil_sublist _ | apply List.Sublist.cons_cons | apply List.Sublist.cons)⟩
    case measure => (simp [intOf]; try omega)
   ·have hu : u = A := by rw [Hu.out, List.take_of_length_le (by rw [Hl3.out]; omega), val_digs]
    subst hu
    clear Hu
    cases b3
    ·have HX2 : Hid (x = (u : Int)) := hid (by rw [HX.out]; rfl)
     by_cases h63 : u ≤ 9223372036854775807
     ·go_wp2_with (refine x_q H ?_)
      ((try simp only [Exit.inBlock, Exit.then]); refine bodyPost_ret (results_tmp2 rfl _ _ _) rfl ?_)
      refine ⟨?_, Hf0.out.trans H.fr⟩
      rw [intV_in (by rw [HX2.out]; omega), HX2.out]; rfl
     ·have h64 : 9223372036854775807 < u := by omega
      go_wp2_with (refine x_q H ?_)
      ((try simp only [Exit.inBlock, Exit.then]); refine bodyPost_ret (results_tmp2 rfl _ _ _) rfl ?_)
      refine ⟨?_, Hf0.out.trans H.fr⟩
      rw [intV_out (by rw [HX2.out]; omega)]; rfl
    ·have HX2 : Hid (x = -(u : Int)) := hid (by rw [HX.out]; rfl)
     have hu1 : 1 ≤ u := by have h1 := HN.out rfl; have h2 := HX2.out; omega
     by_cases h63 : u ≤ 9223372036854775808
     ·go_wp2_with (refine x_q H ?_)
      ((try simp only [Exit.inBlock, Exit.then]); refine bodyPost_ret (results_tmp2 rfl _ _ _) rfl ?_)
      refine ⟨?_, Hf0.out.trans H.fr⟩
      rw [intV_in (by rw [HX2.out]; omega), HX2.out, show -(u : Int) = -((u : Int) - 1) - 1 by omega]; rfl
     ·have h64 : 9223372036854775808 < u := by omega
      go_wp2_with (refine x_q H ?_)
      ((try simp only [Exit.inBlock, Exit.then]); refine bodyPost_ret (results_tmp2 rfl _ _ _) rfl ?_)
      refine ⟨?_, Hf0.out.trans H.fr⟩
      rw [intV_out (by rw [HX2.out]; omega)]; rfl
set_option maxHeartbeats 16000000
theorem rsigned_any (w : World) {z : Int} (f : Nat) (neg : Bool) (hz : z = (f : Int)) (hf : f < 9223372036854775808) {X : Nat} (hX : Hid (X = sgnF neg f)) :
  Calls Tryz.prog 204 #[.bool neg, .int .u64 z] w fun r w' => r = .returned (.int .u64 (X : Int)) ∧ Fr [] w w' := by
 subst hz
 have H := Hp.start [] w
 cases neg
 ·go_enter Tryz.func204, Tryz.ntmps204
  go_wp2_with fail
  go_ret
  exact ⟨by rw [hX.out]; rfl, H.fr⟩
 ·go_enter Tryz.func204, Tryz.ntmps204
  go_wp2_with (refine x_e (ev_o63 rfl rfl) ?_)
  go_ret
  exact ⟨by rw [hX.out]; rfl, H.fr⟩
theorem rover_any (w : World) {neg : Bool} {mode : Int} {X : Nat} (hX : Hid (X = overF neg mode)) :
  Calls Tryz.prog 201 #[.bool neg, .int .i64 mode] w fun r w' => r = .returned (.int .u64 (X : Int)) ∧ Fr [] w w' := by
 have H := Hp.start [] w
 by_cases hc : mode = 3 ∨ (mode = 1 ∧ neg = false) ∨ (mode = 2 ∧ neg = true)
 ·have HX : Hid (X = sgnF neg 9218868437227405311) := hid (hX.out.trans (congrArg (sgnF neg) (if_pos hc)))
  rcases hc with rfl | ⟨rfl, rfl⟩ | ⟨rfl, rfl⟩
  all_goals
   go_enter Tryz.func201, Tryz.ntmps201
   go_wp2_with (refine x_q H ?_)
   (refine x_c H (rsigned_any _ 9218868437227405311 _ rfl (by decide) HX) ?_; clear H; rintro e w1 ⟨rfl, hF⟩ H; replace hF := hF.kp)
   go_wp2_with fail
   go_ret
   exact ⟨rfl, H.fr⟩
 ·have HX : Hid (X = sgnF neg 9218868437227405312) := hid (hX.out.trans (congrArg (sgnF neg) (if_neg hc)))
  have h3 : mode ≠ 3 := fun h => hc (.inl h)
  have h4 : (mode ≠ 1 ∧ mode ≠ 2) ∨ (mode = 1 ∧ neg = true) ∨ (mode = 2 ∧ neg = false) := by
   by_cases m1 : mode = 1
   ·exact .inr (.inl ⟨m1, by cases neg; exact absurd (.inr (.inl ⟨m1, rfl⟩)) hc; rfl⟩)
   ·by_cases m2 : mode = 2
    ·exact .inr (.inr ⟨m2, by cases neg; rfl; exact absurd (.inr (.inr ⟨m2, rfl⟩)) hc⟩)
    ·exact .inl ⟨m1, m2⟩
  clear hc
  rcases h4 with ⟨h1, h2⟩ | ⟨rfl, rfl⟩ | ⟨rfl, rfl⟩
  all_goals
   go_enter Tryz.func201, Tryz.ntmps201
   go_wp2_with (refine x_q H ?_)
   (refine x_c H (rsigned_any _ 9218868437227405312 _ rfl (by decide) HX) ?_; clear H; rintro e w1 ⟨rfl, hF⟩ H; replace hF := hF.kp)
   go_wp2_with fail
   go_ret
   exact ⟨rfl, H.fr⟩
theorem rintN_any {w : World} {v : Value} {m n : Nat} (h : Av w v (m : Int) n) (hn : n ≤ 200000) (hm : m ≤ 9007199254740992) :
  Calls Tryz.prog 203 #[v] w fun e w' => e = .returned (.tuple #[.int .i64 (m : Int), .bool true]) ∧ Fr [] w w' := by
 have h1 := rint_ar h hn
 rwa [intV_in (by omega)] at h1
theorem pack_over {neg : Bool} {mode : Int} {k : Nat} {u : Int} (h : 4503599627370496 ≤ k) (hu : 972 ≤ u) : packF neg mode k u = overF neg mode := by
 by_cases h1 : k = 9007199254740992
 ·subst h1; rw [pack_full, if_pos (by omega)]
 ·rw [pack_big h h1, if_pos (by omega)]
set_option maxHeartbeats 16000000 in
theorem rrounded_any {w : World} {neg b more : Bool} {p : Option Addr} {kk c : Nat} {N D : Nat} {E ex : Int} (mode : Int) (h : Rl w (.agg #[.bool neg, .bool b, .slice p kk c, .int .i64 ex, .bool more]) neg N D E) (hT : La w) {X : Nat} (hX : Hid (X = rndF neg mode N D E)) :
  Calls Tryz.prog 172 #[.bool neg, .agg #[.bool b, .slice p kk c], .int .i64 ex, .bool more, .int .i64 mode] w fun r w' => r = .returned (.int .u64 (X : Int)) ∧ Fr [] w w' := by
 obtain ⟨b', p', kk', c', n, m, ex', more', heq, hB, hN, hD, hm, h0, hex, hmo, hmm, hbm, hx1, hx2⟩ := h
 simp at heq
 obtain ⟨rfl, ⟨rfl, rfl, rfl⟩, rfl, rfl⟩ := heq
 obtain ⟨u, hu⟩ : ∃ u, max (ex + bl m - 1 - 52) (-1074) = u := ⟨_, rfl⟩
 obtain ⟨k, hk, hk2, hr, hks⟩ := rnd_of neg mode hN hD hm h0 hex hu hmm
 have hb0 := bl_pos h0
 have HA1 := hid hB
 have HT := hid hT
 rw [← hmo] at hk
 have HK := hid hk
 have HR : Hid (X = packF neg mode k u) := hid (hX.out.trans hr)
 have HU := hid hu
 have hu1 : -1074 ≤ u ∧ ex + bl m - 53 ≤ u ∧ (u = -1074 ∨ u = ex + bl m - 53) := by omega
 have hE : ex < u ∨ more = false := by
  rcases hmm with hz | hz
  ·right; rw [hmo, decide_eq_false (by rw [hz]; simp)]
  ·left; omega
 have HKS := hid hks
 clear hB hN hD hm hex hmo hmm hT hk hr hu hX hks
 have H := Hp.start [] w
 by_cases ht : 1024 ≤ ex + bl m - 1
 ·have HO : Hid (X = overF neg mode) := hid (HR.out.trans (pack_over (by have := HKS.out; omega) (by omega)))
  go_enter Tryz.func172, Tryz.ntmps172
  go_wp2_with (first | refine x_q H ?_ | (revert H; refine x_g ?_; intro g w1 hg hf H; replace hf := hf.kp))
  (refine x_c H (rBitLen_ar (HA1.out.fr H.fr).ar (by omega)) ?_; clear H; rintro e w1 ⟨rfl, hF⟩ H; replace hF := hF.kp; rw [Int.natAbs_natCast])
  go_wp2_with (refine x_q H ?_)
  (refine x_c H (rover_any _ HO) ?_; clear H; rintro e w1 ⟨rfl, hF⟩ H; replace hF := hF.kp)
  go_wp2_with fail
  go_ret
  exact ⟨rfl, H.fr⟩
 ·go_enter Tryz.func172, Tryz.ntmps172
  go_wp2_with (first | refine x_q H ?_ | (revert H; refine x_g ?_; intro g w1 hg hf H; replace hf := hf.kp))
  (refine x_c H (rBitLen_ar (HA1.out.fr H.fr).ar (by omega)) ?_; clear H; rintro e w1 ⟨rfl, hF⟩ H; replace hF := hF.kp; rw [Int.natAbs_natCast])
  by_cases hlt : u < ex
  ·have HK2 : Hid ((m : Int) * 2 ^ (ex - u).toNat = (k : Int)) := hid (by rw [← HK.out, if_neg (by omega), Int.natCast_mul, Int.natCast_pow]; rfl)
   have hbk : bl (m * 2 ^ (ex - u).toNat) = bl m + (ex - u).toNat := bl_mul_pow h0 _
   go_wp2_with (first | refine x_q H ?_ | refine x_e (ev_max (z := u) rfl rfl rfl HU.out) ?_ | (revert H; refine x_g ?_; intro g w1 hg hf H; replace hf := hf.kp))
   (refine x_c H (rshiftUpZ_any (ex - u).toNat (by omega) (HA1.out.fr H.fr).ar (by omega) (by omega)) ?_; clear H; rintro e w1 ⟨v3, rfl, hF, hB⟩ H; replace hF := hF.kp; rw [HK2.out] at hB; replace hB := hB.c; rw [Int.natAbs_natCast] at hB; obtain ⟨b3, p3, m3, c3, rfl⟩ := hB.form; have HB3 := hid hB; clear hB)
   clear HK hbk
   have hbk2 : bl k ≤ 54 := bl_le (by omega)
   go_wp2_with (first | refine x_q H ?_ | (revert H; refine xSF ?_; intro w1 H hk))
   (refine x_c H (rintN_any (bv HB3).ar (by omega) (by omega)) ?_; clear H; rintro e w1 ⟨rfl, hF⟩ H; replace hF := hF.kp)
   by_cases hfu : k = 9007199254740992
   ·subst hfu
    by_cases ho : 2047 ≤ u + 1 + 1075
    ·have HV : Hid (X = overF neg mode) := hid (HR.out.trans (pack_full.trans (if_pos ho)))
     go_wp2_with (refine x_q H ?_)
     (refine x_c H (rover_any _ HV) ?_; clear H; rintro e w1 ⟨rfl, hF⟩ H; replace hF := hF.kp)
     go_wp2_with fail
     go_ret
     exact ⟨rfl, H.fr⟩
    ·have HV : Hid (X = sgnF neg ((u + 1 + 1075).toNat * 4503599627370496)) := hid (HR.out.trans (pack_full.trans (if_neg ho)))
     go_wp2_with (first | refine x_q H ?_ | refine x_e (ev_l52Z rfl rfl) ?_ | refine x_e (ev_o52Z rfl rfl rfl) ?_)
     (refine x_c H (rsigned_any _ ((u + 1 + 1075).toNat * 4503599627370496) neg (by omega) (by omega) HV) ?_; clear H; rintro e w1 ⟨rfl, hF⟩ H; replace hF := hF.kp)
     go_wp2_with fail
     go_ret
     exact ⟨rfl, H.fr⟩
   ·by_cases hsm : k < 4503599627370496
    ·have HV : Hid (X = sgnF neg k) := hid (HR.out.trans (pack_small hsm))
     go_wp2_with (refine x_q H ?_)
     (refine x_c H (rsigned_any _ k neg rfl (by omega) HV) ?_; clear H; rintro e w1 ⟨rfl, hF⟩ H; replace hF := hF.kp)
     go_wp2_with fail
     go_ret
     exact ⟨rfl, H.fr⟩
    ·by_cases ho : 2047 ≤ u + 1075
     ·have HV : Hid (X = overF neg mode) := hid (HR.out.trans ((pack_big (by omega) hfu).trans (if_pos ho)))
      go_wp2_with (refine x_q H ?_)
      (refine x_c H (rover_any _ HV) ?_; clear H; rintro e w1 ⟨rfl, hF⟩ H; replace hF := hF.kp)
      go_wp2_with fail
      go_ret
      exact ⟨rfl, H.fr⟩
     ·have HV : Hid (X = sgnF neg ((u + 1075).toNat * 4503599627370496 + (k - 4503599627370496))) := hid (HR.out.trans ((pack_big (by omega) hfu).trans (if_neg ho)))
      go_wp2_with (first | refine x_q H ?_ | refine x_e (ev_l52Z rfl rfl) ?_ | refine x_e (ev_o52Z rfl rfl rfl) ?_)
      (refine x_c H (rsigned_any _ ((u + 1075).toNat * 4503599627370496 + (k - 4503599627370496)) neg (by omega) (by omega) HV) ?_; clear H; rintro e w1 ⟨rfl, hF⟩ H; replace hF := hF.kp)
      go_wp2_with fail
      go_ret
      exact ⟨rfl, H.fr⟩
  ·have HK2 : Hid (mcut neg mode m (u - ex).toNat more = k) := hid (by
    rw [← HK.out]
    by_cases h : ex < u
    ·rw [if_pos h]
    ·have e1 : (u - ex).toNat = 0 := by omega
     have e2 : (ex - u).toNat = 0 := by omega
     have e3 : more = false := by rcases hE with h1 | h1; exact absurd h1 h; exact h1
     rw [if_neg h, e1, e2, e3, mcut, if_pos ⟨by simp [Nat.mod_one], rfl⟩]
     simp)
   go_wp2_with (first | refine x_q H ?_ | refine x_e (ev_max (z := u) rfl rfl rfl HU.out) ?_ | (revert H; refine x_g ?_; intro g w1 hg hf H; replace hf := hf.kp))
   (refine x_c H (rcut_any (u - ex).toNat (by omega) (HA1.out.fr H.fr).ar (by omega) (by omega) (by omega) (HT.out.fr H.fr) HK2) ?_; clear H; rintro e w1 ⟨v3, rfl, hF, hB⟩ H; replace hF := hF.kp; rw [Int.natAbs_natCast] at hB; obtain ⟨b3, p3, m3, c3, rfl⟩ := hB.form; have HB3 := hid hB; clear hB)
   clear HK
   have hbk2 : bl k ≤ 54 := bl_le (by omega)
   go_wp2_with (first | refine x_q H ?_ | (revert H; refine xSF ?_; intro w1 H hk))
   (refine x_c H (rintN_any (bv HB3).ar (by omega) (by omega)) ?_; clear H; rintro e w1 ⟨rfl, hF⟩ H; replace hF := hF.kp)
   by_cases hfu : k = 9007199254740992
   ·subst hfu
    by_cases ho : 2047 ≤ u + 1 + 1075
    ·have HV : Hid (X = overF neg mode) := hid (HR.out.trans (pack_full.trans (if_pos ho)))
     go_wp2_with (refine x_q H ?_)
     (refine x_c H (rover_any _ HV) ?_; clear H; rintro e w1 ⟨rfl, hF⟩ H; replace hF := hF.kp)
     go_wp2_with fail
     go_ret
     exact ⟨rfl, H.fr⟩
    ·have HV : Hid (X = sgnF neg ((u + 1 + 1075).toNat * 4503599627370496)) := hid (HR.out.trans (pack_full.trans (if_neg ho)))
     go_wp2_with (first | refine x_q H ?_ | refine x_e (ev_l52Z rfl rfl) ?_ | refine x_e (ev_o52Z rfl rfl rfl) ?_)
     (refine x_c H (rsigned_any _ ((u + 1 + 1075).toNat * 4503599627370496) neg (by omega) (by omega) HV) ?_; clear H; rintro e w1 ⟨rfl, hF⟩ H; replace hF := hF.kp)
     go_wp2_with fail
     go_ret
     exact ⟨rfl, H.fr⟩
   ·by_cases hsm : k < 4503599627370496
    ·have HV : Hid (X = sgnF neg k) := hid (HR.out.trans (pack_small hsm))
     go_wp2_with (refine x_q H ?_)
     (refine x_c H (rsigned_any _ k neg rfl (by omega) HV) ?_; clear H; rintro e w1 ⟨rfl, hF⟩ H; replace hF := hF.kp)
     go_wp2_with fail
     go_ret
     exact ⟨rfl, H.fr⟩
    ·by_cases ho : 2047 ≤ u + 1075
     ·have HV : Hid (X = overF neg mode) := hid (HR.out.trans ((pack_big (by omega) hfu).trans (if_pos ho)))
      go_wp2_with (refine x_q H ?_)
      (refine x_c H (rover_any _ HV) ?_; clear H; rintro e w1 ⟨rfl, hF⟩ H; replace hF := hF.kp)
      go_wp2_with fail
      go_ret
      exact ⟨rfl, H.fr⟩
     ·have HV : Hid (X = sgnF neg ((u + 1075).toNat * 4503599627370496 + (k - 4503599627370496))) := hid (HR.out.trans ((pack_big (by omega) hfu).trans (if_neg ho)))
      go_wp2_with (first | refine x_q H ?_ | refine x_e (ev_l52Z rfl rfl) ?_ | refine x_e (ev_o52Z rfl rfl rfl) ?_)
      (refine x_c H (rsigned_any _ ((u + 1075).toNat * 4503599627370496 + (k - 4503599627370496)) neg (by omega) (by omega) HV) ?_; clear H; rintro e w1 ⟨rfl, hF⟩ H; replace hF := hF.kp)
      go_wp2_with fail
      go_ret
      exact ⟨rfl, H.fr⟩
end Go.Proofs.YthbeeeclgbpopaaGreatDoor
