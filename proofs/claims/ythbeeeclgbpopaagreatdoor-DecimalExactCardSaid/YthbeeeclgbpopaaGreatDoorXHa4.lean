/-
  The document's floats: the rounding of a number.
-/
import Derived.Test.YthbeeeclgbpopaaGreatDoorXHa2
import Derived.Test.YthbeeeclgbpopaaGreatDoorXEa5
import Derived.Test.YthbeeeclgbpopaaGreatDoorXIz11
namespace Go.Proofs.YthbeeeclgbpopaaGreatDoor
open Go.RowKit
set_option linter.unusedSimpArgs false
set_option linter.unusedVariables false
set_option maxHeartbeats 16000000
set_option maxRecDepth 100000

theorem rsigned_any (w : World) {z : Int} (f : Nat) (neg : Bool) (hz : z = (f : Int)) (hf : f < 9223372036854775808) {X : Nat} (hX : Hid (X = sgnF neg f)) :
    Calls Tryz.prog 204 #[.bool neg, .int .u64 z] w fun r w' => r = .returned (.int .u64 (X : Int)) ∧ Fr [] w w' := by
  subst hz
  have H := Hp.start [] w
  cases neg
  · go_enter Tryz.func204, Tryz.ntmps204
    go_wp2_with fail
    go_ret
    exact ⟨by rw [hX.out]; rfl, H.fr⟩
  · go_enter Tryz.func204, Tryz.ntmps204
    go_wp2_with (refine x_e (ev_o63 rfl rfl) ?_)
    go_ret
    exact ⟨by rw [hX.out]; rfl, H.fr⟩
theorem rover_any (w : World) {neg : Bool} {mode : Int} {X : Nat} (hX : Hid (X = overF neg mode)) :
    Calls Tryz.prog 201 #[.bool neg, .int .i64 mode] w fun r w' => r = .returned (.int .u64 (X : Int)) ∧ Fr [] w w' := by
  have H := Hp.start [] w
  by_cases hc : mode = 3 ∨ (mode = 1 ∧ neg = false) ∨ (mode = 2 ∧ neg = true)
  · have HX : Hid (X = sgnF neg 9218868437227405311) := hid (hX.out.trans (congrArg (sgnF neg) (if_pos hc)))
    rcases hc with rfl | ⟨rfl, rfl⟩ | ⟨rfl, rfl⟩
    all_goals
      go_enter Tryz.func201, Tryz.ntmps201
      go_wp2_with (refine x_q H ?_)
      (refine x_c H (rsigned_any _ 9218868437227405311 _ rfl (by decide) HX) ?_; clear H; rintro e w1 ⟨rfl, hF⟩ H; replace hF := hF.kp; skip)
      go_wp2_with fail
      go_ret
      exact ⟨rfl, H.fr⟩
  · have HX : Hid (X = sgnF neg 9218868437227405312) := hid (hX.out.trans (congrArg (sgnF neg) (if_neg hc)))
    have h3 : mode ≠ 3 := fun h => hc (.inl h)
    have h4 : (mode ≠ 1 ∧ mode ≠ 2) ∨ (mode = 1 ∧ neg = true) ∨ (mode = 2 ∧ neg = false) := by
      by_cases m1 : mode = 1
      · exact .inr (.inl ⟨m1, by cases neg; exact absurd (.inr (.inl ⟨m1, rfl⟩)) hc; rfl⟩)
      · by_cases m2 : mode = 2
        · exact .inr (.inr ⟨m2, by cases neg; rfl; exact absurd (.inr (.inr ⟨m2, rfl⟩)) hc⟩)
        · exact .inl ⟨m1, m2⟩
    clear hc
    rcases h4 with ⟨h1, h2⟩ | ⟨rfl, rfl⟩ | ⟨rfl, rfl⟩
    all_goals
      go_enter Tryz.func201, Tryz.ntmps201
      go_wp2_with (refine x_q H ?_)
      (refine x_c H (rsigned_any _ 9218868437227405312 _ rfl (by decide) HX) ?_; clear H; rintro e w1 ⟨rfl, hF⟩ H; replace hF := hF.kp; skip)
      go_wp2_with fail
      go_ret
      exact ⟨rfl, H.fr⟩
theorem rshiftUpZ_any {w : World} {u : Value} {x z : Int} {n : Nat} (k : Nat) (hz : z = (k : Int)) (h : Av w u x n) (hn : n ≤ 100000) (hk : k ≤ 1048576) :
    Calls Tryz.prog 64 #[u, .int .i64 z] w fun e w' => ∃ v1, e = .returned v1 ∧ Fr [] w w' ∧ Bv w' v1 (x * 2 ^ k) (n + k + 1) := by
  subst hz
  exact rshiftUp_ar k h hn hk
theorem rintN_any {w : World} {v : Value} {m n : Nat} (h : Av w v (m : Int) n) (hn : n ≤ 200000) (hm : m ≤ 9007199254740992) :
    Calls Tryz.prog 203 #[v] w fun e w' => e = .returned (.tuple #[.int .i64 (m : Int), .bool true]) ∧ Fr [] w w' := by
  have h1 := rint_ar h hn
  rwa [intV_in (by omega)] at h1
theorem pack_over {neg : Bool} {mode : Int} {k : Nat} {u : Int} (h : 4503599627370496 ≤ k) (hu : 972 ≤ u) : packF neg mode k u = overF neg mode := by
  by_cases h1 : k = 9007199254740992
  · subst h1; rw [pack_full, if_pos (by omega)]
  · rw [pack_big h h1, if_pos (by omega)]
set_option maxHeartbeats 16000000 in
theorem rrounded_any {w : World} {neg b more : Bool} {p : Option Addr} {kk c : Nat} {N D : Nat} {E ex : Int} (mode : Int) (h : Rl w (.agg #[.bool neg, .bool b, .slice p kk c, .int .i64 ex, .bool more]) neg N D E) (hT : La w) {X : Nat} (hX : Hid (X = rndF neg mode N D E)) :
    Calls Tryz.prog 172 #[.bool neg, .agg #[.bool b, .slice p kk c], .int .i64 ex, .bool more, .int .i64 mode] w fun r w' => r = .returned (.int .u64 (X : Int)) ∧ Fr [] w w' := by
  obtain ⟨b', p', kk', c', n, m, ex', more', heq, hB, hN, hD, hm, h0, hex, hmo, hmm, hbm, hx1, hx2⟩ := h
  simp at heq
  obtain ⟨rfl, ⟨rfl, rfl, rfl⟩, rfl, rfl⟩ := heq
  obtain ⟨u, hu⟩ : ∃ u, max (ex + bl m - 1 - 52) (-1074) = u := ⟨_, rfl⟩
  obtain ⟨k, hk, hk2, hr, hks⟩ := rnd_of neg mode hN hD hm h0 hex hu hmm
  have hb0 := bl_pos h0
  have HA1 := hid hB
  have HT := hid hT
  rw [← hmo] at hk
  have HK := hid hk
  have HR : Hid (X = packF neg mode k u) := hid (hX.out.trans hr)
  have HU := hid hu
  have hu1 : -1074 ≤ u ∧ ex + bl m - 53 ≤ u ∧ (u = -1074 ∨ u = ex + bl m - 53) := by omega
  have hE : ex < u ∨ more = false := by
    rcases hmm with hz | hz
    · right; rw [hmo, decide_eq_false (by rw [hz]; simp)]
    · left; omega
  have HKS := hid hks
  clear hB hN hD hm hex hmo hmm hT hk hr hu hX hks
  have H := Hp.start [] w
  by_cases ht : 1024 ≤ ex + bl m - 1
  · have HO : Hid (X = overF neg mode) := hid (HR.out.trans (pack_over (by have := HKS.out; omega) (by omega)))
    go_enter Tryz.func172, Tryz.ntmps172
    go_wp2_with (first | refine x_q H ?_ | (revert H; (first | (refine x_g ?_; intro g w1 hg hf H) | (refine x_s ?_; intro w1 hf H)); (first | replace hf := hf.kp | clear hf)))
    (refine x_c H (rBitLen_ar (HA1.out.fr H.fr).ar (by omega)) ?_; clear H; rintro e w1 ⟨rfl, hF⟩ H; replace hF := hF.kp; rw [Int.natAbs_natCast])
    go_wp2_with (refine x_q H ?_)
    (refine x_c H (rover_any _ HO) ?_; clear H; rintro e w1 ⟨rfl, hF⟩ H; replace hF := hF.kp; skip)
    go_wp2_with fail
    go_ret
    exact ⟨rfl, H.fr⟩
  · go_enter Tryz.func172, Tryz.ntmps172
    go_wp2_with (first | refine x_q H ?_ | (revert H; (first | (refine x_g ?_; intro g w1 hg hf H) | (refine x_s ?_; intro w1 hf H)); (first | replace hf := hf.kp | clear hf)))
    (refine x_c H (rBitLen_ar (HA1.out.fr H.fr).ar (by omega)) ?_; clear H; rintro e w1 ⟨rfl, hF⟩ H; replace hF := hF.kp; rw [Int.natAbs_natCast])
    by_cases hlt : u < ex
    · have HK2 : Hid ((m : Int) * 2 ^ (ex - u).toNat = (k : Int)) := hid (by rw [← HK.out, if_neg (by omega), Int.natCast_mul, Int.natCast_pow]; rfl)
      have hbk : bl (m * 2 ^ (ex - u).toNat) = bl m + (ex - u).toNat := bl_mul_pow h0 _
      go_wp2_with (first | refine x_q H ?_ | refine x_e (ev_max (z := u) rfl rfl rfl HU.out) ?_ | (revert H; (first | (refine x_g ?_; intro g w1 hg hf H) | (refine x_s ?_; intro w1 hf H)); (first | replace hf := hf.kp | clear hf)))
      (refine x_c H (rshiftUpZ_any (ex - u).toNat (by omega) (HA1.out.fr H.fr).ar (by omega) (by omega)) ?_; clear H; rintro e w1 ⟨v3, rfl, hF, hB⟩ H; replace hF := hF.kp; rw [HK2.out] at hB; replace hB := hB.c; rw [Int.natAbs_natCast] at hB; obtain ⟨b3, p3, m3, c3, rfl⟩ := hB.form; have HB3 := hid hB; clear hB)
      clear HK hbk
      have hbk2 : bl k ≤ 54 := bl_le (by omega)
      go_wp2_with (first | refine x_q H ?_ | (revert H; refine x_sF ?_; intro w1 hf H hk; clear hf; change Kp _ _ at hk))
      (refine x_c H (rintN_any (bv HB3).ar (by omega) (by omega)) ?_; clear H; rintro e w1 ⟨rfl, hF⟩ H; replace hF := hF.kp; skip)
      by_cases hfu : k = 9007199254740992
      · subst hfu
        by_cases ho : 2047 ≤ u + 1 + 1075
        · have HV : Hid (X = overF neg mode) := hid (HR.out.trans (pack_full.trans (if_pos ho)))
          go_wp2_with (refine x_q H ?_)
          (refine x_c H (rover_any _ HV) ?_; clear H; rintro e w1 ⟨rfl, hF⟩ H; replace hF := hF.kp; skip)
          go_wp2_with fail
          go_ret
          exact ⟨rfl, H.fr⟩
        · have HV : Hid (X = sgnF neg ((u + 1 + 1075).toNat * 4503599627370496)) := hid (HR.out.trans (pack_full.trans (if_neg ho)))
          go_wp2_with (first | refine x_q H ?_ | refine x_e (ev_l52Z rfl rfl) ?_ | refine x_e (ev_o52Z rfl rfl rfl) ?_)
          (refine x_c H (rsigned_any _ ((u + 1 + 1075).toNat * 4503599627370496) neg (by omega) (by omega) HV) ?_; clear H; rintro e w1 ⟨rfl, hF⟩ H; replace hF := hF.kp; skip)
          go_wp2_with fail
          go_ret
          exact ⟨rfl, H.fr⟩
      · by_cases hsm : k < 4503599627370496
        · have HV : Hid (X = sgnF neg k) := hid (HR.out.trans (pack_small hsm))
          go_wp2_with (refine x_q H ?_)
          (refine x_c H (rsigned_any _ k neg rfl (by omega) HV) ?_; clear H; rintro e w1 ⟨rfl, hF⟩ H; replace hF := hF.kp; skip)
          go_wp2_with fail
          go_ret
          exact ⟨rfl, H.fr⟩
        · by_cases ho : 2047 ≤ u + 1075
          · have HV : Hid (X = overF neg mode) := hid (HR.out.trans ((pack_big (by omega) hfu).trans (if_pos ho)))
            go_wp2_with (refine x_q H ?_)
            (refine x_c H (rover_any _ HV) ?_; clear H; rintro e w1 ⟨rfl, hF⟩ H; replace hF := hF.kp; skip)
            go_wp2_with fail
            go_ret
            exact ⟨rfl, H.fr⟩
          · have HV : Hid (X = sgnF neg ((u + 1075).toNat * 4503599627370496 + (k - 4503599627370496))) := hid (HR.out.trans ((pack_big (by omega) hfu).trans (if_neg ho)))
            go_wp2_with (first | refine x_q H ?_ | refine x_e (ev_l52Z rfl rfl) ?_ | refine x_e (ev_o52Z rfl rfl rfl) ?_)
            (refine x_c H (rsigned_any _ ((u + 1075).toNat * 4503599627370496 + (k - 4503599627370496)) neg (by omega) (by omega) HV) ?_; clear H; rintro e w1 ⟨rfl, hF⟩ H; replace hF := hF.kp; skip)
            go_wp2_with fail
            go_ret
            exact ⟨rfl, H.fr⟩
    · have HK2 : Hid (mcut neg mode m (u - ex).toNat more = k) := hid (by
        rw [← HK.out]
        by_cases h : ex < u
        · rw [if_pos h]
        · have e1 : (u - ex).toNat = 0 := by omega
          have e2 : (ex - u).toNat = 0 := by omega
          have e3 : more = false := by rcases hE with h1 | h1; exact absurd h1 h; exact h1
          rw [if_neg h, e1, e2, e3, mcut, if_pos ⟨by simp [Nat.mod_one], rfl⟩]
          simp)
      go_wp2_with (first | refine x_q H ?_ | refine x_e (ev_max (z := u) rfl rfl rfl HU.out) ?_ | (revert H; (first | (refine x_g ?_; intro g w1 hg hf H) | (refine x_s ?_; intro w1 hf H)); (first | replace hf := hf.kp | clear hf)))
      (refine x_c H (rcut_any (u - ex).toNat (by omega) (HA1.out.fr H.fr).ar (by omega) (by omega) (by omega) (HT.out.fr H.fr) HK2) ?_; clear H; rintro e w1 ⟨v3, rfl, hF, hB⟩ H; replace hF := hF.kp; rw [Int.natAbs_natCast] at hB; obtain ⟨b3, p3, m3, c3, rfl⟩ := hB.form; have HB3 := hid hB; clear hB)
      clear HK
      have hbk2 : bl k ≤ 54 := bl_le (by omega)
      go_wp2_with (first | refine x_q H ?_ | (revert H; refine x_sF ?_; intro w1 hf H hk; clear hf; change Kp _ _ at hk))
      (refine x_c H (rintN_any (bv HB3).ar (by omega) (by omega)) ?_; clear H; rintro e w1 ⟨rfl, hF⟩ H; replace hF := hF.kp; skip)
      by_cases hfu : k = 9007199254740992
      · subst hfu
        by_cases ho : 2047 ≤ u + 1 + 1075
        · have HV : Hid (X = overF neg mode) := hid (HR.out.trans (pack_full.trans (if_pos ho)))
          go_wp2_with (refine x_q H ?_)
          (refine x_c H (rover_any _ HV) ?_; clear H; rintro e w1 ⟨rfl, hF⟩ H; replace hF := hF.kp; skip)
          go_wp2_with fail
          go_ret
          exact ⟨rfl, H.fr⟩
        · have HV : Hid (X = sgnF neg ((u + 1 + 1075).toNat * 4503599627370496)) := hid (HR.out.trans (pack_full.trans (if_neg ho)))
          go_wp2_with (first | refine x_q H ?_ | refine x_e (ev_l52Z rfl rfl) ?_ | refine x_e (ev_o52Z rfl rfl rfl) ?_)
          (refine x_c H (rsigned_any _ ((u + 1 + 1075).toNat * 4503599627370496) neg (by omega) (by omega) HV) ?_; clear H; rintro e w1 ⟨rfl, hF⟩ H; replace hF := hF.kp; skip)
          go_wp2_with fail
          go_ret
          exact ⟨rfl, H.fr⟩
      · by_cases hsm : k < 4503599627370496
        · have HV : Hid (X = sgnF neg k) := hid (HR.out.trans (pack_small hsm))
          go_wp2_with (refine x_q H ?_)
          (refine x_c H (rsigned_any _ k neg rfl (by omega) HV) ?_; clear H; rintro e w1 ⟨rfl, hF⟩ H; replace hF := hF.kp; skip)
          go_wp2_with fail
          go_ret
          exact ⟨rfl, H.fr⟩
        · by_cases ho : 2047 ≤ u + 1075
          · have HV : Hid (X = overF neg mode) := hid (HR.out.trans ((pack_big (by omega) hfu).trans (if_pos ho)))
            go_wp2_with (refine x_q H ?_)
            (refine x_c H (rover_any _ HV) ?_; clear H; rintro e w1 ⟨rfl, hF⟩ H; replace hF := hF.kp; skip)
            go_wp2_with fail
            go_ret
            exact ⟨rfl, H.fr⟩
          · have HV : Hid (X = sgnF neg ((u + 1075).toNat * 4503599627370496 + (k - 4503599627370496))) := hid (HR.out.trans ((pack_big (by omega) hfu).trans (if_neg ho)))
            go_wp2_with (first | refine x_q H ?_ | refine x_e (ev_l52Z rfl rfl) ?_ | refine x_e (ev_o52Z rfl rfl rfl) ?_)
            (refine x_c H (rsigned_any _ ((u + 1075).toNat * 4503599627370496 + (k - 4503599627370496)) neg (by omega) (by omega) HV) ?_; clear H; rintro e w1 ⟨rfl, hF⟩ H; replace hF := hF.kp; skip)
            go_wp2_with fail
            go_ret
            exact ⟨rfl, H.fr⟩
end Go.Proofs.YthbeeeclgbpopaaGreatDoor
