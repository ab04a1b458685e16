import Derived.Test.YthbeeeclgbpopaaGreatDoorYPz6
import Derived.Test.YthbeeeclgbpopaaGreatDoorYWc1
import Derived.Test.YthbeeeclgbpopaaGreatDoorYDc19
import Derived.Deep.DeepCutAuto
import Derived.Deep.CutBlock
namespace Go.Proofs.YthbeeeclgbpopaaGreatDoor
open Go.RowKit
set_option linter.unusedSimpArgs false
set_option linter.unusedVariables false
set_option maxHeartbeats 16000000
set_option maxRecDepth 100000

theorem dec_digit {n : Nat} (h : n < 10) : dec n = [UInt8.ofNat (48 + n)] ∧ (dec n).all dig = true ∧ (dec n).length = 1 := by
 have := dec_digits n
 exact ⟨dec_small h, this.1, by rw [dec_small h]; rfl⟩
theorem rexactN_any (w : World) {b x : Nat} (hb : b < 18446744073709551616) (hx : Hid (b / 4503599627370496 % 2048 = x)) (hn : x = 2047) :
  Calls Tryz.prog 27 #[.int .u64 (b : Int)] w fun r w' => r = .returned (.tuple #[strV [], .int .i64 4]) ∧ Fr [] w w' := by
 have HFI : Hid (decide (x ≠ 2047) = false) := hid (decide_eq_false (fun h => h hn))
 clear hn
 have H := Hp.start [] w
 go_enter Tryz.func27, Tryz.ntmps27
 go_wp2_with fail
 (refine x_c H (risFinite_any _ hb hx HFI) ?_; clear H; rintro e w1 ⟨rfl, hF⟩ H; replace hF := hF.kp)
 go_wp2_with fail
 refine bodyPost_ret (results_tmp2 rfl _ _ _) rfl ?_
 exact ⟨rfl, H.fr⟩
def lenOf : Value → Nat := fun v => match v with
 | .string b => b.size
 | _ => 0
theorem lenOf_str (s : List UInt8) : lenOf (strV s) = s.length := by
 unfold lenOf strV
 exact ba_size s
set_option maxHeartbeats 32000000 in
theorem rexactO_any (w : World) {b z : Nat} (hb : b < 18446744073709551616) (hk2 : b / 4503599627370496 % 2048 ≠ 2047) (hz : Hid (b % 9223372036854775808 = z)) (h0 : 0 < z) (hz1 : z < 9218868437227405312) (hT : La w) :
  Calls Tryz.prog 27 #[.int .u64 (b : Int)] w fun r w' => ∃ l, r = .returned (.tuple #[strV l, .int .i64 0]) ∧ Fr [] w w' ∧ ExO b z l := by
 have HT := hid hT
 have HK2 := hid hk2
 obtain ⟨x, hx⟩ : ∃ x, b / 4503599627370496 % 2048 = x := ⟨_, rfl⟩
 have HX := hid hx
 have HFI : Hid (decide (x ≠ 2047) = true) := hid (decide_eq_true (by rw [← hx]; exact hk2))
 obtain ⟨nb, hn⟩ : ∃ n, decide (9223372036854775808 ≤ b) = n := ⟨_, rfl⟩
 have HN := hid hn
 obtain ⟨mn, hmn⟩ : ∃ m : List UInt8, (if nb then [45] else []) = m := ⟨_, rfl⟩
 have hml : mn.length ≤ 1 := by rw [← hmn]; split <;> decide
 have HMN : Hid (mns b = mn) := hid ((mns_of hn).trans hmn)
 have HMM := hid hmn
 clear hk2 hT hn hmn hx
 have H := Hp.start [] w
 go_enter Tryz.func27, Tryz.ntmps27
 go_wp2_with fail
 (refine x_c H (risFinite_any _ hb HX HFI) ?_; clear H; rintro e w1 ⟨rfl, hF⟩ H; replace hF := hF.kp)
 go_wp2_with fail
 (refine x_c H (rminus_any _ hb HN) ?_; clear H; rintro e w1 ⟨rfl, hF⟩ H; replace hF := hF.kp)
 go_upto_if 15 with fail
 go_cut [4] (fun s4 wx => s4 = strV mn ∧ Hp [] w wx [])
 case first =>
  cases nb
  ·obtain rfl : mn = [] := HMM.out.symm
   go_wp2_with fail
   go_meet
   case rel => exact ⟨rfl, H⟩
  ·obtain rfl : mn = [45] := HMM.out.symm
   go_wp2_with fail
   go_meet
   case rel => exact ⟨rfl, H⟩
 case rest =>
  clear H HMM
  obtain ⟨rfl, H⟩ := hcut
  go_wp2_with fail
  (refine x_c H (rfractionO_any _ hb HK2.out hz h0 hz1 (HT.out.fr H.fr)) ?_; clear H; rintro e w1 ⟨v3, v4, rfl, hF, N, D, M, e, hB, hB2, hnm, hodd, hsh, hbN, hbD⟩ H; replace hF := hF.kp; obtain ⟨b3, p3, m3, c3, rfl⟩ := hB.form; have HB3 := hid hB; clear hB; obtain ⟨b4, p4, m4, c4, rfl⟩ := hB2.form; have HB4 := hid hB2; clear hB2)
  have HNM := hid hnm
  have HOD := hid hodd
  have hD0 : 0 < D := by
   rcases hsh with ⟨j, _, _, h⟩ | ⟨k, _, _, _, _, h⟩
   ·omega
   ·rw [h]; exact pow2_pos k
  have HSH := hid hsh
  have HD0 := hid (show (D : Int) ≠ 0 by omega)
  have HQ : Hid ((N : Int) / (D : Int) = ((N / D : Nat) : Int)) := hid (Int.natCast_ediv N D).symm
  have HR : Hid ((N : Int) % (D : Int) = ((N % D : Nat) : Int)) := hid (Int.natCast_emod N D).symm
  have hqb := bl_mono (Nat.div_le_self N D)
  have hrD : N % D < D := Nat.mod_lt _ hD0
  have hrb := bl_mono (Nat.le_of_lt hrD)
  obtain ⟨q, hq⟩ : ∃ q, N / D = q := ⟨_, rfl⟩
  obtain ⟨r, hr⟩ : ∃ q, N % D = q := ⟨_, rfl⟩
  obtain ⟨d, hd⟩ : ∃ d, dec q = d := ⟨_, rfl⟩
  obtain ⟨P, hP⟩ : ∃ d, mn ++ (dec q) = d := ⟨_, rfl⟩
  rw [hq] at HQ hqb
  rw [hr] at HR hrb hrD
  have hdl : d.length ≤ 1000000 := by rw [← hd]; exact dec_short (by omega)
  have hPl : P.length ≤ 1000001 := by rw [← hP, hd, List.length_append]; omega
  have HDD := hid hd
  have HP : Hid (mn ++ d = P) := hid (by rw [← hd]; exact hP)
  have HQE := hid hq
  have HRE := hid hr
  clear hnm hodd hsh hq hr hd hP
  go_wp2_with (first | refine x_q H ?_ | (revert H; refine xSF ?_; intro w1 H hk) | (revert H; refine x_g ?_; intro g w1 hg hf H; replace hf := hf.kp))
  (refine x_c H (rdivMod_ar (bv HB3).ar (bv HB4).ar (by omega) (by omega) HD0.out) ?_; clear H; rintro e w1 ⟨v5, v6, rfl, hF, hB, hB2⟩ H; replace hF := hF.kp; replace hB := hB.c; replace hB2 := hB2.c; rw [HQ.out, Int.natAbs_natCast] at hB; rw [HR.out, Int.natAbs_natCast] at hB2; obtain ⟨b5, p5, m5, c5, rfl⟩ := hB.form; have HB5 := hid hB; clear hB; obtain ⟨b6, p6, m6, c6, rfl⟩ := hB2.form; have HB6 := hid hB2; clear hB2)
  go_upto_region 8 with (first | refine x_q H ?_ | refine x_cm (fun h => ?_) (fun h => ?_) | refine x_l H ?_ | refine x_e (ev_dyad rfl rfl rfl) ?_ | (revert H; refine xSF ?_; intro w1 H hk) | (revert H; (first | (refine x_g ?_; intro g w1 hg hf H) | (refine x_s ?_; intro w1 hf H)); (first | replace hf := hf.kp | clear hf)))
  go_cut [4, 6, 8] (fun s4 s6 s8 wx => ∃ g6 g8 : Nat, s4 = strV P ∧ s6 = .pointer (some ⟨g6, 0, none⟩) ∧ s8 = .pointer (some ⟨g8, 0, none⟩) ∧ Hp [] w wx [.blk g8 [.bool b6, .slice p6 m6 c6] 50, .blk g6 [.bool b4, .slice p4 m4 c4] 50] ∧ Hid (Bv wx (.agg #[.bool b6, .slice p6 m6 c6]) (r : Int) (bl r)) ∧ Hid (Bv wx (.agg #[.bool b4, .slice p4 m4 c4]) (D : Int) (bl D)))
  case first =>
   go_wp2_with (refine x_q H ?_)
   (refine x_c H (rformatN_any (bv HB5).ar (by omega) HDD) ?_; clear H; rintro e w1 ⟨rfl, hF⟩ H; replace hF := hF.kp)
   go_wp2_with (refine x_e (ev_strCat rfl rfl rfl HP (by omega)) ?_)
   go_meet
   case rel => exact ⟨_, _, rfl, rfl, rfl, by (refine Hp.arr H ?_; repeat (first | exact Pm.nil _ | (apply Pm.cons; · (repeat first | exact Rm.here _ | apply Rm.there)))), hid (bv HB6), hid (bv HB4)⟩
  case rest =>
   clear H HB3 HB4 HB5 HB6
   obtain ⟨g6, g8, rfl, rfl, rfl, H, HB6, HB4⟩ := hcut
   by_cases hr0 : r = 0
   ·have HR0 := hid (show (r : Int) = 0 by omega)
    have HEX : Hid (ExO b z P) := hid (by
     refine ⟨M, e, HNM.out, HOD.out, ?_⟩
     rcases HSH.out with ⟨j, h1, h2, h3⟩ | ⟨k, h1, h2, _, h3, h4⟩
     ·refine .inl ⟨j, h1, ?_⟩
      rw [HMN.out, ← HP.out, ← HDD.out, ← HQE.out, h3, Nat.div_one, h2]
     ·exfalso
      have h5 := HRE.out
      rw [h3, h4, hr0] at h5
      have := (rem_zero (R := M) (k := k) (i := 0) HOD.out).1 (by rw [Nat.pow_zero, Nat.mul_one]; exact h5)
      omega)
    clear HSH HNM HOD hr0
    go_wp2_with (refine x_q H ?_)
    (refine x_c H (rsign_z (bv HB6).ar (by omega) HR0.out) ?_; clear H; rintro e w1 ⟨rfl, hF⟩ H; replace hF := hF.kp)
    go_wp2_with (refine x_q H ?_)
    go_loopw [4] (fun s4 wr => s4 = strV P ∧ Hp [] w wr [.blk g8 [.bool b6, .slice p6 m6 c6] 50, .blk g6 [.bool b4, .slice p4 m4 c4] 50] ∧ Hid (Bv wr (.agg #[.bool b6, .slice p6 m6 c6]) (r : Int) (bl r))) (fun _ _ => 0)
    case atStart => exact ⟨rfl, H, hid (bv HB6)⟩
    case round =>
     clear H HB6 HB4
     obtain ⟨rfl, H, HB6⟩ := hrel
     go_wp2_with (refine x_q H ?_)
     (refine x_c H (rsign_z (bv HB6).ar (by omega) HR0.out) ?_; clear H; rintro e w1 ⟨rfl, hF⟩ H; replace hF := hF.kp)
     go_wp2_with (refine x_q H ?_)
     refine bodyPost_ret (results_tmp2 rfl _ _ _) rfl ?_
     exact ⟨_, rfl, H.fr, HEX.out⟩
   ·have HR0 := hid (show (r : Int) ≠ 0 by omega)
    obtain ⟨k, hk1, hk2, hk3, hk4, hk5⟩ : ∃ k : Nat, e = -(k : Int) ∧ 0 < k ∧ k ≤ 1074 ∧ N = M ∧ D = 2 ^ k := by
     rcases HSH.out with ⟨j, _, _, h3⟩ | ⟨k, h⟩
     ·exfalso
      have := HRE.out
      rw [h3, Nat.mod_one] at this
      omega
     ·exact ⟨k, h⟩
    have hrodd : r % 2 = 1 := by
     have h1 := HRE.out
     have h2 := HOD.out
     have e3 : 2 ^ k = 2 * 2 ^ (k - 1) := by rw [← Nat.pow_succ']; congr 1; omega
     rw [hk4, hk5, e3] at h1
     rw [← h1, Nat.mod_mul_right_mod]
     exact h2
    have HRZ : Hid (∀ i, r * 10 ^ i % D = 0 ↔ k ≤ i) := hid (fun i => by rw [hk5]; exact rem_zero hrodd)
    obtain ⟨P1, hP1⟩ : ∃ p, P ++ [46] = p := ⟨_, rfl⟩
    have HP1 := hid hP1
    have hP1l : P1.length ≤ 1000002 := by rw [← hP1, List.length_append, List.length_singleton]; omega
    have HFIN : Hid (∀ L : List UInt8, L.length = k → L.all dig = true → num L = r * 10 ^ k / D → ExO b z (P1 ++ L)) := hid (fun L h1 h2 h3 => by
     refine ⟨M, e, HNM.out, HOD.out, .inr ⟨k, hk1, hk2, ?_⟩⟩
     have hr2 := HRE.out
     rw [hk4, hk5] at hr2
     have hq2 := HQE.out
     rw [hk4, hk5] at hq2
     rw [hk5, ← hr2] at h3
     obtain ⟨a1, a2⟩ := exact_same hk2 (show 0 < M by have := HOD.out; omega) h1 h2 h3
     rw [a1, a2, HMN.out, ← hP1, ← HP.out, ← HDD.out, hq2]
     simp)
    have hDb : bl D ≤ 1100 := hbD
    clear HSH HNM HOD hr0 hk1 hk4 hk5 hrodd hP1
    go_wp2_with (refine x_q H ?_)
    (refine x_c H (rsign_nz (bv HB6).ar (by omega) HR0.out) ?_; clear H; rintro e w1 ⟨s4, rfl, hs4, hF⟩ H; replace hF := hF.kp)
    go_wp2_with (first | refine x_q H ?_ | refine x_e (ev_strCat (r := [46]) rfl rfl rfl HP1 (by simp only [List.length_singleton]; omega)) ?_)
    go_loopw [4] (fun s4 wr => ∃ (i ri : Nat) (L S : List UInt8) (b7 : Bool) (p7 : Option Addr) (m7 c7 : Nat), i ≤ k ∧ s4 = strV S ∧ S.length ≤ P1.length + i ∧ P1.length + i ≤ S.length ∧ ri < D ∧ Hid (S = P1 ++ L) ∧ Hid (L.length = i ∧ L.all dig = true ∧ num L = r * 10 ^ i / D ∧ r * 10 ^ i % D = ri) ∧ Hp [] w wr [.blk g8 [.bool b7, .slice p7 m7 c7] 50, .blk g6 [.bool b4, .slice p4 m4 c4] 50] ∧ Hid (Bv wr (.agg #[.bool b7, .slice p7 m7 c7]) (ri : Int) (bl ri)) ∧ Hid (Bv wr (.agg #[.bool b4, .slice p4 m4 c4]) (D : Int) (bl D))) (fun v _ => P1.length + k - lenOf v)
    case atStart => exact ⟨0, r, [], P1, _, _, _, _, Nat.zero_le _, rfl, by omega, by omega, hrD, hid (by simp), hid ⟨rfl, rfl, by rw [Nat.pow_zero, Nat.mul_one, Nat.div_eq_of_lt hrD]; rfl, by rw [Nat.pow_zero, Nat.mul_one, Nat.mod_eq_of_lt hrD]⟩, H, hid (bv HB6), hid (bv HB4)⟩
    case round =>
     clear H HB6 HB4
     obtain ⟨i, ri, L, S, b7, p7, m7, c7, hik, rfl, hS1, hS2, hri, HS, HINV, H, HB7, HB4⟩ := hrel
     have hrib := bl_mono (Nat.le_of_lt hri)
     by_cases hz0 : ri = 0
     ·have HR1 := hid (show (ri : Int) = 0 by omega)
      have HEX : Hid (ExO b z S) := hid (by
       obtain ⟨a1, a2, a3, a4⟩ := HINV.out
       have := (HRZ.out i).1 (by omega)
       obtain rfl : i = k := by omega
       rw [HS.out]
       exact HFIN.out L a1 a2 a3)
      clear hz0
      go_wp2_with (refine x_q H ?_)
      (refine x_c H (rsign_z (bv HB7).ar (by omega) HR1.out) ?_; clear H; rintro e w1 ⟨rfl, hF⟩ H; replace hF := hF.kp)
      go_wp2_with (refine x_q H ?_)
      refine bodyPost_ret (results_tmp2 rfl _ _ _) rfl ?_
      exact ⟨_, rfl, H.fr, HEX.out⟩
     ·have HR1 := hid (show (ri : Int) ≠ 0 by omega)
      have hik2 : i < k := by
       obtain ⟨a1, a2, a3, a4⟩ := HINV.out
       rcases Nat.lt_or_ge i k with h | h
       ·exact h
       ·exact absurd (a4.symm.trans ((HRZ.out i).2 h)) hz0
      obtain ⟨dg, hdg⟩ : ∃ d, ri * 10 / D = d := ⟨_, rfl⟩
      obtain ⟨rn, hrn⟩ : ∃ d, ri * 10 % D = d := ⟨_, rfl⟩
      obtain ⟨T, hT⟩ : ∃ d, dec dg = d := ⟨_, rfl⟩
      have hDp : 0 < D := by omega
      have hstep := long_step (R := r) (b := D) (i := i) hDp (HINV.out.2.2.1).symm HINV.out.2.2.2
      rw [hdg, hrn] at hstep
      obtain ⟨e1, e2, e3⟩ := dec_digit hstep.2.2
      rw [hT] at e1 e2 e3
      have hrn2 : rn < D := by rw [← hrn]; exact Nat.mod_lt _ hDp
      have HINV2 : Hid ((L ++ T).length = i + 1 ∧ (L ++ T).all dig = true ∧ num (L ++ T) = r * 10 ^ (i + 1) / D ∧ r * 10 ^ (i + 1) % D = rn) := hid (by
       obtain ⟨a1, a2, a3, a4⟩ := HINV.out
       refine ⟨by rw [List.length_append]; omega, by rw [List.all_append, a2, e2]; rfl, ?_, hstep.2.1⟩
       rw [num_app, e3, Nat.pow_one, hstep.1, ← hT, (dec_digits dg).2.1])
      obtain ⟨S', hS'⟩ : ∃ s, S ++ T = s := ⟨_, rfl⟩
      have HS2 : Hid (S' = P1 ++ (L ++ T)) := hid (by rw [← hS', HS.out, List.append_assoc])
      have hS3 : S'.length ≤ P1.length + (i + 1) ∧ P1.length + (i + 1) ≤ S'.length := by rw [← hS', List.length_append]; omega
      obtain ⟨hS3, hS4⟩ := hS3
      have HSC := hid hS'
      have HTT := hid hT
      have HQ2 : Hid ((ri : Int) * 10 / (D : Int) = (dg : Int)) := hid (by rw [← hdg, Int.natCast_ediv, Int.natCast_mul]; rfl)
      have HR2 : Hid ((ri : Int) * 10 % (D : Int) = (rn : Int)) := hid (by rw [← hrn, Int.natCast_emod, Int.natCast_mul]; rfl)
      have hdb : bl dg ≤ 4 := bl_le (by have := hstep.2.2; omega)
      have hrnb := bl_mono (Nat.le_of_lt hrn2)
      have hTl : T.length ≤ 1 := by omega
      clear hdg hrn hT hstep e1 e2 e3 HINV HS hS' hz0
      go_wp2_with (refine x_q H ?_)
      (refine x_c H (rsign_nz (bv HB7).ar (by omega) HR1.out) ?_; clear H; rintro e w1 ⟨s5, rfl, hs5, hF⟩ H; replace hF := hF.kp)
      go_wp2_with (refine x_q H ?_)
      go_cut [9, 10] (fun s9 s10 wx => ∃ (g9 g10 : Nat) (b10 b11 : Bool) (p10 p11 : Option Addr) (m10 c10 m11 c11 : Nat), s9 = .pointer (some ⟨g9, 0, none⟩) ∧ s10 = .pointer (some ⟨g10, 0, none⟩) ∧ Hp [] w wx [.blk g9 [.bool b10, .slice p10 m10 c10] 50, .blk g10 [.bool b11, .slice p11 m11 c11] 50, .blk g8 [.bool b7, .slice p7 m7 c7] 50, .blk g6 [.bool b4, .slice p4 m4 c4] 50] ∧ Hid (Bv wx (.agg #[.bool b10, .slice p10 m10 c10]) (dg : Int) (bl dg)) ∧ Hid (Bv wx (.agg #[.bool b11, .slice p11 m11 c11]) (rn : Int) (bl rn)) ∧ Hid (Bv wx (.agg #[.bool b4, .slice p4 m4 c4]) (D : Int) (bl D)))
      case first =>
       clear HSC HTT hdl hPl hP1l hqb hrb hdb hrnb hTl HRZ HFIN HINV2 HS2 hS1 hS2 hS3 hS4
       (revert H; refine w_pF 11 (.st 0 (.st 3 (.ld3 1 (.ld3 2 (.ld3 4 (.st 5 (.st 6 (.st 7 (.ld2 8 (.ld 9 (.ld 10 (.ld 11 .done))) 9 (.ld 8 (.ld 10 (.ld 11 .done))))))) 8 (.ld2 4 (.st 5 (.st 6 (.st 7 (.ld 9 (.ld 10 (.ld 11 .done)))))) 9 (.ld 4 (.st 5 (.st 6 (.st 7 (.ld 10 (.ld 11 .done))))))) 9 (.ld2 4 (.st 5 (.st 6 (.st 7 (.ld 8 (.ld 10 (.ld 11 .done)))))) 8 (.ld 4 (.st 5 (.st 6 (.st 7 (.ld 10 (.ld 11 .done)))))))) 8 (.ld2 2 (.ld2 4 (.st 5 (.st 6 (.st 7 (.ld 9 (.ld 10 (.ld 11 .done)))))) 9 (.ld 4 (.st 5 (.st 6 (.st 7 (.ld 10 (.ld 11 .done))))))) 9 (.ld 2 (.ld 4 (.st 5 (.st 6 (.st 7 (.ld 10 (.ld 11 .done)))))))) 9 (.ld2 2 (.ld2 4 (.st 5 (.st 6 (.st 7 (.ld 8 (.ld 10 (.ld 11 .done)))))) 8 (.ld 4 (.st 5 (.st 6 (.st 7 (.ld 10 (.ld 11 .done))))))) 8 (.ld 2 (.ld 4 (.st 5 (.st 6 (.st 7 (.ld 10 (.ld 11 .done))))))))) 8 (.ld2 1 (.ld2 2 (.ld2 4 (.st 5 (.st 6 (.st 7 (.ld 9 (.ld 10 (.ld 11 .done)))))) 9 (.ld 4 (.st 5 (.st 6 (.st 7 (.ld 10 (.ld 11 .done))))))) 9 (.ld 2 (.ld 4 (.st 5 (.st 6 (.st 7 (.ld 10 (.ld 11 .done)))))))) 9 (.ld 1 (.ld 2 (.ld 4 (.st 5 (.st 6 (.st 7 (.ld 10 (.ld 11 .done))))))))) 9 (.ld2 1 (.ld2 2 (.ld2 4 (.st 5 (.st 6 (.st 7 (.ld 8 (.ld 10 (.ld 11 .done)))))) 8 (.ld 4 (.st 5 (.st 6 (.st 7 (.ld 10 (.ld 11 .done))))))) 8 (.ld 2 (.ld 4 (.st 5 (.st 6 (.st 7 (.ld 10 (.ld 11 .done)))))))) 8 (.ld 1 (.ld 2 (.ld 4 (.st 5 (.st 6 (.st 7 (.ld 10 (.ld 11 .done)))))))))))) ?_; intro w1 hf H; (first | replace hf := hf.kp | clear hf))
       (refine p_l ?_)
       (refine p_l ?_)
       (refine pl_ld3 ?_ ?_ ?_)
       ((refine p_c H rfl rfl Tryz.func67 (rfromInt_ar _ 10 (by simp only [inr]; omega)) ?_; clear H; rintro e w1 ⟨v8, rfl, hF, hB⟩ H; refine p_r ?_; replace hF := hF.kp); obtain ⟨b8, p8, m8, c8, rfl⟩ := hB.form; have HB8 := hid hB; clear hB)
       (refine pl_ld3 ?_ ?_ ?_)
       ((refine p_c H rfl rfl Tryz.func76 (rmul_ar (bv HB7).ar (bv HB8).ar (by omega) (by omega)) ?_; clear H; rintro e w1 ⟨v9, rfl, hF, hB⟩ H; refine p_r ?_; replace hF := hF.kp); obtain ⟨b9, p9, m9, c9, rfl⟩ := hB.form; have HB9 := hid hB; clear hB)
       (refine pl_ld3 ?_ ?_ ?_)
       ((refine p_c H rfl rfl Tryz.func63 (rdivMod_ar (bv HB9).ar (bv HB4).ar (by omega) (by omega) HD0.out) ?_; clear H; rintro e w1 ⟨v10, v11, rfl, hF, hB, hB2⟩ H; refine p_r ?_; replace hF := hF.kp); replace hB := hB.c; replace hB2 := hB2.c; rw [HQ2.out, Int.natAbs_natCast] at hB; rw [HR2.out, Int.natAbs_natCast] at hB2; obtain ⟨b10, p10, m10, c10, rfl⟩ := hB.form; have HB10 := hid hB; clear hB; obtain ⟨b11, p11, m11, c11, rfl⟩ := hB2.form; have HB11 := hid hB2; clear hB2)
       iterate 3 refine p_q ?_
       (refine pl_ld2 ?_ ?_)
       (revert H; refine p_g ?_; intro g w1 hg hf H; (first | replace hf := hf.kp | clear hf))
       (revert H; refine p_g ?_; intro g w1 hg hf H; (first | replace hf := hf.kp | clear hf))
       (revert H; refine pSF ?_; intro w1 H hk)
       (revert H; refine pSF ?_; intro w1 H hk)
       (refine pl_done ?_)
       rotate_left
       (revert H; refine p_g ?_; intro g w1 hg hf H; (first | replace hf := hf.kp | clear hf))
       (revert H; refine p_g ?_; intro g w1 hg hf H; (first | replace hf := hf.kp | clear hf))
       (revert H; refine pSF ?_; intro w1 H hk)
       (revert H; refine pSF ?_; intro w1 H hk)
       (refine pl_done ?_)
       rotate_left
       (revert H; refine p_g ?_; intro g w1 hg hf H; (first | replace hf := hf.kp | clear hf))
       (refine pl_ld2 ?_ ?_)
       ((refine p_c H rfl rfl Tryz.func63 (rdivMod_ar (bv HB9).ar (bv HB4).ar (by omega) (by omega) HD0.out) ?_; clear H; rintro e w1 ⟨v10, v11, rfl, hF, hB, hB2⟩ H; refine p_r ?_; replace hF := hF.kp); replace hB := hB.c; replace hB2 := hB2.c; rw [HQ2.out, Int.natAbs_natCast] at hB; rw [HR2.out, Int.natAbs_natCast] at hB2; obtain ⟨b10, p10, m10, c10, rfl⟩ := hB.form; have HB10 := hid hB; clear hB; obtain ⟨b11, p11, m11, c11, rfl⟩ := hB2.form; have HB11 := hid hB2; clear hB2)
       iterate 3 refine p_q ?_
       (revert H; refine p_g ?_; intro g w1 hg hf H; (first | replace hf := hf.kp | clear hf))
       (revert H; refine pSF ?_; intro w1 H hk)
       (revert H; refine pSF ?_; intro w1 H hk)
       (refine pl_done ?_)
       rotate_left
       (revert H; refine p_g ?_; intro g w1 hg hf H; (first | replace hf := hf.kp | clear hf))
       ((refine p_c H rfl rfl Tryz.func63 (rdivMod_ar (bv HB9).ar (bv HB4).ar (by omega) (by omega) HD0.out) ?_; clear H; rintro e w1 ⟨v10, v11, rfl, hF, hB, hB2⟩ H; refine p_r ?_; replace hF := hF.kp); replace hB := hB.c; replace hB2 := hB2.c; rw [HQ2.out, Int.natAbs_natCast] at hB; rw [HR2.out, Int.natAbs_natCast] at hB2; obtain ⟨b10, p10, m10, c10, rfl⟩ := hB.form; have HB10 := hid hB; clear hB; obtain ⟨b11, p11, m11, c11, rfl⟩ := hB2.form; have HB11 := hid hB2; clear hB2)
       iterate 3 refine p_q ?_
       (revert H; refine pSF ?_; intro w1 H hk)
       (revert H; refine pSF ?_; intro w1 H hk)
       (refine pl_done ?_)
       rotate_left
       (revert H; refine p_g ?_; intro g w1 hg hf H; (first | replace hf := hf.kp | clear hf))
       (refine pl_ld2 ?_ ?_)
       ((refine p_c H rfl rfl Tryz.func63 (rdivMod_ar (bv HB9).ar (bv HB4).ar (by omega) (by omega) HD0.out) ?_; clear H; rintro e w1 ⟨v10, v11, rfl, hF, hB, hB2⟩ H; refine p_r ?_; replace hF := hF.kp); replace hB := hB.c; replace hB2 := hB2.c; rw [HQ2.out, Int.natAbs_natCast] at hB; rw [HR2.out, Int.natAbs_natCast] at hB2; obtain ⟨b10, p10, m10, c10, rfl⟩ := hB.form; have HB10 := hid hB; clear hB; obtain ⟨b11, p11, m11, c11, rfl⟩ := hB2.form; have HB11 := hid hB2; clear hB2)
       iterate 3 refine p_q ?_
       (revert H; refine p_g ?_; intro g w1 hg hf H; (first | replace hf := hf.kp | clear hf))
       (revert H; refine pSF ?_; intro w1 H hk)
       (revert H; refine pSF ?_; intro w1 H hk)
       (refine pl_done ?_)
       rotate_left
       (revert H; refine p_g ?_; intro g w1 hg hf H; (first | replace hf := hf.kp | clear hf))
       ((refine p_c H rfl rfl Tryz.func63 (rdivMod_ar (bv HB9).ar (bv HB4).ar (by omega) (by omega) HD0.out) ?_; clear H; rintro e w1 ⟨v10, v11, rfl, hF, hB, hB2⟩ H; refine p_r ?_; replace hF := hF.kp); replace hB := hB.c; replace hB2 := hB2.c; rw [HQ2.out, Int.natAbs_natCast] at hB; rw [HR2.out, Int.natAbs_natCast] at hB2; obtain ⟨b10, p10, m10, c10, rfl⟩ := hB.form; have HB10 := hid hB; clear hB; obtain ⟨b11, p11, m11, c11, rfl⟩ := hB2.form; have HB11 := hid hB2; clear hB2)
       iterate 3 refine p_q ?_
       (revert H; refine pSF ?_; intro w1 H hk)
       (revert H; refine pSF ?_; intro w1 H hk)
       (refine pl_done ?_)
       rotate_left
       (revert H; refine p_g ?_; intro g w1 hg hf H; (first | replace hf := hf.kp | clear hf))
       (refine pl_ld2 ?_ ?_)
       ((refine p_c H rfl rfl Tryz.func76 (rmul_ar (bv HB7).ar (bv HB8).ar (by omega) (by omega)) ?_; clear H; rintro e w1 ⟨v9, rfl, hF, hB⟩ H; refine p_r ?_; replace hF := hF.kp); obtain ⟨b9, p9, m9, c9, rfl⟩ := hB.form; have HB9 := hid hB; clear hB)
       (refine pl_ld2 ?_ ?_)
       ((refine p_c H rfl rfl Tryz.func63 (rdivMod_ar (bv HB9).ar (bv HB4).ar (by omega) (by omega) HD0.out) ?_; clear H; rintro e w1 ⟨v10, v11, rfl, hF, hB, hB2⟩ H; refine p_r ?_; replace hF := hF.kp); replace hB := hB.c; replace hB2 := hB2.c; rw [HQ2.out, Int.natAbs_natCast] at hB; rw [HR2.out, Int.natAbs_natCast] at hB2; obtain ⟨b10, p10, m10, c10, rfl⟩ := hB.form; have HB10 := hid hB; clear hB; obtain ⟨b11, p11, m11, c11, rfl⟩ := hB2.form; have HB11 := hid hB2; clear hB2)
       iterate 3 refine p_q ?_
       (revert H; refine p_g ?_; intro g w1 hg hf H; (first | replace hf := hf.kp | clear hf))
       (revert H; refine pSF ?_; intro w1 H hk)
       (revert H; refine pSF ?_; intro w1 H hk)
       (refine pl_done ?_)
       rotate_left
       (revert H; refine p_g ?_; intro g w1 hg hf H; (first | replace hf := hf.kp | clear hf))
       ((refine p_c H rfl rfl Tryz.func63 (rdivMod_ar (bv HB9).ar (bv HB4).ar (by omega) (by omega) HD0.out) ?_; clear H; rintro e w1 ⟨v10, v11, rfl, hF, hB, hB2⟩ H; refine p_r ?_; replace hF := hF.kp); replace hB := hB.c; replace hB2 := hB2.c; rw [HQ2.out, Int.natAbs_natCast] at hB; rw [HR2.out, Int.natAbs_natCast] at hB2; obtain ⟨b10, p10, m10, c10, rfl⟩ := hB.form; have HB10 := hid hB; clear hB; obtain ⟨b11, p11, m11, c11, rfl⟩ := hB2.form; have HB11 := hid hB2; clear hB2)
       iterate 3 refine p_q ?_
       (revert H; refine pSF ?_; intro w1 H hk)
       (revert H; refine pSF ?_; intro w1 H hk)
       (refine pl_done ?_)
       rotate_left
       (revert H; refine p_g ?_; intro g w1 hg hf H; (first | replace hf := hf.kp | clear hf))
       ((refine p_c H rfl rfl Tryz.func76 (rmul_ar (bv HB7).ar (bv HB8).ar (by omega) (by omega)) ?_; clear H; rintro e w1 ⟨v9, rfl, hF, hB⟩ H; refine p_r ?_; replace hF := hF.kp); obtain ⟨b9, p9, m9, c9, rfl⟩ := hB.form; have HB9 := hid hB; clear hB)
       ((refine p_c H rfl rfl Tryz.func63 (rdivMod_ar (bv HB9).ar (bv HB4).ar (by omega) (by omega) HD0.out) ?_; clear H; rintro e w1 ⟨v10, v11, rfl, hF, hB, hB2⟩ H; refine p_r ?_; replace hF := hF.kp); replace hB := hB.c; replace hB2 := hB2.c; rw [HQ2.out, Int.natAbs_natCast] at hB; rw [HR2.out, Int.natAbs_natCast] at hB2; obtain ⟨b10, p10, m10, c10, rfl⟩ := hB.form; have HB10 := hid hB; clear hB; obtain ⟨b11, p11, m11, c11, rfl⟩ := hB2.form; have HB11 := hid hB2; clear hB2)
       iterate 3 refine p_q ?_
       (revert H; refine pSF ?_; intro w1 H hk)
       (revert H; refine pSF ?_; intro w1 H hk)
       (refine pl_done ?_)
       rotate_left
       (revert H; refine p_g ?_; intro g w1 hg hf H; (first | replace hf := hf.kp | clear hf))
       (refine pl_ld2 ?_ ?_)
       ((refine p_c H rfl rfl Tryz.func76 (rmul_ar (bv HB7).ar (bv HB8).ar (by omega) (by omega)) ?_; clear H; rintro e w1 ⟨v9, rfl, hF, hB⟩ H; refine p_r ?_; replace hF := hF.kp); obtain ⟨b9, p9, m9, c9, rfl⟩ := hB.form; have HB9 := hid hB; clear hB)
       (refine pl_ld2 ?_ ?_)
       ((refine p_c H rfl rfl Tryz.func63 (rdivMod_ar (bv HB9).ar (bv HB4).ar (by omega) (by omega) HD0.out) ?_; clear H; rintro e w1 ⟨v10, v11, rfl, hF, hB, hB2⟩ H; refine p_r ?_; replace hF := hF.kp); replace hB := hB.c; replace hB2 := hB2.c; rw [HQ2.out, Int.natAbs_natCast] at hB; rw [HR2.out, Int.natAbs_natCast] at hB2; obtain ⟨b10, p10, m10, c10, rfl⟩ := hB.form; have HB10 := hid hB; clear hB; obtain ⟨b11, p11, m11, c11, rfl⟩ := hB2.form; have HB11 := hid hB2; clear hB2)
       iterate 3 refine p_q ?_
       (revert H; refine p_g ?_; intro g w1 hg hf H; (first | replace hf := hf.kp | clear hf))
       (revert H; refine pSF ?_; intro w1 H hk)
       (revert H; refine pSF ?_; intro w1 H hk)
       (refine pl_done ?_)
       rotate_left
       (revert H; refine p_g ?_; intro g w1 hg hf H; (first | replace hf := hf.kp | clear hf))
       ((refine p_c H rfl rfl Tryz.func63 (rdivMod_ar (bv HB9).ar (bv HB4).ar (by omega) (by omega) HD0.out) ?_; clear H; rintro e w1 ⟨v10, v11, rfl, hF, hB, hB2⟩ H; refine p_r ?_; replace hF := hF.kp); replace hB := hB.c; replace hB2 := hB2.c; rw [HQ2.out, Int.natAbs_natCast] at hB; rw [HR2.out, Int.natAbs_natCast] at hB2; obtain ⟨b10, p10, m10, c10, rfl⟩ := hB.form; have HB10 := hid hB; clear hB; obtain ⟨b11, p11, m11, c11, rfl⟩ := hB2.form; have HB11 := hid hB2; clear hB2)
       iterate 3 refine p_q ?_
       (revert H; refine pSF ?_; intro w1 H hk)
       (revert H; refine pSF ?_; intro w1 H hk)
       (refine pl_done ?_)
       rotate_left
       (revert H; refine p_g ?_; intro g w1 hg hf H; (first | replace hf := hf.kp | clear hf))
       ((refine p_c H rfl rfl Tryz.func76 (rmul_ar (bv HB7).ar (bv HB8).ar (by omega) (by omega)) ?_; clear H; rintro e w1 ⟨v9, rfl, hF, hB⟩ H; refine p_r ?_; replace hF := hF.kp); obtain ⟨b9, p9, m9, c9, rfl⟩ := hB.form; have HB9 := hid hB; clear hB)
       ((refine p_c H rfl rfl Tryz.func63 (rdivMod_ar (bv HB9).ar (bv HB4).ar (by omega) (by omega) HD0.out) ?_; clear H; rintro e w1 ⟨v10, v11, rfl, hF, hB, hB2⟩ H; refine p_r ?_; replace hF := hF.kp); replace hB := hB.c; replace hB2 := hB2.c; rw [HQ2.out, Int.natAbs_natCast] at hB; rw [HR2.out, Int.natAbs_natCast] at hB2; obtain ⟨b10, p10, m10, c10, rfl⟩ := hB.form; have HB10 := hid hB; clear hB; obtain ⟨b11, p11, m11, c11, rfl⟩ := hB2.form; have HB11 := hid hB2; clear hB2)
       iterate 3 refine p_q ?_
       (revert H; refine pSF ?_; intro w1 H hk)
       (revert H; refine pSF ?_; intro w1 H hk)
       (refine pl_done ?_)
       rotate_left
       (revert H; refine p_g ?_; intro g w1 hg hf H; (first | replace hf := hf.kp | clear hf))
       (refine pl_ld2 ?_ ?_)
       ((refine p_c H rfl rfl Tryz.func67 (rfromInt_ar _ 10 (by simp only [inr]; omega)) ?_; clear H; rintro e w1 ⟨v8, rfl, hF, hB⟩ H; refine p_r ?_; replace hF := hF.kp); obtain ⟨b8, p8, m8, c8, rfl⟩ := hB.form; have HB8 := hid hB; clear hB)
       (refine pl_ld2 ?_ ?_)
       ((refine p_c H rfl rfl Tryz.func76 (rmul_ar (bv HB7).ar (bv HB8).ar (by omega) (by omega)) ?_; clear H; rintro e w1 ⟨v9, rfl, hF, hB⟩ H; refine p_r ?_; replace hF := hF.kp); obtain ⟨b9, p9, m9, c9, rfl⟩ := hB.form; have HB9 := hid hB; clear hB)
       (refine pl_ld2 ?_ ?_)
       ((refine p_c H rfl rfl Tryz.func63 (rdivMod_ar (bv HB9).ar (bv HB4).ar (by omega) (by omega) HD0.out) ?_; clear H; rintro e w1 ⟨v10, v11, rfl, hF, hB, hB2⟩ H; refine p_r ?_; replace hF := hF.kp); replace hB := hB.c; replace hB2 := hB2.c; rw [HQ2.out, Int.natAbs_natCast] at hB; rw [HR2.out, Int.natAbs_natCast] at hB2; obtain ⟨b10, p10, m10, c10, rfl⟩ := hB.form; have HB10 := hid hB; clear hB; obtain ⟨b11, p11, m11, c11, rfl⟩ := hB2.form; have HB11 := hid hB2; clear hB2)
       iterate 3 refine p_q ?_
       (revert H; refine p_g ?_; intro g w1 hg hf H; (first | replace hf := hf.kp | clear hf))
       (revert H; refine pSF ?_; intro w1 H hk)
       (revert H; refine pSF ?_; intro w1 H hk)
       (refine pl_done ?_)
       rotate_left
       (revert H; refine p_g ?_; intro g w1 hg hf H; (first | replace hf := hf.kp | clear hf))
       ((refine p_c H rfl rfl Tryz.func63 (rdivMod_ar (bv HB9).ar (bv HB4).ar (by omega) (by omega) HD0.out) ?_; clear H; rintro e w1 ⟨v10, v11, rfl, hF, hB, hB2⟩ H; refine p_r ?_; replace hF := hF.kp); replace hB := hB.c; replace hB2 := hB2.c; rw [HQ2.out, Int.natAbs_natCast] at hB; rw [HR2.out, Int.natAbs_natCast] at hB2; obtain ⟨b10, p10, m10, c10, rfl⟩ := hB.form; have HB10 := hid hB; clear hB; obtain ⟨b11, p11, m11, c11, rfl⟩ := hB2.form; have HB11 := hid hB2; clear hB2)
       iterate 3 refine p_q ?_
       (revert H; refine pSF ?_; intro w1 H hk)
       (revert H; refine pSF ?_; intro w1 H hk)
       (refine pl_done ?_)
       rotate_left
       (revert H; refine p_g ?_; intro g w1 hg hf H; (first | replace hf := hf.kp | clear hf))
       ((refine p_c H rfl rfl Tryz.func76 (rmul_ar (bv HB7).ar (bv HB8).ar (by omega) (by omega)) ?_; clear H; rintro e w1 ⟨v9, rfl, hF, hB⟩ H; refine p_r ?_; replace hF := hF.kp); obtain ⟨b9, p9, m9, c9, rfl⟩ := hB.form; have HB9 := hid hB; clear hB)
       ((refine p_c H rfl rfl Tryz.func63 (rdivMod_ar (bv HB9).ar (bv HB4).ar (by omega) (by omega) HD0.out) ?_; clear H; rintro e w1 ⟨v10, v11, rfl, hF, hB, hB2⟩ H; refine p_r ?_; replace hF := hF.kp); replace hB := hB.c; replace hB2 := hB2.c; rw [HQ2.out, Int.natAbs_natCast] at hB; rw [HR2.out, Int.natAbs_natCast] at hB2; obtain ⟨b10, p10, m10, c10, rfl⟩ := hB.form; have HB10 := hid hB; clear hB; obtain ⟨b11, p11, m11, c11, rfl⟩ := hB2.form; have HB11 := hid hB2; clear hB2)
       iterate 3 refine p_q ?_
       (revert H; refine pSF ?_; intro w1 H hk)
       (revert H; refine pSF ?_; intro w1 H hk)
       (refine pl_done ?_)
       rotate_left
       (revert H; refine p_g ?_; intro g w1 hg hf H; (first | replace hf := hf.kp | clear hf))
       ((refine p_c H rfl rfl Tryz.func67 (rfromInt_ar _ 10 (by simp only [inr]; omega)) ?_; clear H; rintro e w1 ⟨v8, rfl, hF, hB⟩ H; refine p_r ?_; replace hF := hF.kp); obtain ⟨b8, p8, m8, c8, rfl⟩ := hB.form; have HB8 := hid hB; clear hB)
       ((refine p_c H rfl rfl Tryz.func76 (rmul_ar (bv HB7).ar (bv HB8).ar (by omega) (by omega)) ?_; clear H; rintro e w1 ⟨v9, rfl, hF, hB⟩ H; refine p_r ?_; replace hF := hF.kp); obtain ⟨b9, p9, m9, c9, rfl⟩ := hB.form; have HB9 := hid hB; clear hB)
       ((refine p_c H rfl rfl Tryz.func63 (rdivMod_ar (bv HB9).ar (bv HB4).ar (by omega) (by omega) HD0.out) ?_; clear H; rintro e w1 ⟨v10, v11, rfl, hF, hB, hB2⟩ H; refine p_r ?_; replace hF := hF.kp); replace hB := hB.c; replace hB2 := hB2.c; rw [HQ2.out, Int.natAbs_natCast] at hB; rw [HR2.out, Int.natAbs_natCast] at hB2; obtain ⟨b10, p10, m10, c10, rfl⟩ := hB.form; have HB10 := hid hB; clear hB; obtain ⟨b11, p11, m11, c11, rfl⟩ := hB2.form; have HB11 := hid hB2; clear hB2)
       iterate 3 refine p_q ?_
       (revert H; refine pSF ?_; intro w1 H hk)
       (revert H; refine pSF ?_; intro w1 H hk)
       (refine pl_done ?_)
       rotate_left
       (revert H; refine p_g ?_; intro g w1 hg hf H; (first | replace hf := hf.kp | clear hf))
       (refine pl_ld2 ?_ ?_)
       ((refine p_c H rfl rfl Tryz.func67 (rfromInt_ar _ 10 (by simp only [inr]; omega)) ?_; clear H; rintro e w1 ⟨v8, rfl, hF, hB⟩ H; refine p_r ?_; replace hF := hF.kp); obtain ⟨b8, p8, m8, c8, rfl⟩ := hB.form; have HB8 := hid hB; clear hB)
       (refine pl_ld2 ?_ ?_)
       ((refine p_c H rfl rfl Tryz.func76 (rmul_ar (bv HB7).ar (bv HB8).ar (by omega) (by omega)) ?_; clear H; rintro e w1 ⟨v9, rfl, hF, hB⟩ H; refine p_r ?_; replace hF := hF.kp); obtain ⟨b9, p9, m9, c9, rfl⟩ := hB.form; have HB9 := hid hB; clear hB)
       (refine pl_ld2 ?_ ?_)
       ((refine p_c H rfl rfl Tryz.func63 (rdivMod_ar (bv HB9).ar (bv HB4).ar (by omega) (by omega) HD0.out) ?_; clear H; rintro e w1 ⟨v10, v11, rfl, hF, hB, hB2⟩ H; refine p_r ?_; replace hF := hF.kp); replace hB := hB.c; replace hB2 := hB2.c; rw [HQ2.out, Int.natAbs_natCast] at hB; rw [HR2.out, Int.natAbs_natCast] at hB2; obtain ⟨b10, p10, m10, c10, rfl⟩ := hB.form; have HB10 := hid hB; clear hB; obtain ⟨b11, p11, m11, c11, rfl⟩ := hB2.form; have HB11 := hid hB2; clear hB2)
       iterate 3 refine p_q ?_
       (revert H; refine p_g ?_; intro g w1 hg hf H; (first | replace hf := hf.kp | clear hf))
       (revert H; refine pSF ?_; intro w1 H hk)
       (revert H; refine pSF ?_; intro w1 H hk)
       (refine pl_done ?_)
       rotate_left
       (revert H; refine p_g ?_; intro g w1 hg hf H; (first | replace hf := hf.kp | clear hf))
       ((refine p_c H rfl rfl Tryz.func63 (rdivMod_ar (bv HB9).ar (bv HB4).ar (by omega) (by omega) HD0.out) ?_; clear H; rintro e w1 ⟨v10, v11, rfl, hF, hB, hB2⟩ H; refine p_r ?_; replace hF := hF.kp); replace hB := hB.c; replace hB2 := hB2.c; rw [HQ2.out, Int.natAbs_natCast] at hB; rw [HR2.out, Int.natAbs_natCast] at hB2; obtain ⟨b10, p10, m10, c10, rfl⟩ := hB.form; have HB10 := hid hB; clear hB; obtain ⟨b11, p11, m11, c11, rfl⟩ := hB2.form; have HB11 := hid hB2; clear hB2)
       iterate 3 refine p_q ?_
       (revert H; refine pSF ?_; intro w1 H hk)
       (revert H; refine pSF ?_; intro w1 H hk)
       (refine pl_done ?_)
       rotate_left
       (revert H; refine p_g ?_; intro g w1 hg hf H; (first | replace hf := hf.kp | clear hf))
       ((refine p_c H rfl rfl Tryz.func76 (rmul_ar (bv HB7).ar (bv HB8).ar (by omega) (by omega)) ?_; clear H; rintro e w1 ⟨v9, rfl, hF, hB⟩ H; refine p_r ?_; replace hF := hF.kp); obtain ⟨b9, p9, m9, c9, rfl⟩ := hB.form; have HB9 := hid hB; clear hB)
       ((refine p_c H rfl rfl Tryz.func63 (rdivMod_ar (bv HB9).ar (bv HB4).ar (by omega) (by omega) HD0.out) ?_; clear H; rintro e w1 ⟨v10, v11, rfl, hF, hB, hB2⟩ H; refine p_r ?_; replace hF := hF.kp); replace hB := hB.c; replace hB2 := hB2.c; rw [HQ2.out, Int.natAbs_natCast] at hB; rw [HR2.out, Int.natAbs_natCast] at hB2; obtain ⟨b10, p10, m10, c10, rfl⟩ := hB.form; have HB10 := hid hB; clear hB; obtain ⟨b11, p11, m11, c11, rfl⟩ := hB2.form; have HB11 := hid hB2; clear hB2)
       iterate 3 refine p_q ?_
       (revert H; refine pSF ?_; intro w1 H hk)
       (revert H; refine pSF ?_; intro w1 H hk)
       (refine pl_done ?_)
       rotate_left
       (revert H; refine p_g ?_; intro g w1 hg hf H; (first | replace hf := hf.kp | clear hf))
       ((refine p_c H rfl rfl Tryz.func67 (rfromInt_ar _ 10 (by simp only [inr]; omega)) ?_; clear H; rintro e w1 ⟨v8, rfl, hF, hB⟩ H; refine p_r ?_; replace hF := hF.kp); obtain ⟨b8, p8, m8, c8, rfl⟩ := hB.form; have HB8 := hid hB; clear hB)
       ((refine p_c H rfl rfl Tryz.func76 (rmul_ar (bv HB7).ar (bv HB8).ar (by omega) (by omega)) ?_; clear H; rintro e w1 ⟨v9, rfl, hF, hB⟩ H; refine p_r ?_; replace hF := hF.kp); obtain ⟨b9, p9, m9, c9, rfl⟩ := hB.form; have HB9 := hid hB; clear hB)
       ((refine p_c H rfl rfl Tryz.func63 (rdivMod_ar (bv HB9).ar (bv HB4).ar (by omega) (by omega) HD0.out) ?_; clear H; rintro e w1 ⟨v10, v11, rfl, hF, hB, hB2⟩ H; refine p_r ?_; replace hF := hF.kp); replace hB := hB.c; replace hB2 := hB2.c; rw [HQ2.out, Int.natAbs_natCast] at hB; rw [HR2.out, Int.natAbs_natCast] at hB2; obtain ⟨b10, p10, m10, c10, rfl⟩ := hB.form; have HB10 := hid hB; clear hB; obtain ⟨b11, p11, m11, c11, rfl⟩ := hB2.form; have HB11 := hid hB2; clear hB2)
       iterate 3 refine p_q ?_
       (revert H; refine pSF ?_; intro w1 H hk)
       (revert H; refine pSF ?_; intro w1 H hk)
       (refine pl_done ?_)
       rotate_left
       all_goals
        go_wp2_with fail
        go_meet
        case rel => exact ⟨_, _, _, _, _, _, _, _, _, _, rfl, rfl, by (refine Hp.arr H ?_; repeat (first | exact Pm.nil _ | (apply Pm.cons; · (repeat first | exact Rm.here _ | apply Rm.there)))), hid (bv HB10), hid (bv HB11), hid (bv HB4)⟩
      case rest =>
       clear H HB7 HB4
       obtain ⟨g9, g10, b10, b11, p10, p11, m10, c10, m11, c11, rfl, rfl, H, HB10, HB11, HB4⟩ := hcut
       go_wp2_with (refine x_q H ?_)
       (refine x_c H (rformatN_any (bv HB10).ar (by omega) HTT) ?_; clear H; rintro e w1 ⟨rfl, hF⟩ H; replace hF := hF.kp)
       go_wp2_with (first | refine x_q H ?_ | (revert H; refine xSF ?_; intro w1 H hk) | refine x_e (ev_strCat rfl rfl rfl HSC (by omega)) ?_)
       go_roundw
       case rel => exact ⟨i + 1, rn, L ++ T, S', _, _, _, _, by omega, rfl, hS3, hS4, hrn2, HS2, HINV2, by (refine Hp.arr H ?_; repeat (first | exact Pm.nil _ | (apply Pm.cons; · (repeat first | exact Rm.here _ | apply Rm.there)))), hid (bv HB11), hid (bv HB4)⟩
       case measure => (rw [lenOf_str, lenOf_str]; omega)
end Go.Proofs.YthbeeeclgbpopaaGreatDoor
