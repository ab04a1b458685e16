/-
  The decimals: the digits of a float.
-/
import Derived.Test.YthbeeeclgbpopaaGreatDoorXFa5
import Derived.Test.YthbeeeclgbpopaaGreatDoorXPz2
namespace Go.Proofs.YthbeeeclgbpopaaGreatDoor
open Go.RowKit
set_option linter.unusedSimpArgs false
set_option linter.unusedVariables false
set_option maxHeartbeats 8000000
set_option maxRecDepth 100000

theorem formatN_any {w : World} {u : Value} {n : Nat} (h : Av w u (n : Int) (bl n)) (hn : bl n ≤ 10000) (hT : La w) {l : List UInt8} (hl : Hid (dec n = l)) :
    Calls Tryz.prog 52 #[u] w fun e w' => e = .returned (strV l) ∧ Fr [] w w' := by
  have hf := format_ar h (by omega) hT.2
  have e : fmt (n : Int) = l := by unfold fmt; rw [if_neg (by omega), Int.natAbs_natCast, hl.out]
  rw [e] at hf
  exact hf
theorem nearestD_any {w : World} {u v : Value} {X Y : Nat} (hu : Bv w u (X : Int) (bl X)) (hv : Bv w v (Y : Int) (bl Y)) (hX : bl X ≤ 60000) (hY : bl Y ≤ 60000) (hY0 : 0 < Y) (hT : La w) {q : Nat} (hq : Hid (rm false 0 X Y = q)) :
    Calls Tryz.prog 53 #[u, v] w fun r w' => ∃ v1, r = .returned v1 ∧ Fr [] w w' ∧ Bv w' v1 (q : Int) (bl q) := by
  rw [← hq.out]; exact nearest_any hu hv hX hY hY0 hT
set_option maxHeartbeats 16000000 in
theorem digits_any (w : World) {b z : Nat} {n : Nat} (hb : b < 18446744073709551616) (hk : kindF b = 1) (hz : Hid (b % 9223372036854775808 = z)) (h0 : 0 < z) (hz1 : z < 9218868437227405312) (hn1 : 1 ≤ n) (hn2 : n ≤ 800) (hT : La w) :
    Calls Tryz.prog 19 #[.int .u64 (b : Int), .int .i64 (n : Int)] w fun r w' => ∃ ds x, r = .returned (.tuple #[strV ds, .int .i64 x, .int .i64 0]) ∧ Fr [] w w' ∧ Dgs z n ds x := by
  have HK := hid hk
  have HK3 := hid (show kindF b ≠ 3 by rw [hk]; decide)
  have HT := hid hT
  have HDF := hid (dF_pos z)
  clear hk hT
  have H := Hp.start [] w
  go_enter Tryz.func19, Tryz.ntmps19
  go_wp2_with fail
  (refine x_c H (kindI_any _ hb HK) ?_; clear H; rintro e w1 ⟨rfl, hF⟩ H; replace hF := hF.kp; skip)
  go_wp2_with (refine x_q H ?_)
  (refine x_c H (fraction_any _ hb HK3.out hz h0 hz1 (HT.out.fr H.fr)) ?_; clear H; rintro e w1 ⟨v3, v4, rfl, hF, N, D, hB, hB2, hN0, hD0, hND, hNb, hDb⟩ H; replace hF := hF.kp; obtain ⟨b3, p3, m3, c3, rfl⟩ := hB.form; have HB3 := hid hB; clear hB; obtain ⟨b4, p4, m4, c4, rfl⟩ := hB2.form; have HB4 := hid hB2; clear hB2)
  have HND := hid hND
  have HP := hid hN0
  have HPD := hid hD0
  clear hND
  go_wp2_with (first | refine x_q H ?_ | (revert H; refine x_sF ?_; intro w1 hf H hk; clear hf; change Kp _ _ at hk) | (revert H; (first | (refine x_g ?_; intro g w1 hg hf H) | (refine x_s ?_; intro w1 hf H)); (first | replace hf := hf.kp | clear hf)))
  (refine x_c H (magnitude_any (bv HB3) (bv HB4) hNb hDb HP.out HPD.out) ?_; clear H; rintro e w1 ⟨k, rfl, hF, ht1, ht2, hk1, hk2⟩ H; replace hF := hF.kp; skip)
  have HNF := hid (nF_pos h0)
  have HT1 := hid ((tenLe_same HNF.out HP.out HDF.out HPD.out HND.out k).1 ht1)
  have HT2 := hid (fun h => ht2 ((tenLe_same HNF.out HP.out HDF.out HPD.out HND.out (k + 1)).2 h))
  clear ht1 ht2
  have hbu := bl_upN (N := N) (n := (n : Int) - 1 - k) (by omega)
  have hbd := bl_dnD (N := D) (n := (n : Int) - 1 - k) (by omega)
  have hyp : 0 < dnD D ((n : Int) - 1 - k) := Nat.mul_pos HPD.out (ten_pos _)
  have hqe : rm false 0 (upN N ((n : Int) - 1 - k)) (dnD D ((n : Int) - 1 - k)) = near (nF z) (dF z) ((n : Int) - 1 - k) := near_same HDF.out HPD.out HND.out _
  have hqs := near_size (n := n) HDF.out hn1 HT1.out HT2.out
  obtain ⟨q, hq⟩ : ∃ q, near (nF z) (dF z) ((n : Int) - 1 - k) = q := ⟨_, rfl⟩
  rw [hq] at hqe hqs
  have hqb : bl q ≤ 4 * n + 1 := Nat.le_trans (bl_mono hqs.2) (bl_ten n)
  have HQ := hid hqe
  obtain ⟨X, hX⟩ : ∃ X, upN N ((n : Int) - 1 - k) = X := ⟨_, rfl⟩
  obtain ⟨Y, hY⟩ : ∃ X, dnD D ((n : Int) - 1 - k) = X := ⟨_, rfl⟩
  rw [hX, hY] at HQ
  rw [hX] at hbu
  rw [hY] at hbd hyp
  have HX := hid hX
  have HY := hid hY
  obtain ⟨l, hl⟩ : ∃ l, dec q = l := ⟨_, rfl⟩
  have HL := hid hl
  have HDG : Hid (∀ ds x, ds = l.take n → x = (if n < l.length then k + 1 else k) → Dgs z n ds x) := hid (fun ds x h1 h2 => ⟨k, HT1.out, HT2.out, by rw [hq, hl]; exact h1, by rw [hq, hl]; exact h2⟩)
  clear hX hY hq hl hqs hqe HT1 HT2 HND HNF HDF
  go_wp2_with (refine x_q H ?_)
  (refine x_c H (scaledZ_any (z := (n : Int) - 1 - k) _ rfl (bv HB3) (bv HB4) (by omega) (by omega) (by omega) HX HY) ?_; clear H; rintro e w1 ⟨v5, v6, rfl, hF, hB, hB2⟩ H; replace hF := hF.kp; obtain ⟨b5, p5, m5, c5, rfl⟩ := hB.form; have HB5 := hid hB; clear hB; obtain ⟨b6, p6, m6, c6, rfl⟩ := hB2.form; have HB6 := hid hB2; clear hB2)
  go_wp2_with fail
  (refine x_c H (nearestD_any (bv HB5) (bv HB6) (by omega) (by omega) hyp (HT.out.fr H.fr) HQ) ?_; clear H; rintro e w1 ⟨v7, rfl, hF, hB⟩ H; replace hF := hF.kp; obtain ⟨b7, p7, m7, c7, rfl⟩ := hB.form; have HB7 := hid hB; clear hB)
  go_wp2_with fail
  (refine x_c H (formatN_any (bv HB7).ar (by omega) (HT.out.fr H.fr) HL) ?_; clear H; rintro e w1 ⟨rfl, hF⟩ H; replace hF := hF.kp; skip)
  by_cases hlt : n < l.length
  · have HTK : Hid (l.take (n : Int).toNat = l.take n) := hid rfl
    go_wp2_with (first | refine x_q H ?_ | refine x_e (ev_strLen rfl rfl) ?_ | refine x_e (ev_strHead rfl rfl rfl HTK) ?_)
    refine bodyPost_ret (results_tmp3 rfl _ _ _) rfl ?_
    exact ⟨_, _, rfl, H.fr, HDG.out _ _ rfl (by rw [if_pos hlt])⟩
  · have HTK : Hid (l = l.take n) := hid (List.take_of_length_le (by omega)).symm
    go_wp2_with (first | refine x_q H ?_ | refine x_e (ev_strLen rfl rfl) ?_)
    refine bodyPost_ret (results_tmp3 rfl _ _ _) rfl ?_
    exact ⟨_, _, rfl, H.fr, HDG.out _ _ HTK.out (by rw [if_neg hlt])⟩
end Go.Proofs.YthbeeeclgbpopaaGreatDoor
