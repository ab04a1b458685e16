/-
  The integers: the sanity check.
-/
import Derived.Test.YtpmebjhlgdhchaaDoorIz1
namespace Go.Proofs.YtpmebjhlgdhchaaDoor
open Go.RowKit
set_option linter.unusedSimpArgs false
set_option linter.unusedVariables false
set_option maxHeartbeats 4000000
set_option maxRecDepth 100000
theorem Bv.form {w : World} {v : Value} {z : Int} {n : Nat} (h : Bv w v z n) : ∃ b p m c, v = .agg #[.bool b, .slice p m c] := by
  obtain ⟨⟨p, c, rfl, _⟩, _⟩ := h
  exact ⟨_, _, _, _, rfl⟩
theorem Av.form {w : World} {v : Value} {z : Int} {n : Nat} (h : Av w v z n) : ∃ b p m c, v = .agg #[.bool b, .slice p m c] := by
  obtain ⟨_, _, p, c, rfl, _⟩ := h
  exact ⟨_, _, _, _, rfl⟩
theorem fmt_one : strV (fmt 1) = .string (ByteArray.mk #[49]) := by
  have e : fmt 1 = [49] := by
    unfold fmt
    rw [if_neg (by decide)]
    exact dec_small (by decide)
  rw [e]; rfl
theorem fmt_m14 : strV (fmt (-14)) = .string (ByteArray.mk #[45, 49, 52]) := by
  have e : fmt (-14) = [45, 49, 52] := by
    unfold fmt
    rw [if_pos (by decide), show Int.natAbs (-14) = 14 from rfl, dec_ten (by decide), dec_small (by decide)]
    rfl
  rw [e]; rfl
set_option maxHeartbeats 8000000 in
theorem awake_any (w : World) (ht : Lib.TabIs Tryd.prog w "internal/strconv.uint64pow10" .u64 Lib.pow10Tab) :
    Calls Tryd.prog 9 #[] w fun e w' => e = .returned (.bool true) ∧ Fr [] w w' := by
  have HT := hid ht
  clear ht
  have H := Hp.start [] w
  go_enter Tryd.func9, Tryd.ntmps9
  go_wp2_with (first | refine x_q H ?_ | refine x_cm (fun h => ?_) (fun h => ?_) | (revert H; (first | (refine x_g ?_; intro g w1 hg hf H) | (refine x_s ?_; intro w1 hf H)); (first | replace hf := hf.kp | clear hf)))
  (refine x_c H (fromInt_ar _ (-7) (by simp [inr])) ?_; clear H; rintro e w1 ⟨v1, rfl, hF, hB⟩ H; replace hF := hF.kp; obtain ⟨b1, p1, m1, c1, rfl⟩ := hB.form; have HB1 := hid hB; clear hB)
  go_wp2_with (first | refine x_q H ?_ | refine x_cm (fun h => ?_) (fun h => ?_) | (revert H; (first | (refine x_g ?_; intro g w1 hg hf H) | (refine x_s ?_; intro w1 hf H)); (first | replace hf := hf.kp | clear hf)))
  (refine x_c H (fromInt_ar _ 2 (by simp [inr])) ?_; clear H; rintro e w1 ⟨v2, rfl, hF, hB⟩ H; replace hF := hF.kp; obtain ⟨b2, p2, m2, c2, rfl⟩ := hB.form; have HB2 := hid hB; clear hB)
  go_wp2_with (first | refine x_q H ?_ | refine x_cm (fun h => ?_) (fun h => ?_) | (revert H; refine x_s2 ?_; intro w1 hf H hk; clear hf; change Kp _ _ at hk) | (revert H; (first | (refine x_g ?_; intro g w1 hg hf H) | (refine x_s ?_; intro w1 hf H)); (first | replace hf := hf.kp | clear hf)))
  (refine x_c H (divMod_ar (bv HB1).ar (bv HB2).ar (by omega) (by omega) (by decide)) ?_; clear H; rintro e w1 ⟨v3, v4, rfl, hF, hB, hB'⟩ H; replace hF := hF.kp; obtain ⟨b3, p3, m3, c3, rfl⟩ := hB.form; obtain ⟨b4, p4, m4, c4, rfl⟩ := hB'.form; have HB3 := hid hB; have HB4 := hid hB'; clear hB hB')
  go_wp2_with (first | refine x_q H ?_ | refine x_cm (fun h => ?_) (fun h => ?_) | (revert H; refine x_s2 ?_; intro w1 hf H hk; clear hf; change Kp _ _ at hk) | (revert H; (first | (refine x_g ?_; intro g w1 hg hf H) | (refine x_s ?_; intro w1 hf H)); (first | replace hf := hf.kp | clear hf)))
  (refine x_c H (int_ar (bv HB3).ar (by omega) (by decide)) ?_; clear H; rintro e w1 ⟨rfl, hF⟩ H; replace hF := hF.kp; skip)
  rw [show (-7 : Int) / 2 = -4 by decide]
  go_wp2_with (first | refine x_q H ?_ | refine x_cm (fun h => ?_) (fun h => ?_) | (revert H; (first | (refine x_g ?_; intro g w1 hg hf H) | (refine x_s ?_; intro w1 hf H)); (first | replace hf := hf.kp | clear hf)))
  (refine x_c H (format_ar (bv HB4).ar (by omega) (TabIs.fr HT.out H.fr)) ?_; clear H; rintro e w1 ⟨rfl, hF⟩ H; replace hF := hF.kp; skip)
  rw [show (-7 : Int) % 2 = 1 by decide, fmt_one]
  go_wp2_with (first | refine x_q H ?_ | refine x_cm (fun h => ?_) (fun h => ?_) | (revert H; (first | (refine x_g ?_; intro g w1 hg hf H) | (refine x_s ?_; intro w1 hf H)); (first | replace hf := hf.kp | clear hf)))
  (refine x_c H (cmp_ar (bv HB1).ar (bv HB2).ar (by omega) (by omega)) ?_; clear H; rintro e w1 ⟨rfl, hF⟩ H; replace hF := hF.kp; skip)
  rw [show cmpZ (-7) 2 = -1 by decide]
  go_wp2_with (first | refine x_q H ?_ | refine x_cm (fun h => ?_) (fun h => ?_) | (revert H; (first | (refine x_g ?_; intro g w1 hg hf H) | (refine x_s ?_; intro w1 hf H)); (first | replace hf := hf.kp | clear hf)))
  (refine x_c H (mul_ar (bv HB1).ar (bv HB2).ar (by omega) (by omega)) ?_; clear H; rintro e w1 ⟨v5, rfl, hF, hB⟩ H; replace hF := hF.kp; have HB5 := hid hB; clear hB)
  go_wp2_with (first | refine x_q H ?_ | refine x_cm (fun h => ?_) (fun h => ?_) | (revert H; (first | (refine x_g ?_; intro g w1 hg hf H) | (refine x_s ?_; intro w1 hf H)); (first | replace hf := hf.kp | clear hf)))
  (refine x_c H (format_ar (bv HB5).ar (by omega) (TabIs.fr HT.out H.fr)) ?_; clear H; rintro e w1 ⟨rfl, hF⟩ H; replace hF := hF.kp; skip)
  rw [show (-7 : Int) * 2 = -14 by decide, fmt_m14]
  go_wp2_with (first | refine x_q H ?_ | refine x_cm (fun h => ?_) (fun h => ?_) | (revert H; (first | (refine x_g ?_; intro g w1 hg hf H) | (refine x_s ?_; intro w1 hf H)); (first | replace hf := hf.kp | clear hf)))
  go_ret
  exact ⟨rfl, H.fr⟩
end Go.Proofs.YtpmebjhlgdhchaaDoor
