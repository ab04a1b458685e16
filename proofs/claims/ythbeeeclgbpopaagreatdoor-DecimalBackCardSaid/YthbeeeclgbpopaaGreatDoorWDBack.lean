/-
  The walk of DecimalBack.
-/
import Derived.Test.YthbeeeclgbpopaaGreatDoorFa8
import Derived.Test.YthbeeeclgbpopaaGreatDoorFb2
namespace Go.Proofs.YthbeeeclgbpopaaGreatDoor
open Go.RowKit
set_option linter.unusedSimpArgs false
set_option linter.unusedVariables false
set_option maxHeartbeats 8000000
set_option maxRecDepth 100000

theorem wf_word {a : Int} (h : (Lit.int .u64 a).wf = true) : ∃ b : Nat, a = (b : Int) ∧ b < 18446744073709551616 := by
  simp [Lit.wf, IntKind.min, IntKind.max, IntKind.bits, IntKind.signed] at h
  exact ⟨a.toNat, by omega, by omega⟩
set_option maxHeartbeats 16000000 in
theorem decimalBack_walk (W : World) (hL : laidMetH Tryz.prog laid7 W) (f : Int) (w0 : (Lit.int .u64 f).wf = true) (mode : Int) (w1 : (Lit.int .i64 mode).wf = true) :
    Calls Tryz.prog 9 #[.int .u64 f, .int .i64 mode] W fun e w' => e = .returned (.bool true) ∧ Fr [] W w' := by
  obtain ⟨b, rfl, hb⟩ := wf_word w0
  clear w0 w1
  have HT := hid (la_of hL)
  clear hL
  obtain ⟨x, hX⟩ : ∃ x, b / 4503599627370496 % 2048 = x := ⟨_, rfl⟩
  obtain ⟨y, hY⟩ : ∃ x, b % 4503599627370496 = x := ⟨_, rfl⟩
  have HX := hid hX
  have HY := hid hY
  clear hX hY
  have H := Hp.start [] W
  by_cases hn : x = 2047
  · have HD : Hid (decide (x ≠ 2047) = false) := hid (by simp [hn])
    have HN := hid hn
    clear hn
    go_enter Tryz.func9, Tryz.ntmps9
    go_wp2_with (first | refine x_q H ?_ | refine x_cm (fun h => ?_) (fun h => ?_) | (revert H; (first | (refine x_g ?_; intro g w1 hg hf H) | (refine x_s ?_; intro w1 hf H)); (first | replace hf := hf.kp | clear hf)))
    (refine x_c H (risFinite_any _ hb HX HD) ?_; clear H; rintro e w1 ⟨rfl, hF⟩ H; replace hF := hF.kp; skip)
    go_wp2_with (first | refine x_q H ?_ | refine x_cm (fun h => ?_) (fun h => ?_) | (revert H; (first | (refine x_g ?_; intro g w1 hg hf H) | (refine x_s ?_; intro w1 hf H)); (first | replace hf := hf.kp | clear hf)))
    (refine x_c H (formatN2_any _ hb HX HY HN.out) ?_; clear H; rintro e w1 ⟨l, rfl, hF, hq⟩ H; replace hF := hF.kp; have HQ := hid (hq mode); clear hq)
    go_wp2_with (first | refine x_q H ?_ | refine x_cm (fun h => ?_) (fun h => ?_) | (revert H; (first | (refine x_g ?_; intro g w1 hg hf H) | (refine x_s ?_; intro w1 hf H)); (first | replace hf := hf.kp | clear hf)))
    (refine x_c H (parseP_any _ l mode (HT.out.fr H.fr) HQ) ?_; clear H; rintro e w1 ⟨rfl, hF⟩ H; replace hF := hF.kp; skip)
    go_wp2_with (first | refine x_q H ?_ | refine x_cm (fun h => ?_) (fun h => ?_) | (revert H; (first | (refine x_g ?_; intro g w1 hg hf H) | (refine x_s ?_; intro w1 hf H)); (first | replace hf := hf.kp | clear hf)))
    (refine x_c H (exactN_any _ hb HX HY HN.out) ?_; clear H; rintro e w1 ⟨rfl, hF⟩ H; replace hF := hF.kp; skip)
    go_wp2_with (first | refine x_q H ?_ | refine x_cm (fun h => ?_) (fun h => ?_) | (revert H; (first | (refine x_g ?_; intro g w1 hg hf H) | (refine x_s ?_; intro w1 hf H)); (first | replace hf := hf.kp | clear hf)))
    (refine x_c H (awakeD_any _ (HT.out.fr H.fr)) ?_; clear H; rintro e w1 ⟨rfl, hF⟩ H; replace hF := hF.kp; skip)
    go_wp2_with (first | refine x_q H ?_ | refine x_cm (fun h => ?_) (fun h => ?_) | (revert H; (first | (refine x_g ?_; intro g w1 hg hf H) | (refine x_s ?_; intro w1 hf H)); (first | replace hf := hf.kp | clear hf)))
    go_ret
    exact ⟨rfl, H.fr⟩
  · have HD : Hid (decide (x ≠ 2047) = true) := hid (by simp [hn])
    have HN := hid hn
    clear hn
    go_enter Tryz.func9, Tryz.ntmps9
    go_wp2_with (first | refine x_q H ?_ | refine x_cm (fun h => ?_) (fun h => ?_) | (revert H; (first | (refine x_g ?_; intro g w1 hg hf H) | (refine x_s ?_; intro w1 hf H)); (first | replace hf := hf.kp | clear hf)))
    (refine x_c H (risFinite_any _ hb HX HD) ?_; clear H; rintro e w1 ⟨rfl, hF⟩ H; replace hF := hF.kp; skip)
    go_wp2_with (first | refine x_q H ?_ | refine x_cm (fun h => ?_) (fun h => ?_) | (revert H; (first | (refine x_g ?_; intro g w1 hg hf H) | (refine x_s ?_; intro w1 hf H)); (first | replace hf := hf.kp | clear hf)))
    (refine x_c H (formatF_any _ hb HX HY HN.out (HT.out.fr H.fr)) ?_; clear H; rintro e w1 ⟨l, rfl, hF, hq⟩ H; replace hF := hF.kp; have HQ := hid hq; clear hq)
    go_wp2_with (first | refine x_q H ?_ | refine x_cm (fun h => ?_) (fun h => ?_) | (revert H; (first | (refine x_g ?_; intro g w1 hg hf H) | (refine x_s ?_; intro w1 hf H)); (first | replace hf := hf.kp | clear hf)))
    (refine x_c H (parseP_any _ l 0 (HT.out.fr H.fr) HQ) ?_; clear H; rintro e w1 ⟨rfl, hF⟩ H; replace hF := hF.kp; skip)
    go_wp2_with (first | refine x_q H ?_ | refine x_cm (fun h => ?_) (fun h => ?_) | (revert H; (first | (refine x_g ?_; intro g w1 hg hf H) | (refine x_s ?_; intro w1 hf H)); (first | replace hf := hf.kp | clear hf)))
    (refine x_c H (exactF_any _ hb HX HY HN.out (HT.out.fr H.fr)) ?_; clear H; rintro e w1 ⟨s, rfl, hF, hq⟩ H; replace hF := hF.kp; have HE := hid hq; clear hq)
    by_cases hl : s.length ≤ 1024
    · have HQ2 := hid (HE.out hl mode)
      clear HE
      go_wp2_with (first | refine x_q H ?_ | refine x_cm (fun h => ?_) (fun h => ?_) | refine x_e (ev_strLen rfl rfl) ?_ | (revert H; (first | (refine x_g ?_; intro g w1 hg hf H) | (refine x_s ?_; intro w1 hf H)); (first | replace hf := hf.kp | clear hf)))
      (refine x_c H (parseP_any _ s mode (HT.out.fr H.fr) HQ2) ?_; clear H; rintro e w1 ⟨rfl, hF⟩ H; replace hF := hF.kp; skip)
      go_wp2_with (first | refine x_q H ?_ | refine x_cm (fun h => ?_) (fun h => ?_) | (revert H; (first | (refine x_g ?_; intro g w1 hg hf H) | (refine x_s ?_; intro w1 hf H)); (first | replace hf := hf.kp | clear hf)))
      (refine x_c H (awakeD_any _ (HT.out.fr H.fr)) ?_; clear H; rintro e w1 ⟨rfl, hF⟩ H; replace hF := hF.kp; skip)
      go_wp2_with (first | refine x_q H ?_ | refine x_cm (fun h => ?_) (fun h => ?_) | (revert H; (first | (refine x_g ?_; intro g w1 hg hf H) | (refine x_s ?_; intro w1 hf H)); (first | replace hf := hf.kp | clear hf)))
      go_ret
      exact ⟨rfl, H.fr⟩
    · clear HE
      go_wp2_with (first | refine x_q H ?_ | refine x_cm (fun h => ?_) (fun h => ?_) | refine x_e (ev_strLen rfl rfl) ?_ | (revert H; (first | (refine x_g ?_; intro g w1 hg hf H) | (refine x_s ?_; intro w1 hf H)); (first | replace hf := hf.kp | clear hf)))
      (refine x_c H (awakeD_any _ (HT.out.fr H.fr)) ?_; clear H; rintro e w1 ⟨rfl, hF⟩ H; replace hF := hF.kp; skip)
      go_wp2_with (first | refine x_q H ?_ | refine x_cm (fun h => ?_) (fun h => ?_) | (revert H; (first | (refine x_g ?_; intro g w1 hg hf H) | (refine x_s ?_; intro w1 hf H)); (first | replace hf := hf.kp | clear hf)))
      go_ret
      exact ⟨rfl, H.fr⟩
end Go.Proofs.YthbeeeclgbpopaaGreatDoor
