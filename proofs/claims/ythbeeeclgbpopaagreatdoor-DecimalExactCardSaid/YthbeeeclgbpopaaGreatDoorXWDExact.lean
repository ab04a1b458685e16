/-
  The walk of DecimalExact.
-/
import Derived.Test.YthbeeeclgbpopaaGreatDoorXFa8
import Derived.Test.YthbeeeclgbpopaaGreatDoorXHb2
namespace Go.Proofs.YthbeeeclgbpopaaGreatDoor
open Go.RowKit
set_option linter.unusedSimpArgs false
set_option linter.unusedVariables false
set_option maxHeartbeats 8000000
set_option maxRecDepth 100000

set_option maxHeartbeats 16000000 in
theorem decimalExact_walk (W : World) (hL : laidMetH Tryz.prog laid7 W) (s : List UInt8) (mode : Int) :
    Calls Tryz.prog 3 #[strV s, .int .i64 mode] W fun e w' => e = .returned (.bool true) ∧ Fr [] W w' := by
  have HT := hid (la_of hL)
  clear hL
  have H := Hp.start [] W
  by_cases h1 : 2048 < s.length
  · go_enter Tryz.func3, Tryz.ntmps3
    go_wp2_with (first | refine x_q H ?_ | refine x_e (ev_strLen rfl rfl) ?_)
    (refine x_c H (awakeD_any _ (HT.out.fr H.fr)) ?_; clear H; rintro e w1 ⟨rfl, hF⟩ H; replace hF := hF.kp; skip)
    go_wp2_with fail
    go_ret
    exact ⟨rfl, H.fr⟩
  · by_cases h2 : 60 < s.length ∧ s.length ≤ 1024
    · obtain ⟨h2, h3⟩ := h2
      go_enter Tryz.func3, Tryz.ntmps3
      go_wp2_with (first | refine x_q H ?_ | refine x_e (ev_strLen rfl rfl) ?_)
      (refine x_c H (awakeD_any _ (HT.out.fr H.fr)) ?_; clear H; rintro e w1 ⟨rfl, hF⟩ H; replace hF := hF.kp; skip)
      go_wp2_with fail
      go_ret
      exact ⟨rfl, H.fr⟩
    · have h3 : 1024 < s.length ∨ s.length ≤ 60 := by omega
      have h4 := hid h3
      obtain ⟨t, ht⟩ : ∃ t, tmD s = t := ⟨_, rfl⟩
      have HTM := hid ht
      obtain ⟨X, hX⟩ : ∃ X, (dpz 1024 s mode).1 = X := ⟨_, rfl⟩
      obtain ⟨e, he⟩ : ∃ e, (dpz 1024 s mode).2 = e := ⟨_, rfl⟩
      have HX : Hid (dpz 1024 s mode = (X, e)) := hid (by rw [← hX, ← he])
      clear ht hX he h2
      rcases h3 with h3 | h3
      all_goals
        go_enter Tryz.func3, Tryz.ntmps3
        go_wp2_with (first | refine x_q H ?_ | refine x_e (ev_strLen rfl rfl) ?_)
        (refine x_c H (rtame_any _ s (by omega) HTM) ?_; clear H; rintro e w1 ⟨rfl, hF⟩ H; replace hF := hF.kp; skip)
        cases t
        · go_wp2_with fail
          (refine x_c H (awakeD_any _ (HT.out.fr H.fr)) ?_; clear H; rintro e w1 ⟨rfl, hF⟩ H; replace hF := hF.kp; skip)
          go_wp2_with fail
          go_ret
          exact ⟨rfl, H.fr⟩
        · go_wp2_with fail
          (refine x_c H (parseP_any _ s mode (HT.out.fr H.fr) HX) ?_; clear H; rintro e w1 ⟨rfl, hF⟩ H; replace hF := hF.kp; skip)
          go_wp2_with fail
          (refine x_c H (rparseD_any _ s mode h4.out (by omega) HTM (HT.out.fr H.fr) HX) ?_; clear H; rintro e w1 ⟨rfl, hF⟩ H; replace hF := hF.kp; skip)
          go_wp2_with (refine x_q H ?_)
          (refine x_c H (awakeD_any _ (HT.out.fr H.fr)) ?_; clear H; rintro e w1 ⟨rfl, hF⟩ H; replace hF := hF.kp; skip)
          go_wp2_with fail
          go_ret
          exact ⟨rfl, H.fr⟩
end Go.Proofs.YthbeeeclgbpopaaGreatDoor
