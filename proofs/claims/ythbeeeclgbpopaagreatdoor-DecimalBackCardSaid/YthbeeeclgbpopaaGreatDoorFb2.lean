/-
  The decimals: Format and Exact of every float.
-/
import Derived.Test.YthbeeeclgbpopaaGreatDoorFb1
import Derived.Test.YthbeeeclgbpopaaGreatDoorDc16
import Derived.Test.YthbeeeclgbpopaaGreatDoorRa1
namespace Go.Proofs.YthbeeeclgbpopaaGreatDoor
open Go.RowKit
set_option linter.unusedSimpArgs false
set_option linter.unusedVariables false
set_option maxHeartbeats 8000000
set_option maxRecDepth 100000

theorem risFinite_any (w : World) {b x : Nat} (hb : b < 18446744073709551616) (hx : Hid (b / 4503599627370496 % 2048 = x)) {f : Bool} (hf : Hid (decide (x ≠ 2047) = f)) :
    Calls Tryz.prog 28 #[.int .u64 (b : Int)] w fun r w' => r = .returned (.bool f) ∧ Fr [] w w' := by
  rw [← hf.out]
  clear hf
  have hq : b / 4503599627370496 < 18446744073709551616 := by omega
  have H := Hp.start [] w
  by_cases h1 : x = 2047
  · have HV : Hid (decide (x ≠ 2047) = false) := hid (by simp [h1])
    go_enter Tryz.func28, Tryz.ntmps28
    go_wp2_with (first | refine x_q H ?_ | refine x_cm (fun h => ?_) (fun h => ?_) | refine x_l H ?_ | refine x_e (ev_dyad rfl rfl rfl) ?_ | (revert H; refine x_sF ?_; intro w1 hf H hk; clear hf; change Kp _ _ at hk) | refine x_e (ev_s52 rfl rfl) ?_ | refine x_e (ev_m11I rfl rfl hx) ?_ | (revert H; (first | (refine x_g ?_; intro g w1 hg hf H) | (refine x_s ?_; intro w1 hf H)); (first | replace hf := hf.kp | clear hf)))
    go_ret
    exact ⟨by rw [HV.out]; rfl, H.fr⟩
  · have HV : Hid (decide (x ≠ 2047) = true) := hid (by simp [h1])
    go_enter Tryz.func28, Tryz.ntmps28
    go_wp2_with (first | refine x_q H ?_ | refine x_cm (fun h => ?_) (fun h => ?_) | refine x_l H ?_ | refine x_e (ev_dyad rfl rfl rfl) ?_ | (revert H; refine x_sF ?_; intro w1 hf H hk; clear hf; change Kp _ _ at hk) | refine x_e (ev_s52 rfl rfl) ?_ | refine x_e (ev_m11I rfl rfl hx) ?_ | (revert H; (first | (refine x_g ?_; intro g w1 hg hf H) | (refine x_s ?_; intro w1 hf H)); (first | replace hf := hf.kp | clear hf)))
    go_ret
    exact ⟨by rw [HV.out]; rfl, H.fr⟩
theorem isFiniteN_any (w : World) {b : Nat} (hb : b < 18446744073709551616) {x y : Nat} (hx : Hid (b / 4503599627370496 % 2048 = x)) (hy : Hid (b % 4503599627370496 = y)) (hn : x = 2047) :
    Calls Tryz.prog 70 #[.int .u64 (b : Int)] w fun r w' => r = .returned (.bool false) ∧ Fr [] w w' := by
  have H := Hp.start [] w
  go_enter Tryz.func70, Tryz.ntmps70
  go_wp2_with (first | refine x_q H ?_ | refine x_cm (fun h => ?_) (fun h => ?_) | refine x_l H ?_ | refine x_e (ev_dyad rfl rfl rfl) ?_ | (revert H; refine x_sF ?_; intro w1 hf H hk; clear hf; change Kp _ _ at hk) | (revert H; (first | (refine x_g ?_; intro g w1 hg hf H) | (refine x_s ?_; intro w1 hf H)); (first | replace hf := hf.kp | clear hf)))
  (refine x_c H (partsI_any _ hb hx hy) ?_; clear H; rintro e w1 ⟨rfl, hF⟩ H; replace hF := hF.kp; skip)
  go_wp2_with (first | refine x_q H ?_ | refine x_cm (fun h => ?_) (fun h => ?_) | refine x_l H ?_ | refine x_e (ev_dyad rfl rfl rfl) ?_ | (revert H; refine x_sF ?_; intro w1 hf H hk; clear hf; change Kp _ _ at hk) | (revert H; (first | (refine x_g ?_; intro g w1 hg hf H) | (refine x_s ?_; intro w1 hf H)); (first | replace hf := hf.kp | clear hf)))
  go_ret
  exact ⟨rfl, H.fr⟩
theorem exactN_any (w : World) {b : Nat} (hb : b < 18446744073709551616) {x y : Nat} (hx : Hid (b / 4503599627370496 % 2048 = x)) (hy : Hid (b % 4503599627370496 = y)) (hn : x = 2047) :
    Calls Tryz.prog 26 #[.int .u64 (b : Int)] w fun r w' => r = .returned (.tuple #[strV [], .int .i64 4]) ∧ Fr [] w w' := by
  have HN := hid hn
  clear hn
  have H := Hp.start [] w
  go_enter Tryz.func26, Tryz.ntmps26
  go_wp2_with (first | refine x_q H ?_ | refine x_cm (fun h => ?_) (fun h => ?_) | refine x_l H ?_ | refine x_e (ev_dyad rfl rfl rfl) ?_ | (revert H; refine x_sF ?_; intro w1 hf H hk; clear hf; change Kp _ _ at hk) | (revert H; (first | (refine x_g ?_; intro g w1 hg hf H) | (refine x_s ?_; intro w1 hf H)); (first | replace hf := hf.kp | clear hf)))
  (refine x_c H (isFiniteN_any _ hb hx hy HN.out) ?_; clear H; rintro e w1 ⟨rfl, hF⟩ H; replace hF := hF.kp; skip)
  go_wp2_with (first | refine x_q H ?_ | refine x_cm (fun h => ?_) (fun h => ?_) | refine x_l H ?_ | refine x_e (ev_dyad rfl rfl rfl) ?_ | (revert H; refine x_sF ?_; intro w1 hf H hk; clear hf; change Kp _ _ at hk) | (revert H; (first | (refine x_g ?_; intro g w1 hg hf H) | (refine x_s ?_; intro w1 hf H)); (first | replace hf := hf.kp | clear hf)))
  refine bodyPost_ret (results_tmp2 rfl _ _ _) rfl ?_
  exact ⟨rfl, H.fr⟩
/-- What Format writes of what is no finite float but zero. -/
def fmtS (b : Nat) (k : Int) : List UInt8 := if k = 3 then [110, 97, 110] else if k = 2 then mns b ++ [105, 110, 102] else mns b ++ [48]
theorem formatS_any (w : World) {b : Nat} {k : Int} (hb : b < 18446744073709551616) (hk : Hid (kindF b = k)) (hk1 : k ≠ 1) {l : List UInt8} (hl : Hid (fmtS b k = l)) :
    Calls Tryz.prog 17 #[.int .u64 (b : Int)] w fun r w' => r = .returned (strV l) ∧ Fr [] w w' := by
  have hkr := kindF_range b
  rw [hk.out] at hkr
  obtain rfl | rfl | rfl : k = 0 ∨ k = 2 ∨ k = 3 := by omega
  all_goals clear hk1 hkr
  all_goals by_cases hm : 9223372036854775808 ≤ b
  · have HI := hid (show (if 9223372036854775808 ≤ b then 9223372036854775808 else 0 : Nat) = 9223372036854775808 from (if_pos hm))
    have HM : Hid ([45] ++ [48] = l) := hid (hl.out.symm.trans (by unfold fmtS mns; rw [if_neg (by decide), if_neg (by decide), if_pos hm])).symm
    clear hm
    have H := Hp.start [] w
    go_enter Tryz.func17, Tryz.ntmps17
    go_wp2_with (first | refine x_q H ?_ | refine x_cm (fun h => ?_) (fun h => ?_) | refine x_l H ?_ | refine x_e (ev_dyad rfl rfl rfl) ?_ | (revert H; refine x_sF ?_; intro w1 hf H hk; clear hf; change Kp _ _ at hk) | refine x_e (ev_m63I rfl rfl HI) ?_ | (revert H; (first | (refine x_g ?_; intro g w1 hg hf H) | (refine x_s ?_; intro w1 hf H)); (first | replace hf := hf.kp | clear hf)))
    (refine x_c H (kindI_any _ hb hk) ?_; clear H; rintro e w1 ⟨rfl, hF⟩ H; replace hF := hF.kp; skip)
    go_wp2_with (first | refine x_q H ?_ | refine x_cm (fun h => ?_) (fun h => ?_) | refine x_l H ?_ | refine x_e (ev_dyad rfl rfl rfl) ?_ | (revert H; refine x_sF ?_; intro w1 hf H hk; clear hf; change Kp _ _ at hk) | refine x_e (ev_strCat (s := [45]) (r := [48]) rfl rfl rfl HM (by decide)) ?_ | (revert H; (first | (refine x_g ?_; intro g w1 hg hf H) | (refine x_s ?_; intro w1 hf H)); (first | replace hf := hf.kp | clear hf)))
    first
    | (go_ret; exact ⟨rfl, H.fr⟩)
    | (go_ret; exact ⟨by rw [← HM.out]; rfl, H.fr⟩)
  · have HI := hid (show (if 9223372036854775808 ≤ b then 9223372036854775808 else 0 : Nat) = 0 from (if_neg hm))
    have HM : Hid ([] ++ [48] = l) := hid (hl.out.symm.trans (by unfold fmtS mns; rw [if_neg (by decide), if_neg (by decide), if_neg hm])).symm
    clear hm
    have H := Hp.start [] w
    go_enter Tryz.func17, Tryz.ntmps17
    go_wp2_with (first | refine x_q H ?_ | refine x_cm (fun h => ?_) (fun h => ?_) | refine x_l H ?_ | refine x_e (ev_dyad rfl rfl rfl) ?_ | (revert H; refine x_sF ?_; intro w1 hf H hk; clear hf; change Kp _ _ at hk) | refine x_e (ev_m63I rfl rfl HI) ?_ | (revert H; (first | (refine x_g ?_; intro g w1 hg hf H) | (refine x_s ?_; intro w1 hf H)); (first | replace hf := hf.kp | clear hf)))
    (refine x_c H (kindI_any _ hb hk) ?_; clear H; rintro e w1 ⟨rfl, hF⟩ H; replace hF := hF.kp; skip)
    go_wp2_with (first | refine x_q H ?_ | refine x_cm (fun h => ?_) (fun h => ?_) | refine x_l H ?_ | refine x_e (ev_dyad rfl rfl rfl) ?_ | (revert H; refine x_sF ?_; intro w1 hf H hk; clear hf; change Kp _ _ at hk) | refine x_e (ev_strCat (s := []) (r := [48]) rfl rfl rfl HM (by decide)) ?_ | (revert H; (first | (refine x_g ?_; intro g w1 hg hf H) | (refine x_s ?_; intro w1 hf H)); (first | replace hf := hf.kp | clear hf)))
    first
    | (go_ret; exact ⟨rfl, H.fr⟩)
    | (go_ret; exact ⟨by rw [← HM.out]; rfl, H.fr⟩)
  · have HI := hid (show (if 9223372036854775808 ≤ b then 9223372036854775808 else 0 : Nat) = 9223372036854775808 from (if_pos hm))
    have HM : Hid ([45] ++ [105, 110, 102] = l) := hid (hl.out.symm.trans (by unfold fmtS mns; rw [if_neg (by decide), if_pos rfl, if_pos hm])).symm
    clear hm
    have H := Hp.start [] w
    go_enter Tryz.func17, Tryz.ntmps17
    go_wp2_with (first | refine x_q H ?_ | refine x_cm (fun h => ?_) (fun h => ?_) | refine x_l H ?_ | refine x_e (ev_dyad rfl rfl rfl) ?_ | (revert H; refine x_sF ?_; intro w1 hf H hk; clear hf; change Kp _ _ at hk) | refine x_e (ev_m63I rfl rfl HI) ?_ | (revert H; (first | (refine x_g ?_; intro g w1 hg hf H) | (refine x_s ?_; intro w1 hf H)); (first | replace hf := hf.kp | clear hf)))
    (refine x_c H (kindI_any _ hb hk) ?_; clear H; rintro e w1 ⟨rfl, hF⟩ H; replace hF := hF.kp; skip)
    go_wp2_with (first | refine x_q H ?_ | refine x_cm (fun h => ?_) (fun h => ?_) | refine x_l H ?_ | refine x_e (ev_dyad rfl rfl rfl) ?_ | (revert H; refine x_sF ?_; intro w1 hf H hk; clear hf; change Kp _ _ at hk) | refine x_e (ev_strCat (s := [45]) (r := [105, 110, 102]) rfl rfl rfl HM (by decide)) ?_ | (revert H; (first | (refine x_g ?_; intro g w1 hg hf H) | (refine x_s ?_; intro w1 hf H)); (first | replace hf := hf.kp | clear hf)))
    first
    | (go_ret; exact ⟨rfl, H.fr⟩)
    | (go_ret; exact ⟨by rw [← HM.out]; rfl, H.fr⟩)
  · have HI := hid (show (if 9223372036854775808 ≤ b then 9223372036854775808 else 0 : Nat) = 0 from (if_neg hm))
    have HM : Hid ([] ++ [105, 110, 102] = l) := hid (hl.out.symm.trans (by unfold fmtS mns; rw [if_neg (by decide), if_pos rfl, if_neg hm])).symm
    clear hm
    have H := Hp.start [] w
    go_enter Tryz.func17, Tryz.ntmps17
    go_wp2_with (first | refine x_q H ?_ | refine x_cm (fun h => ?_) (fun h => ?_) | refine x_l H ?_ | refine x_e (ev_dyad rfl rfl rfl) ?_ | (revert H; refine x_sF ?_; intro w1 hf H hk; clear hf; change Kp _ _ at hk) | refine x_e (ev_m63I rfl rfl HI) ?_ | (revert H; (first | (refine x_g ?_; intro g w1 hg hf H) | (refine x_s ?_; intro w1 hf H)); (first | replace hf := hf.kp | clear hf)))
    (refine x_c H (kindI_any _ hb hk) ?_; clear H; rintro e w1 ⟨rfl, hF⟩ H; replace hF := hF.kp; skip)
    go_wp2_with (first | refine x_q H ?_ | refine x_cm (fun h => ?_) (fun h => ?_) | refine x_l H ?_ | refine x_e (ev_dyad rfl rfl rfl) ?_ | (revert H; refine x_sF ?_; intro w1 hf H hk; clear hf; change Kp _ _ at hk) | refine x_e (ev_strCat (s := []) (r := [105, 110, 102]) rfl rfl rfl HM (by decide)) ?_ | (revert H; (first | (refine x_g ?_; intro g w1 hg hf H) | (refine x_s ?_; intro w1 hf H)); (first | replace hf := hf.kp | clear hf)))
    first
    | (go_ret; exact ⟨rfl, H.fr⟩)
    | (go_ret; exact ⟨by rw [← HM.out]; rfl, H.fr⟩)
  · have HI := hid (show (if 9223372036854775808 ≤ b then 9223372036854775808 else 0 : Nat) = 9223372036854775808 from (if_pos hm))
    have HM : Hid ([] ++ [110, 97, 110] = l) := hid (hl.out.symm.trans (by unfold fmtS; rw [if_pos rfl]; rfl)).symm
    clear hm
    have H := Hp.start [] w
    go_enter Tryz.func17, Tryz.ntmps17
    go_wp2_with (first | refine x_q H ?_ | refine x_cm (fun h => ?_) (fun h => ?_) | refine x_l H ?_ | refine x_e (ev_dyad rfl rfl rfl) ?_ | (revert H; refine x_sF ?_; intro w1 hf H hk; clear hf; change Kp _ _ at hk) | refine x_e (ev_m63I rfl rfl HI) ?_ | (revert H; (first | (refine x_g ?_; intro g w1 hg hf H) | (refine x_s ?_; intro w1 hf H)); (first | replace hf := hf.kp | clear hf)))
    (refine x_c H (kindI_any _ hb hk) ?_; clear H; rintro e w1 ⟨rfl, hF⟩ H; replace hF := hF.kp; skip)
    go_wp2_with (first | refine x_q H ?_ | refine x_cm (fun h => ?_) (fun h => ?_) | refine x_l H ?_ | refine x_e (ev_dyad rfl rfl rfl) ?_ | (revert H; refine x_sF ?_; intro w1 hf H hk; clear hf; change Kp _ _ at hk) | refine x_e (ev_strCat (s := []) (r := [110, 97, 110]) rfl rfl rfl HM (by decide)) ?_ | (revert H; (first | (refine x_g ?_; intro g w1 hg hf H) | (refine x_s ?_; intro w1 hf H)); (first | replace hf := hf.kp | clear hf)))
    first
    | (go_ret; exact ⟨rfl, H.fr⟩)
    | (go_ret; exact ⟨by rw [← HM.out]; rfl, H.fr⟩)
  · have HI := hid (show (if 9223372036854775808 ≤ b then 9223372036854775808 else 0 : Nat) = 0 from (if_neg hm))
    have HM : Hid ([] ++ [110, 97, 110] = l) := hid (hl.out.symm.trans (by unfold fmtS; rw [if_pos rfl]; rfl)).symm
    clear hm
    have H := Hp.start [] w
    go_enter Tryz.func17, Tryz.ntmps17
    go_wp2_with (first | refine x_q H ?_ | refine x_cm (fun h => ?_) (fun h => ?_) | refine x_l H ?_ | refine x_e (ev_dyad rfl rfl rfl) ?_ | (revert H; refine x_sF ?_; intro w1 hf H hk; clear hf; change Kp _ _ at hk) | refine x_e (ev_m63I rfl rfl HI) ?_ | (revert H; (first | (refine x_g ?_; intro g w1 hg hf H) | (refine x_s ?_; intro w1 hf H)); (first | replace hf := hf.kp | clear hf)))
    (refine x_c H (kindI_any _ hb hk) ?_; clear H; rintro e w1 ⟨rfl, hF⟩ H; replace hF := hF.kp; skip)
    go_wp2_with (first | refine x_q H ?_ | refine x_cm (fun h => ?_) (fun h => ?_) | refine x_l H ?_ | refine x_e (ev_dyad rfl rfl rfl) ?_ | (revert H; refine x_sF ?_; intro w1 hf H hk; clear hf; change Kp _ _ at hk) | refine x_e (ev_strCat (s := []) (r := [110, 97, 110]) rfl rfl rfl HM (by decide)) ?_ | (revert H; (first | (refine x_g ?_; intro g w1 hg hf H) | (refine x_s ?_; intro w1 hf H)); (first | replace hf := hf.kp | clear hf)))
    first
    | (go_ret; exact ⟨rfl, H.fr⟩)
    | (go_ret; exact ⟨by rw [← HM.out]; rfl, H.fr⟩)
theorem kind_cases {b x y : Nat} (hb : b < 18446744073709551616) (hx : b / 4503599627370496 % 2048 = x) (hy : b % 4503599627370496 = y) : (x = 2047 ∧ (kindF b = 2 ∨ kindF b = 3)) ∨ (x ≠ 2047 ∧ b % 9223372036854775808 < 9218868437227405312 ∧ (kindF b = 1 ∧ 0 < b % 9223372036854775808 ∨ kindF b = 0 ∧ b % 9223372036854775808 = 0)) := by
  unfold kindF
  rw [hx, hy]
  by_cases h1 : x = 2047
  · left
    refine ⟨h1, ?_⟩
    rw [if_pos h1]
    split
    · exact .inl rfl
    · exact .inr rfl
  · right
    rw [if_neg h1]
    refine ⟨h1, by omega, ?_⟩
    split
    · next h => exact .inr ⟨rfl, by omega⟩
    · next h => exact .inl ⟨rfl, by omega⟩
/-- Format of a finite float: read back. -/
theorem formatF_any (w : World) {b x y : Nat} (hb : b < 18446744073709551616) (hx : Hid (b / 4503599627370496 % 2048 = x)) (hy : Hid (b % 4503599627370496 = y)) (hn : x ≠ 2047) (hT : La w) :
    Calls Tryz.prog 17 #[.int .u64 (b : Int)] w fun r w' => ∃ l, r = .returned (strV l) ∧ Fr [] w w' ∧ dpz 1024 l 0 = (b, 0) := by
  rcases kind_cases hb hx.out hy.out with ⟨h, _⟩ | ⟨_, h1, ⟨h2, h3⟩ | ⟨h2, h3⟩⟩
  · exact absurd h hn
  · refine Calls.mono (format_any1 w hb h2 (hid rfl) h3 h1 hT) ?_
    rintro r w' ⟨l, rfl, hF, hl⟩
    exact ⟨l, rfl, hF, fmt_back hb rfl h3 h1 hl⟩
  · refine Calls.mono (formatS_any w hb (hid h2) (by decide) (hid rfl)) ?_
    rintro r w' ⟨rfl, hF⟩
    exact ⟨_, rfl, hF, zero_back hb h3⟩
/-- Format of what is not finite: no number. -/
theorem formatN2_any (w : World) {b x y : Nat} (hb : b < 18446744073709551616) (hx : Hid (b / 4503599627370496 % 2048 = x)) (hy : Hid (b % 4503599627370496 = y)) (hn : x = 2047) :
    Calls Tryz.prog 17 #[.int .u64 (b : Int)] w fun r w' => ∃ l, r = .returned (strV l) ∧ Fr [] w w' ∧ ∀ mode, dpz 1024 l mode = (0, 7) := by
  rcases kind_cases hb hx.out hy.out with ⟨_, h2 | h2⟩ | ⟨h, _⟩
  · refine Calls.mono (formatS_any w hb (hid h2) (by decide) (hid rfl)) ?_
    rintro r w' ⟨rfl, hF⟩
    exact ⟨_, rfl, hF, fun mode => inf_back b mode⟩
  · refine Calls.mono (formatS_any w hb (hid h2) (by decide) (hid rfl)) ?_
    rintro r w' ⟨rfl, hF⟩
    exact ⟨_, rfl, hF, fun mode => nan_back mode⟩
  · exact absurd hn h
/-- Exact of a finite float: read back. -/
theorem exactF_any (w : World) {b x y : Nat} (hb : b < 18446744073709551616) (hx : Hid (b / 4503599627370496 % 2048 = x)) (hy : Hid (b % 4503599627370496 = y)) (hn : x ≠ 2047) (hT : La w) :
    Calls Tryz.prog 26 #[.int .u64 (b : Int)] w fun r w' => ∃ l, r = .returned (.tuple #[strV l, .int .i64 0]) ∧ Fr [] w w' ∧ (l.length ≤ 1024 → ∀ mode, dpz 1024 l mode = (b, 0)) := by
  rcases kind_cases hb hx.out hy.out with ⟨h, _⟩ | ⟨_, h1, h2⟩
  · exact absurd h hn
  · have h3 : kindF b ≠ 3 := by rcases h2 with ⟨h2, _⟩ | ⟨h2, _⟩ <;> rw [h2] <;> decide
    refine Calls.mono (exact_any w hb (by rw [hx.out]; exact hn) h3 (hid rfl) h1 hT) ?_
    rintro r w' ⟨l, rfl, hF, hl⟩
    exact ⟨l, rfl, hF, fun h mode => ex_back hb rfl h1 hl h mode⟩
end Go.Proofs.YthbeeeclgbpopaaGreatDoor
