/-
  The walk of DecimalBad.
-/
import Derived.Test.YthbeeeclgbpopaaGreatDoorFa8
namespace Go.Proofs.YthbeeeclgbpopaaGreatDoor
open Go.RowKit
set_option linter.unusedSimpArgs false
set_option linter.unusedVariables false
set_option maxHeartbeats 8000000
set_option maxRecDepth 100000

theorem place16 (w : World) (a : Int) (ha : -9223372036854775808 ≤ a ∧ a ≤ 9223372036854775807) :
    Calls Tryz.prog 18 #[.int .i64 a, .int .i64 16] w fun e w' => ∃ k : Nat, e = .returned (.int .i64 (k : Int)) ∧ k < 16 ∧ Fr [] w w' := by
  have H := Hp.start [] w
  go_enter Tryz.func18, Tryz.ntmps18
  go_wp2_with (first | refine x_q H ?_ | refine x_cm (fun h => ?_) (fun h => ?_) | (revert H; (first | (refine x_g ?_; intro g w1 hg hf H) | (refine x_s ?_; intro w1 hf H)); (first | replace hf := hf.kp | clear hf)))
  go_ret
  exact ⟨(a % 18446744073709551616 % 16).toNat, by rw [Int.toNat_of_nonneg (by omega)]; rfl, by omega, H.fr⟩
theorem wf_range {a : Int} (h : (Lit.int .i64 a).wf = true) : -9223372036854775808 ≤ a ∧ a ≤ 9223372036854775807 := by simp [Lit.wf, IntKind.min, IntKind.max, IntKind.bits, IntKind.signed] at h; omega
theorem long_pz (mode : Int) {l : List UInt8} (h : l.length = 1025) : dpz 1024 l mode = (0, 2) := by unfold dpz; rw [if_pos (by omega)]
theorem bad_at {k : Nat} (h : k < 16) : ∃ s, (badTexts.map strV)[k]? = some (strV s) ∧ s ∈ badTexts := by
  have hl : badTexts.length = 16 := rfl
  refine ⟨badTexts[k]'(by omega), ?_, List.getElem_mem _⟩
  rw [List.getElem?_map, List.getElem?_eq_getElem (by omega)]; rfl
set_option maxHeartbeats 16000000 in
theorem decimalBad_walk (W : World) (hL : laidMetH Tryz.prog laid7 W) (n : Int) (w0 : (Lit.int .i64 n).wf = true) (mode : Int) (w1 : (Lit.int .i64 mode).wf = true) :
    Calls Tryz.prog 6 #[.int .i64 n, .int .i64 mode] W fun e w' => e = .returned (.bool true) ∧ Fr [] W w' := by
  have hn := wf_range w0
  have hm := wf_range w1
  clear w0 w1
  have HT := hid (la_of hL)
  have H1 := hid (far_pz mode).1
  have H2 := hid (far_pz mode).2
  clear hL
  have H := Hp.start [] W
  go_enter Tryz.func6, Tryz.ntmps6
  go_wp2_with (first | refine x_q H ?_ | refine x_cm (fun h => ?_) (fun h => ?_) | (refine is_buildSlice rfl ?_; refine wl_rw rfl (fun K hK => c_sN H rfl (by repeat first | exact .nil _ | apply Parts.tmp (by rfl) (by rfl) | apply Parts.con (by rfl)) rfl (by intro c hc; simp only [List.mem_cons, List.not_mem_nil, or_false] at hc; repeat (first | (rcases hc with rfl | hc; rfl) | (subst hc; rfl))) (by decide) (by decide) (fun g w1 hg hf H1 => hK _ _ ?_)); (clear hK K); (clear H; have H := H1; clear H1; (try dsimp only at H); (first | replace hf := hf.kp | clear hf)); (simp only [nrm, ↓reduceIte, Nat.reduceAdd])) | (revert H; (first | (refine x_g ?_; intro g w1 hg hf H) | (refine x_s ?_; intro w1 hf H)); (first | replace hf := hf.kp | clear hf)))
  (refine x_c H (place16 _ n hn) ?_; clear H; rintro e w1 ⟨k, rfl, hk, hF⟩ H; replace hF := hF.kp; skip)
  obtain ⟨s, hs, hsm⟩ := bad_at hk
  have HS := hid hs
  have HZ := hid (bad_pz mode s hsm)
  clear hs hsm
  go_wp2_with (first | refine x_q H ?_ | refine x_cm (fun h => ?_) (fun h => ?_) | refine x_e (c_ld H rfl rfl (v := strV s) HS.out) ?_ | (revert H; (first | (refine x_g ?_; intro g w1 hg hf H) | (refine x_s ?_; intro w1 hf H)); (first | replace hf := hf.kp | clear hf)))
  (refine x_c H (parseP_any _ s mode (HT.out.fr H.fr) HZ) ?_; clear H; rintro e w1 ⟨rfl, hF⟩ H; replace hF := hF.kp; skip)
  go_wp2_with (first | refine x_q H ?_ | refine x_cm (fun h => ?_) (fun h => ?_) | (revert H; (first | (refine x_g ?_; intro g w1 hg hf H) | (refine x_s ?_; intro w1 hf H)); (first | replace hf := hf.kp | clear hf)))
  (refine x_c H (parseP_any _ [49, 101, 49, 48, 48, 48, 48, 48] mode (HT.out.fr H.fr) H1) ?_; clear H; rintro e w1 ⟨rfl, hF⟩ H; replace hF := hF.kp; skip)
  go_wp2_with (first | refine x_q H ?_ | refine x_cm (fun h => ?_) (fun h => ?_) | (revert H; (first | (refine x_g ?_; intro g w1 hg hf H) | (refine x_s ?_; intro w1 hf H)); (first | replace hf := hf.kp | clear hf)))
  (refine x_c H (parseP_any _ [48, 101, 45, 49, 48, 48, 48, 48, 48] mode (HT.out.fr H.fr) H2) ?_; clear H; rintro e w1 ⟨rfl, hF⟩ H; replace hF := hF.kp; skip)
  go_wp2_with (first | refine x_q H ?_ | refine x_cm (fun h => ?_) (fun h => ?_) | (revert H; (first | (refine x_g ?_; intro g w1 hg hf H) | (refine x_s ?_; intro w1 hf H)); (first | replace hf := hf.kp | clear hf)))
  go_loopw [12, 13] (fun s12 s13 wr => ∃ (i : Nat) (L : List UInt8), i ≤ 1025 ∧ s12 = strV L ∧ s13 = .int .i64 (i : Int) ∧ L.length = i ∧ Fr [] W wr) (fun _ v _ => (1025 - intOf v).toNat)
  case atStart => exact ⟨0, [], by omega, rfl, rfl, rfl, H.fr⟩
  case round =>
    clear H
    obtain ⟨i, L, hi, rfl, rfl, hL, hfr⟩ := hrel
    have H := (Hp.start [] W).step hfr (by simp)
    clear hfr
    by_cases h0 : i < 1025
    · obtain ⟨L2, hL2⟩ : ∃ l, L ++ [49] = l := ⟨_, rfl⟩
      have hl2 : L2.length = i + 1 := by rw [← hL2, List.length_append, hL]; rfl
      have HQ := hid hL2
      clear hL2
      go_wp2_with (first | refine x_q H ?_ | refine x_cm (fun h => ?_) (fun h => ?_) | refine x_e (ev_strCat (r := [49]) rfl rfl rfl HQ (by simp only [List.length_singleton]; omega)) ?_ | (revert H; (first | (refine x_g ?_; intro g w1 hg hf H) | (refine x_s ?_; intro w1 hf H)); (first | replace hf := hf.kp | clear hf)))
      go_roundw
      case rel => exact ⟨i + 1, L2, by omega, rfl, by first | rfl | go_num, hl2, H.fr⟩
      case measure => (simp [intOf]; try omega)
    · have HZ2 := hid (long_pz mode (l := L) (by omega))
      go_wp2_with (first | refine x_q H ?_ | refine x_cm (fun h => ?_) (fun h => ?_) | (revert H; (first | (refine x_g ?_; intro g w1 hg hf H) | (refine x_s ?_; intro w1 hf H)); (first | replace hf := hf.kp | clear hf)))
      (refine x_c H (parseP_any _ L mode (HT.out.fr H.fr) HZ2) ?_; clear H; rintro e w1 ⟨rfl, hF⟩ H; replace hF := hF.kp; skip)
      go_wp2_with (first | refine x_q H ?_ | refine x_cm (fun h => ?_) (fun h => ?_) | (revert H; (first | (refine x_g ?_; intro g w1 hg hf H) | (refine x_s ?_; intro w1 hf H)); (first | replace hf := hf.kp | clear hf)))
      (refine x_c H (awakeD_any _ (HT.out.fr H.fr)) ?_; clear H; rintro e w1 ⟨rfl, hF⟩ H; replace hF := hF.kp; skip)
      go_wp2_with (first | refine x_q H ?_ | refine x_cm (fun h => ?_) (fun h => ?_) | (revert H; (first | (refine x_g ?_; intro g w1 hg hf H) | (refine x_s ?_; intro w1 hf H)); (first | replace hf := hf.kp | clear hf)))
      go_ret
      exact ⟨rfl, H.fr⟩
end Go.Proofs.YthbeeeclgbpopaaGreatDoor
