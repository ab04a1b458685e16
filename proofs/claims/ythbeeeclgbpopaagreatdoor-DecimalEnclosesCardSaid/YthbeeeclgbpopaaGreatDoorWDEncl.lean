/-
  The walk of DecimalEncloses.
-/
import Derived.Test.YthbeeeclgbpopaaGreatDoorXb1
namespace Go.Proofs.YthbeeeclgbpopaaGreatDoor
open Go.RowKit
set_option linter.unusedSimpArgs false
set_option linter.unusedVariables false
set_option maxHeartbeats 8000000
set_option maxRecDepth 100000

theorem wf_range {a : Int} (h : (Lit.int .i64 a).wf = true) : -9223372036854775808 ≤ a ∧ a ≤ 9223372036854775807 := by simp [Lit.wf, IntKind.min, IntKind.max, IntKind.bits, IntKind.signed] at h; omega
theorem place800 (w : World) (a : Int) (ha : -9223372036854775808 ≤ a ∧ a ≤ 9223372036854775807) :
    Calls Tryz.prog 18 #[.int .i64 a, .int .i64 800] w fun e w' => ∃ k : Nat, e = .returned (.int .i64 (k : Int)) ∧ k < 800 ∧ Fr [] w w' := by
  have H := Hp.start [] w
  go_enter Tryz.func18, Tryz.ntmps18
  go_wp2_with (first | refine x_q H ?_ | refine x_cm (fun h => ?_) (fun h => ?_) | (revert H; (first | (refine x_g ?_; intro g w1 hg hf H) | (refine x_s ?_; intro w1 hf H)); (first | replace hf := hf.kp | clear hf)))
  go_ret
  exact ⟨(a % 18446744073709551616 % 800).toNat, by rw [Int.toNat_of_nonneg (by omega)]; rfl, by omega, H.fr⟩
set_option maxHeartbeats 16000000 in
theorem decimalEncloses_walk (W : World) (hL : laidMetH Tryz.prog laid7 W) (v0 : Value) (o0 : ∃ l : List Int, SArg W v0 l.length (l.map fun x => .int .i64 x) ∧ ∀ x ∈ l, -9223372036854775808 ≤ x ∧ x ≤ 9223372036854775807) (a1 : Int) (w1 : (Lit.int .i64 a1).wf = true) :
    Calls Tryz.prog 7 #[v0, .int .i64 a1] W fun e w' => e = .returned (.bool true) ∧ Fr [] W w' := by
  obtain ⟨xs, ⟨p, c, rfl, _, hlc, hcm, hrd⟩, hr⟩ := o0
  have ha := wf_range w1
  have HT := hid (la_of hL)
  clear w1 hL
  have H := Hp.start [] W
  by_cases h0 : xs.length = 0
  · rw [h0]
    go_enter Tryz.func7, Tryz.ntmps7
    go_wp2_with (first | refine x_q H ?_ | refine x_cm (fun h => ?_) (fun h => ?_) | (revert H; (first | (refine x_g ?_; intro g w1 hg hf H) | (refine x_s ?_; intro w1 hf H)); (first | replace hf := hf.kp | clear hf)))
    (refine x_c H (awakeD_any _ (HT.out.fr H.fr)) ?_; clear H; rintro e w1 ⟨rfl, hF⟩ H; replace hF := hF.kp; skip)
    go_wp2_with (first | refine x_q H ?_ | refine x_cm (fun h => ?_) (fun h => ?_) | (revert H; (first | (refine x_g ?_; intro g w1 hg hf H) | (refine x_s ?_; intro w1 hf H)); (first | replace hf := hf.kp | clear hf)))
    go_ret
    exact ⟨rfl, H.fr⟩
  · unfold maxLen at hcm
    by_cases h25 : 25 < xs.length
    · go_enter Tryz.func7, Tryz.ntmps7
      go_wp2_with (first | refine x_q H ?_ | refine x_cm (fun h => ?_) (fun h => ?_) | (revert H; (first | (refine x_g ?_; intro g w1 hg hf H) | (refine x_s ?_; intro w1 hf H)); (first | replace hf := hf.kp | clear hf)))
      (refine x_c H (awakeD_any _ (HT.out.fr H.fr)) ?_; clear H; rintro e w1 ⟨rfl, hF⟩ H; replace hF := hF.kp; skip)
      go_wp2_with (first | refine x_q H ?_ | refine x_cm (fun h => ?_) (fun h => ?_) | (revert H; (first | (refine x_g ?_; intro g w1 hg hf H) | (refine x_s ?_; intro w1 hf H)); (first | replace hf := hf.kp | clear hf)))
      go_ret
      exact ⟨rfl, H.fr⟩
    · obtain ⟨b, off, rfl, _, hcell⟩ := (hrd W (Fr.refl _ _)).rng (by intro e; have := congrArg List.length e; rw [List.length_map, List.length_nil] at this; omega)
      have HLI : Hid (LI W b off xs) := hid (fun i x hx => ⟨hcell i _ (by rw [List.getElem?_map, hx]; rfl), hr x (List.mem_of_getElem? hx)⟩)
      have hl1 : 1 ≤ xs.length := by omega
      clear hrd hr hcell h0
      have HLF : Hid (∀ w', Fr [] W w' → LI w' b off xs) := hid (fun w' hf i x hx => ⟨hf.cell (HLI.out i x hx).1 (by simp), (HLI.out i x hx).2⟩)
      go_enter Tryz.func7, Tryz.ntmps7
      go_wp2_with (first | refine x_q H ?_ | refine x_cm (fun h => ?_) (fun h => ?_) | (revert H; (first | (refine x_g ?_; intro g w1 hg hf H) | (refine x_s ?_; intro w1 hf H)); (first | replace hf := hf.kp | clear hf)))
      (refine x_c H (plain_any (by omega) (HLF.out _ H.fr)) ?_; clear H; rintro e w1 ⟨s, rfl, hF, hsl, hsd⟩ H; replace hF := hF.kp; skip)
      have hs0 : s ≠ [] := by intro e; rw [e] at hsl; simp at hsl; omega
      have HSA := hid (fun (x : Int) (hx : -99999 ≤ x ∧ x ≤ 99999) (mode : Int) => spell_a (c := 101) (x := x) mode hsd hs0 (by decide) (by omega) hx)
      have hsl2 : s.length ≤ 25 := by omega
      obtain ⟨Q1, hQ1⟩ : ∃ q, s ++ [101] = q := ⟨_, rfl⟩
      have hq1 : Q1.length ≤ 30 := by rw [← hQ1, List.length_append, List.length_singleton]; omega
      have HQ1 := hid hQ1
      clear hsl hsd hs0
      go_wp2_with (first | refine x_e (ev_strCat (r := [101]) rfl rfl rfl HQ1 (by simp only [List.length_singleton]; omega)) ?_ | refine x_q H ?_ | refine x_cm (fun h => ?_) (fun h => ?_))
      (refine x_c H (place800 _ a1 ha) ?_; clear H; rintro e w1 ⟨k, rfl, hk, hF⟩ H; replace hF := hF.kp; skip)
      obtain ⟨F, hF2⟩ : ∃ F, fmt ((k : Int) - 420) = F := ⟨_, rfl⟩
      have hfl := fmt_short (x := (k : Int) - 420) (by omega)
      obtain ⟨Q2, hQ2⟩ : ∃ q, Q1 ++ F = q := ⟨_, rfl⟩
      have e12 : s ++ 101 :: F = Q2 := by rw [← hQ2, ← hQ1, List.append_assoc]; rfl
      have hp := fun mode => HSA.out ((k : Int) - 420) (by omega) mode
      obtain ⟨e1, e2, e3, e4⟩ := encl_dv (num s) ((k : Int) - 420)
      rw [hF2, e12] at hp
      rw [hF2] at hfl
      have hp1 := hp 1
      have hp2 := hp 2
      have hp0 := hp 0
      obtain ⟨V1, hV1⟩ : ∃ V, dval false 1 (num s) ((k : Int) - 420) = V := ⟨_, rfl⟩
      obtain ⟨V2, hV2⟩ : ∃ V, dval false 2 (num s) ((k : Int) - 420) = V := ⟨_, rfl⟩
      obtain ⟨V0, hV0⟩ : ∃ V, dval false 0 (num s) ((k : Int) - 420) = V := ⟨_, rfl⟩
      rw [hV1] at hp1 e1 e2 e3
      rw [hV2] at hp2 e1 e2 e4
      rw [hV0] at hp0 e2
      have HP1 := hid hp1
      have HP2 := hid hp2
      have HP0 := hid hp0
      have HFF := hid hF2
      have HQ2 := hid hQ2
      have hor : (V2 = V1 ∧ V0 = V1) ∨ (V2 = V1 + 1 ∧ V0 = V1) ∨ (V2 = V1 + 1 ∧ V0 = V1 + 1) := by omega
      clear hp hp1 hp2 hp0 hV1 hV2 hV0 hF2 hQ1 hQ2 e12 e1 e2 HSA
      go_wp2_with (first | refine x_q H ?_ | refine x_cm (fun h => ?_) (fun h => ?_) | (revert H; (first | (refine x_g ?_; intro g w1 hg hf H) | (refine x_s ?_; intro w1 hf H)); (first | replace hf := hf.kp | clear hf)))
      (refine x_c H (itoaZ_any _ (by omega) _ (HT.out.fr H.fr) HFF) ?_; clear H; rintro e w1 ⟨rfl, hF⟩ H; replace hF := hF.kp; skip)
      go_wp2_with (first | refine x_e (ev_strCat rfl rfl rfl HQ2 (by omega)) ?_ | refine x_q H ?_ | refine x_cm (fun h => ?_) (fun h => ?_))
      (refine x_c H (parseP_any _ Q2 1 (HT.out.fr H.fr) HP1) ?_; clear H; rintro e w1 ⟨rfl, hF⟩ H; replace hF := hF.kp; skip)
      go_wp2_with (first | refine x_q H ?_ | refine x_cm (fun h => ?_) (fun h => ?_) | (revert H; (first | (refine x_g ?_; intro g w1 hg hf H) | (refine x_s ?_; intro w1 hf H)); (first | replace hf := hf.kp | clear hf)))
      (refine x_c H (parseP_any _ Q2 2 (HT.out.fr H.fr) HP2) ?_; clear H; rintro e w1 ⟨rfl, hF⟩ H; replace hF := hF.kp; skip)
      go_wp2_with (first | refine x_q H ?_ | refine x_cm (fun h => ?_) (fun h => ?_) | (revert H; (first | (refine x_g ?_; intro g w1 hg hf H) | (refine x_s ?_; intro w1 hf H)); (first | replace hf := hf.kp | clear hf)))
      (refine x_c H (parseP_any _ Q2 0 (HT.out.fr H.fr) HP0) ?_; clear H; rintro e w1 ⟨rfl, hF⟩ H; replace hF := hF.kp; skip)
      have HOR := hid hor
      clear hor
      rcases HOR.out with ⟨rfl, rfl⟩ | ⟨rfl, rfl⟩ | ⟨rfl, rfl⟩
      · clear HOR
        go_wp2_with (first | refine x_q H ?_ | refine x_cm (fun h => ?_) (fun h => ?_) | (revert H; (first | (refine x_g ?_; intro g w1 hg hf H) | (refine x_s ?_; intro w1 hf H)); (first | replace hf := hf.kp | clear hf)))
        (refine x_c H (awakeD_any _ (HT.out.fr H.fr)) ?_; clear H; rintro e w1 ⟨rfl, hF⟩ H; replace hF := hF.kp; skip)
        go_wp2_with (first | refine x_q H ?_ | refine x_cm (fun h => ?_) (fun h => ?_) | (revert H; (first | (refine x_g ?_; intro g w1 hg hf H) | (refine x_s ?_; intro w1 hf H)); (first | replace hf := hf.kp | clear hf)))
        go_ret
        exact ⟨rfl, H.fr⟩
      · clear HOR
        go_wp2_with (first | refine x_q H ?_ | refine x_cm (fun h => ?_) (fun h => ?_) | (revert H; (first | (refine x_g ?_; intro g w1 hg hf H) | (refine x_s ?_; intro w1 hf H)); (first | replace hf := hf.kp | clear hf)))
        (refine x_c H (up_any2 _ e3) ?_; clear H; rintro e w1 ⟨rfl, hF⟩ H; replace hF := hF.kp; skip)
        go_wp2_with (first | refine x_q H ?_ | refine x_cm (fun h => ?_) (fun h => ?_) | (revert H; (first | (refine x_g ?_; intro g w1 hg hf H) | (refine x_s ?_; intro w1 hf H)); (first | replace hf := hf.kp | clear hf)))
        (refine x_c H (awakeD_any _ (HT.out.fr H.fr)) ?_; clear H; rintro e w1 ⟨rfl, hF⟩ H; replace hF := hF.kp; skip)
        go_wp2_with (first | refine x_q H ?_ | refine x_cm (fun h => ?_) (fun h => ?_) | (revert H; (first | (refine x_g ?_; intro g w1 hg hf H) | (refine x_s ?_; intro w1 hf H)); (first | replace hf := hf.kp | clear hf)))
        go_ret
        exact ⟨rfl, H.fr⟩
      · clear HOR
        go_wp2_with (first | refine x_q H ?_ | refine x_cm (fun h => ?_) (fun h => ?_) | (revert H; (first | (refine x_g ?_; intro g w1 hg hf H) | (refine x_s ?_; intro w1 hf H)); (first | replace hf := hf.kp | clear hf)))
        (refine x_c H (up_any2 _ e3) ?_; clear H; rintro e w1 ⟨rfl, hF⟩ H; replace hF := hF.kp; skip)
        go_wp2_with (first | refine x_q H ?_ | refine x_cm (fun h => ?_) (fun h => ?_) | (revert H; (first | (refine x_g ?_; intro g w1 hg hf H) | (refine x_s ?_; intro w1 hf H)); (first | replace hf := hf.kp | clear hf)))
        (refine x_c H (awakeD_any _ (HT.out.fr H.fr)) ?_; clear H; rintro e w1 ⟨rfl, hF⟩ H; replace hF := hF.kp; skip)
        go_wp2_with (first | refine x_q H ?_ | refine x_cm (fun h => ?_) (fun h => ?_) | (revert H; (first | (refine x_g ?_; intro g w1 hg hf H) | (refine x_s ?_; intro w1 hf H)); (first | replace hf := hf.kp | clear hf)))
        go_ret
        exact ⟨rfl, H.fr⟩
end Go.Proofs.YthbeeeclgbpopaaGreatDoor
