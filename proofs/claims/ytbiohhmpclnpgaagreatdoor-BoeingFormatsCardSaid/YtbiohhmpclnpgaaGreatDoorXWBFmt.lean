import Derived.Test.YtbiohhmpclnpgaaGreatDoorXNd2
namespace Go.Proofs.YtbiohhmpclnpgaaGreatDoor
open Go.RowKit
set_option linter.unusedSimpArgs false
set_option linter.unusedVariables false
set_option maxHeartbeats 8000000
set_option maxRecDepth 100000
attribute [local irreducible] wpList Code.wp Plan.wp
theorem str_at {cs : List Value} {l : List (List UInt8)} (h : cs = l.map strV) {k : Nat} {f : List UInt8} (hk : l[k]? = some f) : cs[k]? = some (strV f) := by rw [h, List.getElem?_map, hk]; rfl
set_option maxHeartbeats 32000000 in
theorem boeingFormats_walk (W : World) (hL : laidMetH Tryz.prog laid7 W) (a0 : Int) (w0 : (Lit.int .i64 a0).wf = true) :
  Calls Tryz.prog 4 #[.int .i64 a0] W fun e w' => e = .returned (.bool true) ∧ Fr [] W w' := by
 have ha := wf_range w0
 have HT := hid (la_of hL)
 clear w0 hL
 have H := Hp.start [] W
 go_enter Tryz.func4, Tryz.ntmps4
 go_upto_region 2 with (first | refine x_q H ?_ | (refine is_buildSlice rfl ?_; refine wl_rw rfl (fun K hK => c_sN H rfl (by repeat first | exact .nil _ | apply Parts.tmp (by rfl) (by rfl) | apply Parts.con (by rfl)) rfl (by intro c hc; simp only [List.mem_cons, List.not_mem_nil, or_false] at hc; (try (rcases hc with rfl | rfl | rfl | rfl | rfl | rfl <;> rfl))) (by decide) (by decide) (fun ga w1 hg hf H1 => hK _ _ ?_)); (clear hK K); (clear H; have H := H1; clear H1; (try dsimp only at H); (first | replace hf := hf.kp | clear hf)); (simp only [nrm, ↓reduceIte, Nat.reduceAdd])))
 go_upto_region 3 with (first | refine x_q H ?_ | (refine is_buildSlice rfl ?_; refine wl_rw rfl (fun K hK => c_sN H rfl (by repeat first | exact .nil _ | apply Parts.tmp (by rfl) (by rfl) | apply Parts.con (by rfl)) rfl (by intro c hc; simp only [List.mem_cons, List.not_mem_nil, or_false] at hc; (try (rcases hc with rfl | rfl | rfl | rfl | rfl | rfl | rfl | rfl | rfl | rfl | rfl <;> rfl))) (by decide) (by decide) (fun g w1 hg hf H1 => hK _ _ ?_)); (clear hK K); (clear H; have H := H1; clear H1; (try dsimp only at H); (first | replace hf := hf.kp | clear hf)); (simp only [nrm, ↓reduceIte, Nat.reduceAdd])))
 go_wp2_with (fail)
 refine x_c H (place6 _ a0 ha) ?_
 clear H
 rintro e w1 ⟨k, rfl, hk, hF⟩ H
 clear hF
 obtain ⟨f, hf0⟩ : ∃ f, goodF[k]? = some f := ⟨_, List.getElem?_eq_getElem (by exact hk)⟩
 obtain ⟨lay, hone⟩ := formats_one (List.mem_of_getElem? hf0)
 have HO := hid hone
 have HC := hid (H.cell (b := ga) (p := k) (v := strV f) (str_at (l := goodF) rfl hf0))
 clear hf0 hone
 go_wp2_with (first | refine x_e (c_ldc rfl rfl HC.out) ?_ | refine x_q H ?_ | refine x_cm (fun h => ?_) (fun h => ?_) | refine x_l H ?_ | (revert H; refine x_g ?_; (first | (have hh := g3; clear hh; intro g4 w1 hg hf H) | (have hh := g2; clear hh; intro g3 w1 hg hf H) | (have hh := g1; clear hh; intro g2 w1 hg hf H) | (have hh := g0; clear hh; intro g1 w1 hg hf H) | intro g0 w1 hg hf H); (first | replace hf := hf.kp | clear hf)) | (revert H; refine x_s ?_; intro w1 hf H; (first | replace hf := hf.kp | clear hf)) | (revert H; refine x_s (he := fun H K hK => c_stA H rfl rfl rfl (h := hK)) ?_; intro w1 hf H; clear hf))
 refine x_c H (one_any _ f v15 HO.out.nf (by decide) (HT.out.fr H.fr)) ?_
 clear H
 rintro e w1 ⟨p, c, rfl, hF, hrd⟩ H
 clear hF
 go_wp2_with (first | refine x_q H ?_ | refine x_cm (fun h => ?_) (fun h => ?_) | refine x_l H ?_ | (revert H; refine x_g ?_; (first | (have hh := g3; clear hh; intro g4 w1 hg hf H) | (have hh := g2; clear hh; intro g3 w1 hg hf H) | (have hh := g1; clear hh; intro g2 w1 hg hf H) | (have hh := g0; clear hh; intro g1 w1 hg hf H) | intro g0 w1 hg hf H); (first | replace hf := hf.kp | clear hf)) | (revert H; refine x_s ?_; intro w1 hf H; (first | replace hf := hf.kp | clear hf)) | (revert H; refine x_s (he := fun H K hK => c_stA H rfl rfl rfl (h := hK)) ?_; intro w1 hf H; clear hf))
 refine Calls.mono (parse_good _ _ (one_len HO.out.nf (by have := HO.out.nx; omega)) hrd (HT.out.fr H.fr) HO.out.lines (head_ok HO.out.nf HO.out.af HO.out.fmt_) (body_ok HO.out)) ?_
 clear hrd
 rintro e w1 ⟨hF, v1, v2, v3, B, rfl, hM, hB⟩
 obtain ⟨S1, S2, S3, H1⟩ := H.mat 2 3 4 hF hM hB
 clear H hF hM hB
 have H := H1
 clear H1
 obtain ⟨q1, d1, rfl, _⟩ := (H.rowo 2).form
 obtain ⟨q2, d2, rfl, _⟩ := (H.rowo 3).form
 obtain ⟨gv, d3, hvv, rfl⟩ := (H.rowo 4).some (by simp)
 subst hvv
 go_wp2_with (first | refine x_q H ?_ | refine x_cm (fun h => ?_) (fun h => ?_) | refine x_l H ?_ | (revert H; refine x_g ?_; (first | (have hh := g3; clear hh; intro g4 w1 hg hf H) | (have hh := g2; clear hh; intro g3 w1 hg hf H) | (have hh := g1; clear hh; intro g2 w1 hg hf H) | (have hh := g0; clear hh; intro g1 w1 hg hf H) | intro g0 w1 hg hf H); (first | replace hf := hf.kp | clear hf)) | (revert H; refine x_s ?_; intro w1 hf H; (first | replace hf := hf.kp | clear hf)) | (revert H; refine x_s (he := fun H K hK => c_stA H rfl rfl rfl (h := hK)) ?_; intro w1 hf H; clear hf))
 refine x_c H (place11 _ a0 ha) ?_
 clear H HC HO
 rintro e w1 ⟨k2, rfl, hk2, hF⟩ H
 clear hF
 obtain ⟨f2, hf2⟩ : ∃ f, badF[k2]? = some f := ⟨_, List.getElem?_eq_getElem (by exact hk2)⟩
 obtain ⟨hlin, hdec⟩ := formats_bad (List.mem_of_getElem? hf2)
 have hmore := List.all_eq_true.1 bad_more f2 (List.mem_of_getElem? hf2)
 simp only [Bool.and_eq_true, decide_eq_true_eq] at hmore
 have HB := hid (And.intro hlin (And.intro hdec hmore))
 have HC := hid (H.cell (b := g) (p := k2) (v := strV f2) (str_at (l := badF) rfl hf2))
 clear hf2 hlin hdec hmore
 go_wp2_with (first | refine x_e (c_ldc rfl rfl HC.out) ?_ | refine x_q H ?_ | refine x_cm (fun h => ?_) (fun h => ?_) | refine x_l H ?_ | (revert H; refine x_g ?_; (first | (have hh := g3; clear hh; intro g4 w1 hg hf H) | (have hh := g2; clear hh; intro g3 w1 hg hf H) | (have hh := g1; clear hh; intro g2 w1 hg hf H) | (have hh := g0; clear hh; intro g1 w1 hg hf H) | intro g0 w1 hg hf H); (first | replace hf := hf.kp | clear hf)) | (revert H; refine x_s ?_; intro w1 hf H; (first | replace hf := hf.kp | clear hf)) | (revert H; refine x_s (he := fun H K hK => c_stA H rfl rfl rfl (h := hK)) ?_; intro w1 hf H; clear hf))
 refine x_c H (one_any _ f2 v15 HB.out.2.2.2 (by decide) (HT.out.fr H.fr)) ?_
 clear H
 rintro e w1 ⟨p, c, rfl, hF, hrd⟩ H
 clear hF
 go_wp2_with (first | refine x_q H ?_ | refine x_cm (fun h => ?_) (fun h => ?_) | refine x_l H ?_ | (revert H; refine x_g ?_; (first | (have hh := g3; clear hh; intro g4 w1 hg hf H) | (have hh := g2; clear hh; intro g3 w1 hg hf H) | (have hh := g1; clear hh; intro g2 w1 hg hf H) | (have hh := g0; clear hh; intro g1 w1 hg hf H) | intro g0 w1 hg hf H); (first | replace hf := hf.kp | clear hf)) | (revert H; refine x_s ?_; intro w1 hf H; (first | replace hf := hf.kp | clear hf)) | (revert H; refine x_s (he := fun H K hK => c_stA H rfl rfl rfl (h := hK)) ?_; intro w1 hf H; clear hf))
 refine x_c H (parse_bad _ _ (one_len HB.out.2.2.2 (by decide)) hrd HB.out.1 (head_ok HB.out.2.2.2 HB.out.2.2.1 HB.out.2.1)) ?_
 clear H hrd
 rintro e w1 ⟨rfl, hF⟩ H
 clear hF
 go_wp2_with (first | refine x_e (c_l1O rfl rfl (H.rowo 4) (v := .int .u64 4609434218613702656) rfl) ?_ | refine x_q H ?_ | refine x_cm (fun h => ?_) (fun h => ?_) | refine x_l H ?_ | (revert H; refine x_g ?_; (first | (have hh := g3; clear hh; intro g4 w1 hg hf H) | (have hh := g2; clear hh; intro g3 w1 hg hf H) | (have hh := g1; clear hh; intro g2 w1 hg hf H) | (have hh := g0; clear hh; intro g1 w1 hg hf H) | intro g0 w1 hg hf H); (first | replace hf := hf.kp | clear hf)) | (revert H; refine x_s ?_; intro w1 hf H; (first | replace hf := hf.kp | clear hf)) | (revert H; refine x_s (he := fun H K hK => c_stA H rfl rfl rfl (h := hK)) ?_; intro w1 hf H; clear hf))
 refine x_c H (awakeB_any _ (HT.out.fr H.fr)) ?_
 clear H
 rintro e w1 ⟨rfl, hF⟩ H
 clear hF
 go_wp2_with (first | refine x_q H ?_ | refine x_cm (fun h => ?_) (fun h => ?_) | refine x_l H ?_ | (revert H; refine x_g ?_; (first | (have hh := g3; clear hh; intro g4 w1 hg hf H) | (have hh := g2; clear hh; intro g3 w1 hg hf H) | (have hh := g1; clear hh; intro g2 w1 hg hf H) | (have hh := g0; clear hh; intro g1 w1 hg hf H) | intro g0 w1 hg hf H); (first | replace hf := hf.kp | clear hf)) | (revert H; refine x_s ?_; intro w1 hf H; (first | replace hf := hf.kp | clear hf)) | (revert H; refine x_s (he := fun H K hK => c_stA H rfl rfl rfl (h := hK)) ?_; intro w1 hf H; clear hf))
 go_ret
 exact ⟨rfl, H.fr⟩
end Go.Proofs.YtbiohhmpclnpgaaGreatDoor
