import Derived.Test.YtbiohhmpclnpgaaGreatDoorXNd2
namespace Go.Proofs.YtbiohhmpclnpgaaGreatDoor
open Go.RowKit
set_option linter.unusedSimpArgs false
set_option linter.unusedVariables false
set_option maxHeartbeats 8000000
set_option maxRecDepth 100000
attribute [local irreducible] wpList Code.wp Plan.wp
theorem fmt_nat (n : Nat) : fmt (n : Int) = dec n := by unfold fmt; rw [if_neg (by omega), Int.natAbs_natCast]
set_option maxHeartbeats 32000000 in
theorem boeingPoints_walk (W : World) (hL : laidMetH Tryz.prog laid7 W) (a0 : Int) (w0 : (Lit.int .i64 a0).wf = true) (a1 : Int) (w1 : (Lit.int .i64 a1).wf = true) (a2 : Int) (w2 : (Lit.int .i64 a2).wf = true) (point power : Bool) :
  Calls Tryz.prog 3 #[.int .i64 a0, .int .i64 a1, .int .i64 a2, .bool point, .bool power] W fun e w' => e = .returned (.bool true) ∧ Fr [] W w' := by
 have ha := wf_range w0
 have hb := wf_range w1
 have hc := wf_range w2
 have HT := hid (la_of hL)
 clear w0 w1 w2 hL
 have H := Hp.start [] W
 go_enter Tryz.func3, Tryz.ntmps3
 go_wp2_with (first | refine x_q H ?_ | refine x_cm (fun h => ?_) (fun h => ?_) | refine x_l H ?_ | (revert H; refine x_g ?_; (first | (have hh := g3; clear hh; intro g4 w1 hg hf H) | (have hh := g2; clear hh; intro g3 w1 hg hf H) | (have hh := g1; clear hh; intro g2 w1 hg hf H) | (have hh := g0; clear hh; intro g1 w1 hg hf H) | intro g0 w1 hg hf H); (first | replace hf := hf.kp | clear hf)) | (revert H; refine x_s ?_; intro w1 hf H; (first | replace hf := hf.kp | clear hf)) | (revert H; refine x_s (he := fun H K hK => c_stA H rfl rfl rfl (h := hK)) ?_; intro w1 hf H; clear hf))
 refine x_c H (place100000 _ a0 ha) ?_
 clear H
 rintro e w1 ⟨n, rfl, hn, hF⟩ H
 clear hF
 go_wp2_with (first | refine x_q H ?_ | refine x_cm (fun h => ?_) (fun h => ?_) | refine x_l H ?_ | (revert H; refine x_g ?_; (first | (have hh := g3; clear hh; intro g4 w1 hg hf H) | (have hh := g2; clear hh; intro g3 w1 hg hf H) | (have hh := g1; clear hh; intro g2 w1 hg hf H) | (have hh := g0; clear hh; intro g1 w1 hg hf H) | intro g0 w1 hg hf H); (first | replace hf := hf.kp | clear hf)) | (revert H; refine x_s ?_; intro w1 hf H; (first | replace hf := hf.kp | clear hf)) | (revert H; refine x_s (he := fun H K hK => c_stA H rfl rfl rfl (h := hK)) ?_; intro w1 hf H; clear hf))
 refine x_c H (place8 _ a1 hb) ?_
 clear H
 rintro e w1 ⟨d, rfl, hd, hF⟩ H
 clear hF
 go_wp2_with (first | refine x_q H ?_ | refine x_cm (fun h => ?_) (fun h => ?_) | refine x_l H ?_ | (revert H; refine x_g ?_; (first | (have hh := g3; clear hh; intro g4 w1 hg hf H) | (have hh := g2; clear hh; intro g3 w1 hg hf H) | (have hh := g1; clear hh; intro g2 w1 hg hf H) | (have hh := g0; clear hh; intro g1 w1 hg hf H) | intro g0 w1 hg hf H); (first | replace hf := hf.kp | clear hf)) | (revert H; refine x_s ?_; intro w1 hf H; (first | replace hf := hf.kp | clear hf)) | (revert H; refine x_s (he := fun H K hK => c_stA H rfl rfl rfl (h := hK)) ?_; intro w1 hf H; clear hf))
 refine x_c H (place6 _ a2 hc) ?_
 clear H
 rintro e w1 ⟨s, rfl, hs, hF⟩ H
 clear hF ha hb hc
 obtain ⟨lay, v, hone, hwant⟩ := points_one (n := n) (d := d) (s := s) point power hn hd hs
 have hnl := dec_five hn
 have hdl := dec_five (n := d) (by omega)
 have hsl := dec_five (n := s) (by omega)
 obtain ⟨dn, hdn⟩ : ∃ l, dec n = l := ⟨_, rfl⟩
 obtain ⟨dd, hdd⟩ : ∃ l, dec d = l := ⟨_, rfl⟩
 obtain ⟨ds, hds⟩ : ∃ l, dec s = l := ⟨_, rfl⟩
 obtain ⟨x, hx⟩ : ∃ x, ptX d s point power = x := ⟨_, rfl⟩
 have hx9 : -13 ≤ x ∧ x ≤ 2 := by rw [← hx]; unfold ptX; split <;> split <;> omega
 have hxl := fmt_short (x := x) (by omega)
 obtain ⟨fx, hfx⟩ : ∃ l, fmt x = l := ⟨_, rfl⟩
 rw [hfx] at hxl
 rw [hdn] at hnl
 rw [hdd] at hdl
 rw [hds] at hsl
 have HFN := hid (show fmt (n : Int) = dn by rw [fmt_nat, hdn])
 have HFD := hid (show fmt (d : Int) = dd by rw [fmt_nat, hdd])
 have HFS := hid (show fmt (s : Int) = ds by rw [fmt_nat, hds])
 have HFX := hid hfx
 obtain ⟨t4, q4⟩ : ∃ t, dn ++ [101] = t := ⟨_, rfl⟩; have l4 : t4.length ≤ 6 := by (rw [← q4, List.length_append]; (try simp only [List.length_cons, List.length_nil]); omega)
 obtain ⟨t5, q5⟩ : ∃ t, t4 ++ fx = t := ⟨_, rfl⟩; have l5 : t5.length ≤ 12 := by (rw [← q5, List.length_append]; (try simp only [List.length_cons, List.length_nil]); omega)
 have HWANT : Hid (dpz 1024 t5 0 = ((v : Nat), 0)) := hid (by
  rw [← hwant, ← q5, ← q4, hdn, hx, hfx]
  simp)
 obtain ⟨t6, q6⟩ : ∃ t, [40] ++ ds = t := ⟨_, rfl⟩; have l6 : t6.length ≤ 6 := by (rw [← q6, List.length_append]; (try simp only [List.length_cons, List.length_nil]); omega)
 obtain ⟨t7, q7⟩ : ∃ t, t6 ++ [80, 50, 69, 50, 48, 46] = t := ⟨_, rfl⟩; have l7 : t7.length ≤ 12 := by (rw [← q7, List.length_append]; (try simp only [List.length_cons, List.length_nil]); omega)
 obtain ⟨t8, q8⟩ : ∃ t, t7 ++ dd = t := ⟨_, rfl⟩; have l8 : t8.length ≤ 17 := by (rw [← q8, List.length_append]; (try simp only [List.length_cons, List.length_nil]); omega)
 obtain ⟨t9, q9⟩ : ∃ t, t8 ++ [41] = t := ⟨_, rfl⟩; have l9 : t9.length ≤ 18 := by (rw [← q9, List.length_append]; (try simp only [List.length_cons, List.length_nil]); omega)
 have HFM : ptFmt s d = t9 := by
  rw [← q9, ← q8, ← q7, ← q6]
  unfold ptFmt
  rw [hds, hdd]
  simp
 rw [HFM] at hone
 have Q4 := hid q4; have Q5 := hid q5; have Q6 := hid q6; have Q7 := hid q7; have Q8 := hid q8; have Q9 := hid q9
 clear q4 q5 q6 q7 q8 q9 HFM hwant hfx hdd hds
 go_wp2_with (first | refine x_q H ?_ | refine x_cm (fun h => ?_) (fun h => ?_) | refine x_l H ?_ | (revert H; refine x_g ?_; (first | (have hh := g3; clear hh; intro g4 w1 hg hf H) | (have hh := g2; clear hh; intro g3 w1 hg hf H) | (have hh := g1; clear hh; intro g2 w1 hg hf H) | (have hh := g0; clear hh; intro g1 w1 hg hf H) | intro g0 w1 hg hf H); (first | replace hf := hf.kp | clear hf)) | (revert H; refine x_s ?_; intro w1 hf H; (first | replace hf := hf.kp | clear hf)) | (revert H; refine x_s (he := fun H K hK => c_stA H rfl rfl rfl (h := hK)) ?_; intro w1 hf H; clear hf))
 (refine x_c H (itoaZ_any _ (by omega) _ (HT.out.fr H.fr) HFN) ?_; clear H; rintro e w1 ⟨rfl, hF⟩ H; clear hF)
 cases point
 ·cases power
  ·obtain ⟨t1, q1⟩ : ∃ t, [32, 32] ++ dn = t := ⟨_, rfl⟩; have l1 : t1.length ≤ 7 := by (rw [← q1, List.length_append]; (try simp only [List.length_cons, List.length_nil]); omega)
   have HFLD : 32 :: 32 :: ptF false false n = t1 := by rw [← q1]; unfold ptF; rw [hdn]; simp
   rw [HFLD] at hone
   have HO := hid hone
   have Q1 := hid q1
   have HX1 := hid (show (0 : Int) - (d : Int) = -(d : Int) by omega)
   have HX2 := hid (show -(d : Int) - (s : Int) = x by rw [← hx]; unfold ptX; simp; omega)
   clear q1 HFLD hone hx hdn
   go_wp2_with (first | refine x_e (ev_subY rfl (-(d : Int)) rfl rfl HX1) ?_ | refine x_e (ev_subY rfl x rfl rfl HX2) ?_ | refine x_e (ev_strCat rfl rfl rfl (by assumption) (by (try simp only [List.length_cons, List.length_nil]); omega)) ?_ | refine x_q H ?_)
   (refine x_c H (itoaZ_any _ (by omega) _ (HT.out.fr H.fr) HFN) ?_; clear H; rintro e w1 ⟨rfl, hF⟩ H; clear hF)
   go_wp2_with (first | refine x_e (ev_strCat rfl rfl rfl (by assumption) (by (try simp only [List.length_cons, List.length_nil]); omega)) ?_ | refine x_q H ?_)
   (refine x_c H (itoaZ_any _ (by omega) _ (HT.out.fr H.fr) HFX) ?_; clear H; rintro e w1 ⟨rfl, hF⟩ H; clear hF)
   go_wp2_with (first | refine x_e (ev_strCat rfl rfl rfl (by assumption) (by (try simp only [List.length_cons, List.length_nil]); omega)) ?_ | refine x_q H ?_)
   refine x_c H (parseP_any _ t5 0 (HT.out.fr H.fr) HWANT) ?_
   clear H
   rintro e w1 ⟨rfl, hF⟩ H
   clear hF
   go_wp2_with (first | refine x_e (ev_strCat rfl rfl rfl (by assumption) (by (try simp only [List.length_cons, List.length_nil]); omega)) ?_ | refine x_q H ?_)
   (refine x_c H (itoaZ_any _ (by omega) _ (HT.out.fr H.fr) HFS) ?_; clear H; rintro e w1 ⟨rfl, hF⟩ H; clear hF)
   go_wp2_with (first | refine x_e (ev_strCat rfl rfl rfl (by assumption) (by (try simp only [List.length_cons, List.length_nil]); omega)) ?_ | refine x_q H ?_)
   (refine x_c H (itoaZ_any _ (by omega) _ (HT.out.fr H.fr) HFD) ?_; clear H; rintro e w1 ⟨rfl, hF⟩ H; clear hF)
   go_wp2_with (first | refine x_e (ev_strCat rfl rfl rfl (by assumption) (by (try simp only [List.length_cons, List.length_nil]); omega)) ?_ | refine x_q H ?_)
   refine x_c H (one_any _ t9 t1 HO.out.nf (by have := HO.out.nx; omega) (HT.out.fr H.fr)) ?_
   clear H
   rintro e w1 ⟨p, c, rfl, hF, hrd⟩ H
   clear hF
   go_wp2_with (first | refine x_q H ?_ | refine x_cm (fun h => ?_) (fun h => ?_) | refine x_l H ?_ | (revert H; refine x_g ?_; (first | (have hh := g3; clear hh; intro g4 w1 hg hf H) | (have hh := g2; clear hh; intro g3 w1 hg hf H) | (have hh := g1; clear hh; intro g2 w1 hg hf H) | (have hh := g0; clear hh; intro g1 w1 hg hf H) | intro g0 w1 hg hf H); (first | replace hf := hf.kp | clear hf)) | (revert H; refine x_s ?_; intro w1 hf H; (first | replace hf := hf.kp | clear hf)) | (revert H; refine x_s (he := fun H K hK => c_stA H rfl rfl rfl (h := hK)) ?_; intro w1 hf H; clear hf))
   refine Calls.mono (parse_good _ _ (one_len HO.out.nf (by have := HO.out.nx; omega)) hrd (HT.out.fr H.fr) HO.out.lines (head_ok HO.out.nf HO.out.af HO.out.fmt_) (body_ok HO.out)) ?_
   clear hrd
   rintro e w1 ⟨hF, v1, v2, v3, B, rfl, hM, hB⟩
   obtain ⟨S1, S2, S3, H1⟩ := H.mat 2 3 4 hF hM hB
   clear H hF hM hB
   have H := H1
   clear H1
   obtain ⟨q1, d1, rfl, _⟩ := (H.rowo 2).form
   obtain ⟨q2, d2, rfl, _⟩ := (H.rowo 3).form
   obtain ⟨gv, d3, hvv, rfl⟩ := (H.rowo 4).some (by simp)
   subst hvv
   go_wp2_with (first | refine x_e (c_l1O rfl rfl (H.rowo 4) (v := .int .u64 (v : Int)) rfl) ?_ | refine x_q H ?_ | refine x_cm (fun h => ?_) (fun h => ?_) | refine x_l H ?_ | (revert H; refine x_g ?_; (first | (have hh := g3; clear hh; intro g4 w1 hg hf H) | (have hh := g2; clear hh; intro g3 w1 hg hf H) | (have hh := g1; clear hh; intro g2 w1 hg hf H) | (have hh := g0; clear hh; intro g1 w1 hg hf H) | intro g0 w1 hg hf H); (first | replace hf := hf.kp | clear hf)) | (revert H; refine x_s ?_; intro w1 hf H; (first | replace hf := hf.kp | clear hf)) | (revert H; refine x_s (he := fun H K hK => c_stA H rfl rfl rfl (h := hK)) ?_; intro w1 hf H; clear hf))
   refine x_c H (awakeB_any _ (HT.out.fr H.fr)) ?_
   clear H
   rintro e w1 ⟨rfl, hF⟩ H
   clear hF
   go_wp2_with (first | refine x_q H ?_ | refine x_cm (fun h => ?_) (fun h => ?_) | refine x_l H ?_ | (revert H; refine x_g ?_; (first | (have hh := g3; clear hh; intro g4 w1 hg hf H) | (have hh := g2; clear hh; intro g3 w1 hg hf H) | (have hh := g1; clear hh; intro g2 w1 hg hf H) | (have hh := g0; clear hh; intro g1 w1 hg hf H) | intro g0 w1 hg hf H); (first | replace hf := hf.kp | clear hf)) | (revert H; refine x_s ?_; intro w1 hf H; (first | replace hf := hf.kp | clear hf)) | (revert H; refine x_s (he := fun H K hK => c_stA H rfl rfl rfl (h := hK)) ?_; intro w1 hf H; clear hf))
   go_ret
   exact ⟨rfl, H.fr⟩
  ·obtain ⟨t2, q2⟩ : ∃ t, dn ++ [69, 50] = t := ⟨_, rfl⟩; have l2 : t2.length ≤ 7 := by (rw [← q2, List.length_append]; (try simp only [List.length_cons, List.length_nil]); omega)
   obtain ⟨t1, q1⟩ : ∃ t, [32, 32] ++ t2 = t := ⟨_, rfl⟩; have l1 : t1.length ≤ 9 := by (rw [← q1, List.length_append]; (try simp only [List.length_cons, List.length_nil]); omega)
   have HFLD : 32 :: 32 :: ptF false true n = t1 := by rw [← q1, ← q2]; unfold ptF; rw [hdn]; simp
   rw [HFLD] at hone
   have HO := hid hone
   have Q1 := hid q1
   have Q2 := hid q2
   have HX1 := hid (show (0 : Int) - (d : Int) = -(d : Int) by omega)
   have HX2 := hid (show -(d : Int) + 2 = x by rw [← hx]; unfold ptX; simp)
   clear q1 q2 HFLD hone hx hdn
   go_wp2_with (first | refine x_e (ev_subY rfl (-(d : Int)) rfl rfl HX1) ?_ | refine x_e (ev_addY rfl x rfl rfl HX2) ?_ | refine x_e (ev_strCat rfl rfl rfl (by assumption) (by (try simp only [List.length_cons, List.length_nil]); omega)) ?_ | refine x_q H ?_)
   (refine x_c H (itoaZ_any _ (by omega) _ (HT.out.fr H.fr) HFN) ?_; clear H; rintro e w1 ⟨rfl, hF⟩ H; clear hF)
   go_wp2_with (first | refine x_e (ev_strCat rfl rfl rfl (by assumption) (by (try simp only [List.length_cons, List.length_nil]); omega)) ?_ | refine x_q H ?_)
   (refine x_c H (itoaZ_any _ (by omega) _ (HT.out.fr H.fr) HFX) ?_; clear H; rintro e w1 ⟨rfl, hF⟩ H; clear hF)
   go_wp2_with (first | refine x_e (ev_strCat rfl rfl rfl (by assumption) (by (try simp only [List.length_cons, List.length_nil]); omega)) ?_ | refine x_q H ?_)
   refine x_c H (parseP_any _ t5 0 (HT.out.fr H.fr) HWANT) ?_
   clear H
   rintro e w1 ⟨rfl, hF⟩ H
   clear hF
   go_wp2_with (first | refine x_e (ev_strCat rfl rfl rfl (by assumption) (by (try simp only [List.length_cons, List.length_nil]); omega)) ?_ | refine x_q H ?_)
   (refine x_c H (itoaZ_any _ (by omega) _ (HT.out.fr H.fr) HFS) ?_; clear H; rintro e w1 ⟨rfl, hF⟩ H; clear hF)
   go_wp2_with (first | refine x_e (ev_strCat rfl rfl rfl (by assumption) (by (try simp only [List.length_cons, List.length_nil]); omega)) ?_ | refine x_q H ?_)
   (refine x_c H (itoaZ_any _ (by omega) _ (HT.out.fr H.fr) HFD) ?_; clear H; rintro e w1 ⟨rfl, hF⟩ H; clear hF)
   go_wp2_with (first | refine x_e (ev_strCat rfl rfl rfl (by assumption) (by (try simp only [List.length_cons, List.length_nil]); omega)) ?_ | refine x_q H ?_)
   refine x_c H (one_any _ t9 t1 HO.out.nf (by have := HO.out.nx; omega) (HT.out.fr H.fr)) ?_
   clear H
   rintro e w1 ⟨p, c, rfl, hF, hrd⟩ H
   clear hF
   go_wp2_with (first | refine x_q H ?_ | refine x_cm (fun h => ?_) (fun h => ?_) | refine x_l H ?_ | (revert H; refine x_g ?_; (first | (have hh := g3; clear hh; intro g4 w1 hg hf H) | (have hh := g2; clear hh; intro g3 w1 hg hf H) | (have hh := g1; clear hh; intro g2 w1 hg hf H) | (have hh := g0; clear hh; intro g1 w1 hg hf H) | intro g0 w1 hg hf H); (first | replace hf := hf.kp | clear hf)) | (revert H; refine x_s ?_; intro w1 hf H; (first | replace hf := hf.kp | clear hf)) | (revert H; refine x_s (he := fun H K hK => c_stA H rfl rfl rfl (h := hK)) ?_; intro w1 hf H; clear hf))
   refine Calls.mono (parse_good _ _ (one_len HO.out.nf (by have := HO.out.nx; omega)) hrd (HT.out.fr H.fr) HO.out.lines (head_ok HO.out.nf HO.out.af HO.out.fmt_) (body_ok HO.out)) ?_
   clear hrd
   rintro e w1 ⟨hF, v1, v2, v3, B, rfl, hM, hB⟩
   obtain ⟨S1, S2, S3, H1⟩ := H.mat 2 3 4 hF hM hB
   clear H hF hM hB
   have H := H1
   clear H1
   obtain ⟨q1, d1, rfl, _⟩ := (H.rowo 2).form
   obtain ⟨q2, d2, rfl, _⟩ := (H.rowo 3).form
   obtain ⟨gv, d3, hvv, rfl⟩ := (H.rowo 4).some (by simp)
   subst hvv
   go_wp2_with (first | refine x_e (c_l1O rfl rfl (H.rowo 4) (v := .int .u64 (v : Int)) rfl) ?_ | refine x_q H ?_ | refine x_cm (fun h => ?_) (fun h => ?_) | refine x_l H ?_ | (revert H; refine x_g ?_; (first | (have hh := g3; clear hh; intro g4 w1 hg hf H) | (have hh := g2; clear hh; intro g3 w1 hg hf H) | (have hh := g1; clear hh; intro g2 w1 hg hf H) | (have hh := g0; clear hh; intro g1 w1 hg hf H) | intro g0 w1 hg hf H); (first | replace hf := hf.kp | clear hf)) | (revert H; refine x_s ?_; intro w1 hf H; (first | replace hf := hf.kp | clear hf)) | (revert H; refine x_s (he := fun H K hK => c_stA H rfl rfl rfl (h := hK)) ?_; intro w1 hf H; clear hf))
   refine x_c H (awakeB_any _ (HT.out.fr H.fr)) ?_
   clear H
   rintro e w1 ⟨rfl, hF⟩ H
   clear hF
   go_wp2_with (first | refine x_q H ?_ | refine x_cm (fun h => ?_) (fun h => ?_) | refine x_l H ?_ | (revert H; refine x_g ?_; (first | (have hh := g3; clear hh; intro g4 w1 hg hf H) | (have hh := g2; clear hh; intro g3 w1 hg hf H) | (have hh := g1; clear hh; intro g2 w1 hg hf H) | (have hh := g0; clear hh; intro g1 w1 hg hf H) | intro g0 w1 hg hf H); (first | replace hf := hf.kp | clear hf)) | (revert H; refine x_s ?_; intro w1 hf H; (first | replace hf := hf.kp | clear hf)) | (revert H; refine x_s (he := fun H K hK => c_stA H rfl rfl rfl (h := hK)) ?_; intro w1 hf H; clear hf))
   go_ret
   exact ⟨rfl, H.fr⟩
 ·cases power
  ·obtain ⟨t2, q2⟩ : ∃ t, dn ++ [46] = t := ⟨_, rfl⟩; have l2 : t2.length ≤ 6 := by (rw [← q2, List.length_append]; (try simp only [List.length_cons, List.length_nil]); omega)
   obtain ⟨t1, q1⟩ : ∃ t, [32, 32] ++ t2 = t := ⟨_, rfl⟩; have l1 : t1.length ≤ 8 := by (rw [← q1, List.length_append]; (try simp only [List.length_cons, List.length_nil]); omega)
   have HFLD : 32 :: 32 :: ptF true false n = t1 := by rw [← q1, ← q2]; unfold ptF; rw [hdn]; simp
   rw [HFLD] at hone
   have HO := hid hone
   have Q1 := hid q1
   have Q2 := hid q2
   have HX2 := hid (show (0 : Int) - (s : Int) = x by rw [← hx]; unfold ptX; simp)
   clear q1 q2 HFLD hone hx hdn
   go_wp2_with (first | refine x_e (ev_subY rfl x rfl rfl HX2) ?_ | refine x_e (ev_strCat rfl rfl rfl (by assumption) (by (try simp only [List.length_cons, List.length_nil]); omega)) ?_ | refine x_q H ?_)
   (refine x_c H (itoaZ_any _ (by omega) _ (HT.out.fr H.fr) HFN) ?_; clear H; rintro e w1 ⟨rfl, hF⟩ H; clear hF)
   go_wp2_with (first | refine x_e (ev_strCat rfl rfl rfl (by assumption) (by (try simp only [List.length_cons, List.length_nil]); omega)) ?_ | refine x_q H ?_)
   (refine x_c H (itoaZ_any _ (by omega) _ (HT.out.fr H.fr) HFX) ?_; clear H; rintro e w1 ⟨rfl, hF⟩ H; clear hF)
   go_wp2_with (first | refine x_e (ev_strCat rfl rfl rfl (by assumption) (by (try simp only [List.length_cons, List.length_nil]); omega)) ?_ | refine x_q H ?_)
   refine x_c H (parseP_any _ t5 0 (HT.out.fr H.fr) HWANT) ?_
   clear H
   rintro e w1 ⟨rfl, hF⟩ H
   clear hF
   go_wp2_with (first | refine x_e (ev_strCat rfl rfl rfl (by assumption) (by (try simp only [List.length_cons, List.length_nil]); omega)) ?_ | refine x_q H ?_)
   (refine x_c H (itoaZ_any _ (by omega) _ (HT.out.fr H.fr) HFS) ?_; clear H; rintro e w1 ⟨rfl, hF⟩ H; clear hF)
   go_wp2_with (first | refine x_e (ev_strCat rfl rfl rfl (by assumption) (by (try simp only [List.length_cons, List.length_nil]); omega)) ?_ | refine x_q H ?_)
   (refine x_c H (itoaZ_any _ (by omega) _ (HT.out.fr H.fr) HFD) ?_; clear H; rintro e w1 ⟨rfl, hF⟩ H; clear hF)
   go_wp2_with (first | refine x_e (ev_strCat rfl rfl rfl (by assumption) (by (try simp only [List.length_cons, List.length_nil]); omega)) ?_ | refine x_q H ?_)
   refine x_c H (one_any _ t9 t1 HO.out.nf (by have := HO.out.nx; omega) (HT.out.fr H.fr)) ?_
   clear H
   rintro e w1 ⟨p, c, rfl, hF, hrd⟩ H
   clear hF
   go_wp2_with (first | refine x_q H ?_ | refine x_cm (fun h => ?_) (fun h => ?_) | refine x_l H ?_ | (revert H; refine x_g ?_; (first | (have hh := g3; clear hh; intro g4 w1 hg hf H) | (have hh := g2; clear hh; intro g3 w1 hg hf H) | (have hh := g1; clear hh; intro g2 w1 hg hf H) | (have hh := g0; clear hh; intro g1 w1 hg hf H) | intro g0 w1 hg hf H); (first | replace hf := hf.kp | clear hf)) | (revert H; refine x_s ?_; intro w1 hf H; (first | replace hf := hf.kp | clear hf)) | (revert H; refine x_s (he := fun H K hK => c_stA H rfl rfl rfl (h := hK)) ?_; intro w1 hf H; clear hf))
   refine Calls.mono (parse_good _ _ (one_len HO.out.nf (by have := HO.out.nx; omega)) hrd (HT.out.fr H.fr) HO.out.lines (head_ok HO.out.nf HO.out.af HO.out.fmt_) (body_ok HO.out)) ?_
   clear hrd
   rintro e w1 ⟨hF, v1, v2, v3, B, rfl, hM, hB⟩
   obtain ⟨S1, S2, S3, H1⟩ := H.mat 2 3 4 hF hM hB
   clear H hF hM hB
   have H := H1
   clear H1
   obtain ⟨q1, d1, rfl, _⟩ := (H.rowo 2).form
   obtain ⟨q2, d2, rfl, _⟩ := (H.rowo 3).form
   obtain ⟨gv, d3, hvv, rfl⟩ := (H.rowo 4).some (by simp)
   subst hvv
   go_wp2_with (first | refine x_e (c_l1O rfl rfl (H.rowo 4) (v := .int .u64 (v : Int)) rfl) ?_ | refine x_q H ?_ | refine x_cm (fun h => ?_) (fun h => ?_) | refine x_l H ?_ | (revert H; refine x_g ?_; (first | (have hh := g3; clear hh; intro g4 w1 hg hf H) | (have hh := g2; clear hh; intro g3 w1 hg hf H) | (have hh := g1; clear hh; intro g2 w1 hg hf H) | (have hh := g0; clear hh; intro g1 w1 hg hf H) | intro g0 w1 hg hf H); (first | replace hf := hf.kp | clear hf)) | (revert H; refine x_s ?_; intro w1 hf H; (first | replace hf := hf.kp | clear hf)) | (revert H; refine x_s (he := fun H K hK => c_stA H rfl rfl rfl (h := hK)) ?_; intro w1 hf H; clear hf))
   refine x_c H (awakeB_any _ (HT.out.fr H.fr)) ?_
   clear H
   rintro e w1 ⟨rfl, hF⟩ H
   clear hF
   go_wp2_with (first | refine x_q H ?_ | refine x_cm (fun h => ?_) (fun h => ?_) | refine x_l H ?_ | (revert H; refine x_g ?_; (first | (have hh := g3; clear hh; intro g4 w1 hg hf H) | (have hh := g2; clear hh; intro g3 w1 hg hf H) | (have hh := g1; clear hh; intro g2 w1 hg hf H) | (have hh := g0; clear hh; intro g1 w1 hg hf H) | intro g0 w1 hg hf H); (first | replace hf := hf.kp | clear hf)) | (revert H; refine x_s ?_; intro w1 hf H; (first | replace hf := hf.kp | clear hf)) | (revert H; refine x_s (he := fun H K hK => c_stA H rfl rfl rfl (h := hK)) ?_; intro w1 hf H; clear hf))
   go_ret
   exact ⟨rfl, H.fr⟩
  ·obtain ⟨t2, q2⟩ : ∃ t, dn ++ [46] = t := ⟨_, rfl⟩; have l2 : t2.length ≤ 6 := by (rw [← q2, List.length_append]; (try simp only [List.length_cons, List.length_nil]); omega)
   obtain ⟨t3, q3⟩ : ∃ t, t2 ++ [69, 50] = t := ⟨_, rfl⟩; have l3 : t3.length ≤ 8 := by (rw [← q3, List.length_append]; (try simp only [List.length_cons, List.length_nil]); omega)
   obtain ⟨t1, q1⟩ : ∃ t, [32, 32] ++ t3 = t := ⟨_, rfl⟩; have l1 : t1.length ≤ 10 := by (rw [← q1, List.length_append]; (try simp only [List.length_cons, List.length_nil]); omega)
   have HFLD : 32 :: 32 :: ptF true true n = t1 := by rw [← q1, ← q3, ← q2]; unfold ptF; rw [hdn]; simp
   rw [HFLD] at hone
   have HO := hid hone
   have Q1 := hid q1
   have Q2 := hid q2
   have Q3 := hid q3
   have HX2 := hid (show (0 : Int) + 2 = x by rw [← hx]; unfold ptX; simp)
   clear q1 q2 q3 HFLD hone hx hdn
   go_wp2_with (first | refine x_e (ev_addY rfl x rfl rfl HX2) ?_ | refine x_e (ev_strCat rfl rfl rfl (by assumption) (by (try simp only [List.length_cons, List.length_nil]); omega)) ?_ | refine x_q H ?_)
   (refine x_c H (itoaZ_any _ (by omega) _ (HT.out.fr H.fr) HFN) ?_; clear H; rintro e w1 ⟨rfl, hF⟩ H; clear hF)
   go_wp2_with (first | refine x_e (ev_strCat rfl rfl rfl (by assumption) (by (try simp only [List.length_cons, List.length_nil]); omega)) ?_ | refine x_q H ?_)
   (refine x_c H (itoaZ_any _ (by omega) _ (HT.out.fr H.fr) HFX) ?_; clear H; rintro e w1 ⟨rfl, hF⟩ H; clear hF)
   go_wp2_with (first | refine x_e (ev_strCat rfl rfl rfl (by assumption) (by (try simp only [List.length_cons, List.length_nil]); omega)) ?_ | refine x_q H ?_)
   refine x_c H (parseP_any _ t5 0 (HT.out.fr H.fr) HWANT) ?_
   clear H
   rintro e w1 ⟨rfl, hF⟩ H
   clear hF
   go_wp2_with (first | refine x_e (ev_strCat rfl rfl rfl (by assumption) (by (try simp only [List.length_cons, List.length_nil]); omega)) ?_ | refine x_q H ?_)
   (refine x_c H (itoaZ_any _ (by omega) _ (HT.out.fr H.fr) HFS) ?_; clear H; rintro e w1 ⟨rfl, hF⟩ H; clear hF)
   go_wp2_with (first | refine x_e (ev_strCat rfl rfl rfl (by assumption) (by (try simp only [List.length_cons, List.length_nil]); omega)) ?_ | refine x_q H ?_)
   (refine x_c H (itoaZ_any _ (by omega) _ (HT.out.fr H.fr) HFD) ?_; clear H; rintro e w1 ⟨rfl, hF⟩ H; clear hF)
   go_wp2_with (first | refine x_e (ev_strCat rfl rfl rfl (by assumption) (by (try simp only [List.length_cons, List.length_nil]); omega)) ?_ | refine x_q H ?_)
   refine x_c H (one_any _ t9 t1 HO.out.nf (by have := HO.out.nx; omega) (HT.out.fr H.fr)) ?_
   clear H
   rintro e w1 ⟨p, c, rfl, hF, hrd⟩ H
   clear hF
   go_wp2_with (first | refine x_q H ?_ | refine x_cm (fun h => ?_) (fun h => ?_) | refine x_l H ?_ | (revert H; refine x_g ?_; (first | (have hh := g3; clear hh; intro g4 w1 hg hf H) | (have hh := g2; clear hh; intro g3 w1 hg hf H) | (have hh := g1; clear hh; intro g2 w1 hg hf H) | (have hh := g0; clear hh; intro g1 w1 hg hf H) | intro g0 w1 hg hf H); (first | replace hf := hf.kp | clear hf)) | (revert H; refine x_s ?_; intro w1 hf H; (first | replace hf := hf.kp | clear hf)) | (revert H; refine x_s (he := fun H K hK => c_stA H rfl rfl rfl (h := hK)) ?_; intro w1 hf H; clear hf))
   refine Calls.mono (parse_good _ _ (one_len HO.out.nf (by have := HO.out.nx; omega)) hrd (HT.out.fr H.fr) HO.out.lines (head_ok HO.out.nf HO.out.af HO.out.fmt_) (body_ok HO.out)) ?_
   clear hrd
   rintro e w1 ⟨hF, v1, v2, v3, B, rfl, hM, hB⟩
   obtain ⟨S1, S2, S3, H1⟩ := H.mat 2 3 4 hF hM hB
   clear H hF hM hB
   have H := H1
   clear H1
   obtain ⟨q1, d1, rfl, _⟩ := (H.rowo 2).form
   obtain ⟨q2, d2, rfl, _⟩ := (H.rowo 3).form
   obtain ⟨gv, d3, hvv, rfl⟩ := (H.rowo 4).some (by simp)
   subst hvv
   go_wp2_with (first | refine x_e (c_l1O rfl rfl (H.rowo 4) (v := .int .u64 (v : Int)) rfl) ?_ | refine x_q H ?_ | refine x_cm (fun h => ?_) (fun h => ?_) | refine x_l H ?_ | (revert H; refine x_g ?_; (first | (have hh := g3; clear hh; intro g4 w1 hg hf H) | (have hh := g2; clear hh; intro g3 w1 hg hf H) | (have hh := g1; clear hh; intro g2 w1 hg hf H) | (have hh := g0; clear hh; intro g1 w1 hg hf H) | intro g0 w1 hg hf H); (first | replace hf := hf.kp | clear hf)) | (revert H; refine x_s ?_; intro w1 hf H; (first | replace hf := hf.kp | clear hf)) | (revert H; refine x_s (he := fun H K hK => c_stA H rfl rfl rfl (h := hK)) ?_; intro w1 hf H; clear hf))
   refine x_c H (awakeB_any _ (HT.out.fr H.fr)) ?_
   clear H
   rintro e w1 ⟨rfl, hF⟩ H
   clear hF
   go_wp2_with (first | refine x_q H ?_ | refine x_cm (fun h => ?_) (fun h => ?_) | refine x_l H ?_ | (revert H; refine x_g ?_; (first | (have hh := g3; clear hh; intro g4 w1 hg hf H) | (have hh := g2; clear hh; intro g3 w1 hg hf H) | (have hh := g1; clear hh; intro g2 w1 hg hf H) | (have hh := g0; clear hh; intro g1 w1 hg hf H) | intro g0 w1 hg hf H); (first | replace hf := hf.kp | clear hf)) | (revert H; refine x_s ?_; intro w1 hf H; (first | replace hf := hf.kp | clear hf)) | (revert H; refine x_s (he := fun H K hK => c_stA H rfl rfl rfl (h := hK)) ?_; intro w1 hf H; clear hf))
   go_ret
   exact ⟨rfl, H.fr⟩
end Go.Proofs.YtbiohhmpclnpgaaGreatDoor
