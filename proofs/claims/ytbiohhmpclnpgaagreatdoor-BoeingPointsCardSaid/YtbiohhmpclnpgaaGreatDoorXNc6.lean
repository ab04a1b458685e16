import Derived.Test.YtbiohhmpclnpgaaGreatDoorXNc5
namespace Go.Proofs.YtbiohhmpclnpgaaGreatDoor
open Go.RowKit
set_option linter.unusedSimpArgs false
set_option linter.unusedVariables false
set_option maxHeartbeats 8000000
set_option maxRecDepth 100000
attribute [local irreducible] wpList Code.wp Plan.wp
def ParR (title : List UInt8) (v : Nat) (w : World) (e : Ending) (w' : World) : Prop :=
 Fr [] w w' ∧ ∃ v1 v2 v3 B, e = .returned (.tuple #[.agg #[strV title, strV [], .int .i64 1, .int .i64 1, v1, v2, v3, .bool false, .int .i64 0], .int .i64 0, .int .i64 0]) ∧ Mat3 [0, 1] [0] [v] v1 v2 v3 B w' ∧ ∀ x ∈ B, w.heap.size ≤ x
structure BodyOK (l0 l4 l5 x : List UInt8) (lay : Lay) (title : List UInt8) (v : Nat) : Prop where
 n0 : l0.length ≤ 100000
 n4 : l4.length ≤ 100000
 n5 : l5.length ≤ 100000
 nx : x.length ≤ 100000
 i4 : ∀ k u : Nat, ([1, 2] : List Nat)[k]? = some u → pz (blank (part (k * 4) (k * 4 + 4) l4)) = ((u : Int), 0) ∧ u ≤ 1000
 i5 : ∀ k u : Nat, ([1] : List Nat)[k]? = some u → pz (blank (part (k * 4) (k * 4 + 4) l5)) = ((u : Int), 0) ∧ u ≤ 1000
 vx : ∀ k u : Nat, ([v] : List Nat)[k]? = some u → (blank (part (k * lay.width) (k * lay.width + lay.width) x)).length ≤ 18 ∧ asc (blank (part (k * lay.width) (k * lay.width + lay.width) x)) = true ∧ atOK (blank (part (k * lay.width) (k * lay.width + lay.width) x)) = true ∧ valueP ⟨lay.count, lay.width, lay.point, lay.scale⟩ (blank (part (k * lay.width) (k * lay.width + lay.width) x)) = some u
 s : soundP lay = true ∧ lay.scale ≤ 9 ∧ lay.point ≤ 999
 f : finF v = true ∧ v < 18446744073709551616
 t1 : Lib.trimRightB (part 0 72 l0) 32 = title
 t2 : Lib.trimRightB (part 72 80 l0) 32 = []
set_option maxHeartbeats 64000000 in
theorem parse_good (w : World) (s : List UInt8) (hs : s.length ≤ 100000) {p : Option Addr} {c : Nat} (hv : Rd w (.slice p s.length c) s.length (bytesV s)) (hT : La w) {l0 l1 l2 l3 l4 l5 x : List UInt8} (hL : mlines s = [l0, l1, l2, l3, l4, l5, x]) {lay : Lay} (hH : HeadOK l1 l2 l3 (some lay)) {title : List UInt8} {v : Nat} (hB : BodyOK l0 l4 l5 x lay title v) :
  Calls Tryz.prog 8 #[.slice p s.length c] w (ParR title v w) := by
 obtain ⟨n0, n4, n5, nx, i4, i5, vx, ⟨hsnd, hs9, hp9⟩, ⟨hfin, h64⟩, t1, t2⟩ := hB
 obtain ⟨hc1, hc2, hw1, hw2⟩ := sound_le hsnd
 have hcap := lines_cap s
 rw [hL] at hcap
 obtain ⟨cL, hcL⟩ : ∃ cL, (nl [] s).length = cL := ⟨_, rfl⟩
 rw [hcL] at hcap
 have hcap : 7 ≤ cL := hcap
 have HCL := hid hcL
 have HV := hid hv
 have HL := hid hL
 have HH := hid hH
 have HT := hid hT
 have I4 := hid i4; have I5 := hid i5; have VX := hid vx; have HFI := hid hfin
 obtain ⟨p1, hp1⟩ : ∃ p, part 0 72 l0 = p := ⟨_, rfl⟩
 obtain ⟨p2, hp2⟩ : ∃ p, part 72 80 l0 = p := ⟨_, rfl⟩
 rw [hp1] at t1
 rw [hp2] at t2
 have m1 : p1.length ≤ 100000 := hp1 ▸ Nat.le_trans (part_len _ _ _) n0
 have m2 : p2.length ≤ 100000 := hp2 ▸ Nat.le_trans (part_len _ _ _) n0
 have P1 := hid hp1; have P2 := hid hp2; have T1 := hid t1; have T2 := hid t2
 obtain ⟨fc, hfc⟩ : ∃ n, lay.count = n := ⟨_, rfl⟩
 obtain ⟨fw, hfw⟩ : ∃ n, lay.width = n := ⟨_, rfl⟩
 obtain ⟨fp, hfp⟩ : ∃ n, lay.point = n := ⟨_, rfl⟩
 obtain ⟨fs, hfs⟩ : ∃ n, lay.scale = n := ⟨_, rfl⟩
 rw [hfc] at hc1 hc2
 rw [hfw] at hw1 hw2
 rw [hfp] at hp9
 rw [hfs] at hs9
 have LAY := hid (show lay.count = fc ∧ lay.width = fw ∧ lay.point = fp ∧ lay.scale = fs from ⟨hfc, hfw, hfp, hfs⟩)
 rw [hfc, hfw, hfp, hfs] at VX
 clear hv hL hH hT i4 i5 vx hfin t1 t2 hp1 hp2 hsnd hcL hfc hfw hfp hfs
 have H := Hp.start [] w
 go_enter Tryz.func8, Tryz.ntmps8
 go_wp2_with (first | refine x_q H ?_ | refine x_cm (fun h => ?_) (fun h => ?_) | refine x_l H ?_ | (revert H; refine x_g ?_; (first | (have hh := g3; clear hh; intro g4 w1 hg hf H) | (have hh := g2; clear hh; intro g3 w1 hg hf H) | (have hh := g1; clear hh; intro g2 w1 hg hf H) | (have hh := g0; clear hh; intro g1 w1 hg hf H) | intro g0 w1 hg hf H); (first | replace hf := hf.kp | clear hf)) | (revert H; refine x_s ?_; intro w1 hf H; (first | replace hf := hf.kp | clear hf)) | (revert H; refine x_s (he := fun H K hK => c_stA H rfl rfl rfl (h := hK)) ?_; intro w1 hf H; clear hf))
 unfold zl_34 at H
 refine Calls.mono (lines_any _ s (by omega) (HV.out.fr H.fr (by simp))) ?_
 rintro e w1 ⟨gL, rfl, hF, hgL, hgL2, hcells⟩
 rw [HL.out] at hcells ⊢
 have H1 := (H.step hF (by simp)).pushObj 7 (Q := LnsAt gL [l0, l1, l2, l3, l4, l5, x] [gL]) (S := [gL]) ⟨rfl, hgL2, hcells⟩ LnsAt.firm (fun x hx => by
  rw [List.mem_singleton] at hx; subst hx; exact .inr (Nat.le_trans H.fr.size hgL)) (fun x hx => by
  rw [List.mem_singleton] at hx; subst hx; exact H.notOwn hgL)
 clear H hF hgL hgL2 hcells
 have H := H1
 clear H1
 rw [HCL.out]
 go_wp2_with (first | refine x_q H ?_ | refine x_cm (fun h => ?_) (fun h => ?_) | refine x_l H ?_ | (revert H; refine x_g ?_; (first | (have hh := g3; clear hh; intro g4 w1 hg hf H) | (have hh := g2; clear hh; intro g3 w1 hg hf H) | (have hh := g1; clear hh; intro g2 w1 hg hf H) | (have hh := g0; clear hh; intro g1 w1 hg hf H) | intro g0 w1 hg hf H); (first | replace hf := hf.kp | clear hf)) | (revert H; refine x_s ?_; intro w1 hf H; (first | replace hf := hf.kp | clear hf)) | (revert H; refine x_s (he := fun H K hK => c_stA H rfl rfl rfl (h := hK)) ?_; intro w1 hf H; clear hf))
 refine x_c H (readH_any _ (by decide) HH.out (H.ob 7).four) ?_ (fun _ _ h => h.1)
 clear H
 rintro e w1 ⟨hF, he⟩ H
 have he : e = .returned (.tuple #[.agg (headC lay.count lay.width lay.point lay.scale).toArray, .int .i64 0, .int .i64 0]) := he
 rw [LAY.out.1, LAY.out.2.1, LAY.out.2.2.1, LAY.out.2.2.2] at he
 unfold headC at he
 subst he
 clear hF
 go_upto_region 11 with (first | refine x_q H ?_ | refine x_cm (fun h => ?_) (fun h => ?_) | refine x_l H ?_ | (revert H; (first | (refine x_g ?_; (first | (have hh := g3; clear hh; intro g4 w1 hg hf H) | (have hh := g2; clear hh; intro g3 w1 hg hf H) | (have hh := g1; clear hh; intro g2 w1 hg hf H) | (have hh := g0; clear hh; intro g1 w1 hg hf H) | intro g0 w1 hg hf H); (first | replace hf := hf.kp | clear hf)) | (refine x_s ?_; intro w1 hf H; (first | replace hf := hf.kp | clear hf)) | (refine x_s (he := fun H K hK => c_stA H rfl rfl rfl (h := hK)) ?_; intro w1 hf H; clear hf))))
 (revert H; refine w_p 13 (.st 0 (.st 1 (.st 2 (.st 3 (.st 4 (.st 5 (.st 6 (.ld 7 (.st 8 (.st 9 (.st 10 (.st 11 (.st 12 .done))))))))))))) ?_; intro w1 H)
 refine p_q ?_
 (refine p_e rfl (fun w H => c_sslP rfl rfl rfl 4 4 3 (hid rfl) (by decide) (by omega) rfl) ?_)
 refine p_q ?_
 (refine p_l ?_)
 iterate 3 refine p_q ?_
 ((refine pl_rw rfl rfl (fun K hK => rw_call rfl Tryz.func23 (by kernel_rfl) rfl (integers_any _ 2 4 0 0 (hid rfl) (hid rfl) (by decide) (by decide) (by decide) l4 (by omega) ((H.ob 7).2.2 4 l4 rfl) [1, 2] rfl (hid rfl) (by decide) I4.out) (fun e w1 hpost => ?_))); obtain ⟨va, rfl, hF, hown⟩ := hpost; refine ⟨_, rfl, ?_⟩; obtain ⟨Sa, H1⟩ := H.rowNew 1 hF hown; refine hK _ _ (fun hne => by first | exact absurd rfl hne | exact H1.sub (by repeat first | exact List.Sublist.refl _ | exact List.nil_sublist _ | apply List.Sublist.cons_cons | apply List.Sublist.cons)) ?_; clear hK K hF hown; (clear H; have H := H1; clear H1); (simp only [nrm, ↓reduceIte, Nat.reduceAdd]))
 iterate 5 refine p_q ?_
 (refine pl_done ?_)
 obtain ⟨ga, ca, hvv, rfl⟩ := (H.rowo 1).some (by decide)
 subst hvv
 go_upto_region 14 with (first | refine x_q H ?_ | refine x_cm (fun h => ?_) (fun h => ?_) | refine x_l H ?_ | (revert H; (first | (refine x_g ?_; (first | (have hh := g3; clear hh; intro g4 w1 hg hf H) | (have hh := g2; clear hh; intro g3 w1 hg hf H) | (have hh := g1; clear hh; intro g2 w1 hg hf H) | (have hh := g0; clear hh; intro g1 w1 hg hf H) | intro g0 w1 hg hf H); (first | replace hf := hf.kp | clear hf)) | (refine x_s ?_; intro w1 hf H; (first | replace hf := hf.kp | clear hf)) | (refine x_s (he := fun H K hK => c_stA H rfl rfl rfl (h := hK)) ?_; intro w1 hf H; clear hf))))
 (revert H; refine w_p 15 (.st 0 (.st 1 (.st 2 (.st 3 (.st 4 (.st 5 (.st 6 (.st 7 (.st 8 (.ld 9 (.st 10 (.st 11 (.st 12 (.st 13 (.st 14 .done))))))))))))))) ?_; intro w1 H)
 iterate 4 refine p_q ?_
 (refine p_e rfl (fun w H => c_sslP rfl rfl rfl 5 5 2 (hid rfl) (by decide) (by omega) rfl) ?_)
 refine p_q ?_
 (refine p_l ?_)
 iterate 2 refine p_q ?_
 ((refine pl_rw rfl rfl (fun K hK => rw_call rfl Tryz.func23 (by kernel_rfl) rfl (integers_any _ 1 4 0 0 (hid rfl) (hid rfl) (by decide) (by decide) (by decide) l5 (by omega) ((H.ob 7).2.2 5 l5 rfl) [1] rfl (hid rfl) (by decide) I5.out) (fun e w1 hpost => ?_))); obtain ⟨vb, rfl, hF, hown⟩ := hpost; refine ⟨_, rfl, ?_⟩; obtain ⟨Sb, H1⟩ := H.rowNew 2 hF hown; refine hK _ _ (fun hne => by first | exact absurd rfl hne | exact H1.sub (by repeat first | exact List.Sublist.refl _ | exact List.nil_sublist _ | apply List.Sublist.cons_cons | apply List.Sublist.cons)) ?_; clear hK K hF hown; (clear H; have H := H1; clear H1); (simp only [nrm, ↓reduceIte, Nat.reduceAdd]))
 iterate 5 refine p_q ?_
 (refine pl_done ?_)
 obtain ⟨gb, cb, hvv, rfl⟩ := (H.rowo 2).some (by decide)
 subst hvv
 go_wp2_with (first | refine x_q H ?_ | refine x_cm (fun h => ?_) (fun h => ?_) | refine x_l H ?_ | (revert H; refine x_g ?_; (first | (have hh := g3; clear hh; intro g4 w1 hg hf H) | (have hh := g2; clear hh; intro g3 w1 hg hf H) | (have hh := g1; clear hh; intro g2 w1 hg hf H) | (have hh := g0; clear hh; intro g1 w1 hg hf H) | intro g0 w1 hg hf H); (first | replace hf := hf.kp | clear hf)) | (revert H; refine x_s ?_; intro w1 hf H; (first | replace hf := hf.kp | clear hf)) | (revert H; refine x_s (he := fun H K hK => c_stA H rfl rfl rfl (h := hK)) ?_; intro w1 hf H; clear hf))
 refine x_c H (ones_any _) ?_
 clear H
 rintro e w1 ⟨vo, rfl, hF⟩ H
 clear hF
 go_wp2_with (first | refine x_q H ?_ | refine x_cm (fun h => ?_) (fun h => ?_) | refine x_l H ?_ | (revert H; refine x_g ?_; (first | (have hh := g3; clear hh; intro g4 w1 hg hf H) | (have hh := g2; clear hh; intro g3 w1 hg hf H) | (have hh := g1; clear hh; intro g2 w1 hg hf H) | (have hh := g0; clear hh; intro g1 w1 hg hf H) | intro g0 w1 hg hf H); (first | replace hf := hf.kp | clear hf)) | (revert H; refine x_s ?_; intro w1 hf H; (first | replace hf := hf.kp | clear hf)) | (revert H; refine x_s (he := fun H K hK => c_stA H rfl rfl rfl (h := hK)) ?_; intro w1 hf H; clear hf))
 (refine x_c H (pattern_any _ _ rfl rfl) ?_; clear H; rintro e w1 ⟨rfl, hF⟩ H; clear hF)
 go_upto_region 19 with (first | refine x_q H ?_ | refine x_cm (fun h => ?_) (fun h => ?_) | refine x_l H ?_ | (revert H; (first | (refine x_g ?_; (first | (have hh := g3; clear hh; intro g4 w1 hg hf H) | (have hh := g2; clear hh; intro g3 w1 hg hf H) | (have hh := g1; clear hh; intro g2 w1 hg hf H) | (have hh := g0; clear hh; intro g1 w1 hg hf H) | intro g0 w1 hg hf H); (first | replace hf := hf.kp | clear hf)) | (refine x_s ?_; intro w1 hf H; (first | replace hf := hf.kp | clear hf)) | (refine x_s (he := fun H K hK => c_stA H rfl rfl rfl (h := hK)) ?_; intro w1 hf H; clear hf))))
 (revert H; refine w_p 18 (.st 0 (.st 1 (.st 2 (.st 3 (.st 4 (.st 5 (.st 6 (.st 7 (.st 8 (.st 9 (.st 10 (.st 11 (.ld 12 (.st 13 (.st 14 (.st 15 (.st 16 (.st 17 .done)))))))))))))))))) ?_; intro w1 H)
 iterate 7 refine p_q ?_
 (refine p_e rfl (fun w H => c_sslP rfl rfl rfl 6 6 1 (hid rfl) (by decide) (by omega) rfl) ?_)
 refine p_q ?_
 (refine p_l ?_)
 iterate 2 refine p_q ?_
 ((refine pl_rw rfl rfl (fun K hK => rw_call rfl Tryz.func26 (by kernel_rfl) rfl (numbers_any _ fc fw fp fs (by omega) (by omega) hp9 hs9 (by decide) x (by omega) ((H.ob 7).2.2 6 x rfl) (HT.out.fr H.fr) [v] rfl (hid rfl) hc1 VX.out) (fun e w1 hpost => ?_))); obtain ⟨vc, rfl, hF, hown⟩ := hpost; refine ⟨_, rfl, ?_⟩; obtain ⟨Sc, H1⟩ := H.rowNew 3 hF hown; refine hK _ _ (fun hne => by first | exact absurd rfl hne | exact H1.sub (by repeat first | exact List.Sublist.refl _ | exact List.nil_sublist _ | apply List.Sublist.cons_cons | apply List.Sublist.cons)) ?_; clear hK K hF hown; (clear H; have H := H1; clear H1); (simp only [nrm, ↓reduceIte, Nat.reduceAdd]))
 iterate 5 refine p_q ?_
 (refine pl_done ?_)
 obtain ⟨gc, cc, hvv, rfl⟩ := (H.rowo 3).some (by simp)
 subst hvv
 go_wp2_with (first | refine x_q H ?_ | refine x_cm (fun h => ?_) (fun h => ?_) | refine x_l H ?_ | (revert H; refine x_g ?_; (first | (have hh := g3; clear hh; intro g4 w1 hg hf H) | (have hh := g2; clear hh; intro g3 w1 hg hf H) | (have hh := g1; clear hh; intro g2 w1 hg hf H) | (have hh := g0; clear hh; intro g1 w1 hg hf H) | intro g0 w1 hg hf H); (first | replace hf := hf.kp | clear hf)) | (revert H; refine x_s ?_; intro w1 hf H; (first | replace hf := hf.kp | clear hf)) | (revert H; refine x_s (he := fun H K hK => c_stA H rfl rfl rfl (h := hK)) ?_; intro w1 hf H; clear hf))
 refine Calls.mono (matrix_any _ fc fw fp fs (fun j u hj => by rw [Nat.zero_add]; exact (H.rowo 1).cell hj) (fun j u hj => by rw [Nat.zero_add]; exact (H.rowo 2).cell hj) (fun j u hj => by rw [Nat.zero_add]; exact (H.rowo 3).cell hj)) ?_
 (rintro e w1 ⟨v, rfl, hF, hown⟩; obtain ⟨S, H1⟩ := H.rowNew 4 hF hown; clear H hF hown; have H := H1; clear H1)
 obtain ⟨gm, cm, hvv, rfl⟩ := (H.rowo 4).some (by decide)
 subst hvv
 go_wp2_with (first | refine x_q H ?_ | refine x_cm (fun h => ?_) (fun h => ?_) | refine x_l H ?_ | (revert H; refine x_g ?_; (first | (have hh := g3; clear hh; intro g4 w1 hg hf H) | (have hh := g2; clear hh; intro g3 w1 hg hf H) | (have hh := g1; clear hh; intro g2 w1 hg hf H) | (have hh := g0; clear hh; intro g1 w1 hg hf H) | intro g0 w1 hg hf H); (first | replace hf := hf.kp | clear hf)) | (revert H; refine x_s ?_; intro w1 hf H; (first | replace hf := hf.kp | clear hf)) | (revert H; refine x_s (he := fun H K hK => c_stA H rfl rfl rfl (h := hK)) ?_; intro w1 hf H; clear hf))
 go_loopw [13] (fun s13 wr => s13 = .int .i64 7 ∧ wr = w1) (fun _ _ => 0)
 case atStart => exact ⟨rfl, rfl⟩
 case round =>
  obtain ⟨rfl, rfl⟩ := hrel
  go_upto_region 30 with (first | refine x_q H ?_ | refine x_cm (fun h => ?_) (fun h => ?_) | refine x_l H ?_ | (revert H; (first | (refine x_g ?_; (first | (have hh := g3; clear hh; intro g4 w1 hg hf H) | (have hh := g2; clear hh; intro g3 w1 hg hf H) | (have hh := g1; clear hh; intro g2 w1 hg hf H) | (have hh := g0; clear hh; intro g1 w1 hg hf H) | intro g0 w1 hg hf H); (first | replace hf := hf.kp | clear hf)) | (refine x_s ?_; intro w1 hf H; (first | replace hf := hf.kp | clear hf)) | (refine x_s (he := fun H K hK => c_stA H rfl rfl rfl (h := hK)) ?_; intro w1 hf H; clear hf))))
  (revert H; refine w_p 15 (.st 0 (.st 1 (.st 2 (.st 5 (.st 6 (.st 7 (.st 10 (.st 12 (.ld 3 (.ld 4 (.ld 8 (.ld 9 (.ld 11 (.ld 13 (.st 14 (.ld 15 .done)))))))))))))))) ?_; intro w1 H)
  iterate 2 refine p_q ?_
  (refine p_e rfl (fun w H => c_ldc rfl rfl ((H.ob 7).2.2 0 l0 rfl)) ?_)
  iterate 2 refine p_q ?_
  (refine p_e rfl (fun w H => c_ldc rfl rfl ((H.ob 7).2.2 0 l0 rfl)) ?_)
  iterate 2 refine p_q ?_
  (refine p_c H rfl rfl Tryz.func30 (part_any _ l0 (by omega) 0 72 (by decide) P1) ?_; clear H; rintro e w1 ⟨rfl, hF⟩ H; refine p_r ?_; clear hF)
  (refine p_c H rfl rfl Tryz.func29 (trimRi_any _ p1 (by omega) T1) ?_; clear H; rintro e w1 ⟨rfl, hF⟩ H; refine p_r ?_; clear hF)
  (refine p_c H rfl rfl Tryz.func30 (part_any _ l0 (by omega) 72 80 (by decide) P2) ?_; clear H; rintro e w1 ⟨rfl, hF⟩ H; refine p_r ?_; clear hF)
  (refine p_c H rfl rfl Tryz.func29 (trimRi_any _ p2 (by omega) T2) ?_; clear H; rintro e w1 ⟨rfl, hF⟩ H; refine p_r ?_; clear hF)
  (refine p_c H rfl rfl Tryz.func25 (pattern_any _ _ rfl rfl) ?_; clear H; rintro e w1 ⟨rfl, hF⟩ H; refine p_r ?_; clear hF)
  (refine p_c H rfl rfl Tryz.func31 (symmetry_any _ _ rfl rfl) ?_; clear H; rintro e w1 ⟨rfl, hF⟩ H; refine p_r ?_; clear hF)
  (refine p_e rfl (fun w H => ev_asm rfl rfl rfl rfl rfl) ?_)
  (revert H; refine p_s (he := by intro H K hK; exact c_stA H rfl rfl rfl (h := hK)) ?_; intro w1 hf H; clear hf)
  (refine pl_done ?_)
  go_wp2_with (first | refine x_q H ?_ | refine x_cm (fun h => ?_) (fun h => ?_) | refine x_l H ?_ | (revert H; refine x_g ?_; (first | (have hh := g3; clear hh; intro g4 w1 hg hf H) | (have hh := g2; clear hh; intro g3 w1 hg hf H) | (have hh := g1; clear hh; intro g2 w1 hg hf H) | (have hh := g0; clear hh; intro g1 w1 hg hf H) | intro g0 w1 hg hf H); (first | replace hf := hf.kp | clear hf)) | (revert H; refine x_s ?_; intro w1 hf H; (first | replace hf := hf.kp | clear hf)) | (revert H; refine x_s (he := fun H K hK => c_stA H rfl rfl rfl (h := hK)) ?_; intro w1 hf H; clear hf))
  replace H := H.pull 4
  refine Calls.mono (mirror1_any _ v (H.rowo 4) HFI.out h64 (H.old 4 (fun w' k => HT.out.fr k))) ?_
  rintro e w1 ⟨v1, v2, v3, B, rfl, hF, hM, hB⟩
  have hsz := H.fr.size
  obtain ⟨S1, S2, S3, hBe, H1⟩ := H.matC 11 12 13 hF hM hB
  clear H hF hM
  have H := H1
  clear H1
  obtain ⟨q1, d1, rfl, _⟩ := (H.rowo 11).form
  obtain ⟨q2, d2, rfl, _⟩ := (H.rowo 12).form
  obtain ⟨q3, d3, rfl, _⟩ := (H.rowo 13).form
  have HB := hid (fun x hx => Nat.le_trans hsz (hB x hx))
  have HBE := hid hBe
  clear hB hBe
  go_wp2_with (first | refine x_q H ?_ | refine x_cm (fun h => ?_) (fun h => ?_) | refine x_l H ?_ | (revert H; refine x_g ?_; (first | (have hh := g3; clear hh; intro g4 w1 hg hf H) | (have hh := g2; clear hh; intro g3 w1 hg hf H) | (have hh := g1; clear hh; intro g2 w1 hg hf H) | (have hh := g0; clear hh; intro g1 w1 hg hf H) | intro g0 w1 hg hf H); (first | replace hf := hf.kp | clear hf)) | (revert H; refine x_s ?_; intro w1 hf H; (first | replace hf := hf.kp | clear hf)) | (revert H; refine x_s (he := fun H K hK => c_stA H rfl rfl rfl (h := hK)) ?_; intro w1 hf H; clear hf) | (revert H; refine x_s (he := fun H K hK => c_st5a H rfl rfl rfl (h := hK)) ?_; intro w1 hf H; clear hf))
  have H4 := H.sub (.cons_cons _ (.cons_cons _ (.cons_cons _ (List.nil_sublist _))))
  refine c_postCTT H rfl rfl rfl rfl rfl ?_
  refine ⟨H.fr, _, _, _, B, rfl, ?_, HB.out⟩
  rw [HBE.out]
  exact mat_mk (by simpa [Ent.own] using H4.nodup) (H4.rowo 11) (H4.rowo 12) (H4.rowo 13) rfl rfl rfl rfl rfl rfl
end Go.Proofs.YtbiohhmpclnpgaaGreatDoor
