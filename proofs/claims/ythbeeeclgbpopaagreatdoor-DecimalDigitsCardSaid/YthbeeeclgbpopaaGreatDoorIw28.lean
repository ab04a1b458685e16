/-
  The integers: DivMod and Quo.
-/
import Derived.Test.YthbeeeclgbpopaaGreatDoorIw24
import Derived.Test.YthbeeeclgbpopaaGreatDoorIw27
import Derived.Test.YthbeeeclgbpopaaGreatDoorPc
namespace Go.Proofs.YthbeeeclgbpopaaGreatDoor
open Go.RowKit
set_option linter.unusedSimpArgs false
set_option linter.unusedVariables false
set_option maxHeartbeats 4000000
set_option maxRecDepth 100000
set_option maxHeartbeats 8000000 in
theorem divMod_any {w : World} {p q : Option Addr} {n m c d : Nat} (na nb : Bool) (la lb : List Nat) (hn : la.length = n) (hm : lb.length = m) (hn0 : n ≤ 400000) (hm0 : m ≤ 400000) (h : LR w p c la) (k : LR w q d lb) (hb : val lb ≠ 0) :
    Calls Tryz.prog 72 #[.agg #[.bool na, .slice p n c], .agg #[.bool nb, .slice q m d]] w fun e w' => ∃ v1 v2, e = .returned (.tuple #[v1, v2, .int .i64 0]) ∧ Fr [] w w' ∧ BigV w' v1 (zv na la / zv nb lb) ∧ BigV w' v2 (zv na la % zv nb lb) := by
  subst hn hm
  have Hh := hid h
  have Hk := hid k
  have hla := digs_len_le h.lim
  have hlb := digs_len_le k.lim
  have hy0 : 0 < (digs (val lb)).length := digs_len_pos hb
  have Hb := hid hb
  have H := Hp.start [] w
  have hA := hid (h.trim)
  have hB := hid (k.trim)
  clear h k hb
  go_enter Tryz.func72, Tryz.ntmps72
  go_wp2_with (first | refine x_q H ?_ | refine x_cm (fun h => ?_) (fun h => ?_) | (revert H; (first | (refine x_g ?_; intro g w1 hg hf H) | (refine x_s ?_; intro w1 hf H)); (try (have hfk := hid hf; clear hf))))
  (refine x_c H (trim_any lb rfl (Hk.out.fr H.fr)) ?_; clear H; rintro e w1 ⟨rfl, hF⟩ H)
  go_wp2_with (first | refine x_q H ?_ | refine x_cm (fun h => ?_) (fun h => ?_) | (revert H; (first | (refine x_g ?_; intro g w1 hg hf H) | (refine x_s ?_; intro w1 hf H)); (try (have hfk := hid hf; clear hf))))
  (refine x_c H (trim_any la rfl (Hh.out.fr H.fr)) ?_; clear H; rintro e w1 ⟨rfl, hF⟩ H)
  go_wp2_with (first | refine x_q H ?_ | refine x_cm (fun h => ?_) (fun h => ?_) | (revert H; (first | (refine x_g ?_; intro g w1 hg hf H) | (refine x_s ?_; intro w1 hf H)); (try (have hfk := hid hf; clear hf))))
  (refine x_c H (divide_any (val la) (val lb) rfl rfl (by omega) Hb.out (hA.out.fr H.fr) (hB.out.fr H.fr)) ?_; clear H; rintro e w1 ⟨p1, c1, p2, c2, rfl, hF, hL1, hL2⟩ H; have HL1 := hid hL1; have HL2 := hid hL2; clear hL1 hL2)
  cases na
  · go_wp2_with (first | refine x_q H ?_ | refine x_cm (fun h => ?_) (fun h => ?_) | (revert H; (first | (refine x_g ?_; intro g w1 hg hf H) | (refine x_s ?_; intro w1 hf H)); (try (have hfk := hid hf; clear hf))))
    go_wp2_with (first | refine x_q H ?_ | refine x_cm (fun h => ?_) (fun h => ?_) | (revert H; (first | (refine x_g ?_; intro g w1 hg hf H) | (refine x_s ?_; intro w1 hf H)); (try (have hfk := hid hf; clear hf))))
    (refine x_c H (big_any nb (digs (val la / val lb)) rfl HL1.out) ?_; clear H; rintro e w1 ⟨p6, c6, rfl, hF, hL⟩ H; have HL6 := hid hL; clear hL; have HR1 := hid ((HL2.out).fr hF))
    go_wp2_with (first | refine x_q H ?_ | refine x_cm (fun h => ?_) (fun h => ?_) | (revert H; (first | (refine x_g ?_; intro g w1 hg hf H) | (refine x_s ?_; intro w1 hf H)); (try (have hfk := hid hf; clear hf))))
    (refine x_c H (big_any false (digs (val la % val lb)) rfl HR1.out) ?_; clear H; rintro e w1 ⟨p7, c7, rfl, hF, hL⟩ H; have HL7 := hid hL; clear hL; have HL8 := hid (HL6.out.fr hF))
    go_wp2_with (first | refine x_q H ?_ | refine x_cm (fun h => ?_) (fun h => ?_) | (revert H; refine x_s2 ?_; intro w1 hf H hk; (first | (have hk4 := hid (fun p c l h => hk p c l (hk2.out p c l h)); clear hk) | (have hk2 := hid hk; clear hk)); (try (have hfk := hid hf; clear hf))) | (revert H; (first | (refine x_g ?_; intro g w1 hg hf H) | (refine x_s ?_; intro w1 hf H)); (try (have hfk := hid hf; clear hf))))
    refine c_postCCT H rfl rfl rfl rfl rfl rfl ?_
    have e1 : zv nb (digs (val la / val lb)) = zv false la / zv nb lb := (by rw [zv_sg, zv_sg, zv_sg, val_digs]; have e := (dm_plain (na := false) (nb := nb) (A := val la) Hb.out (.inl rfl)).1.symm; cases nb <;> exact e)
    have e2 : zv false (digs (val la % val lb)) = zv false la % zv nb lb := (by rw [zv_sg, zv_sg, zv_sg, val_digs]; exact (dm_plain (na := false) (nb := nb) (A := val la) Hb.out (.inl rfl)).2.symm)
    rw [e1] at HL8
    rw [e2] at HL7
    refine ⟨_, _, rfl, H.fr, ⟨p6, c6, by rw [e1], hk4.out _ _ _ HL8.out⟩, ⟨p7, c7, by rw [e2], hk4.out _ _ _ HL7.out⟩⟩
  · by_cases hr : val la % val lb = 0
    · have hr0 : (digs (val la % val lb)).length ≤ 0 := by rw [hr, digs_zero]; exact Nat.le_refl _
      have Hr := hid hr
      clear hr
      go_wp2_with (first | refine x_q H ?_ | refine x_cm (fun h => ?_) (fun h => ?_) | (revert H; (first | (refine x_g ?_; intro g w1 hg hf H) | (refine x_s ?_; intro w1 hf H)); (try (have hfk := hid hf; clear hf))))
      go_wp2_with (first | refine x_q H ?_ | refine x_cm (fun h => ?_) (fun h => ?_) | (revert H; (first | (refine x_g ?_; intro g w1 hg hf H) | (refine x_s ?_; intro w1 hf H)); (try (have hfk := hid hf; clear hf))))
      (refine x_c H (big_any (!nb) (digs (val la / val lb)) rfl HL1.out) ?_; clear H; rintro e w1 ⟨p6, c6, rfl, hF, hL⟩ H; have HL6 := hid hL; clear hL; have HR1 := hid ((HL2.out).fr hF))
      go_wp2_with (first | refine x_q H ?_ | refine x_cm (fun h => ?_) (fun h => ?_) | (revert H; (first | (refine x_g ?_; intro g w1 hg hf H) | (refine x_s ?_; intro w1 hf H)); (try (have hfk := hid hf; clear hf))))
      (refine x_c H (big_any false (digs (val la % val lb)) rfl HR1.out) ?_; clear H; rintro e w1 ⟨p7, c7, rfl, hF, hL⟩ H; have HL7 := hid hL; clear hL; have HL8 := hid (HL6.out.fr hF))
      go_wp2_with (first | refine x_q H ?_ | refine x_cm (fun h => ?_) (fun h => ?_) | (revert H; refine x_s2 ?_; intro w1 hf H hk; (first | (have hk4 := hid (fun p c l h => hk p c l (hk2.out p c l h)); clear hk) | (have hk2 := hid hk; clear hk)); (try (have hfk := hid hf; clear hf))) | (revert H; (first | (refine x_g ?_; intro g w1 hg hf H) | (refine x_s ?_; intro w1 hf H)); (try (have hfk := hid hf; clear hf))))
      refine c_postCCT H rfl rfl rfl rfl rfl rfl ?_
      have e1 : zv (!nb) (digs (val la / val lb)) = zv true la / zv nb lb := (by rw [zv_sg, zv_sg, zv_sg, val_digs]; have e := (dm_plain (na := true) (nb := nb) (A := val la) Hb.out (.inr Hr.out)).1.symm; cases nb <;> exact e)
      have e2 : zv false (digs (val la % val lb)) = zv true la % zv nb lb := (by rw [zv_sg, zv_sg, zv_sg, val_digs]; exact (dm_plain (na := true) (nb := nb) (A := val la) Hb.out (.inr Hr.out)).2.symm)
      rw [e1] at HL8
      rw [e2] at HL7
      refine ⟨_, _, rfl, H.fr, ⟨p6, c6, by rw [e1], hk4.out _ _ _ HL8.out⟩, ⟨p7, c7, by rw [e2], hk4.out _ _ _ HL7.out⟩⟩
    · have hr0 : 0 < (digs (val la % val lb)).length := digs_len_pos hr
      have Hr := hid hr
      have hrl := digs_mono (Nat.le_of_lt (Nat.mod_lt (val la) (Nat.pos_of_ne_zero Hb.out)))
      have hql := digs_mono (Nat.div_le_self (val la) (val lb))
      have hrB := hid (Nat.le_of_lt (Nat.mod_lt (val la) (Nat.pos_of_ne_zero Hb.out)))
      clear hr
      go_wp2_with (first | refine x_q H ?_ | refine x_cm (fun h => ?_) (fun h => ?_) | (revert H; (first | (refine x_g ?_; intro g w1 hg hf H) | (refine x_s ?_; intro w1 hf H)); (try (have hfk := hid hf; clear hf))))
      have HO := hid (LR.of_blk (l := [1]) (c := 1) (pad := []) (by have := H.at g; simpa [limbs] using this) (Lim.cons (by decide) Lim.nil) (by simp) (by unfold maxLen; omega))
      (refine x_c H (plus_any (digs (val la / val lb)) [1] rfl rfl (by omega) (by simp) (HL1.out.fr hfk.out) HO.out) ?_; clear H; rintro e w1 ⟨p3, c3, rfl, hF, hL⟩ H; have HL3 := hid hL; have HR1 := hid ((HL2.out.fr hfk.out).fr hF); clear hL)
      rw [val_digs, val_one] at HL3 ⊢
      go_wp2_with (first | refine x_q H ?_ | refine x_cm (fun h => ?_) (fun h => ?_) | (revert H; (first | (refine x_g ?_; intro g w1 hg hf H) | (refine x_s ?_; intro w1 hf H)); (try (have hfk := hid hf; clear hf))))
      (refine x_c H (minus_any (digs (val lb)) (digs (val la % val lb)) rfl rfl hrl (by omega) (by rw [val_digs, val_digs]; exact hrB.out) (hB.out.fr H.fr) HR1.out) ?_; clear H; rintro e w1 ⟨p4, c4, rfl, hF, hL⟩ H; have HL4 := hid hL; have HL5 := hid (HL3.out.fr hF); clear hL)
      rw [val_digs, val_digs] at HL4 ⊢
      go_wp2_with (first | refine x_q H ?_ | refine x_cm (fun h => ?_) (fun h => ?_) | (revert H; (first | (refine x_g ?_; intro g w1 hg hf H) | (refine x_s ?_; intro w1 hf H)); (try (have hfk := hid hf; clear hf))))
      go_wp2_with (first | refine x_q H ?_ | refine x_cm (fun h => ?_) (fun h => ?_) | (revert H; (first | (refine x_g ?_; intro g w1 hg hf H) | (refine x_s ?_; intro w1 hf H)); (try (have hfk := hid hf; clear hf))))
      (refine x_c H (big_any (!nb) (digs (val la / val lb + 1)) rfl HL5.out) ?_; clear H; rintro e w1 ⟨p6, c6, rfl, hF, hL⟩ H; have HL6 := hid hL; clear hL; have HR1 := hid ((HL4.out).fr hF))
      go_wp2_with (first | refine x_q H ?_ | refine x_cm (fun h => ?_) (fun h => ?_) | (revert H; (first | (refine x_g ?_; intro g w1 hg hf H) | (refine x_s ?_; intro w1 hf H)); (try (have hfk := hid hf; clear hf))))
      (refine x_c H (big_any false (digs (val lb - val la % val lb)) rfl HR1.out) ?_; clear H; rintro e w1 ⟨p7, c7, rfl, hF, hL⟩ H; have HL7 := hid hL; clear hL; have HL8 := hid (HL6.out.fr hF))
      go_wp2_with (first | refine x_q H ?_ | refine x_cm (fun h => ?_) (fun h => ?_) | (revert H; refine x_s2 ?_; intro w1 hf H hk; (first | (have hk4 := hid (fun p c l h => hk p c l (hk2.out p c l h)); clear hk) | (have hk2 := hid hk; clear hk)); (try (have hfk := hid hf; clear hf))) | (revert H; (first | (refine x_g ?_; intro g w1 hg hf H) | (refine x_s ?_; intro w1 hf H)); (try (have hfk := hid hf; clear hf))))
      refine c_postCCT H rfl rfl rfl rfl rfl rfl ?_
      have e1 : zv (!nb) (digs (val la / val lb + 1)) = zv true la / zv nb lb := (by rw [zv_sg, zv_sg, zv_sg, val_digs]; have e := (dm_down (nb := nb) (A := val la) Hb.out Hr.out).1.symm; cases nb <;> exact e)
      have e2 : zv false (digs (val lb - val la % val lb)) = zv true la % zv nb lb := (by rw [zv_sg, zv_sg, zv_sg, val_digs]; exact (dm_down (nb := nb) (A := val la) Hb.out Hr.out).2.symm)
      rw [e1] at HL8
      rw [e2] at HL7
      refine ⟨_, _, rfl, H.fr, ⟨p6, c6, by rw [e1], hk4.out _ _ _ HL8.out⟩, ⟨p7, c7, by rw [e2], hk4.out _ _ _ HL7.out⟩⟩
end Go.Proofs.YthbeeeclgbpopaaGreatDoor
