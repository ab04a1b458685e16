import Derived.Test.YthbeeeclgbpopaaGreatDoorYIw7
import Derived.Deep.DeepCutAuto
import Derived.Deep.CutBlock
namespace Go.Proofs.YthbeeeclgbpopaaGreatDoor
open Go.RowKit
set_option linter.unusedSimpArgs false
set_option linter.unusedVariables false
set_option maxHeartbeats 4000000
set_option maxRecDepth 100000

theorem sub_any {w : World} {p q : Option Addr} {n m c d : Nat} (na nb : Bool) (la lb : List Nat) (hn : la.length = n) (hm : lb.length = m) (hn0 : n ≤ 1000000) (hm0 : m ≤ 1000000) (h : LR w p c la) (k : LR w q d lb) :
  Calls Tryz.prog 222 #[.agg #[.bool na, .slice p n c], .agg #[.bool nb, .slice q m d]] w fun e w' => Big e w w' (zv na la - zv nb lb) := by
 have Hh := hid h
 have Hk := hid k
 have H := Hp.start [] w
 have HZ : Hid (zv na la + zv (!nb) lb = zv na la - zv nb lb) := hid (by rw [zv_not]; omega)
 have Hn := hid hn
 have Hm := hid hm
 clear h k hn hm
 go_enter Tryz.func222, Tryz.ntmps222
 go_wp2_with (first | refine x_q H ?_ | (revert H; refine x_g ?_; intro g w1 hg hf H; (try clear hf)) | (revert H; refine x_s ?_; intro w1 hf H; (try clear hf)))
 refine Calls.mono (add_any na (!nb) la lb Hn.out Hm.out hn0 hm0 (Hh.out.fr H.fr) (Hk.out.fr H.fr)) ?_
 rintro e w1 ⟨p3, c3, rfl, hF, hL⟩
 rw [HZ.out] at hL ⊢
 have HB2 := hid hL
 have H1 := H.step hF (by simp)
 clear H hF hL
 have H := H1
 clear H1
 go_wp2_with (revert H; refine x_s2 ?_; intro w1 hf H hk; have hk2 := hid hk; clear hk; (try clear hf))
 refine c_post H rfl rfl rfl ?_
 exact ⟨p3, c3, rfl, H.fr, hk2.out _ _ _ HB2.out⟩
theorem zv_canon (z : Int) : zv (decide (z < 0)) (digs z.natAbs) = z := by
 rw [zv_digs]
 by_cases h : z < 0
 ·simp [h]; omega
 ·simp [h]; omega
theorem Hp.anew {w wc : World} {g1 g2 g3 : Nat} {x1 y1 x2 y2 x3 y3 : Value} {t1 t2 t3 : TypeId} (H : Hp [] w wc [.blk g3 [x3, y3] t3, .blk g2 [x2, y2] t2, .blk g1 [x1, y1] t1]) (h3 : ∀ x, x3 ≠ .int .u32 x) (h4 : ∀ x, y3 ≠ .int .u32 x) :
  (∀ wz, Fr [g3] wc wz → Fr [] w wz) ∧ (∀ wz p c l, Fr [g3] wc wz → LR wc p c l → LR wz p c l) ∧ Hp [g3] wc wc [.blk g3 [x3, y3] t3, .rng g2 0 [x2, y2], .rng g1 0 [x1, y1]] := by
 have hn := H.nodup
 simp only [List.flatMap_cons, List.flatMap_nil, Ent.own, List.cons_append, List.nil_append, List.append_nil, List.nodup_cons, List.mem_cons, List.not_mem_nil, or_false, not_or] at hn
 obtain ⟨⟨n1, n2⟩, n3, _⟩ := hn
 have a1 := (H.ok _ (.head _)).1
 have a2 := (H.ok _ (.tail _ (.head _))).1
 have a3 := (H.ok _ (.tail _ (.tail _ (.head _)))).1
 refine ⟨fun wz k => H.fr.andThen k (fun x hx => ?_), fun wz p c l k h => h.keep a1 (by intro z hz x; simp only [List.mem_cons, List.not_mem_nil, or_false] at hz; rcases hz with rfl | rfl; exact h3 x; exact h4 x) k, ?_⟩
 ·simp only [List.mem_singleton] at hx; subst hx; exact (H.ok _ (.head _)).2
 ·have K := (Hp.start [g3] wc).pushRng (b := g1) (off := 0) (cs := [x1, y1]) (lt_of_get a3) (by simp; exact Ne.symm n2) (fun j u hj => by rw [cell_of_row wc g1 _ _ _ _ a3, Nat.zero_add]; simpa using hj)
  have K := K.pushRng (b := g2) (off := 0) (cs := [x2, y2]) (lt_of_get a2) (by simp; exact Ne.symm n1) (fun j u hj => by rw [cell_of_row wc g2 _ _ _ _ a2, Nat.zero_add]; simpa using hj)
  exact K.push a1 (.inl (by simp)) (by simp [Ent.own])
theorem zv_of (n : Bool) {o : List Nat} {A : Nat} (h : val o = A) : zv n o = zv n (digs A) := by rw [zv_digs]; unfold zv; rw [h]
theorem radd_any {w : World} {p q : Option Addr} {n m c d : Nat} (na nb : Bool) (la lb : List Nat) (hn : la.length = n) (hm : lb.length = m) (hn0 : n ≤ 400000) (hm0 : m ≤ 400000) (h : LR w p c la) (k : LR w q d lb) :
  Calls Tryz.prog 66 #[.agg #[.bool na, .slice p n c], .agg #[.bool nb, .slice q m d]] w fun e w' => Big e w w' (zv na la + zv nb lb) := by
 subst hn hm
 have Hh := hid h
 have Hk := hid k
 have hla := digs_len_le h.lim
 have hlb := digs_len_le k.lim
 have H := Hp.start [] w
 clear h k
 go_enter Tryz.func66, Tryz.ntmps66
 go_upto_region 1 with (first | refine x_q H ?_ | refine x_cm (fun h => ?_) (fun h => ?_) | (revert H; (first | (refine x_g ?_; intro g w1 hg hf H) | (refine x_s ?_; intro w1 hf H)); (try clear hf)))
 go_cut [2, 3, 4, 5, 6] (fun s2 s3 s4 s5 s6 wx => ∃ (g1 g2 g3 : Nat) (pa pb : Option Addr) (ca cb : Nat), s2 = .pointer (some ⟨g1, 0, none⟩) ∧ s3 = .pointer (some ⟨g2, 0, none⟩) ∧ s4 = .pointer (some ⟨g3, 0, none⟩) ∧ s5 = .slice pa (digs (val la)).length ca ∧ s6 = .slice pb (digs (val lb)).length cb ∧ Hid (LR wx pa ca (digs (val la))) ∧ Hid (LR wx pb cb (digs (val lb))) ∧ Hp [] w wx [.blk g3 [.bool false, .slice none 0 0] 50, .blk g2 [.bool nb, .slice q lb.length d] 50, .blk g1 [.bool na, .slice p la.length c] 50])
 case first =>
  (revert H; refine w_p 8 (.st 0 (.st 1 (.st 3 (.st 4 (.ld 2 (.ld 5 (.st 6 (.st 7 .done)))))))) ?_; intro w1 H)
  iterate 4 refine p_q ?_
  ((refine p_c H rfl rfl Tryz.func135 (rtrim_any la rfl (by omega) (Hh.out.fr H.fr)) ?_; clear H; rintro e w1 ⟨p7, c7, rfl, hF, hL⟩ H; refine p_r ?_); have HA := hid hL; clear hL)
  ((refine p_c H rfl rfl Tryz.func135 (rtrim_any lb rfl (by omega) (Hk.out.fr H.fr)) ?_; clear H; rintro e w1 ⟨p8, c8, rfl, hF, hL⟩ H; refine p_r ?_); have HB := hid hL; clear hL)
  iterate 2 refine p_q ?_
  (refine pl_done ?_)
  all_goals
   go_wp2_with fail
   go_meet
   case rel => first | exact ⟨_, _, _, p7, p8, c7, c8, rfl, rfl, rfl, rfl, rfl, hid (HA.out.fr hF), HB, H⟩ | exact ⟨_, _, _, p7, p8, c7, c8, rfl, rfl, rfl, rfl, rfl, HA, hid (HB.out.fr hF), H⟩
 case rest =>
  clear H
  obtain ⟨g1, g2, g3, pa, pb, ca, cb, rfl, rfl, rfl, rfl, rfl, hA, hB, H⟩ := hcut
  obtain ⟨hf0, hk3, H1⟩ := H.anew (by intro x h; cases h) (by intro x h; cases h)
  have Hf0 := hid hf0
  have Hk3 := hid hk3
  clear H hf0 hk3
  have H := H1
  clear H1
  cases na <;> cases nb
  ·go_wp2_with (refine x_q H ?_)
   (revert H; refine w_p 6 (.st 0 (.st 1 (.st 2 (.st 3 (.ld 4 (.ld 5 (.ld 6 .done))))))) ?_; intro w1 H)
   iterate 4 refine p_q ?_
   ((refine p_c H rfl rfl Tryz.func137 (addMag_any (digs (val la)) (digs (val lb)) rfl rfl (by omega) (by omega) (Hk3.out _ _ _ _ H.fr hA.out) (Hk3.out _ _ _ _ H.fr hB.out)) ?_; clear H; rintro e w1 ⟨o, p5, c5, rfl, hF, hL, hvo, hol⟩ H; refine p_r ?_); have HL5 := hid hL; have Hvo := hid hvo; have Hol := hid hol; clear hL hvo hol)
   ((refine p_c H rfl rfl Tryz.func131 (make1_any false o rfl (by have := Hol.out; omega) HL5.out) ?_; clear H; rintro e w1 ⟨p6, c6, rfl, hF, hL⟩ H; refine p_r ?_); have HL6 := hid hL; clear hL)
   (revert H; refine p_s2 ?_; intro w1 hf H hk; have hk2 := hid hk; clear hk; (try clear hf))
   (refine pl_done ?_)
   all_goals
    go_wp2_with fail
    refine c_post H rfl rfl rfl ?_
    have hz : zv false o = zv false la + zv false lb := (by rw [zv_of _ Hvo.out, val_digs, val_digs]; exact zv_plus _ la lb)
    rw [hz] at HL6
    refine ⟨p6, c6, ?_, Hf0.out _ H.fr, hk2.out _ _ _ HL6.out⟩
    rw [hz]
  ·rcases Nat.lt_or_ge (val la) (val lb) with hlt | hge
   ·have hc := cmpZ_neg hlt
    have hlen := digs_mono (Nat.le_of_lt hlt)
    have hlt := hid hlt
    go_wp2_with (refine x_q H ?_)
    refine Calls.mono (cmpMag_any (val la) (val lb) rfl rfl (Hk3.out _ _ _ _ H.fr hA.out) (Hk3.out _ _ _ _ H.fr hB.out)) ?_
    rintro e w1 ⟨rfl, hF⟩
    have H1 := H.step hF (by simp)
    clear H hF
    have H := H1
    clear H1
    generalize cmpZ (val la) (val lb) = z at hc ⊢
    go_wp2_with (refine x_q H ?_)
    (revert H; refine w_p 6 (.st 0 (.st 1 (.st 2 (.st 3 (.ld 4 (.ld 5 (.ld 6 .done))))))) ?_; intro w1 H)
    iterate 4 refine p_q ?_
    ((refine p_c H rfl rfl Tryz.func139 (subMag_any (digs (val lb)) (digs (val la)) rfl rfl hlen (by omega) (by rw [val_digs, val_digs]; exact Nat.le_of_lt hlt.out) (Hk3.out _ _ _ _ H.fr hB.out) (Hk3.out _ _ _ _ H.fr hA.out)) ?_; clear H; rintro e w1 ⟨o, p5, c5, rfl, hF, hL, hvo, hol⟩ H; refine p_r ?_); have HL5 := hid hL; have Hvo := hid hvo; have Hol := hid hol; clear hL hvo hol)
    ((refine p_c H rfl rfl Tryz.func131 (make1_any true o rfl (by have := Hol.out; omega) HL5.out) ?_; clear H; rintro e w1 ⟨p6, c6, rfl, hF, hL⟩ H; refine p_r ?_); have HL6 := hid hL; clear hL)
    (revert H; refine p_s2 ?_; intro w1 hf H hk; have hk2 := hid hk; clear hk; (try clear hf))
    (refine pl_done ?_)
    all_goals
     go_wp2_with fail
     refine c_post H rfl rfl rfl ?_
     have hz : zv true o = zv false la + zv true lb := (by rw [zv_of _ Hvo.out, val_digs, val_digs]; exact zv_minus2 (by decide) (Nat.le_of_lt hlt.out))
     rw [hz] at HL6
     refine ⟨p6, c6, ?_, Hf0.out _ H.fr, hk2.out _ _ _ HL6.out⟩
     rw [hz]
   ·have hc := cmpZ_nonneg hge
    have hlen := digs_mono hge
    have hge := hid hge
    go_wp2_with (refine x_q H ?_)
    refine Calls.mono (cmpMag_any (val la) (val lb) rfl rfl (Hk3.out _ _ _ _ H.fr hA.out) (Hk3.out _ _ _ _ H.fr hB.out)) ?_
    rintro e w1 ⟨rfl, hF⟩
    have H1 := H.step hF (by simp)
    clear H hF
    have H := H1
    clear H1
    generalize cmpZ (val la) (val lb) = z at hc ⊢
    go_wp2_with (refine x_q H ?_)
    (revert H; refine w_p 6 (.st 0 (.st 1 (.st 2 (.st 3 (.ld 4 (.ld 5 (.ld 6 .done))))))) ?_; intro w1 H)
    iterate 4 refine p_q ?_
    ((refine p_c H rfl rfl Tryz.func139 (subMag_any (digs (val la)) (digs (val lb)) rfl rfl hlen (by omega) (by rw [val_digs, val_digs]; exact hge.out) (Hk3.out _ _ _ _ H.fr hA.out) (Hk3.out _ _ _ _ H.fr hB.out)) ?_; clear H; rintro e w1 ⟨o, p5, c5, rfl, hF, hL, hvo, hol⟩ H; refine p_r ?_); have HL5 := hid hL; have Hvo := hid hvo; have Hol := hid hol; clear hL hvo hol)
    ((refine p_c H rfl rfl Tryz.func131 (make1_any false o rfl (by have := Hol.out; omega) HL5.out) ?_; clear H; rintro e w1 ⟨p6, c6, rfl, hF, hL⟩ H; refine p_r ?_); have HL6 := hid hL; clear hL)
    (revert H; refine p_s2 ?_; intro w1 hf H hk; have hk2 := hid hk; clear hk; (try clear hf))
    (refine pl_done ?_)
    all_goals
     go_wp2_with fail
     refine c_post H rfl rfl rfl ?_
     have hz : zv false o = zv false la + zv true lb := (by rw [zv_of _ Hvo.out, val_digs, val_digs]; exact zv_minus1 (by decide) hge.out)
     rw [hz] at HL6
     refine ⟨p6, c6, ?_, Hf0.out _ H.fr, hk2.out _ _ _ HL6.out⟩
     rw [hz]
  ·rcases Nat.lt_or_ge (val la) (val lb) with hlt | hge
   ·have hc := cmpZ_neg hlt
    have hlen := digs_mono (Nat.le_of_lt hlt)
    have hlt := hid hlt
    go_wp2_with (refine x_q H ?_)
    refine Calls.mono (cmpMag_any (val la) (val lb) rfl rfl (Hk3.out _ _ _ _ H.fr hA.out) (Hk3.out _ _ _ _ H.fr hB.out)) ?_
    rintro e w1 ⟨rfl, hF⟩
    have H1 := H.step hF (by simp)
    clear H hF
    have H := H1
    clear H1
    generalize cmpZ (val la) (val lb) = z at hc ⊢
    go_wp2_with (refine x_q H ?_)
    (revert H; refine w_p 6 (.st 0 (.st 1 (.st 2 (.st 3 (.ld 4 (.ld 5 (.ld 6 .done))))))) ?_; intro w1 H)
    iterate 4 refine p_q ?_
    ((refine p_c H rfl rfl Tryz.func139 (subMag_any (digs (val lb)) (digs (val la)) rfl rfl hlen (by omega) (by rw [val_digs, val_digs]; exact Nat.le_of_lt hlt.out) (Hk3.out _ _ _ _ H.fr hB.out) (Hk3.out _ _ _ _ H.fr hA.out)) ?_; clear H; rintro e w1 ⟨o, p5, c5, rfl, hF, hL, hvo, hol⟩ H; refine p_r ?_); have HL5 := hid hL; have Hvo := hid hvo; have Hol := hid hol; clear hL hvo hol)
    ((refine p_c H rfl rfl Tryz.func131 (make1_any false o rfl (by have := Hol.out; omega) HL5.out) ?_; clear H; rintro e w1 ⟨p6, c6, rfl, hF, hL⟩ H; refine p_r ?_); have HL6 := hid hL; clear hL)
    (revert H; refine p_s2 ?_; intro w1 hf H hk; have hk2 := hid hk; clear hk; (try clear hf))
    (refine pl_done ?_)
    all_goals
     go_wp2_with fail
     refine c_post H rfl rfl rfl ?_
     have hz : zv false o = zv true la + zv false lb := (by rw [zv_of _ Hvo.out, val_digs, val_digs]; exact zv_minus2 (by decide) (Nat.le_of_lt hlt.out))
     rw [hz] at HL6
     refine ⟨p6, c6, ?_, Hf0.out _ H.fr, hk2.out _ _ _ HL6.out⟩
     rw [hz]
   ·have hc := cmpZ_nonneg hge
    have hlen := digs_mono hge
    have hge := hid hge
    go_wp2_with (refine x_q H ?_)
    refine Calls.mono (cmpMag_any (val la) (val lb) rfl rfl (Hk3.out _ _ _ _ H.fr hA.out) (Hk3.out _ _ _ _ H.fr hB.out)) ?_
    rintro e w1 ⟨rfl, hF⟩
    have H1 := H.step hF (by simp)
    clear H hF
    have H := H1
    clear H1
    generalize cmpZ (val la) (val lb) = z at hc ⊢
    go_wp2_with (refine x_q H ?_)
    (revert H; refine w_p 6 (.st 0 (.st 1 (.st 2 (.st 3 (.ld 4 (.ld 5 (.ld 6 .done))))))) ?_; intro w1 H)
    iterate 4 refine p_q ?_
    ((refine p_c H rfl rfl Tryz.func139 (subMag_any (digs (val la)) (digs (val lb)) rfl rfl hlen (by omega) (by rw [val_digs, val_digs]; exact hge.out) (Hk3.out _ _ _ _ H.fr hA.out) (Hk3.out _ _ _ _ H.fr hB.out)) ?_; clear H; rintro e w1 ⟨o, p5, c5, rfl, hF, hL, hvo, hol⟩ H; refine p_r ?_); have HL5 := hid hL; have Hvo := hid hvo; have Hol := hid hol; clear hL hvo hol)
    ((refine p_c H rfl rfl Tryz.func131 (make1_any true o rfl (by have := Hol.out; omega) HL5.out) ?_; clear H; rintro e w1 ⟨p6, c6, rfl, hF, hL⟩ H; refine p_r ?_); have HL6 := hid hL; clear hL)
    (revert H; refine p_s2 ?_; intro w1 hf H hk; have hk2 := hid hk; clear hk; (try clear hf))
    (refine pl_done ?_)
    all_goals
     go_wp2_with fail
     refine c_post H rfl rfl rfl ?_
     have hz : zv true o = zv true la + zv false lb := (by rw [zv_of _ Hvo.out, val_digs, val_digs]; exact zv_minus1 (by decide) hge.out)
     rw [hz] at HL6
     refine ⟨p6, c6, ?_, Hf0.out _ H.fr, hk2.out _ _ _ HL6.out⟩
     rw [hz]
  ·go_wp2_with (refine x_q H ?_)
   (revert H; refine w_p 6 (.st 0 (.st 1 (.st 2 (.st 3 (.ld 4 (.ld 5 (.ld 6 .done))))))) ?_; intro w1 H)
   iterate 4 refine p_q ?_
   ((refine p_c H rfl rfl Tryz.func137 (addMag_any (digs (val la)) (digs (val lb)) rfl rfl (by omega) (by omega) (Hk3.out _ _ _ _ H.fr hA.out) (Hk3.out _ _ _ _ H.fr hB.out)) ?_; clear H; rintro e w1 ⟨o, p5, c5, rfl, hF, hL, hvo, hol⟩ H; refine p_r ?_); have HL5 := hid hL; have Hvo := hid hvo; have Hol := hid hol; clear hL hvo hol)
   ((refine p_c H rfl rfl Tryz.func131 (make1_any true o rfl (by have := Hol.out; omega) HL5.out) ?_; clear H; rintro e w1 ⟨p6, c6, rfl, hF, hL⟩ H; refine p_r ?_); have HL6 := hid hL; clear hL)
   (revert H; refine p_s2 ?_; intro w1 hf H hk; have hk2 := hid hk; clear hk; (try clear hf))
   (refine pl_done ?_)
   all_goals
    go_wp2_with fail
    refine c_post H rfl rfl rfl ?_
    have hz : zv true o = zv true la + zv true lb := (by rw [zv_of _ Hvo.out, val_digs, val_digs]; exact zv_plus _ la lb)
    rw [hz] at HL6
    refine ⟨p6, c6, ?_, Hf0.out _ H.fr, hk2.out _ _ _ HL6.out⟩
    rw [hz]
theorem rsub_any {w : World} {p q : Option Addr} {n m c d : Nat} (na nb : Bool) (la lb : List Nat) (hn : la.length = n) (hm : lb.length = m) (hn0 : n ≤ 400000) (hm0 : m ≤ 400000) (h : LR w p c la) (k : LR w q d lb) :
  Calls Tryz.prog 128 #[.agg #[.bool na, .slice p n c], .agg #[.bool nb, .slice q m d]] w fun e w' => Big e w w' (zv na la - zv nb lb) := by
 have Hh := hid h
 have Hk := hid k
 have H := Hp.start [] w
 have hlb := digs_len_le k.lim
 have Hn := hid hn
 have Hm := hid hm
 have HZ : Hid (∀ z : Int, z = zv (!nb) lb → zv na la + zv (decide (z < 0)) (digs z.natAbs) = zv na la - zv nb lb) := hid (fun z hz => by
  rw [zv_canon, hz, zv_not]; omega)
 have hdl : (digs (zv (!nb) lb).natAbs).length ≤ 400000 := by rw [zv_abs]; omega
 clear h k hn hm hlb
 go_enter Tryz.func128, Tryz.ntmps128
 go_wp2_with (revert H; refine x_g ?_; intro g w1 hg hf H; (try clear hf))
 (revert H; refine w_p 4 (.st 0 (.st 1 (.ld 2 (.ld 3 (.ld 4 .done))))) ?_; intro w1 H)
 iterate 2 refine p_q ?_
 ((refine p_c H rfl rfl Tryz.func173 (rneg_any nb lb Hm.out (by omega) (Hk.out.fr H.fr)) ?_; clear H; rintro e w1 ⟨p5, c5, rfl, hF, hL⟩ H; refine p_r ?_); have HL5 := hid hL; clear hL)
 ((refine p_c H rfl rfl Tryz.func66 (radd_any na (decide (zv (!nb) lb < 0)) la (digs (zv (!nb) lb).natAbs) Hn.out rfl hn0 hdl (Hh.out.fr H.fr) HL5.out) ?_; clear H; rintro e w1 ⟨p6, c6, rfl, hF, hL⟩ H; refine p_r ?_); have HL6 := hid hL; clear hL)
 (revert H; refine p_s2 ?_; intro w1 hf H hk; have hk2 := hid hk; clear hk; (try clear hf))
 (refine pl_done ?_)
 all_goals
  go_wp2_with fail
  refine c_post H rfl rfl rfl ?_
  have hz := HZ.out _ rfl
  rw [hz] at HL6
  refine ⟨p6, c6, ?_, H.fr, hk2.out _ _ _ HL6.out⟩
  rw [hz]
end Go.Proofs.YthbeeeclgbpopaaGreatDoor
namespace Go.Proofs.YthbeeeclgbpopaaGreatDoor
open Go.RowKit
set_option linter.unusedSimpArgs false
set_option linter.unusedVariables false
set_option maxHeartbeats 4000000
set_option maxRecDepth 100000
theorem times_next (i j x y V T : Nat) : V + 4294967296 ^ i * (x * T) + 4294967296 ^ (i + j) * (x * y) = V + 4294967296 ^ i * (x * (T + 4294967296 ^ j * y)) := by
 rw [Nat.pow_add, Nat.mul_add x, Nat.mul_add, Nat.mul_assoc, Nat.mul_left_comm x, Nat.add_assoc]
theorem times_row (i x A B : Nat) : A * B + 4294967296 ^ i * (x * B) = (A + 4294967296 ^ i * x) * B := by
 rw [Nat.add_mul, Nat.mul_assoc]
theorem wrapN {z : Int} (n : Nat) (h : z = (n : Int)) (hn : n < 18446744073709551616) : IntKind.u64.wrap z = (n : Int) := by
 rw [h, IntKind.wrap_u64]; omega
theorem mul_word {x y o cy : Nat} (hx : x < 4294967296) (hy : y < 4294967296) (ho : o < 4294967296) (hc : cy < 4294967296) :
  IntKind.u64.wrap (IntKind.u64.wrap (IntKind.u64.wrap ((x : Int) * (y : Int)) + (o : Int)) + (cy : Int)) = ((x * y + o + cy : Nat) : Int) := by
 have hb := times_bound hx hy ho hc
 have e1 : IntKind.u64.wrap ((x : Int) * (y : Int)) = ((x * y : Nat) : Int) := wrapN _ (by rw [Int.natCast_mul]) (by omega)
 rw [e1]
 have e2 : IntKind.u64.wrap (((x * y : Nat) : Int) + (o : Int)) = ((x * y + o : Nat) : Int) := wrapN _ (by omega) (by omega)
 rw [e2]
 exact wrapN _ (by omega) hb
theorem low_nat {t : Nat} (h : t < 18446744073709551616) : bits .and .u64 (t : Int) 4294967295 % 4294967296 = ((t % 4294967296 : Nat) : Int) := by
 rw [and_low32 _ (by omega) (by omega)]; omega
set_option maxHeartbeats 8000000 in
theorem times_any {w : World} {p q : Option Addr} {n m c d : Nat} (a b : List Nat) (hn : a.length = n) (hm : b.length = m) (hn0 : n ≤ 400000) (hm0 : m ≤ 400000) (h : LR w p c a) (k : LR w q d b) :
  Calls Tryz.prog 82 #[.slice p n c, .slice q m d] w fun e w' => ∃ p' c', e = .returned (.slice p' (digs (val a * val b)).length c') ∧ Fr [] w w' ∧ LR w' p' c' (digs (val a * val b)) := by
 subst hn hm
 have Hh := hid h
 have Hk := hid k
 clear h k
 have H := Hp.start [] w
 by_cases ha : a.length ≤ 0
 ·have e : val a = 0 := by rw [List.eq_nil_of_length_eq_zero (show a.length = 0 by omega)]; rfl
  have He := hid e
  clear e
  go_enter Tryz.func82, Tryz.ntmps82
  go_wp2_with (refine x_q H ?_)
  go_ret
  rw [He.out, Nat.zero_mul, digs_zero]
  exact ⟨none, 0, rfl, H.fr, LR.zero _⟩
 by_cases hb : b.length ≤ 0
 ·have e : val b = 0 := by rw [List.eq_nil_of_length_eq_zero (show b.length = 0 by omega)]; rfl
  have He := hid e
  clear e
  go_enter Tryz.func82, Tryz.ntmps82
  go_wp2_with (refine x_q H ?_)
  go_ret
  rw [He.out, Nat.mul_zero, digs_zero]
  exact ⟨none, 0, rfl, H.fr, LR.zero _⟩
 have ha1 : 0 < a.length := by omega
 have hb1 : 0 < b.length := by omega
 clear ha hb
 go_enter Tryz.func82, Tryz.ntmps82
 go_wp2_with (first | refine x_q H ?_ | (revert H; refine x_g ?_; intro g w1 hg hf H; (try clear hf)))
 rw [show ((a.length : Int) + (b.length : Int)).toNat = a.length + b.length by omega, zeros_limbs] at H
 go_loopw [28] (fun s28 wr => ∃ (i : Nat) (o : List Nat), i ≤ a.length ∧ s28 = .int .i64 i ∧ Hid (o.length = a.length + b.length) ∧ Hid (Lim o) ∧ Hid (val o = val (a.take i) * val b) ∧ Hid (∀ k, i + b.length ≤ k → k < a.length + b.length → o[k]? = some 0) ∧ Hp [] w wr [.blk g (limbs o) 99]) (fun v _ => a.length - (intOf v).toNat)
 case atStart => exact ⟨0, List.replicate (a.length + b.length) 0, Nat.zero_le _, rfl, hid List.length_replicate, hid (Lim.zeros _), hid (by rw [val_zeros]; simp [val]), hid (fun k _ hk => by rw [List.getElem?_replicate, if_pos hk]), H⟩
 case round =>
  clear H
  obtain ⟨i, o, hi, rfl, Hol, Hlo, Hv, Hz, H⟩ := hrel
  by_cases hin : i < a.length
  ·obtain ⟨x, hx⟩ : ∃ x, a[i]? = some x := ⟨_, List.getElem?_eq_getElem hin⟩
   have hxv := limbs_at hx
   have hxB := Hh.out.lim.at hx
   have Hx := hid hx
   clear hx
   obtain ⟨b0, off, rfl, hb0, hcell⟩ := Hh.out.rd.rng (limbs_ne (i := i) hin)
   have H1 := H.pushRng (b := b0) (off := off) hb0 (by simp) hcell
   clear H hcell
   have H := H1
   clear H1
   go_wp2_with (refine x_q H ?_)
   have H1 := H.sub (l' := [.blk g (limbs o) 99]) (by repeat first | exact List.Sublist.refl _ | exact List.nil_sublist _ | apply List.Sublist.cons_cons | apply List.Sublist.cons)
   clear H
   have H := H1
   clear H1
   go_loopw [8, 35] (fun s8 s35 wr => ∃ (j : Nat) (o : List Nat) (cy : Nat), j ≤ b.length ∧ s35 = .int .i64 j ∧ s8 = .int .u64 cy ∧ cy < 4294967296 ∧ Hid (o.length = a.length + b.length) ∧ Hid (Lim o) ∧ Hid (val o + 4294967296 ^ (i + j) * cy = val (a.take i) * val b + 4294967296 ^ i * (x * val (b.take j))) ∧ Hid (∀ k, i + b.length ≤ k → k < a.length + b.length → o[k]? = some 0) ∧ Hp [] w wr [.blk g (limbs o) 99]) (fun _ v _ => b.length - (intOf v).toNat)
   case atStart => exact ⟨0, o, 0, Nat.zero_le _, rfl, rfl, by decide, Hol, Hlo, hid (by rw [Hv.out]; simp [val]), Hz, H⟩
   case round =>
    clear H Hol Hlo Hv Hz
    clear o
    obtain ⟨j, o, cy, hj, rfl, rfl, hcy, Hol, Hlo, Hv, Hz, H⟩ := hrel
    by_cases hjn : j < b.length
    ·obtain ⟨y, hy⟩ : ∃ y, b[j]? = some y := ⟨_, List.getElem?_eq_getElem hjn⟩
     have hyv := limbs_at hy
     have hyB := Hk.out.lim.at hy
     have Hy := hid hy
     clear hy
     have hij : i + j < o.length := by rw [Hol.out]; omega
     obtain ⟨ov, hov⟩ : ∃ ov, o[i + j]? = some ov := ⟨_, List.getElem?_eq_getElem hij⟩
     have hovv : (limbs o)[((i : Int) + (j : Int)).toNat]? = some (.int .u32 (ov : Int)) := by rw [show ((i : Int) + (j : Int)).toNat = i + j by omega]; exact limbs_at hov
     have hoB := Hlo.out.at hov
     have Hov := hid hov
     clear hov
     obtain ⟨b1, off1, he1, hb1', hcell1⟩ := Hk.out.rd.rng (limbs_ne (i := j) hjn)
     have H1 := H.pushRng (b := b1) (off := off1) hb1' (by simp) hcell1
     clear H hcell1
     have H := H1
     clear H1
     subst he1
     have HM := hid (mul_word hxB hyB hoB hcy)
     have HT : Hid (∃ t, x * y + ov + cy = t ∧ t < 18446744073709551616) := hid ⟨_, rfl, times_bound hxB hyB hoB hcy⟩
     obtain ⟨t, ht, htB⟩ := HT.out
     rw [ht] at HM
     have Ht := hid ht
     clear ht HT
     go_wp2_with (first | refine x_q H ?_ | refine x_e (ev_high rfl rfl) ?_ | (revert H; refine x_s ?_; intro w1 hf H; (try clear hf)))
     rw [HM.out, low_nat htB, show ((i : Int) + (j : Int)).toNat = i + j by omega, limbs_set] at H
     rw [HM.out]
     go_roundw
     case rel => exact ⟨j + 1, o.set (i + j) (t % 4294967296), t / 4294967296, by omega, by go_num, by rw [Int.natCast_ediv]; rfl, by omega, hid (by rw [List.length_set]; exact Hol.out), hid (Hlo.out.set _ (Nat.mod_lt _ (by decide))), hid (by rw [← Nat.add_assoc, times_round Hov.out Hv.out Ht.out.symm, val_take_succ Hy.out]; exact times_next ..), hid (fun k hk1 hk2 => by rw [List.getElem?_set_ne (by omega)]; exact Hz.out k hk1 hk2), H.sub (by repeat first | exact List.Sublist.refl _ | exact List.nil_sublist _ | apply List.Sublist.cons_cons | apply List.Sublist.cons)⟩
     case measure => (simp [intOf]; try omega)
    ·have e : j = b.length := by omega
     have hib : i + b.length < o.length := by rw [Hol.out]; omega
     have H0 := hid (Hz.out (i + b.length) (Nat.le_refl _) (by omega))
     have HV : Hid (val (o.set (i + b.length) cy) = val (a.take (i + 1)) * val b) := hid (by
      have hv := Hv.out
      rw [e, List.take_of_length_le (Nat.le_refl _)] at hv
      rw [set_zero_end H0.out hv, val_take_succ Hx.out]
      exact times_row ..)
     clear e
     go_wp2_with (first | refine x_q H ?_ | (revert H; refine x_s ?_; intro w1 hf H; (try clear hf)))
     rw [show ((i : Int) + (b.length : Int)).toNat = i + b.length by omega, limbs_set] at H
     go_roundw
     case rel => exact ⟨i + 1, o.set (i + b.length) cy, by omega, by go_num, hid (by rw [List.length_set]; exact Hol.out), hid (Hlo.out.set _ hcy), HV, hid (fun k hk1 hk2 => by rw [List.getElem?_set_ne (by omega)]; exact Hz.out k (by omega) hk2), H⟩
     case measure => (simp [intOf]; try omega)
  ·have e : i = a.length := by omega
   have HV : Hid (val o = val a * val b) := hid (by rw [Hv.out, e, List.take_of_length_le (Nat.le_refl _)])
   clear e
   go_wp2_with (refine x_q H ?_)
   have hL : LR _ (some ⟨g, 0, none⟩) (a.length + b.length) o := LR.of_blk (pad := []) (by rw [List.append_nil]; exact H.at g) Hlo.out (by rw [Hol.out]; exact Nat.le_refl _) (by unfold maxLen; omega)
   have HL := hid hL
   refine Calls.mono (trim_any o Hol.out HL.out) ?_
   rintro e w1 ⟨rfl, hF⟩
   have HL2 := hid (hL.fr hF).trim
   have H1 := H.step hF (by simp)
   clear H hF hL HL
   have H := H1
   clear H1
   go_wp2_with fail
   go_ret
   rw [HV.out] at HL2
   exact ⟨_, _, by rw [HV.out]; rfl, H.fr, HL2.out⟩
end Go.Proofs.YthbeeeclgbpopaaGreatDoor
namespace Go.Proofs.YthbeeeclgbpopaaGreatDoor
open Go.RowKit
set_option linter.unusedSimpArgs false
set_option linter.unusedVariables false
set_option maxHeartbeats 4000000
set_option maxRecDepth 100000
set_option maxHeartbeats 8000000 in
theorem mulMag_any {w : World} {p q : Option Addr} {n m c d : Nat} (a b : List Nat) (hn : a.length = n) (hm : b.length = m) (hn0 : n ≤ 400000) (hm0 : m ≤ 400000) (h : LR w p c a) (k : LR w q d b) :
  Calls Tryz.prog 149 #[.slice p n c, .slice q m d] w fun e w' => ∃ (o : List Nat) (p' : Option Addr) (c' : Nat), e = .returned (.slice p' o.length c') ∧ Fr [] w w' ∧ LR w' p' c' o ∧ val o = val a * val b ∧ o.length = n + m := by
 subst hn hm
 have Hh := hid h
 have Hk := hid k
 clear h k
 have H := Hp.start [] w
 go_enter Tryz.func149, Tryz.ntmps149
 go_wp2_with (revert H; refine x_g ?_; intro g w1 hg hf H; (try clear hf))
 rw [show ((a.length : Int) + (b.length : Int)).toNat = a.length + b.length by omega, zeros_limbs] at H
 go_loopw [6] (fun s6 wr => ∃ (i : Nat) (o : List Nat), i ≤ a.length ∧ s6 = .int .i64 i ∧ Hid (o.length = a.length + b.length) ∧ Hid (Lim o) ∧ Hid (val o = val (a.take i) * val b) ∧ Hid (∀ k, i + b.length ≤ k → k < a.length + b.length → o[k]? = some 0) ∧ Hp [] w wr [.blk g (limbs o) 99]) (fun v _ => a.length - (intOf v).toNat)
 case atStart => exact ⟨0, List.replicate (a.length + b.length) 0, Nat.zero_le _, rfl, hid List.length_replicate, hid (Lim.zeros _), hid (by rw [val_zeros]; simp [val]), hid (fun k _ hk => by rw [List.getElem?_replicate, if_pos hk]), H⟩
 case round =>
  clear H
  obtain ⟨i, o, hi, rfl, Hol, Hlo, Hv, Hz, H⟩ := hrel
  by_cases hin : i < a.length
  ·obtain ⟨x, hx⟩ : ∃ x, a[i]? = some x := ⟨_, List.getElem?_eq_getElem hin⟩
   have hxv := limbs_at hx
   have hxB := Hh.out.lim.at hx
   have Hx := hid hx
   clear hx
   go_wp2_with (refine x_q H ?_)
   go_loopw [7, 8] (fun s7 s8 wr => ∃ (j : Nat) (o : List Nat) (cy : Nat), j ≤ b.length ∧ s8 = .int .i64 j ∧ s7 = .int .u64 cy ∧ cy < 4294967296 ∧ Hid (o.length = a.length + b.length) ∧ Hid (Lim o) ∧ Hid (val o + 4294967296 ^ (i + j) * cy = val (a.take i) * val b + 4294967296 ^ i * (x * val (b.take j))) ∧ Hid (∀ k, i + b.length ≤ k → k < a.length + b.length → o[k]? = some 0) ∧ Hp [] w wr [.blk g (limbs o) 99]) (fun _ v _ => b.length - (intOf v).toNat)
   case atStart => exact ⟨0, o, 0, Nat.zero_le _, rfl, rfl, by decide, Hol, Hlo, hid (by rw [Hv.out]; simp [val]), Hz, H⟩
   case round =>
    clear H Hol Hlo Hv Hz
    clear o
    obtain ⟨j, o, cy, hj, rfl, rfl, hcy, Hol, Hlo, Hv, Hz, H⟩ := hrel
    by_cases hjn : j < b.length
    ·obtain ⟨y, hy⟩ : ∃ y, b[j]? = some y := ⟨_, List.getElem?_eq_getElem hjn⟩
     have hyv := limbs_at hy
     have hyB := Hk.out.lim.at hy
     have Hy := hid hy
     clear hy
     have hij : i + j < o.length := by rw [Hol.out]; omega
     obtain ⟨ov, hov⟩ : ∃ ov, o[i + j]? = some ov := ⟨_, List.getElem?_eq_getElem hij⟩
     have hovv : (limbs o)[((i : Int) + (j : Int)).toNat]? = some (.int .u32 (ov : Int)) := by rw [show ((i : Int) + (j : Int)).toNat = i + j by omega]; exact limbs_at hov
     have hoB := Hlo.out.at hov
     have Hov := hid hov
     clear hov
     obtain ⟨b1, off1, he1, hb1', hcell1⟩ := Hk.out.rd.rng (limbs_ne (i := j) hjn)
     have H1 := H.pushRng (b := b1) (off := off1) hb1' (by simp) hcell1
     clear H hcell1
     have H := H1
     clear H1
     subst he1
     obtain ⟨b0, off, he0, hb0, hcell⟩ := Hh.out.rd.rng (limbs_ne (i := i) hin)
     have H1 := H.pushRng (b := b0) (off := off) hb0 (by simp) hcell
     clear H hcell
     have H := H1
     clear H1
     subst he0
     have hbd := times_bound hxB hyB hoB hcy
     have hbp : x * y < 18446744073709551616 := by omega
     have i1 : inr .u64 ((x : Int) * (y : Int)) := by rw [← Int.natCast_mul]; simp only [inr]; omega
     have i2 : inr .u64 ((cy : Int) + (x : Int) * (y : Int)) := by rw [← Int.natCast_mul]; simp only [inr]; omega
     have i3 : inr .u64 ((cy : Int) + (x : Int) * (y : Int) + (ov : Int)) := by rw [← Int.natCast_mul]; simp only [inr]; omega
     have HM : Hid ((cy : Int) + (x : Int) * (y : Int) + (ov : Int) = ((x * y + ov + cy : Nat) : Int)) := hid (by rw [← Int.natCast_mul]; omega)
     clear hbd hbp
     have HT : Hid (∃ t, x * y + ov + cy = t ∧ t < 18446744073709551616) := hid ⟨_, rfl, times_bound hxB hyB hoB hcy⟩
     obtain ⟨t, ht, htB⟩ := HT.out
     rw [ht] at HM
     have Ht := hid ht
     clear ht HT
     go_wp2_with (refine x_q H ?_)
     (revert H; refine w_p 22 (.st 0 (.st 1 (.st 2 (.st 3 (.st 4 (.st 5 (.st 6 (.st 7 (.st 8 (.st 9 (.st 10 (.st 11 (.st 12 (.st 13 (.st 14 (.st 15 (.st 16 (.st 17 (.st 18 (.st 19 (.st 20 (.st 21 .done)))))))))))))))))))))) ?_; intro w1 H)
     iterate 22 refine p_q ?_
     (refine pl_done ?_)
     all_goals
      rw [HM.out]
      clear i1 i2 i3
      go_wp2_with (first | refine x_q H ?_ | refine x_e (ev_high rfl rfl) ?_ | (revert H; refine x_s ?_; intro w1 hf H; (try clear hf)))
      rw [show (t : Int) % 4294967296 = ((t % 4294967296 : Nat) : Int) by omega, show ((i : Int) + (j : Int)).toNat = i + j by omega, limbs_set] at H
      go_roundw
      case rel => exact ⟨j + 1, o.set (i + j) (t % 4294967296), t / 4294967296, by omega, by go_num, by rw [Int.natCast_ediv]; rfl, by omega, hid (by rw [List.length_set]; exact Hol.out), hid (Hlo.out.set _ (Nat.mod_lt _ (by decide))), hid (by rw [← Nat.add_assoc, times_round Hov.out Hv.out Ht.out.symm, val_take_succ Hy.out]; exact times_next ..), hid (fun k hk1 hk2 => by rw [List.getElem?_set_ne (by omega)]; exact Hz.out k hk1 hk2), H.sub (by repeat first | exact List.Sublist.refl _ | exact List.nil_sublist _ | apply List.Sublist.cons_cons | apply List.Sublist.cons)⟩
      case measure => (simp [intOf]; try omega)
    ·have e : j = b.length := by omega
     have hib : i + b.length < o.length := by rw [Hol.out]; omega
     have H0 := hid (Hz.out (i + b.length) (Nat.le_refl _) (by omega))
     have HV : Hid (val (o.set (i + b.length) cy) = val (a.take (i + 1)) * val b) := hid (by
      have hv := Hv.out
      rw [e, List.take_of_length_le (Nat.le_refl _)] at hv
      rw [set_zero_end H0.out hv, val_take_succ Hx.out]
      exact times_row ..)
     clear e
     go_wp2_with (first | refine x_q H ?_ | (revert H; refine x_s ?_; intro w1 hf H; (try clear hf)))
     rw [show ((i : Int) + (b.length : Int)).toNat = i + b.length by omega, limbs_set] at H
     go_roundw
     case rel => exact ⟨i + 1, o.set (i + b.length) cy, by omega, by go_num, hid (by rw [List.length_set]; exact Hol.out), hid (Hlo.out.set _ hcy), HV, hid (fun k hk1 hk2 => by rw [List.getElem?_set_ne (by omega)]; exact Hz.out k (by omega) hk2), H⟩
     case measure => (simp [intOf]; try omega)
  ·have e : i = a.length := by omega
   have HV : Hid (val o = val a * val b) := hid (by rw [Hv.out, e, List.take_of_length_le (Nat.le_refl _)])
   clear e
   go_wp2_with (refine x_q H ?_)
   go_ret
   have hL : LR _ (some ⟨g, 0, none⟩) (a.length + b.length) o := LR.of_blk (pad := []) (by rw [List.append_nil]; exact H.at g) Hlo.out (by rw [Hol.out]; exact Nat.le_refl _) (by unfold maxLen; omega)
   exact ⟨o, _, _, by rw [Hol.out]; rfl, H.fr, hL, HV.out, Hol.out⟩
end Go.Proofs.YthbeeeclgbpopaaGreatDoor
namespace Go.Proofs.YthbeeeclgbpopaaGreatDoor
open Go.RowKit
set_option linter.unusedSimpArgs false
set_option linter.unusedVariables false
set_option maxHeartbeats 4000000
set_option maxRecDepth 100000

theorem zv_mul (na nb : Bool) (la lb : List Nat) : zv (!(na == nb)) (digs (val la * val lb)) = zv na la * zv nb lb := by
 rw [zv_digs]; unfold zv; cases na <;> cases nb <;> simp [Int.neg_mul, Int.mul_neg]
theorem mul_any {w : World} {p q : Option Addr} {n m c d : Nat} (na nb : Bool) (la lb : List Nat) (hn : la.length = n) (hm : lb.length = m) (hn0 : n ≤ 400000) (hm0 : m ≤ 400000) (h : LR w p c la) (k : LR w q d lb) :
  Calls Tryz.prog 33 #[.agg #[.bool na, .slice p n c], .agg #[.bool nb, .slice q m d]] w fun e w' => Big e w w' (zv na la * zv nb lb) := by
 subst hn hm
 have Hh := hid h
 have Hk := hid k
 have hla := digs_len_le h.lim
 have hlb := digs_len_le k.lim
 have H := Hp.start [] w
 have HZ := hid (zv_mul na nb la lb)
 have Hb1 := hid (show na = nb → (!(na == nb)) = false from fun h => by subst h; cases na <;> rfl)
 clear h k
 cases na <;> cases nb
 ·go_enter Tryz.func33, Tryz.ntmps33
  go_wp2_with (revert H; refine x_g ?_; intro g w1 hg hf H; (try clear hf))
  (revert H; refine w_p 13 (.st 0 (.st 1 (.st 2 (.st 3 (.st 4 (.st 5 (.st 6 (.st 8 (.st 9 (.ld 7 (.ld 10 (.ld 11 (.ld 12 (.ld 13 .done)))))))))))))) ?_; intro w1 H)
  iterate 9 refine p_q ?_
  ((refine p_c H rfl rfl Tryz.func83 (trim_any la rfl (Hh.out.fr H.fr)) ?_; clear H; rintro e w1 ⟨rfl, hF⟩ H; refine p_r ?_))
  ((refine p_c H rfl rfl Tryz.func83 (trim_any lb rfl (Hk.out.fr H.fr)) ?_; clear H; rintro e w1 ⟨rfl, hF⟩ H; refine p_r ?_))
  ((refine p_c H rfl rfl Tryz.func82 (times_any (digs (val la)) (digs (val lb)) rfl rfl (by omega) (by omega) (Hh.out.trim.fr H.fr) (Hk.out.trim.fr H.fr)) ?_; clear H; rintro e w1 ⟨p5, c5, rfl, hF, hL⟩ H; refine p_r ?_); have HL5 := hid hL; clear hL)
  ((refine p_c H rfl rfl Tryz.func84 (big_any false _ rfl HL5.out) ?_; clear H; rintro e w1 ⟨p6, c6, rfl, hF, hL⟩ H; refine p_r ?_); have HL6 := hid hL; clear hL)
  (revert H; refine p_s2 ?_; intro w1 hf H hk; have hk2 := hid hk; clear hk; (try clear hf))
  (refine pl_done ?_)
  all_goals
   go_wp2_with fail
   refine c_post H rfl rfl rfl ?_
   have hz : zv false (digs (val (digs (val la)) * val (digs (val lb)))) = zv false la * zv false lb := (by rw [val_digs, val_digs]; exact HZ.out)
   rw [hz] at HL6
   refine ⟨p6, c6, ?_, H.fr, hk2.out _ _ _ HL6.out⟩
   rw [hz]
 ·go_enter Tryz.func33, Tryz.ntmps33
  go_wp2_with (revert H; refine x_g ?_; intro g w1 hg hf H; (try clear hf))
  (revert H; refine w_p 13 (.st 0 (.st 1 (.st 2 (.st 3 (.st 4 (.st 5 (.st 6 (.st 8 (.st 9 (.ld 7 (.ld 10 (.ld 11 (.ld 12 (.ld 13 .done)))))))))))))) ?_; intro w1 H)
  iterate 9 refine p_q ?_
  ((refine p_c H rfl rfl Tryz.func83 (trim_any la rfl (Hh.out.fr H.fr)) ?_; clear H; rintro e w1 ⟨rfl, hF⟩ H; refine p_r ?_))
  ((refine p_c H rfl rfl Tryz.func83 (trim_any lb rfl (Hk.out.fr H.fr)) ?_; clear H; rintro e w1 ⟨rfl, hF⟩ H; refine p_r ?_))
  ((refine p_c H rfl rfl Tryz.func82 (times_any (digs (val la)) (digs (val lb)) rfl rfl (by omega) (by omega) (Hh.out.trim.fr H.fr) (Hk.out.trim.fr H.fr)) ?_; clear H; rintro e w1 ⟨p5, c5, rfl, hF, hL⟩ H; refine p_r ?_); have HL5 := hid hL; clear hL)
  ((refine p_c H rfl rfl Tryz.func84 (big_any true _ rfl HL5.out) ?_; clear H; rintro e w1 ⟨p6, c6, rfl, hF, hL⟩ H; refine p_r ?_); have HL6 := hid hL; clear hL)
  (revert H; refine p_s2 ?_; intro w1 hf H hk; have hk2 := hid hk; clear hk; (try clear hf))
  (refine pl_done ?_)
  all_goals
   go_wp2_with fail
   refine c_post H rfl rfl rfl ?_
   have hz : zv true (digs (val (digs (val la)) * val (digs (val lb)))) = zv false la * zv true lb := (by rw [val_digs, val_digs]; exact HZ.out)
   rw [hz] at HL6
   refine ⟨p6, c6, ?_, H.fr, hk2.out _ _ _ HL6.out⟩
   rw [hz]
 ·go_enter Tryz.func33, Tryz.ntmps33
  go_wp2_with (revert H; refine x_g ?_; intro g w1 hg hf H; (try clear hf))
  (revert H; refine w_p 13 (.st 0 (.st 1 (.st 2 (.st 3 (.st 4 (.st 5 (.st 6 (.st 8 (.st 9 (.ld 7 (.ld 10 (.ld 11 (.ld 12 (.ld 13 .done)))))))))))))) ?_; intro w1 H)
  iterate 9 refine p_q ?_
  ((refine p_c H rfl rfl Tryz.func83 (trim_any la rfl (Hh.out.fr H.fr)) ?_; clear H; rintro e w1 ⟨rfl, hF⟩ H; refine p_r ?_))
  ((refine p_c H rfl rfl Tryz.func83 (trim_any lb rfl (Hk.out.fr H.fr)) ?_; clear H; rintro e w1 ⟨rfl, hF⟩ H; refine p_r ?_))
  ((refine p_c H rfl rfl Tryz.func82 (times_any (digs (val la)) (digs (val lb)) rfl rfl (by omega) (by omega) (Hh.out.trim.fr H.fr) (Hk.out.trim.fr H.fr)) ?_; clear H; rintro e w1 ⟨p5, c5, rfl, hF, hL⟩ H; refine p_r ?_); have HL5 := hid hL; clear hL)
  ((refine p_c H rfl rfl Tryz.func84 (big_any true _ rfl HL5.out) ?_; clear H; rintro e w1 ⟨p6, c6, rfl, hF, hL⟩ H; refine p_r ?_); have HL6 := hid hL; clear hL)
  (revert H; refine p_s2 ?_; intro w1 hf H hk; have hk2 := hid hk; clear hk; (try clear hf))
  (refine pl_done ?_)
  all_goals
   go_wp2_with fail
   refine c_post H rfl rfl rfl ?_
   have hz : zv true (digs (val (digs (val la)) * val (digs (val lb)))) = zv true la * zv false lb := (by rw [val_digs, val_digs]; exact HZ.out)
   rw [hz] at HL6
   refine ⟨p6, c6, ?_, H.fr, hk2.out _ _ _ HL6.out⟩
   rw [hz]
 ·go_enter Tryz.func33, Tryz.ntmps33
  go_wp2_with (revert H; refine x_g ?_; intro g w1 hg hf H; (try clear hf))
  (revert H; refine w_p 13 (.st 0 (.st 1 (.st 2 (.st 3 (.st 4 (.st 5 (.st 6 (.st 8 (.st 9 (.ld 7 (.ld 10 (.ld 11 (.ld 12 (.ld 13 .done)))))))))))))) ?_; intro w1 H)
  iterate 9 refine p_q ?_
  ((refine p_c H rfl rfl Tryz.func83 (trim_any la rfl (Hh.out.fr H.fr)) ?_; clear H; rintro e w1 ⟨rfl, hF⟩ H; refine p_r ?_))
  ((refine p_c H rfl rfl Tryz.func83 (trim_any lb rfl (Hk.out.fr H.fr)) ?_; clear H; rintro e w1 ⟨rfl, hF⟩ H; refine p_r ?_))
  ((refine p_c H rfl rfl Tryz.func82 (times_any (digs (val la)) (digs (val lb)) rfl rfl (by omega) (by omega) (Hh.out.trim.fr H.fr) (Hk.out.trim.fr H.fr)) ?_; clear H; rintro e w1 ⟨p5, c5, rfl, hF, hL⟩ H; refine p_r ?_); have HL5 := hid hL; clear hL)
  ((refine p_c H rfl rfl Tryz.func84 (big_any false _ rfl HL5.out) ?_; clear H; rintro e w1 ⟨p6, c6, rfl, hF, hL⟩ H; refine p_r ?_); have HL6 := hid hL; clear hL)
  (revert H; refine p_s2 ?_; intro w1 hf H hk; have hk2 := hid hk; clear hk; (try clear hf))
  (refine pl_done ?_)
  all_goals
   go_wp2_with fail
   refine c_post H rfl rfl rfl ?_
   have hz : zv false (digs (val (digs (val la)) * val (digs (val lb)))) = zv true la * zv true lb := (by rw [val_digs, val_digs]; exact HZ.out)
   rw [hz] at HL6
   refine ⟨p6, c6, ?_, H.fr, hk2.out _ _ _ HL6.out⟩
   rw [hz]
theorem rmul_any {w : World} {p q : Option Addr} {n m c d : Nat} (na nb : Bool) (la lb : List Nat) (hn : la.length = n) (hm : lb.length = m) (hn0 : n ≤ 400000) (hm0 : m ≤ 400000) (h : LR w p c la) (k : LR w q d lb) :
  Calls Tryz.prog 76 #[.agg #[.bool na, .slice p n c], .agg #[.bool nb, .slice q m d]] w fun e w' => Big e w w' (zv na la * zv nb lb) := by
 subst hn hm
 have Hh := hid h
 have Hk := hid k
 have hla := digs_len_le h.lim
 have hlb := digs_len_le k.lim
 have H := Hp.start [] w
 have HZ := hid (zv_mul na nb la lb)
 have Hb1 := hid (show na = nb → (!(na == nb)) = false from fun h => by subst h; cases na <;> rfl)
 clear h k
 cases na <;> cases nb
 ·go_enter Tryz.func76, Tryz.ntmps76
  go_wp2_with (revert H; refine x_g ?_; intro g w1 hg hf H; (try clear hf))
  (revert H; refine w_p 13 (.st 0 (.st 1 (.st 2 (.st 3 (.st 4 (.st 5 (.st 6 (.st 8 (.st 9 (.ld 7 (.ld 10 (.ld 11 (.ld 12 (.ld 13 .done)))))))))))))) ?_; intro w1 H)
  iterate 9 refine p_q ?_
  ((refine p_c H rfl rfl Tryz.func135 (rtrim_any la rfl (by omega) (Hh.out.fr H.fr)) ?_; clear H; rintro e w1 ⟨p7, c7, rfl, hF, hL⟩ H; refine p_r ?_); have HA := hid hL; clear hL)
  ((refine p_c H rfl rfl Tryz.func135 (rtrim_any lb rfl (by omega) (Hk.out.fr H.fr)) ?_; clear H; rintro e w1 ⟨p8, c8, rfl, hF, hL⟩ H; refine p_r ?_); have HB := hid hL; clear hL)
  ((refine p_c H rfl rfl Tryz.func149 (mulMag_any (digs (val la)) (digs (val lb)) rfl rfl (by omega) (by omega) (by first | exact HA.out | exact HA.out.fr hF) (by first | exact HB.out | exact HB.out.fr hF)) ?_; clear H; rintro e w1 ⟨o, p5, c5, rfl, hF, hL, hvo, hol⟩ H; refine p_r ?_); have HL5 := hid hL; have Hvo := hid hvo; have Hol := hid hol; clear hL hvo hol)
  ((refine p_c H rfl rfl Tryz.func131 (make1_any false o rfl (by have := Hol.out; omega) HL5.out) ?_; clear H; rintro e w1 ⟨p6, c6, rfl, hF, hL⟩ H; refine p_r ?_); have HL6 := hid hL; clear hL)
  (revert H; refine p_s2 ?_; intro w1 hf H hk; have hk2 := hid hk; clear hk; (try clear hf))
  (refine pl_done ?_)
  all_goals
   go_wp2_with fail
   refine c_post H rfl rfl rfl ?_
   have hz : zv false o = zv false la * zv false lb := (by rw [zv_of _ Hvo.out, val_digs, val_digs]; exact HZ.out)
   rw [hz] at HL6
   refine ⟨p6, c6, ?_, H.fr, hk2.out _ _ _ HL6.out⟩
   rw [hz]
 ·go_enter Tryz.func76, Tryz.ntmps76
  go_wp2_with (revert H; refine x_g ?_; intro g w1 hg hf H; (try clear hf))
  (revert H; refine w_p 13 (.st 0 (.st 1 (.st 2 (.st 3 (.st 4 (.st 5 (.st 6 (.st 8 (.st 9 (.ld 7 (.ld 10 (.ld 11 (.ld 12 (.ld 13 .done)))))))))))))) ?_; intro w1 H)
  iterate 9 refine p_q ?_
  ((refine p_c H rfl rfl Tryz.func135 (rtrim_any la rfl (by omega) (Hh.out.fr H.fr)) ?_; clear H; rintro e w1 ⟨p7, c7, rfl, hF, hL⟩ H; refine p_r ?_); have HA := hid hL; clear hL)
  ((refine p_c H rfl rfl Tryz.func135 (rtrim_any lb rfl (by omega) (Hk.out.fr H.fr)) ?_; clear H; rintro e w1 ⟨p8, c8, rfl, hF, hL⟩ H; refine p_r ?_); have HB := hid hL; clear hL)
  ((refine p_c H rfl rfl Tryz.func149 (mulMag_any (digs (val la)) (digs (val lb)) rfl rfl (by omega) (by omega) (by first | exact HA.out | exact HA.out.fr hF) (by first | exact HB.out | exact HB.out.fr hF)) ?_; clear H; rintro e w1 ⟨o, p5, c5, rfl, hF, hL, hvo, hol⟩ H; refine p_r ?_); have HL5 := hid hL; have Hvo := hid hvo; have Hol := hid hol; clear hL hvo hol)
  ((refine p_c H rfl rfl Tryz.func131 (make1_any true o rfl (by have := Hol.out; omega) HL5.out) ?_; clear H; rintro e w1 ⟨p6, c6, rfl, hF, hL⟩ H; refine p_r ?_); have HL6 := hid hL; clear hL)
  (revert H; refine p_s2 ?_; intro w1 hf H hk; have hk2 := hid hk; clear hk; (try clear hf))
  (refine pl_done ?_)
  all_goals
   go_wp2_with fail
   refine c_post H rfl rfl rfl ?_
   have hz : zv true o = zv false la * zv true lb := (by rw [zv_of _ Hvo.out, val_digs, val_digs]; exact HZ.out)
   rw [hz] at HL6
   refine ⟨p6, c6, ?_, H.fr, hk2.out _ _ _ HL6.out⟩
   rw [hz]
 ·go_enter Tryz.func76, Tryz.ntmps76
  go_wp2_with (revert H; refine x_g ?_; intro g w1 hg hf H; (try clear hf))
  (revert H; refine w_p 13 (.st 0 (.st 1 (.st 2 (.st 3 (.st 4 (.st 5 (.st 6 (.st 8 (.st 9 (.ld 7 (.ld 10 (.ld 11 (.ld 12 (.ld 13 .done)))))))))))))) ?_; intro w1 H)
  iterate 9 refine p_q ?_
  ((refine p_c H rfl rfl Tryz.func135 (rtrim_any la rfl (by omega) (Hh.out.fr H.fr)) ?_; clear H; rintro e w1 ⟨p7, c7, rfl, hF, hL⟩ H; refine p_r ?_); have HA := hid hL; clear hL)
  ((refine p_c H rfl rfl Tryz.func135 (rtrim_any lb rfl (by omega) (Hk.out.fr H.fr)) ?_; clear H; rintro e w1 ⟨p8, c8, rfl, hF, hL⟩ H; refine p_r ?_); have HB := hid hL; clear hL)
  ((refine p_c H rfl rfl Tryz.func149 (mulMag_any (digs (val la)) (digs (val lb)) rfl rfl (by omega) (by omega) (by first | exact HA.out | exact HA.out.fr hF) (by first | exact HB.out | exact HB.out.fr hF)) ?_; clear H; rintro e w1 ⟨o, p5, c5, rfl, hF, hL, hvo, hol⟩ H; refine p_r ?_); have HL5 := hid hL; have Hvo := hid hvo; have Hol := hid hol; clear hL hvo hol)
  ((refine p_c H rfl rfl Tryz.func131 (make1_any true o rfl (by have := Hol.out; omega) HL5.out) ?_; clear H; rintro e w1 ⟨p6, c6, rfl, hF, hL⟩ H; refine p_r ?_); have HL6 := hid hL; clear hL)
  (revert H; refine p_s2 ?_; intro w1 hf H hk; have hk2 := hid hk; clear hk; (try clear hf))
  (refine pl_done ?_)
  all_goals
   go_wp2_with fail
   refine c_post H rfl rfl rfl ?_
   have hz : zv true o = zv true la * zv false lb := (by rw [zv_of _ Hvo.out, val_digs, val_digs]; exact HZ.out)
   rw [hz] at HL6
   refine ⟨p6, c6, ?_, H.fr, hk2.out _ _ _ HL6.out⟩
   rw [hz]
 ·go_enter Tryz.func76, Tryz.ntmps76
  go_wp2_with (revert H; refine x_g ?_; intro g w1 hg hf H; (try clear hf))
  (revert H; refine w_p 13 (.st 0 (.st 1 (.st 2 (.st 3 (.st 4 (.st 5 (.st 6 (.st 8 (.st 9 (.ld 7 (.ld 10 (.ld 11 (.ld 12 (.ld 13 .done)))))))))))))) ?_; intro w1 H)
  iterate 9 refine p_q ?_
  ((refine p_c H rfl rfl Tryz.func135 (rtrim_any la rfl (by omega) (Hh.out.fr H.fr)) ?_; clear H; rintro e w1 ⟨p7, c7, rfl, hF, hL⟩ H; refine p_r ?_); have HA := hid hL; clear hL)
  ((refine p_c H rfl rfl Tryz.func135 (rtrim_any lb rfl (by omega) (Hk.out.fr H.fr)) ?_; clear H; rintro e w1 ⟨p8, c8, rfl, hF, hL⟩ H; refine p_r ?_); have HB := hid hL; clear hL)
  ((refine p_c H rfl rfl Tryz.func149 (mulMag_any (digs (val la)) (digs (val lb)) rfl rfl (by omega) (by omega) (by first | exact HA.out | exact HA.out.fr hF) (by first | exact HB.out | exact HB.out.fr hF)) ?_; clear H; rintro e w1 ⟨o, p5, c5, rfl, hF, hL, hvo, hol⟩ H; refine p_r ?_); have HL5 := hid hL; have Hvo := hid hvo; have Hol := hid hol; clear hL hvo hol)
  ((refine p_c H rfl rfl Tryz.func131 (make1_any false o rfl (by have := Hol.out; omega) HL5.out) ?_; clear H; rintro e w1 ⟨p6, c6, rfl, hF, hL⟩ H; refine p_r ?_); have HL6 := hid hL; clear hL)
  (revert H; refine p_s2 ?_; intro w1 hf H hk; have hk2 := hid hk; clear hk; (try clear hf))
  (refine pl_done ?_)
  all_goals
   go_wp2_with fail
   refine c_post H rfl rfl rfl ?_
   have hz : zv false o = zv true la * zv true lb := (by rw [zv_of _ Hvo.out, val_digs, val_digs]; exact HZ.out)
   rw [hz] at HL6
   refine ⟨p6, c6, ?_, H.fr, hk2.out _ _ _ HL6.out⟩
   rw [hz]
end Go.Proofs.YthbeeeclgbpopaaGreatDoor
