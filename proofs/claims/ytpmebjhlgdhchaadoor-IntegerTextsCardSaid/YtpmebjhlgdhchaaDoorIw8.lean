/-
  The integers: Sub; the document's Add and Sub.
-/
import Derived.Test.YtpmebjhlgdhchaaDoorIw7
import Derived.Deep.DeepCutAuto
import Derived.Deep.CutBlock
namespace Go.Proofs.YtpmebjhlgdhchaaDoor
open Go.RowKit
set_option linter.unusedSimpArgs false
set_option linter.unusedVariables false
set_option maxHeartbeats 4000000
set_option maxRecDepth 100000

theorem sub_any {w : World} {p q : Option Addr} {n m c d : Nat} (na nb : Bool) (la lb : List Nat) (hn : la.length = n) (hm : lb.length = m) (hn0 : n ≤ 1000000) (hm0 : m ≤ 1000000) (h : LR w p c la) (k : LR w q d lb) :
    Calls Tryd.prog 33 #[.agg #[.bool na, .slice p n c], .agg #[.bool nb, .slice q m d]] w fun e w' => Big e w w' (zv na la - zv nb lb) := by
  have Hh := hid h
  have Hk := hid k
  have H := Hp.start [] w
  have HZ : Hid (zv na la + zv (!nb) lb = zv na la - zv nb lb) := hid (by rw [zv_not]; omega)
  have Hn := hid hn
  have Hm := hid hm
  clear h k hn hm
  go_enter Tryd.func33, Tryd.ntmps33
  go_wp2_with (first | refine x_q H ?_ | refine x_cm (fun h => ?_) (fun h => ?_) | (revert H; first | (refine x_g ?_; intro g w1 hg hf H) | (refine x_s ?_; intro w1 hf H); (try clear hf)))
  refine Calls.mono (add_any na (!nb) la lb Hn.out Hm.out hn0 hm0 (Hh.out.fr H.fr) (Hk.out.fr H.fr)) ?_
  rintro e w1 ⟨p3, c3, rfl, hF, hL⟩
  rw [HZ.out] at hL ⊢
  have HB2 := hid hL
  have H1 := H.step hF (by simp)
  clear H hF hL
  have H := H1
  clear H1
  go_wp2_with (first | refine x_q H ?_ | refine x_cm (fun h => ?_) (fun h => ?_) | (revert H; refine x_s2 ?_; intro w1 hf H hk; have hk2 := hid hk; clear hk; (try clear hf)) | (revert H; first | (refine x_g ?_; intro g w1 hg hf H) | (refine x_s ?_; intro w1 hf H); (try clear hf)))
  refine c_post H rfl rfl rfl ?_
  exact ⟨p3, c3, rfl, H.fr, hk2.out _ _ _ HB2.out⟩
theorem zv_canon (z : Int) : zv (decide (z < 0)) (digs z.natAbs) = z := by
  rw [zv_digs]
  by_cases h : z < 0
  · simp [h]; omega
  · simp [h]; omega
/-- A walk begun anew behind some calls: the result's block may be written. -/
theorem Hp.anew {w wc : World} {g1 g2 g3 : Nat} {x1 y1 x2 y2 x3 y3 : Value} {t1 t2 t3 : TypeId} (H : Hp [] w wc [.blk g3 [x3, y3] t3, .blk g2 [x2, y2] t2, .blk g1 [x1, y1] t1]) (h3 : ∀ x, x3 ≠ .int .u32 x) (h4 : ∀ x, y3 ≠ .int .u32 x) :
    (∀ wz, Fr [g3] wc wz → Fr [] w wz) ∧ (∀ wz p c l, Fr [g3] wc wz → LR wc p c l → LR wz p c l) ∧ Hp [g3] wc wc [.blk g3 [x3, y3] t3, .rng g2 0 [x2, y2], .rng g1 0 [x1, y1]] := by
  have hn := H.nodup
  simp only [List.flatMap_cons, List.flatMap_nil, Ent.own, List.cons_append, List.nil_append, List.append_nil, List.nodup_cons, List.mem_cons, List.not_mem_nil, or_false, not_or] at hn
  obtain ⟨⟨n1, n2⟩, n3, _⟩ := hn
  have a1 := (H.ok _ (.head _)).1
  have a2 := (H.ok _ (.tail _ (.head _))).1
  have a3 := (H.ok _ (.tail _ (.tail _ (.head _)))).1
  refine ⟨fun wz k => H.fr.andThen k (fun x hx => ?_), fun wz p c l k h => h.keep a1 (by intro z hz x; simp only [List.mem_cons, List.not_mem_nil, or_false] at hz; rcases hz with rfl | rfl; exact h3 x; exact h4 x) k, ?_⟩
  · simp only [List.mem_singleton] at hx; subst hx; exact (H.ok _ (.head _)).2
  · have K := (Hp.start [g3] wc).pushRng (b := g1) (off := 0) (cs := [x1, y1]) (lt_of_get a3) (by simp; exact Ne.symm n2) (fun j u hj => by rw [cell_of_row wc g1 _ _ _ _ a3, Nat.zero_add]; simpa using hj)
    have K := K.pushRng (b := g2) (off := 0) (cs := [x2, y2]) (lt_of_get a2) (by simp; exact Ne.symm n1) (fun j u hj => by rw [cell_of_row wc g2 _ _ _ _ a2, Nat.zero_add]; simpa using hj)
    exact K.push a1 (.inl (by simp)) (by simp [Ent.own])
theorem zv_of (n : Bool) {o : List Nat} {A : Nat} (h : val o = A) : zv n o = zv n (digs A) := by rw [zv_digs]; unfold zv; rw [h]
theorem radd_any {w : World} {p q : Option Addr} {n m c d : Nat} (na nb : Bool) (la lb : List Nat) (hn : la.length = n) (hm : lb.length = m) (hn0 : n ≤ 400000) (hm0 : m ≤ 400000) (h : LR w p c la) (k : LR w q d lb) :
    Calls Tryd.prog 32 #[.agg #[.bool na, .slice p n c], .agg #[.bool nb, .slice q m d]] w fun e w' => Big e w w' (zv na la + zv nb lb) := by
  subst hn hm
  have Hh := hid h
  have Hk := hid k
  have hla := digs_len_le h.lim
  have hlb := digs_len_le k.lim
  have H := Hp.start [] w
  clear h k
  go_enter Tryd.func32, Tryd.ntmps32
  go_upto_region 1 with (first | refine x_q H ?_ | refine x_cm (fun h => ?_) (fun h => ?_) | (revert H; first | (refine x_g ?_; intro g w1 hg hf H) | (refine x_s ?_; intro w1 hf H); (try clear hf)))
  go_cut [2, 3, 4, 5, 6] (fun s2 s3 s4 s5 s6 wx => ∃ (g1 g2 g3 : Nat) (pa pb : Option Addr) (ca cb : Nat), s2 = .pointer (some ⟨g1, 0, none⟩) ∧ s3 = .pointer (some ⟨g2, 0, none⟩) ∧ s4 = .pointer (some ⟨g3, 0, none⟩) ∧ s5 = .slice pa (digs (val la)).length ca ∧ s6 = .slice pb (digs (val lb)).length cb ∧ Hid (LR wx pa ca (digs (val la))) ∧ Hid (LR wx pb cb (digs (val lb))) ∧ Hp [] w wx [.blk g3 [.bool false, .slice none 0 0] 24, .blk g2 [.bool nb, .slice q lb.length d] 24, .blk g1 [.bool na, .slice p la.length c] 24])
  case first =>
    (revert H; refine w_p 8 (.st 0 (.st 1 (.st 3 (.st 4 (.ld 2 (.ld 5 (.st 6 (.st 7 .done)))))))) ?_; intro w1 H)
    iterate 4 refine p_q ?_
    ((refine p_c H rfl rfl Tryd.func59 (rtrim_any la rfl (by omega) (Hh.out.fr H.fr)) ?_; clear H; rintro e w1 ⟨p7, c7, rfl, hF, hL⟩ H; refine p_r ?_); have HA := hid hL; clear hL)
    ((refine p_c H rfl rfl Tryd.func59 (rtrim_any lb rfl (by omega) (Hk.out.fr H.fr)) ?_; clear H; rintro e w1 ⟨p8, c8, rfl, hF, hL⟩ H; refine p_r ?_); have HB := hid hL; clear hL)
    iterate 2 refine p_q ?_
    (refine pl_done ?_)
    all_goals
      go_wp2_with (first | refine x_q H ?_ | refine x_cm (fun h => ?_) (fun h => ?_) | (revert H; first | (refine x_g ?_; intro g w1 hg hf H) | (refine x_s ?_; intro w1 hf H); (try clear hf)))
      go_meet
      case rel => first | exact ⟨_, _, _, p7, p8, c7, c8, rfl, rfl, rfl, rfl, rfl, hid (HA.out.fr hF), HB, H⟩ | exact ⟨_, _, _, p7, p8, c7, c8, rfl, rfl, rfl, rfl, rfl, HA, hid (HB.out.fr hF), H⟩
  case rest =>
    clear H
    obtain ⟨g1, g2, g3, pa, pb, ca, cb, rfl, rfl, rfl, rfl, rfl, hA, hB, H⟩ := hcut
    obtain ⟨hf0, hk3, H1⟩ := H.anew (by intro x h; cases h) (by intro x h; cases h)
    have Hf0 := hid hf0
    have Hk3 := hid hk3
    clear H hf0 hk3
    have H := H1
    clear H1
    cases na <;> cases nb
    · go_wp2_with (first | refine x_q H ?_ | refine x_cm (fun h => ?_) (fun h => ?_) | (revert H; first | (refine x_g ?_; intro g w1 hg hf H) | (refine x_s ?_; intro w1 hf H); (try clear hf)))
      (revert H; refine w_p 6 (.st 0 (.st 1 (.st 2 (.st 3 (.ld 4 (.ld 5 (.ld 6 .done))))))) ?_; intro w1 H)
      iterate 4 refine p_q ?_
      ((refine p_c H rfl rfl Tryd.func60 (addMag_any (digs (val la)) (digs (val lb)) rfl rfl (by omega) (by omega) (Hk3.out _ _ _ _ H.fr hA.out) (Hk3.out _ _ _ _ H.fr hB.out)) ?_; clear H; rintro e w1 ⟨o, p5, c5, rfl, hF, hL, hvo, hol⟩ H; refine p_r ?_); have HL5 := hid hL; have Hvo := hid hvo; have Hol := hid hol; clear hL hvo hol)
      ((refine p_c H rfl rfl Tryd.func57 (make1_any false o rfl (by have := Hol.out; omega) HL5.out) ?_; clear H; rintro e w1 ⟨p6, c6, rfl, hF, hL⟩ H; refine p_r ?_); have HL6 := hid hL; clear hL)
      (revert H; refine p_s2 ?_; intro w1 hf H hk; have hk2 := hid hk; clear hk; (try clear hf))
      (refine pl_done ?_)
      all_goals
        go_wp2_with (first | refine x_q H ?_ | refine x_cm (fun h => ?_) (fun h => ?_) | (revert H; first | (refine x_g ?_; intro g w1 hg hf H) | (refine x_s ?_; intro w1 hf H); (try clear hf)))
        refine c_post H rfl rfl rfl ?_
        have hz : zv false o = zv false la + zv false lb := (by rw [zv_of _ Hvo.out, val_digs, val_digs]; exact zv_plus _ la lb)
        rw [hz] at HL6
        refine ⟨p6, c6, ?_, Hf0.out _ H.fr, hk2.out _ _ _ HL6.out⟩
        rw [hz]
    · rcases Nat.lt_or_ge (val la) (val lb) with hlt | hge
      · have hc := cmpZ_neg hlt
        have hlen := digs_mono (Nat.le_of_lt hlt)
        have hlt := hid hlt
        go_wp2_with (first | refine x_q H ?_ | refine x_cm (fun h => ?_) (fun h => ?_) | (revert H; first | (refine x_g ?_; intro g w1 hg hf H) | (refine x_s ?_; intro w1 hf H); (try clear hf)))
        refine Calls.mono (cmpMag_any (val la) (val lb) rfl rfl (Hk3.out _ _ _ _ H.fr hA.out) (Hk3.out _ _ _ _ H.fr hB.out)) ?_
        rintro e w1 ⟨rfl, hF⟩
        have H1 := H.step hF (by simp)
        clear H hF
        have H := H1
        clear H1
        generalize cmpZ (val la) (val lb) = z at hc ⊢
        go_wp2_with (first | refine x_q H ?_ | refine x_cm (fun h => ?_) (fun h => ?_) | (revert H; first | (refine x_g ?_; intro g w1 hg hf H) | (refine x_s ?_; intro w1 hf H); (try clear hf)))
        (revert H; refine w_p 6 (.st 0 (.st 1 (.st 2 (.st 3 (.ld 4 (.ld 5 (.ld 6 .done))))))) ?_; intro w1 H)
        iterate 4 refine p_q ?_
        ((refine p_c H rfl rfl Tryd.func62 (subMag_any (digs (val lb)) (digs (val la)) rfl rfl hlen (by omega) (by rw [val_digs, val_digs]; exact Nat.le_of_lt hlt.out) (Hk3.out _ _ _ _ H.fr hB.out) (Hk3.out _ _ _ _ H.fr hA.out)) ?_; clear H; rintro e w1 ⟨o, p5, c5, rfl, hF, hL, hvo, hol⟩ H; refine p_r ?_); have HL5 := hid hL; have Hvo := hid hvo; have Hol := hid hol; clear hL hvo hol)
        ((refine p_c H rfl rfl Tryd.func57 (make1_any true o rfl (by have := Hol.out; omega) HL5.out) ?_; clear H; rintro e w1 ⟨p6, c6, rfl, hF, hL⟩ H; refine p_r ?_); have HL6 := hid hL; clear hL)
        (revert H; refine p_s2 ?_; intro w1 hf H hk; have hk2 := hid hk; clear hk; (try clear hf))
        (refine pl_done ?_)
        all_goals
          go_wp2_with (first | refine x_q H ?_ | refine x_cm (fun h => ?_) (fun h => ?_) | (revert H; first | (refine x_g ?_; intro g w1 hg hf H) | (refine x_s ?_; intro w1 hf H); (try clear hf)))
          refine c_post H rfl rfl rfl ?_
          have hz : zv true o = zv false la + zv true lb := (by rw [zv_of _ Hvo.out, val_digs, val_digs]; exact zv_minus2 (by decide) (Nat.le_of_lt hlt.out))
          rw [hz] at HL6
          refine ⟨p6, c6, ?_, Hf0.out _ H.fr, hk2.out _ _ _ HL6.out⟩
          rw [hz]
      · have hc := cmpZ_nonneg hge
        have hlen := digs_mono hge
        have hge := hid hge
        go_wp2_with (first | refine x_q H ?_ | refine x_cm (fun h => ?_) (fun h => ?_) | (revert H; first | (refine x_g ?_; intro g w1 hg hf H) | (refine x_s ?_; intro w1 hf H); (try clear hf)))
        refine Calls.mono (cmpMag_any (val la) (val lb) rfl rfl (Hk3.out _ _ _ _ H.fr hA.out) (Hk3.out _ _ _ _ H.fr hB.out)) ?_
        rintro e w1 ⟨rfl, hF⟩
        have H1 := H.step hF (by simp)
        clear H hF
        have H := H1
        clear H1
        generalize cmpZ (val la) (val lb) = z at hc ⊢
        go_wp2_with (first | refine x_q H ?_ | refine x_cm (fun h => ?_) (fun h => ?_) | (revert H; first | (refine x_g ?_; intro g w1 hg hf H) | (refine x_s ?_; intro w1 hf H); (try clear hf)))
        (revert H; refine w_p 6 (.st 0 (.st 1 (.st 2 (.st 3 (.ld 4 (.ld 5 (.ld 6 .done))))))) ?_; intro w1 H)
        iterate 4 refine p_q ?_
        ((refine p_c H rfl rfl Tryd.func62 (subMag_any (digs (val la)) (digs (val lb)) rfl rfl hlen (by omega) (by rw [val_digs, val_digs]; exact hge.out) (Hk3.out _ _ _ _ H.fr hA.out) (Hk3.out _ _ _ _ H.fr hB.out)) ?_; clear H; rintro e w1 ⟨o, p5, c5, rfl, hF, hL, hvo, hol⟩ H; refine p_r ?_); have HL5 := hid hL; have Hvo := hid hvo; have Hol := hid hol; clear hL hvo hol)
        ((refine p_c H rfl rfl Tryd.func57 (make1_any false o rfl (by have := Hol.out; omega) HL5.out) ?_; clear H; rintro e w1 ⟨p6, c6, rfl, hF, hL⟩ H; refine p_r ?_); have HL6 := hid hL; clear hL)
        (revert H; refine p_s2 ?_; intro w1 hf H hk; have hk2 := hid hk; clear hk; (try clear hf))
        (refine pl_done ?_)
        all_goals
          go_wp2_with (first | refine x_q H ?_ | refine x_cm (fun h => ?_) (fun h => ?_) | (revert H; first | (refine x_g ?_; intro g w1 hg hf H) | (refine x_s ?_; intro w1 hf H); (try clear hf)))
          refine c_post H rfl rfl rfl ?_
          have hz : zv false o = zv false la + zv true lb := (by rw [zv_of _ Hvo.out, val_digs, val_digs]; exact zv_minus1 (by decide) hge.out)
          rw [hz] at HL6
          refine ⟨p6, c6, ?_, Hf0.out _ H.fr, hk2.out _ _ _ HL6.out⟩
          rw [hz]
    · rcases Nat.lt_or_ge (val la) (val lb) with hlt | hge
      · have hc := cmpZ_neg hlt
        have hlen := digs_mono (Nat.le_of_lt hlt)
        have hlt := hid hlt
        go_wp2_with (first | refine x_q H ?_ | refine x_cm (fun h => ?_) (fun h => ?_) | (revert H; first | (refine x_g ?_; intro g w1 hg hf H) | (refine x_s ?_; intro w1 hf H); (try clear hf)))
        refine Calls.mono (cmpMag_any (val la) (val lb) rfl rfl (Hk3.out _ _ _ _ H.fr hA.out) (Hk3.out _ _ _ _ H.fr hB.out)) ?_
        rintro e w1 ⟨rfl, hF⟩
        have H1 := H.step hF (by simp)
        clear H hF
        have H := H1
        clear H1
        generalize cmpZ (val la) (val lb) = z at hc ⊢
        go_wp2_with (first | refine x_q H ?_ | refine x_cm (fun h => ?_) (fun h => ?_) | (revert H; first | (refine x_g ?_; intro g w1 hg hf H) | (refine x_s ?_; intro w1 hf H); (try clear hf)))
        (revert H; refine w_p 6 (.st 0 (.st 1 (.st 2 (.st 3 (.ld 4 (.ld 5 (.ld 6 .done))))))) ?_; intro w1 H)
        iterate 4 refine p_q ?_
        ((refine p_c H rfl rfl Tryd.func62 (subMag_any (digs (val lb)) (digs (val la)) rfl rfl hlen (by omega) (by rw [val_digs, val_digs]; exact Nat.le_of_lt hlt.out) (Hk3.out _ _ _ _ H.fr hB.out) (Hk3.out _ _ _ _ H.fr hA.out)) ?_; clear H; rintro e w1 ⟨o, p5, c5, rfl, hF, hL, hvo, hol⟩ H; refine p_r ?_); have HL5 := hid hL; have Hvo := hid hvo; have Hol := hid hol; clear hL hvo hol)
        ((refine p_c H rfl rfl Tryd.func57 (make1_any false o rfl (by have := Hol.out; omega) HL5.out) ?_; clear H; rintro e w1 ⟨p6, c6, rfl, hF, hL⟩ H; refine p_r ?_); have HL6 := hid hL; clear hL)
        (revert H; refine p_s2 ?_; intro w1 hf H hk; have hk2 := hid hk; clear hk; (try clear hf))
        (refine pl_done ?_)
        all_goals
          go_wp2_with (first | refine x_q H ?_ | refine x_cm (fun h => ?_) (fun h => ?_) | (revert H; first | (refine x_g ?_; intro g w1 hg hf H) | (refine x_s ?_; intro w1 hf H); (try clear hf)))
          refine c_post H rfl rfl rfl ?_
          have hz : zv false o = zv true la + zv false lb := (by rw [zv_of _ Hvo.out, val_digs, val_digs]; exact zv_minus2 (by decide) (Nat.le_of_lt hlt.out))
          rw [hz] at HL6
          refine ⟨p6, c6, ?_, Hf0.out _ H.fr, hk2.out _ _ _ HL6.out⟩
          rw [hz]
      · have hc := cmpZ_nonneg hge
        have hlen := digs_mono hge
        have hge := hid hge
        go_wp2_with (first | refine x_q H ?_ | refine x_cm (fun h => ?_) (fun h => ?_) | (revert H; first | (refine x_g ?_; intro g w1 hg hf H) | (refine x_s ?_; intro w1 hf H); (try clear hf)))
        refine Calls.mono (cmpMag_any (val la) (val lb) rfl rfl (Hk3.out _ _ _ _ H.fr hA.out) (Hk3.out _ _ _ _ H.fr hB.out)) ?_
        rintro e w1 ⟨rfl, hF⟩
        have H1 := H.step hF (by simp)
        clear H hF
        have H := H1
        clear H1
        generalize cmpZ (val la) (val lb) = z at hc ⊢
        go_wp2_with (first | refine x_q H ?_ | refine x_cm (fun h => ?_) (fun h => ?_) | (revert H; first | (refine x_g ?_; intro g w1 hg hf H) | (refine x_s ?_; intro w1 hf H); (try clear hf)))
        (revert H; refine w_p 6 (.st 0 (.st 1 (.st 2 (.st 3 (.ld 4 (.ld 5 (.ld 6 .done))))))) ?_; intro w1 H)
        iterate 4 refine p_q ?_
        ((refine p_c H rfl rfl Tryd.func62 (subMag_any (digs (val la)) (digs (val lb)) rfl rfl hlen (by omega) (by rw [val_digs, val_digs]; exact hge.out) (Hk3.out _ _ _ _ H.fr hA.out) (Hk3.out _ _ _ _ H.fr hB.out)) ?_; clear H; rintro e w1 ⟨o, p5, c5, rfl, hF, hL, hvo, hol⟩ H; refine p_r ?_); have HL5 := hid hL; have Hvo := hid hvo; have Hol := hid hol; clear hL hvo hol)
        ((refine p_c H rfl rfl Tryd.func57 (make1_any true o rfl (by have := Hol.out; omega) HL5.out) ?_; clear H; rintro e w1 ⟨p6, c6, rfl, hF, hL⟩ H; refine p_r ?_); have HL6 := hid hL; clear hL)
        (revert H; refine p_s2 ?_; intro w1 hf H hk; have hk2 := hid hk; clear hk; (try clear hf))
        (refine pl_done ?_)
        all_goals
          go_wp2_with (first | refine x_q H ?_ | refine x_cm (fun h => ?_) (fun h => ?_) | (revert H; first | (refine x_g ?_; intro g w1 hg hf H) | (refine x_s ?_; intro w1 hf H); (try clear hf)))
          refine c_post H rfl rfl rfl ?_
          have hz : zv true o = zv true la + zv false lb := (by rw [zv_of _ Hvo.out, val_digs, val_digs]; exact zv_minus1 (by decide) hge.out)
          rw [hz] at HL6
          refine ⟨p6, c6, ?_, Hf0.out _ H.fr, hk2.out _ _ _ HL6.out⟩
          rw [hz]
    · go_wp2_with (first | refine x_q H ?_ | refine x_cm (fun h => ?_) (fun h => ?_) | (revert H; first | (refine x_g ?_; intro g w1 hg hf H) | (refine x_s ?_; intro w1 hf H); (try clear hf)))
      (revert H; refine w_p 6 (.st 0 (.st 1 (.st 2 (.st 3 (.ld 4 (.ld 5 (.ld 6 .done))))))) ?_; intro w1 H)
      iterate 4 refine p_q ?_
      ((refine p_c H rfl rfl Tryd.func60 (addMag_any (digs (val la)) (digs (val lb)) rfl rfl (by omega) (by omega) (Hk3.out _ _ _ _ H.fr hA.out) (Hk3.out _ _ _ _ H.fr hB.out)) ?_; clear H; rintro e w1 ⟨o, p5, c5, rfl, hF, hL, hvo, hol⟩ H; refine p_r ?_); have HL5 := hid hL; have Hvo := hid hvo; have Hol := hid hol; clear hL hvo hol)
      ((refine p_c H rfl rfl Tryd.func57 (make1_any true o rfl (by have := Hol.out; omega) HL5.out) ?_; clear H; rintro e w1 ⟨p6, c6, rfl, hF, hL⟩ H; refine p_r ?_); have HL6 := hid hL; clear hL)
      (revert H; refine p_s2 ?_; intro w1 hf H hk; have hk2 := hid hk; clear hk; (try clear hf))
      (refine pl_done ?_)
      all_goals
        go_wp2_with (first | refine x_q H ?_ | refine x_cm (fun h => ?_) (fun h => ?_) | (revert H; first | (refine x_g ?_; intro g w1 hg hf H) | (refine x_s ?_; intro w1 hf H); (try clear hf)))
        refine c_post H rfl rfl rfl ?_
        have hz : zv true o = zv true la + zv true lb := (by rw [zv_of _ Hvo.out, val_digs, val_digs]; exact zv_plus _ la lb)
        rw [hz] at HL6
        refine ⟨p6, c6, ?_, Hf0.out _ H.fr, hk2.out _ _ _ HL6.out⟩
        rw [hz]
theorem rsub_any {w : World} {p q : Option Addr} {n m c d : Nat} (na nb : Bool) (la lb : List Nat) (hn : la.length = n) (hm : lb.length = m) (hn0 : n ≤ 400000) (hm0 : m ≤ 400000) (h : LR w p c la) (k : LR w q d lb) :
    Calls Tryd.prog 34 #[.agg #[.bool na, .slice p n c], .agg #[.bool nb, .slice q m d]] w fun e w' => Big e w w' (zv na la - zv nb lb) := by
  have Hh := hid h
  have Hk := hid k
  have H := Hp.start [] w
  have hlb := digs_len_le k.lim
  have Hn := hid hn
  have Hm := hid hm
  have HZ : Hid (∀ z : Int, z = zv (!nb) lb → zv na la + zv (decide (z < 0)) (digs z.natAbs) = zv na la - zv nb lb) := hid (fun z hz => by
    rw [zv_canon, hz, zv_not]; omega)
  have hdl : (digs (zv (!nb) lb).natAbs).length ≤ 400000 := by rw [zv_abs]; omega
  clear h k hn hm hlb
  go_enter Tryd.func34, Tryd.ntmps34
  go_wp2_with (first | refine x_q H ?_ | refine x_cm (fun h => ?_) (fun h => ?_) | (revert H; first | (refine x_g ?_; intro g w1 hg hf H) | (refine x_s ?_; intro w1 hf H); (try clear hf)))
  (revert H; refine w_p 4 (.st 0 (.st 1 (.ld 2 (.ld 3 (.ld 4 .done))))) ?_; intro w1 H)
  iterate 2 refine p_q ?_
  ((refine p_c H rfl rfl Tryd.func28 (rneg_any nb lb Hm.out (by omega) (Hk.out.fr H.fr)) ?_; clear H; rintro e w1 ⟨p5, c5, rfl, hF, hL⟩ H; refine p_r ?_); have HL5 := hid hL; clear hL)
  ((refine p_c H rfl rfl Tryd.func32 (radd_any na (decide (zv (!nb) lb < 0)) la (digs (zv (!nb) lb).natAbs) Hn.out rfl hn0 hdl (Hh.out.fr H.fr) HL5.out) ?_; clear H; rintro e w1 ⟨p6, c6, rfl, hF, hL⟩ H; refine p_r ?_); have HL6 := hid hL; clear hL)
  (revert H; refine p_s2 ?_; intro w1 hf H hk; have hk2 := hid hk; clear hk; (try clear hf))
  (refine pl_done ?_)
  all_goals
    go_wp2_with (first | refine x_q H ?_ | refine x_cm (fun h => ?_) (fun h => ?_) | (revert H; first | (refine x_g ?_; intro g w1 hg hf H) | (refine x_s ?_; intro w1 hf H); (try clear hf)))
    refine c_post H rfl rfl rfl ?_
    have hz := HZ.out _ rfl
    rw [hz] at HL6
    refine ⟨p6, c6, ?_, H.fr, hk2.out _ _ _ HL6.out⟩
    rw [hz]
end Go.Proofs.YtpmebjhlgdhchaaDoor
