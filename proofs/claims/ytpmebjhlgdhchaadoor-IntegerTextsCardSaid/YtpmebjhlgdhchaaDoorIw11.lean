/-
  The integers: Mul, Sign, Cmp, the program's and the document's.
-/
import Derived.Test.YtpmebjhlgdhchaaDoorIw10
import Derived.Deep.DeepCutAuto
import Derived.Deep.CutBlock
namespace Go.Proofs.YtpmebjhlgdhchaaDoor
open Go.RowKit
set_option linter.unusedSimpArgs false
set_option linter.unusedVariables false
set_option maxHeartbeats 4000000
set_option maxRecDepth 100000

theorem zv_mul (na nb : Bool) (la lb : List Nat) : zv (!(na == nb)) (digs (val la * val lb)) = zv na la * zv nb lb := by
  rw [zv_digs]; unfold zv; cases na <;> cases nb <;> simp [Int.neg_mul, Int.mul_neg]
theorem pow_len (a : Nat) {k : Nat} (h : a < 4294967296 ^ k) : (digs a).length ≤ k := digs_len_of h
theorem mul_any {w : World} {p q : Option Addr} {n m c d : Nat} (na nb : Bool) (la lb : List Nat) (hn : la.length = n) (hm : lb.length = m) (hn0 : n ≤ 400000) (hm0 : m ≤ 400000) (h : LR w p c la) (k : LR w q d lb) :
    Calls Tryd.prog 35 #[.agg #[.bool na, .slice p n c], .agg #[.bool nb, .slice q m d]] w fun e w' => Big e w w' (zv na la * zv nb lb) := by
  subst hn hm
  have Hh := hid h
  have Hk := hid k
  have hla := digs_len_le h.lim
  have hlb := digs_len_le k.lim
  have H := Hp.start [] w
  have HZ := hid (zv_mul na nb la lb)
  have Hb1 := hid (show na = nb → (!(na == nb)) = false from fun h => by subst h; cases na <;> rfl)
  clear h k
  cases na <;> cases nb
  · go_enter Tryd.func35, Tryd.ntmps35
    go_wp2_with (first | refine x_q H ?_ | refine x_cm (fun h => ?_) (fun h => ?_) | (revert H; first | (refine x_g ?_; intro g w1 hg hf H) | (refine x_s ?_; intro w1 hf H); (try clear hf)))
    (revert H; refine w_p 13 (.st 0 (.st 1 (.st 2 (.st 3 (.st 4 (.st 5 (.st 6 (.st 8 (.st 9 (.ld 7 (.ld 10 (.ld 11 (.ld 12 (.ld 13 .done)))))))))))))) ?_; intro w1 H)
    iterate 9 refine p_q ?_
    ((refine p_c H rfl rfl Tryd.func49 (trim_any la rfl (Hh.out.fr H.fr)) ?_; clear H; rintro e w1 ⟨rfl, hF⟩ H; refine p_r ?_); skip)
    ((refine p_c H rfl rfl Tryd.func49 (trim_any lb rfl (Hk.out.fr H.fr)) ?_; clear H; rintro e w1 ⟨rfl, hF⟩ H; refine p_r ?_); skip)
    ((refine p_c H rfl rfl Tryd.func63 (times_any (digs (val la)) (digs (val lb)) rfl rfl (by omega) (by omega) (Hh.out.trim.fr H.fr) (Hk.out.trim.fr H.fr)) ?_; clear H; rintro e w1 ⟨p5, c5, rfl, hF, hL⟩ H; refine p_r ?_); have HL5 := hid hL; clear hL)
    ((refine p_c H rfl rfl Tryd.func53 (big_any false _ rfl HL5.out) ?_; clear H; rintro e w1 ⟨p6, c6, rfl, hF, hL⟩ H; refine p_r ?_); have HL6 := hid hL; clear hL)
    (revert H; refine p_s2 ?_; intro w1 hf H hk; have hk2 := hid hk; clear hk; (try clear hf))
    (refine pl_done ?_)
    all_goals
      go_wp2_with (first | refine x_q H ?_ | refine x_cm (fun h => ?_) (fun h => ?_) | (revert H; first | (refine x_g ?_; intro g w1 hg hf H) | (refine x_s ?_; intro w1 hf H); (try clear hf)))
      refine c_post H rfl rfl rfl ?_
      have hz : zv false (digs (val (digs (val la)) * val (digs (val lb)))) = zv false la * zv false lb := (by rw [val_digs, val_digs]; exact HZ.out)
      rw [hz] at HL6
      refine ⟨p6, c6, ?_, H.fr, hk2.out _ _ _ HL6.out⟩
      rw [hz]
  · go_enter Tryd.func35, Tryd.ntmps35
    go_wp2_with (first | refine x_q H ?_ | refine x_cm (fun h => ?_) (fun h => ?_) | (revert H; first | (refine x_g ?_; intro g w1 hg hf H) | (refine x_s ?_; intro w1 hf H); (try clear hf)))
    (revert H; refine w_p 13 (.st 0 (.st 1 (.st 2 (.st 3 (.st 4 (.st 5 (.st 6 (.st 8 (.st 9 (.ld 7 (.ld 10 (.ld 11 (.ld 12 (.ld 13 .done)))))))))))))) ?_; intro w1 H)
    iterate 9 refine p_q ?_
    ((refine p_c H rfl rfl Tryd.func49 (trim_any la rfl (Hh.out.fr H.fr)) ?_; clear H; rintro e w1 ⟨rfl, hF⟩ H; refine p_r ?_); skip)
    ((refine p_c H rfl rfl Tryd.func49 (trim_any lb rfl (Hk.out.fr H.fr)) ?_; clear H; rintro e w1 ⟨rfl, hF⟩ H; refine p_r ?_); skip)
    ((refine p_c H rfl rfl Tryd.func63 (times_any (digs (val la)) (digs (val lb)) rfl rfl (by omega) (by omega) (Hh.out.trim.fr H.fr) (Hk.out.trim.fr H.fr)) ?_; clear H; rintro e w1 ⟨p5, c5, rfl, hF, hL⟩ H; refine p_r ?_); have HL5 := hid hL; clear hL)
    ((refine p_c H rfl rfl Tryd.func53 (big_any true _ rfl HL5.out) ?_; clear H; rintro e w1 ⟨p6, c6, rfl, hF, hL⟩ H; refine p_r ?_); have HL6 := hid hL; clear hL)
    (revert H; refine p_s2 ?_; intro w1 hf H hk; have hk2 := hid hk; clear hk; (try clear hf))
    (refine pl_done ?_)
    all_goals
      go_wp2_with (first | refine x_q H ?_ | refine x_cm (fun h => ?_) (fun h => ?_) | (revert H; first | (refine x_g ?_; intro g w1 hg hf H) | (refine x_s ?_; intro w1 hf H); (try clear hf)))
      refine c_post H rfl rfl rfl ?_
      have hz : zv true (digs (val (digs (val la)) * val (digs (val lb)))) = zv false la * zv true lb := (by rw [val_digs, val_digs]; exact HZ.out)
      rw [hz] at HL6
      refine ⟨p6, c6, ?_, H.fr, hk2.out _ _ _ HL6.out⟩
      rw [hz]
  · go_enter Tryd.func35, Tryd.ntmps35
    go_wp2_with (first | refine x_q H ?_ | refine x_cm (fun h => ?_) (fun h => ?_) | (revert H; first | (refine x_g ?_; intro g w1 hg hf H) | (refine x_s ?_; intro w1 hf H); (try clear hf)))
    (revert H; refine w_p 13 (.st 0 (.st 1 (.st 2 (.st 3 (.st 4 (.st 5 (.st 6 (.st 8 (.st 9 (.ld 7 (.ld 10 (.ld 11 (.ld 12 (.ld 13 .done)))))))))))))) ?_; intro w1 H)
    iterate 9 refine p_q ?_
    ((refine p_c H rfl rfl Tryd.func49 (trim_any la rfl (Hh.out.fr H.fr)) ?_; clear H; rintro e w1 ⟨rfl, hF⟩ H; refine p_r ?_); skip)
    ((refine p_c H rfl rfl Tryd.func49 (trim_any lb rfl (Hk.out.fr H.fr)) ?_; clear H; rintro e w1 ⟨rfl, hF⟩ H; refine p_r ?_); skip)
    ((refine p_c H rfl rfl Tryd.func63 (times_any (digs (val la)) (digs (val lb)) rfl rfl (by omega) (by omega) (Hh.out.trim.fr H.fr) (Hk.out.trim.fr H.fr)) ?_; clear H; rintro e w1 ⟨p5, c5, rfl, hF, hL⟩ H; refine p_r ?_); have HL5 := hid hL; clear hL)
    ((refine p_c H rfl rfl Tryd.func53 (big_any true _ rfl HL5.out) ?_; clear H; rintro e w1 ⟨p6, c6, rfl, hF, hL⟩ H; refine p_r ?_); have HL6 := hid hL; clear hL)
    (revert H; refine p_s2 ?_; intro w1 hf H hk; have hk2 := hid hk; clear hk; (try clear hf))
    (refine pl_done ?_)
    all_goals
      go_wp2_with (first | refine x_q H ?_ | refine x_cm (fun h => ?_) (fun h => ?_) | (revert H; first | (refine x_g ?_; intro g w1 hg hf H) | (refine x_s ?_; intro w1 hf H); (try clear hf)))
      refine c_post H rfl rfl rfl ?_
      have hz : zv true (digs (val (digs (val la)) * val (digs (val lb)))) = zv true la * zv false lb := (by rw [val_digs, val_digs]; exact HZ.out)
      rw [hz] at HL6
      refine ⟨p6, c6, ?_, H.fr, hk2.out _ _ _ HL6.out⟩
      rw [hz]
  · go_enter Tryd.func35, Tryd.ntmps35
    go_wp2_with (first | refine x_q H ?_ | refine x_cm (fun h => ?_) (fun h => ?_) | (revert H; first | (refine x_g ?_; intro g w1 hg hf H) | (refine x_s ?_; intro w1 hf H); (try clear hf)))
    (revert H; refine w_p 13 (.st 0 (.st 1 (.st 2 (.st 3 (.st 4 (.st 5 (.st 6 (.st 8 (.st 9 (.ld 7 (.ld 10 (.ld 11 (.ld 12 (.ld 13 .done)))))))))))))) ?_; intro w1 H)
    iterate 9 refine p_q ?_
    ((refine p_c H rfl rfl Tryd.func49 (trim_any la rfl (Hh.out.fr H.fr)) ?_; clear H; rintro e w1 ⟨rfl, hF⟩ H; refine p_r ?_); skip)
    ((refine p_c H rfl rfl Tryd.func49 (trim_any lb rfl (Hk.out.fr H.fr)) ?_; clear H; rintro e w1 ⟨rfl, hF⟩ H; refine p_r ?_); skip)
    ((refine p_c H rfl rfl Tryd.func63 (times_any (digs (val la)) (digs (val lb)) rfl rfl (by omega) (by omega) (Hh.out.trim.fr H.fr) (Hk.out.trim.fr H.fr)) ?_; clear H; rintro e w1 ⟨p5, c5, rfl, hF, hL⟩ H; refine p_r ?_); have HL5 := hid hL; clear hL)
    ((refine p_c H rfl rfl Tryd.func53 (big_any false _ rfl HL5.out) ?_; clear H; rintro e w1 ⟨p6, c6, rfl, hF, hL⟩ H; refine p_r ?_); have HL6 := hid hL; clear hL)
    (revert H; refine p_s2 ?_; intro w1 hf H hk; have hk2 := hid hk; clear hk; (try clear hf))
    (refine pl_done ?_)
    all_goals
      go_wp2_with (first | refine x_q H ?_ | refine x_cm (fun h => ?_) (fun h => ?_) | (revert H; first | (refine x_g ?_; intro g w1 hg hf H) | (refine x_s ?_; intro w1 hf H); (try clear hf)))
      refine c_post H rfl rfl rfl ?_
      have hz : zv false (digs (val (digs (val la)) * val (digs (val lb)))) = zv true la * zv true lb := (by rw [val_digs, val_digs]; exact HZ.out)
      rw [hz] at HL6
      refine ⟨p6, c6, ?_, H.fr, hk2.out _ _ _ HL6.out⟩
      rw [hz]
theorem rmul_any {w : World} {p q : Option Addr} {n m c d : Nat} (na nb : Bool) (la lb : List Nat) (hn : la.length = n) (hm : lb.length = m) (hn0 : n ≤ 400000) (hm0 : m ≤ 400000) (h : LR w p c la) (k : LR w q d lb) :
    Calls Tryd.prog 36 #[.agg #[.bool na, .slice p n c], .agg #[.bool nb, .slice q m d]] w fun e w' => Big e w w' (zv na la * zv nb lb) := by
  subst hn hm
  have Hh := hid h
  have Hk := hid k
  have hla := digs_len_le h.lim
  have hlb := digs_len_le k.lim
  have H := Hp.start [] w
  have HZ := hid (zv_mul na nb la lb)
  have Hb1 := hid (show na = nb → (!(na == nb)) = false from fun h => by subst h; cases na <;> rfl)
  clear h k
  cases na <;> cases nb
  · go_enter Tryd.func36, Tryd.ntmps36
    go_wp2_with (first | refine x_q H ?_ | refine x_cm (fun h => ?_) (fun h => ?_) | (revert H; first | (refine x_g ?_; intro g w1 hg hf H) | (refine x_s ?_; intro w1 hf H); (try clear hf)))
    (revert H; refine w_p 13 (.st 0 (.st 1 (.st 2 (.st 3 (.st 4 (.st 5 (.st 6 (.st 8 (.st 9 (.ld 7 (.ld 10 (.ld 11 (.ld 12 (.ld 13 .done)))))))))))))) ?_; intro w1 H)
    iterate 9 refine p_q ?_
    ((refine p_c H rfl rfl Tryd.func59 (rtrim_any la rfl (by omega) (Hh.out.fr H.fr)) ?_; clear H; rintro e w1 ⟨p7, c7, rfl, hF, hL⟩ H; refine p_r ?_); have HA := hid hL; clear hL)
    ((refine p_c H rfl rfl Tryd.func59 (rtrim_any lb rfl (by omega) (Hk.out.fr H.fr)) ?_; clear H; rintro e w1 ⟨p8, c8, rfl, hF, hL⟩ H; refine p_r ?_); have HB := hid hL; clear hL)
    ((refine p_c H rfl rfl Tryd.func64 (mulMag_any (digs (val la)) (digs (val lb)) rfl rfl (by omega) (by omega) (by first | exact HA.out | exact HA.out.fr hF) (by first | exact HB.out | exact HB.out.fr hF)) ?_; clear H; rintro e w1 ⟨o, p5, c5, rfl, hF, hL, hvo, hol⟩ H; refine p_r ?_); have HL5 := hid hL; have Hvo := hid hvo; have Hol := hid hol; clear hL hvo hol)
    ((refine p_c H rfl rfl Tryd.func57 (make1_any false o rfl (by have := Hol.out; omega) HL5.out) ?_; clear H; rintro e w1 ⟨p6, c6, rfl, hF, hL⟩ H; refine p_r ?_); have HL6 := hid hL; clear hL)
    (revert H; refine p_s2 ?_; intro w1 hf H hk; have hk2 := hid hk; clear hk; (try clear hf))
    (refine pl_done ?_)
    all_goals
      go_wp2_with (first | refine x_q H ?_ | refine x_cm (fun h => ?_) (fun h => ?_) | (revert H; first | (refine x_g ?_; intro g w1 hg hf H) | (refine x_s ?_; intro w1 hf H); (try clear hf)))
      refine c_post H rfl rfl rfl ?_
      have hz : zv false o = zv false la * zv false lb := (by rw [zv_of _ Hvo.out, val_digs, val_digs]; exact HZ.out)
      rw [hz] at HL6
      refine ⟨p6, c6, ?_, H.fr, hk2.out _ _ _ HL6.out⟩
      rw [hz]
  · go_enter Tryd.func36, Tryd.ntmps36
    go_wp2_with (first | refine x_q H ?_ | refine x_cm (fun h => ?_) (fun h => ?_) | (revert H; first | (refine x_g ?_; intro g w1 hg hf H) | (refine x_s ?_; intro w1 hf H); (try clear hf)))
    (revert H; refine w_p 13 (.st 0 (.st 1 (.st 2 (.st 3 (.st 4 (.st 5 (.st 6 (.st 8 (.st 9 (.ld 7 (.ld 10 (.ld 11 (.ld 12 (.ld 13 .done)))))))))))))) ?_; intro w1 H)
    iterate 9 refine p_q ?_
    ((refine p_c H rfl rfl Tryd.func59 (rtrim_any la rfl (by omega) (Hh.out.fr H.fr)) ?_; clear H; rintro e w1 ⟨p7, c7, rfl, hF, hL⟩ H; refine p_r ?_); have HA := hid hL; clear hL)
    ((refine p_c H rfl rfl Tryd.func59 (rtrim_any lb rfl (by omega) (Hk.out.fr H.fr)) ?_; clear H; rintro e w1 ⟨p8, c8, rfl, hF, hL⟩ H; refine p_r ?_); have HB := hid hL; clear hL)
    ((refine p_c H rfl rfl Tryd.func64 (mulMag_any (digs (val la)) (digs (val lb)) rfl rfl (by omega) (by omega) (by first | exact HA.out | exact HA.out.fr hF) (by first | exact HB.out | exact HB.out.fr hF)) ?_; clear H; rintro e w1 ⟨o, p5, c5, rfl, hF, hL, hvo, hol⟩ H; refine p_r ?_); have HL5 := hid hL; have Hvo := hid hvo; have Hol := hid hol; clear hL hvo hol)
    ((refine p_c H rfl rfl Tryd.func57 (make1_any true o rfl (by have := Hol.out; omega) HL5.out) ?_; clear H; rintro e w1 ⟨p6, c6, rfl, hF, hL⟩ H; refine p_r ?_); have HL6 := hid hL; clear hL)
    (revert H; refine p_s2 ?_; intro w1 hf H hk; have hk2 := hid hk; clear hk; (try clear hf))
    (refine pl_done ?_)
    all_goals
      go_wp2_with (first | refine x_q H ?_ | refine x_cm (fun h => ?_) (fun h => ?_) | (revert H; first | (refine x_g ?_; intro g w1 hg hf H) | (refine x_s ?_; intro w1 hf H); (try clear hf)))
      refine c_post H rfl rfl rfl ?_
      have hz : zv true o = zv false la * zv true lb := (by rw [zv_of _ Hvo.out, val_digs, val_digs]; exact HZ.out)
      rw [hz] at HL6
      refine ⟨p6, c6, ?_, H.fr, hk2.out _ _ _ HL6.out⟩
      rw [hz]
  · go_enter Tryd.func36, Tryd.ntmps36
    go_wp2_with (first | refine x_q H ?_ | refine x_cm (fun h => ?_) (fun h => ?_) | (revert H; first | (refine x_g ?_; intro g w1 hg hf H) | (refine x_s ?_; intro w1 hf H); (try clear hf)))
    (revert H; refine w_p 13 (.st 0 (.st 1 (.st 2 (.st 3 (.st 4 (.st 5 (.st 6 (.st 8 (.st 9 (.ld 7 (.ld 10 (.ld 11 (.ld 12 (.ld 13 .done)))))))))))))) ?_; intro w1 H)
    iterate 9 refine p_q ?_
    ((refine p_c H rfl rfl Tryd.func59 (rtrim_any la rfl (by omega) (Hh.out.fr H.fr)) ?_; clear H; rintro e w1 ⟨p7, c7, rfl, hF, hL⟩ H; refine p_r ?_); have HA := hid hL; clear hL)
    ((refine p_c H rfl rfl Tryd.func59 (rtrim_any lb rfl (by omega) (Hk.out.fr H.fr)) ?_; clear H; rintro e w1 ⟨p8, c8, rfl, hF, hL⟩ H; refine p_r ?_); have HB := hid hL; clear hL)
    ((refine p_c H rfl rfl Tryd.func64 (mulMag_any (digs (val la)) (digs (val lb)) rfl rfl (by omega) (by omega) (by first | exact HA.out | exact HA.out.fr hF) (by first | exact HB.out | exact HB.out.fr hF)) ?_; clear H; rintro e w1 ⟨o, p5, c5, rfl, hF, hL, hvo, hol⟩ H; refine p_r ?_); have HL5 := hid hL; have Hvo := hid hvo; have Hol := hid hol; clear hL hvo hol)
    ((refine p_c H rfl rfl Tryd.func57 (make1_any true o rfl (by have := Hol.out; omega) HL5.out) ?_; clear H; rintro e w1 ⟨p6, c6, rfl, hF, hL⟩ H; refine p_r ?_); have HL6 := hid hL; clear hL)
    (revert H; refine p_s2 ?_; intro w1 hf H hk; have hk2 := hid hk; clear hk; (try clear hf))
    (refine pl_done ?_)
    all_goals
      go_wp2_with (first | refine x_q H ?_ | refine x_cm (fun h => ?_) (fun h => ?_) | (revert H; first | (refine x_g ?_; intro g w1 hg hf H) | (refine x_s ?_; intro w1 hf H); (try clear hf)))
      refine c_post H rfl rfl rfl ?_
      have hz : zv true o = zv true la * zv false lb := (by rw [zv_of _ Hvo.out, val_digs, val_digs]; exact HZ.out)
      rw [hz] at HL6
      refine ⟨p6, c6, ?_, H.fr, hk2.out _ _ _ HL6.out⟩
      rw [hz]
  · go_enter Tryd.func36, Tryd.ntmps36
    go_wp2_with (first | refine x_q H ?_ | refine x_cm (fun h => ?_) (fun h => ?_) | (revert H; first | (refine x_g ?_; intro g w1 hg hf H) | (refine x_s ?_; intro w1 hf H); (try clear hf)))
    (revert H; refine w_p 13 (.st 0 (.st 1 (.st 2 (.st 3 (.st 4 (.st 5 (.st 6 (.st 8 (.st 9 (.ld 7 (.ld 10 (.ld 11 (.ld 12 (.ld 13 .done)))))))))))))) ?_; intro w1 H)
    iterate 9 refine p_q ?_
    ((refine p_c H rfl rfl Tryd.func59 (rtrim_any la rfl (by omega) (Hh.out.fr H.fr)) ?_; clear H; rintro e w1 ⟨p7, c7, rfl, hF, hL⟩ H; refine p_r ?_); have HA := hid hL; clear hL)
    ((refine p_c H rfl rfl Tryd.func59 (rtrim_any lb rfl (by omega) (Hk.out.fr H.fr)) ?_; clear H; rintro e w1 ⟨p8, c8, rfl, hF, hL⟩ H; refine p_r ?_); have HB := hid hL; clear hL)
    ((refine p_c H rfl rfl Tryd.func64 (mulMag_any (digs (val la)) (digs (val lb)) rfl rfl (by omega) (by omega) (by first | exact HA.out | exact HA.out.fr hF) (by first | exact HB.out | exact HB.out.fr hF)) ?_; clear H; rintro e w1 ⟨o, p5, c5, rfl, hF, hL, hvo, hol⟩ H; refine p_r ?_); have HL5 := hid hL; have Hvo := hid hvo; have Hol := hid hol; clear hL hvo hol)
    ((refine p_c H rfl rfl Tryd.func57 (make1_any false o rfl (by have := Hol.out; omega) HL5.out) ?_; clear H; rintro e w1 ⟨p6, c6, rfl, hF, hL⟩ H; refine p_r ?_); have HL6 := hid hL; clear hL)
    (revert H; refine p_s2 ?_; intro w1 hf H hk; have hk2 := hid hk; clear hk; (try clear hf))
    (refine pl_done ?_)
    all_goals
      go_wp2_with (first | refine x_q H ?_ | refine x_cm (fun h => ?_) (fun h => ?_) | (revert H; first | (refine x_g ?_; intro g w1 hg hf H) | (refine x_s ?_; intro w1 hf H); (try clear hf)))
      refine c_post H rfl rfl rfl ?_
      have hz : zv false o = zv true la * zv true lb := (by rw [zv_of _ Hvo.out, val_digs, val_digs]; exact HZ.out)
      rw [hz] at HL6
      refine ⟨p6, c6, ?_, H.fr, hk2.out _ _ _ HL6.out⟩
      rw [hz]
end Go.Proofs.YtpmebjhlgdhchaaDoor
