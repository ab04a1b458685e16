/-
  The integers: Add and Sub, the program's and the document's.
-/
import Derived.Test.YtpmebjhlgdhchaaDoorIw6
import Derived.Deep.DeepCutAuto
import Derived.Deep.CutBlock
namespace Go.Proofs.YtpmebjhlgdhchaaDoor
open Go.RowKit
set_option linter.unusedSimpArgs false
set_option linter.unusedVariables false
set_option maxHeartbeats 4000000
set_option maxRecDepth 100000
theorem zv_digs (n : Bool) (A : Nat) : zv n (digs A) = if n then -(A : Int) else (A : Int) := by unfold zv; rw [val_digs]
theorem zv_plus (n : Bool) (la lb : List Nat) : zv n (digs (val la + val lb)) = zv n la + zv n lb := by
  rw [zv_digs]; unfold zv; cases n <;> simp <;> omega
theorem zv_minus1 {na nb : Bool} (h : na ≠ nb) {la lb : List Nat} (hle : val lb ≤ val la) : zv na (digs (val la - val lb)) = zv na la + zv nb lb := by
  rw [zv_digs]; unfold zv; cases na <;> cases nb <;> simp at * <;> omega
theorem zv_minus2 {na nb : Bool} (h : na ≠ nb) {la lb : List Nat} (hle : val la ≤ val lb) : zv nb (digs (val lb - val la)) = zv na la + zv nb lb := by
  rw [zv_digs]; unfold zv; cases na <;> cases nb <;> simp at * <;> omega
theorem zv_not (n : Bool) (l : List Nat) : zv (!n) l = - zv n l := by unfold zv; cases n <;> simp
theorem cmpZ_nonneg {a b : Nat} (h : b ≤ a) : 0 ≤ cmpZ a b := by
  rcases Nat.lt_or_ge b a with h1 | h1
  · rw [cmpZ_gt (by omega)]; decide
  · rw [show a = b by omega, cmpZ_eq]; decide
theorem cmpZ_neg {a b : Nat} (h : a < b) : cmpZ a b < 0 := by rw [cmpZ_lt (by omega)]; decide
theorem digs_mono {a b : Nat} (h : a ≤ b) : (digs a).length ≤ (digs b).length := by
  apply Classical.byContradiction
  intro hn
  have := digs_len_lt (n := b) (m := a) (by omega)
  omega
theorem add_any {w : World} {p q : Option Addr} {n m c d : Nat} (na nb : Bool) (la lb : List Nat) (hn : la.length = n) (hm : lb.length = m) (hn0 : n ≤ 1000000) (hm0 : m ≤ 1000000) (h : LR w p c la) (k : LR w q d lb) :
    Calls Tryd.prog 31 #[.agg #[.bool na, .slice p n c], .agg #[.bool nb, .slice q m d]] w fun e w' => Big e w w' (zv na la + zv nb lb) := by
  subst hn hm
  have Hh := hid h
  have Hk := hid k
  have hla := digs_len_le h.lim
  have hlb := digs_len_le k.lim
  have H := Hp.start [] w
  clear h k
  go_enter Tryd.func31, Tryd.ntmps31
  go_upto_region 1 with (first | refine x_q H ?_ | refine x_cm (fun h => ?_) (fun h => ?_) | (revert H; first | (refine x_g ?_; intro g w1 hg hf H) | (refine x_s ?_; intro w1 hf H); (try clear hf)))
  go_cut [2, 3, 4, 5, 6] (fun s2 s3 s4 s5 s6 wx => ∃ g1 g2 g3 : Nat, s2 = .pointer (some ⟨g1, 0, none⟩) ∧ s3 = .pointer (some ⟨g2, 0, none⟩) ∧ s4 = .pointer (some ⟨g3, 0, none⟩) ∧ s5 = .slice p (digs (val la)).length c ∧ s6 = .slice q (digs (val lb)).length d ∧ Hp [] w wx [.blk g3 [.bool false, .slice none 0 0] 24, .blk g2 [.bool nb, .slice q lb.length d] 24, .blk g1 [.bool na, .slice p la.length c] 24])
  case first =>
    (revert H; refine w_p 8 (.st 0 (.st 1 (.st 3 (.st 4 (.ld 2 (.ld 5 (.st 6 (.st 7 .done)))))))) ?_; intro w1 H)
    iterate 4 refine p_q ?_
    ((refine p_c H rfl rfl Tryd.func49 (trim_any la rfl (Hh.out.fr H.fr)) ?_; clear H; rintro e w1 ⟨rfl, hF⟩ H; refine p_r ?_); skip)
    ((refine p_c H rfl rfl Tryd.func49 (trim_any lb rfl (Hk.out.fr H.fr)) ?_; clear H; rintro e w1 ⟨rfl, hF⟩ H; refine p_r ?_); skip)
    iterate 2 refine p_q ?_
    (refine pl_done ?_)
    all_goals
      go_wp2_with (first | refine x_q H ?_ | refine x_cm (fun h => ?_) (fun h => ?_) | (revert H; first | (refine x_g ?_; intro g w1 hg hf H) | (refine x_s ?_; intro w1 hf H); (try clear hf)))
      go_meet
      case rel => exact ⟨_, _, _, rfl, rfl, rfl, rfl, rfl, H⟩
  case rest =>
    clear H
    obtain ⟨g1, g2, g3, rfl, rfl, rfl, rfl, rfl, H⟩ := hcut
    have hA := hid (Hh.out.trim)
    have hB := hid (Hk.out.trim)
    cases na <;> cases nb
    · go_wp2_with (first | refine x_q H ?_ | refine x_cm (fun h => ?_) (fun h => ?_) | (revert H; first | (refine x_g ?_; intro g w1 hg hf H) | (refine x_s ?_; intro w1 hf H); (try clear hf)))
      (revert H; refine w_p 6 (.st 0 (.st 1 (.st 2 (.st 3 (.ld 4 (.ld 5 (.ld 6 .done))))))) ?_; intro w1 H)
      iterate 4 refine p_q ?_
      ((refine p_c H rfl rfl Tryd.func51 (plus_any (digs (val la)) (digs (val lb)) rfl rfl (by omega) (by omega) (hA.out.fr H.fr) (hB.out.fr H.fr)) ?_; clear H; rintro e w1 ⟨p5, c5, rfl, hF, hL⟩ H; refine p_r ?_); have HL5 := hid hL; clear hL)
      ((refine p_c H rfl rfl Tryd.func53 (big_any false _ rfl HL5.out) ?_; clear H; rintro e w1 ⟨p6, c6, rfl, hF, hL⟩ H; refine p_r ?_); have HL6 := hid hL; clear hL)
      (revert H; refine p_s2 ?_; intro w1 hf H hk; have hk2 := hid hk; clear hk; (try clear hf))
      (refine pl_done ?_)
      all_goals
        go_wp2_with (first | refine x_q H ?_ | refine x_cm (fun h => ?_) (fun h => ?_) | (revert H; first | (refine x_g ?_; intro g w1 hg hf H) | (refine x_s ?_; intro w1 hf H); (try clear hf)))
        refine c_post H rfl rfl rfl ?_
        have hz : zv false (digs (val (digs (val la)) + val (digs (val lb)))) = zv false la + zv false lb := (by rw [val_digs, val_digs]; exact zv_plus _ la lb)
        rw [hz] at HL6
        refine ⟨p6, c6, ?_, H.fr, hk2.out _ _ _ HL6.out⟩
        rw [hz]
    · rcases Nat.lt_or_ge (val la) (val lb) with hlt | hge
      · have hc := cmpZ_neg hlt
        have hlen := digs_mono (Nat.le_of_lt hlt)
        have hlt := hid hlt
        go_wp2_with (first | refine x_q H ?_ | refine x_cm (fun h => ?_) (fun h => ?_) | (revert H; first | (refine x_g ?_; intro g w1 hg hf H) | (refine x_s ?_; intro w1 hf H); (try clear hf)))
        (refine x_c H (compare_any (val la) (val lb) rfl rfl (hA.out.fr H.fr) (hB.out.fr H.fr)) ?_; clear H; rintro e w1 ⟨rfl, hF⟩ H)
        generalize cmpZ (val la) (val lb) = z at hc ⊢
        go_wp2_with (first | refine x_q H ?_ | refine x_cm (fun h => ?_) (fun h => ?_) | (revert H; first | (refine x_g ?_; intro g w1 hg hf H) | (refine x_s ?_; intro w1 hf H); (try clear hf)))
        (revert H; refine w_p 6 (.st 0 (.st 1 (.st 2 (.st 3 (.ld 4 (.ld 5 (.ld 6 .done))))))) ?_; intro w1 H)
        iterate 4 refine p_q ?_
        ((refine p_c H rfl rfl Tryd.func52 (minus_any (digs (val lb)) (digs (val la)) rfl rfl hlen (by omega) (by rw [val_digs, val_digs]; exact Nat.le_of_lt hlt.out) (hB.out.fr H.fr) (hA.out.fr H.fr)) ?_; clear H; rintro e w1 ⟨p5, c5, rfl, hF, hL⟩ H; refine p_r ?_); have HL5 := hid hL; clear hL)
        ((refine p_c H rfl rfl Tryd.func53 (big_any true _ rfl HL5.out) ?_; clear H; rintro e w1 ⟨p6, c6, rfl, hF, hL⟩ H; refine p_r ?_); have HL6 := hid hL; clear hL)
        (revert H; refine p_s2 ?_; intro w1 hf H hk; have hk2 := hid hk; clear hk; (try clear hf))
        (refine pl_done ?_)
        all_goals
          go_wp2_with (first | refine x_q H ?_ | refine x_cm (fun h => ?_) (fun h => ?_) | (revert H; first | (refine x_g ?_; intro g w1 hg hf H) | (refine x_s ?_; intro w1 hf H); (try clear hf)))
          refine c_post H rfl rfl rfl ?_
          have hz : zv true (digs (val (digs (val lb)) - val (digs (val la)))) = zv false la + zv true lb := (by rw [val_digs, val_digs]; exact zv_minus2 (by decide) (Nat.le_of_lt hlt.out))
          rw [hz] at HL6
          refine ⟨p6, c6, ?_, H.fr, hk2.out _ _ _ HL6.out⟩
          rw [hz]
      · have hc := cmpZ_nonneg hge
        have hlen := digs_mono hge
        have hge := hid hge
        go_wp2_with (first | refine x_q H ?_ | refine x_cm (fun h => ?_) (fun h => ?_) | (revert H; first | (refine x_g ?_; intro g w1 hg hf H) | (refine x_s ?_; intro w1 hf H); (try clear hf)))
        (refine x_c H (compare_any (val la) (val lb) rfl rfl (hA.out.fr H.fr) (hB.out.fr H.fr)) ?_; clear H; rintro e w1 ⟨rfl, hF⟩ H)
        generalize cmpZ (val la) (val lb) = z at hc ⊢
        go_wp2_with (first | refine x_q H ?_ | refine x_cm (fun h => ?_) (fun h => ?_) | (revert H; first | (refine x_g ?_; intro g w1 hg hf H) | (refine x_s ?_; intro w1 hf H); (try clear hf)))
        (revert H; refine w_p 6 (.st 0 (.st 1 (.st 2 (.st 3 (.ld 4 (.ld 5 (.ld 6 .done))))))) ?_; intro w1 H)
        iterate 4 refine p_q ?_
        ((refine p_c H rfl rfl Tryd.func52 (minus_any (digs (val la)) (digs (val lb)) rfl rfl hlen (by omega) (by rw [val_digs, val_digs]; exact hge.out) (hA.out.fr H.fr) (hB.out.fr H.fr)) ?_; clear H; rintro e w1 ⟨p5, c5, rfl, hF, hL⟩ H; refine p_r ?_); have HL5 := hid hL; clear hL)
        ((refine p_c H rfl rfl Tryd.func53 (big_any false _ rfl HL5.out) ?_; clear H; rintro e w1 ⟨p6, c6, rfl, hF, hL⟩ H; refine p_r ?_); have HL6 := hid hL; clear hL)
        (revert H; refine p_s2 ?_; intro w1 hf H hk; have hk2 := hid hk; clear hk; (try clear hf))
        (refine pl_done ?_)
        all_goals
          go_wp2_with (first | refine x_q H ?_ | refine x_cm (fun h => ?_) (fun h => ?_) | (revert H; first | (refine x_g ?_; intro g w1 hg hf H) | (refine x_s ?_; intro w1 hf H); (try clear hf)))
          refine c_post H rfl rfl rfl ?_
          have hz : zv false (digs (val (digs (val la)) - val (digs (val lb)))) = zv false la + zv true lb := (by rw [val_digs, val_digs]; exact zv_minus1 (by decide) hge.out)
          rw [hz] at HL6
          refine ⟨p6, c6, ?_, H.fr, hk2.out _ _ _ HL6.out⟩
          rw [hz]
    · rcases Nat.lt_or_ge (val la) (val lb) with hlt | hge
      · have hc := cmpZ_neg hlt
        have hlen := digs_mono (Nat.le_of_lt hlt)
        have hlt := hid hlt
        go_wp2_with (first | refine x_q H ?_ | refine x_cm (fun h => ?_) (fun h => ?_) | (revert H; first | (refine x_g ?_; intro g w1 hg hf H) | (refine x_s ?_; intro w1 hf H); (try clear hf)))
        (refine x_c H (compare_any (val la) (val lb) rfl rfl (hA.out.fr H.fr) (hB.out.fr H.fr)) ?_; clear H; rintro e w1 ⟨rfl, hF⟩ H)
        generalize cmpZ (val la) (val lb) = z at hc ⊢
        go_wp2_with (first | refine x_q H ?_ | refine x_cm (fun h => ?_) (fun h => ?_) | (revert H; first | (refine x_g ?_; intro g w1 hg hf H) | (refine x_s ?_; intro w1 hf H); (try clear hf)))
        (revert H; refine w_p 6 (.st 0 (.st 1 (.st 2 (.st 3 (.ld 4 (.ld 5 (.ld 6 .done))))))) ?_; intro w1 H)
        iterate 4 refine p_q ?_
        ((refine p_c H rfl rfl Tryd.func52 (minus_any (digs (val lb)) (digs (val la)) rfl rfl hlen (by omega) (by rw [val_digs, val_digs]; exact Nat.le_of_lt hlt.out) (hB.out.fr H.fr) (hA.out.fr H.fr)) ?_; clear H; rintro e w1 ⟨p5, c5, rfl, hF, hL⟩ H; refine p_r ?_); have HL5 := hid hL; clear hL)
        ((refine p_c H rfl rfl Tryd.func53 (big_any false _ rfl HL5.out) ?_; clear H; rintro e w1 ⟨p6, c6, rfl, hF, hL⟩ H; refine p_r ?_); have HL6 := hid hL; clear hL)
        (revert H; refine p_s2 ?_; intro w1 hf H hk; have hk2 := hid hk; clear hk; (try clear hf))
        (refine pl_done ?_)
        all_goals
          go_wp2_with (first | refine x_q H ?_ | refine x_cm (fun h => ?_) (fun h => ?_) | (revert H; first | (refine x_g ?_; intro g w1 hg hf H) | (refine x_s ?_; intro w1 hf H); (try clear hf)))
          refine c_post H rfl rfl rfl ?_
          have hz : zv false (digs (val (digs (val lb)) - val (digs (val la)))) = zv true la + zv false lb := (by rw [val_digs, val_digs]; exact zv_minus2 (by decide) (Nat.le_of_lt hlt.out))
          rw [hz] at HL6
          refine ⟨p6, c6, ?_, H.fr, hk2.out _ _ _ HL6.out⟩
          rw [hz]
      · have hc := cmpZ_nonneg hge
        have hlen := digs_mono hge
        have hge := hid hge
        go_wp2_with (first | refine x_q H ?_ | refine x_cm (fun h => ?_) (fun h => ?_) | (revert H; first | (refine x_g ?_; intro g w1 hg hf H) | (refine x_s ?_; intro w1 hf H); (try clear hf)))
        (refine x_c H (compare_any (val la) (val lb) rfl rfl (hA.out.fr H.fr) (hB.out.fr H.fr)) ?_; clear H; rintro e w1 ⟨rfl, hF⟩ H)
        generalize cmpZ (val la) (val lb) = z at hc ⊢
        go_wp2_with (first | refine x_q H ?_ | refine x_cm (fun h => ?_) (fun h => ?_) | (revert H; first | (refine x_g ?_; intro g w1 hg hf H) | (refine x_s ?_; intro w1 hf H); (try clear hf)))
        (revert H; refine w_p 6 (.st 0 (.st 1 (.st 2 (.st 3 (.ld 4 (.ld 5 (.ld 6 .done))))))) ?_; intro w1 H)
        iterate 4 refine p_q ?_
        ((refine p_c H rfl rfl Tryd.func52 (minus_any (digs (val la)) (digs (val lb)) rfl rfl hlen (by omega) (by rw [val_digs, val_digs]; exact hge.out) (hA.out.fr H.fr) (hB.out.fr H.fr)) ?_; clear H; rintro e w1 ⟨p5, c5, rfl, hF, hL⟩ H; refine p_r ?_); have HL5 := hid hL; clear hL)
        ((refine p_c H rfl rfl Tryd.func53 (big_any true _ rfl HL5.out) ?_; clear H; rintro e w1 ⟨p6, c6, rfl, hF, hL⟩ H; refine p_r ?_); have HL6 := hid hL; clear hL)
        (revert H; refine p_s2 ?_; intro w1 hf H hk; have hk2 := hid hk; clear hk; (try clear hf))
        (refine pl_done ?_)
        all_goals
          go_wp2_with (first | refine x_q H ?_ | refine x_cm (fun h => ?_) (fun h => ?_) | (revert H; first | (refine x_g ?_; intro g w1 hg hf H) | (refine x_s ?_; intro w1 hf H); (try clear hf)))
          refine c_post H rfl rfl rfl ?_
          have hz : zv true (digs (val (digs (val la)) - val (digs (val lb)))) = zv true la + zv false lb := (by rw [val_digs, val_digs]; exact zv_minus1 (by decide) hge.out)
          rw [hz] at HL6
          refine ⟨p6, c6, ?_, H.fr, hk2.out _ _ _ HL6.out⟩
          rw [hz]
    · go_wp2_with (first | refine x_q H ?_ | refine x_cm (fun h => ?_) (fun h => ?_) | (revert H; first | (refine x_g ?_; intro g w1 hg hf H) | (refine x_s ?_; intro w1 hf H); (try clear hf)))
      (revert H; refine w_p 6 (.st 0 (.st 1 (.st 2 (.st 3 (.ld 4 (.ld 5 (.ld 6 .done))))))) ?_; intro w1 H)
      iterate 4 refine p_q ?_
      ((refine p_c H rfl rfl Tryd.func51 (plus_any (digs (val la)) (digs (val lb)) rfl rfl (by omega) (by omega) (hA.out.fr H.fr) (hB.out.fr H.fr)) ?_; clear H; rintro e w1 ⟨p5, c5, rfl, hF, hL⟩ H; refine p_r ?_); have HL5 := hid hL; clear hL)
      ((refine p_c H rfl rfl Tryd.func53 (big_any true _ rfl HL5.out) ?_; clear H; rintro e w1 ⟨p6, c6, rfl, hF, hL⟩ H; refine p_r ?_); have HL6 := hid hL; clear hL)
      (revert H; refine p_s2 ?_; intro w1 hf H hk; have hk2 := hid hk; clear hk; (try clear hf))
      (refine pl_done ?_)
      all_goals
        go_wp2_with (first | refine x_q H ?_ | refine x_cm (fun h => ?_) (fun h => ?_) | (revert H; first | (refine x_g ?_; intro g w1 hg hf H) | (refine x_s ?_; intro w1 hf H); (try clear hf)))
        refine c_post H rfl rfl rfl ?_
        have hz : zv true (digs (val (digs (val la)) + val (digs (val lb)))) = zv true la + zv true lb := (by rw [val_digs, val_digs]; exact zv_plus _ la lb)
        rw [hz] at HL6
        refine ⟨p6, c6, ?_, H.fr, hk2.out _ _ _ HL6.out⟩
        rw [hz]
end Go.Proofs.YtpmebjhlgdhchaaDoor
