/-
  The document's integers: GCD.
-/
import Derived.Test.YtpmebjhlgdhchaaDoorIz6
import Derived.Deep.LoopGhost
namespace Go.Proofs.YtpmebjhlgdhchaaDoor
open Go.RowKit
set_option linter.unusedSimpArgs false
set_option linter.unusedVariables false
set_option maxHeartbeats 4000000
set_option maxRecDepth 100000

theorem Bv.mono {w : World} {v : Value} {z : Int} {n m : Nat} (h : Bv w v z n) (hm : n ≤ m) : Bv w v z m := ⟨h.1, Nat.le_trans h.2 hm⟩
theorem rsign_is0 {w : World} {u : Value} {x : Int} {n : Nat} (h : Av w u x n) (hn : n ≤ 200000) (hx : x = 0) :
    Calls Tryd.prog 15 #[u] w fun e w' => e = .returned (.int .i64 0) ∧ Fr [] w w' := by
  subst hx
  exact rsign_ar h hn
theorem rsign_pos {w : World} {u : Value} {x : Int} {n : Nat} (h : Av w u x n) (hn : n ≤ 200000) (hx : 0 < x) :
    Calls Tryd.prog 15 #[u] w fun e w' => ∃ s : Int, e = .returned (.int .i64 s) ∧ 0 < s ∧ Fr [] w w' :=
  Calls.mono (rsign_ar h hn) (fun e w' hb => ⟨_, hb.1, sign_pos0 hx, hb.2⟩)
set_option maxHeartbeats 16000000 in
theorem rgcd_ar {w : World} {u v : Value} {x y : Int} {n m : Nat} (h : Av w u x n) (k : Av w v y m) (hn : n ≤ 50000) (hm : m ≤ 50000) :
    Calls Tryd.prog 14 #[u, v] w fun e w' => ∃ v1, e = .returned v1 ∧ Fr [] w w' ∧ Bv w' v1 ((Nat.gcd x.natAbs y.natAbs : Nat) : Int) (n + m) := by
  obtain ⟨b1, p1, m1, c1, rfl⟩ := h.form
  obtain ⟨b2, p2, m2, c2, rfl⟩ := k.form
  have HA1 := hid h
  have HA2 := hid k
  clear h k
  have H := Hp.start [] w
  go_enter Tryd.func14, Tryd.ntmps14
  go_upto_region 1 with (first | refine x_q H ?_ | refine x_cm (fun h => ?_) (fun h => ?_) | (revert H; (first | (refine x_g ?_; intro g w1 hg hf H) | (refine x_s ?_; intro w1 hf H)); (first | replace hf := hf.kp | clear hf)))
  go_cut [2, 3, 4, 5, 6] (fun s2 s3 s4 s5 s6 wx => ∃ (g4 g5 g6 : Nat) (b5 : Bool) (p5 : Option Addr) (m5 c5 : Nat) (b6 : Bool) (p6 : Option Addr) (m6 c6 : Nat), s4 = .pointer (some ⟨g4, 0, none⟩) ∧ s5 = .pointer (some ⟨g5, 0, none⟩) ∧ s6 = .pointer (some ⟨g6, 0, none⟩) ∧ Hid (Bv wx (.agg #[.bool b5, .slice p5 m5 c5]) (x.natAbs : Int) n) ∧ Hid (Bv wx (.agg #[.bool b6, .slice p6 m6 c6]) (y.natAbs : Int) m) ∧ Hp [] w wx [.blk g6 [.bool b6, .slice p6 m6 c6] 24, .blk g5 [.bool b5, .slice p5 m5 c5] 24, .blk g4 [.bool false, .slice none 0 0] 24])
  case first =>
    (revert H; refine w_pF 6 (.st 0 (.st 2 (.ld3 1 (.ld3 3 (.ld2 4 (.ld 5 (.ldf 6 (.ld 7 .done))) 5 (.ld 4 (.ldf 6 (.ld 7 .done)))) 4 (.ld2 3 (.ld 5 (.ldf 6 (.ld 7 .done))) 5 (.ld 3 (.ldf 6 (.ld 7 .done)))) 5 (.ld2 3 (.ld 4 (.ldf 6 (.ld 7 .done))) 4 (.ld 3 (.ldf 6 (.ld 7 .done))))) 4 (.ld2 1 (.ld2 3 (.ld 5 (.ldf 6 (.ld 7 .done))) 5 (.ld 3 (.ldf 6 (.ld 7 .done)))) 5 (.ld 1 (.ld 3 (.ldf 6 (.ld 7 .done))))) 5 (.ld2 1 (.ld2 3 (.ld 4 (.ldf 6 (.ld 7 .done))) 4 (.ld 3 (.ldf 6 (.ld 7 .done)))) 4 (.ld 1 (.ld 3 (.ldf 6 (.ld 7 .done)))))))) ?_; intro w1 hf H; (first | replace hf := hf.kp | clear hf))
    iterate 2 refine p_q ?_
    (refine pl_ld3 ?_ ?_ ?_)
    ((refine p_c H rfl rfl Tryd.func30 (rabs_ar (av HA1) (by omega)) ?_; clear H; rintro e w1 ⟨v3, rfl, hF, hB⟩ H; refine p_r ?_; replace hF := hF.kp); obtain ⟨b3, p3, m3, c3, rfl⟩ := hB.form; have HB3 := hid hB; clear hB)
    (refine pl_ld3 ?_ ?_ ?_)
    ((refine p_c H rfl rfl Tryd.func30 (rabs_ar (av HA2) (by omega)) ?_; clear H; rintro e w1 ⟨v4, rfl, hF, hB⟩ H; refine p_r ?_; replace hF := hF.kp); obtain ⟨b4, p4, m4, c4, rfl⟩ := hB.form; have HB4 := hid hB; clear hB)
    (refine pl_ld2 ?_ ?_)
    (revert H; refine p_g ?_; intro g w1 hg hf H; (first | replace hf := hf.kp | clear hf))
    (revert H; refine p_g ?_; intro g w1 hg hf H; (first | replace hf := hf.kp | clear hf))
    (revert H; refine p_s2f ?_; intro w1 hf H hk; clear hf; change Kp _ _ at hk)
    (revert H; refine p_s2 ?_; intro w1 hf H hk; clear hf; change Kp _ _ at hk)
    (refine pl_done ?_)
    rotate_left
    (revert H; refine p_g ?_; intro g w1 hg hf H; (first | replace hf := hf.kp | clear hf))
    (revert H; refine p_g ?_; intro g w1 hg hf H; (first | replace hf := hf.kp | clear hf))
    (revert H; refine p_s2f ?_; intro w1 hf H hk; clear hf; change Kp _ _ at hk)
    (revert H; refine p_s2 ?_; intro w1 hf H hk; clear hf; change Kp _ _ at hk)
    (refine pl_done ?_)
    rotate_left
    (revert H; refine p_g ?_; intro g w1 hg hf H; (first | replace hf := hf.kp | clear hf))
    (refine pl_ld2 ?_ ?_)
    ((refine p_c H rfl rfl Tryd.func30 (rabs_ar (av HA2) (by omega)) ?_; clear H; rintro e w1 ⟨v4, rfl, hF, hB⟩ H; refine p_r ?_; replace hF := hF.kp); obtain ⟨b4, p4, m4, c4, rfl⟩ := hB.form; have HB4 := hid hB; clear hB)
    (revert H; refine p_g ?_; intro g w1 hg hf H; (first | replace hf := hf.kp | clear hf))
    (revert H; refine p_s2f ?_; intro w1 hf H hk; clear hf; change Kp _ _ at hk)
    (revert H; refine p_s2 ?_; intro w1 hf H hk; clear hf; change Kp _ _ at hk)
    (refine pl_done ?_)
    rotate_left
    (revert H; refine p_g ?_; intro g w1 hg hf H; (first | replace hf := hf.kp | clear hf))
    ((refine p_c H rfl rfl Tryd.func30 (rabs_ar (av HA2) (by omega)) ?_; clear H; rintro e w1 ⟨v4, rfl, hF, hB⟩ H; refine p_r ?_; replace hF := hF.kp); obtain ⟨b4, p4, m4, c4, rfl⟩ := hB.form; have HB4 := hid hB; clear hB)
    (revert H; refine p_s2f ?_; intro w1 hf H hk; clear hf; change Kp _ _ at hk)
    (revert H; refine p_s2 ?_; intro w1 hf H hk; clear hf; change Kp _ _ at hk)
    (refine pl_done ?_)
    rotate_left
    (revert H; refine p_g ?_; intro g w1 hg hf H; (first | replace hf := hf.kp | clear hf))
    (refine pl_ld2 ?_ ?_)
    ((refine p_c H rfl rfl Tryd.func30 (rabs_ar (av HA2) (by omega)) ?_; clear H; rintro e w1 ⟨v4, rfl, hF, hB⟩ H; refine p_r ?_; replace hF := hF.kp); obtain ⟨b4, p4, m4, c4, rfl⟩ := hB.form; have HB4 := hid hB; clear hB)
    (revert H; refine p_g ?_; intro g w1 hg hf H; (first | replace hf := hf.kp | clear hf))
    (revert H; refine p_s2f ?_; intro w1 hf H hk; clear hf; change Kp _ _ at hk)
    (revert H; refine p_s2 ?_; intro w1 hf H hk; clear hf; change Kp _ _ at hk)
    (refine pl_done ?_)
    rotate_left
    (revert H; refine p_g ?_; intro g w1 hg hf H; (first | replace hf := hf.kp | clear hf))
    ((refine p_c H rfl rfl Tryd.func30 (rabs_ar (av HA2) (by omega)) ?_; clear H; rintro e w1 ⟨v4, rfl, hF, hB⟩ H; refine p_r ?_; replace hF := hF.kp); obtain ⟨b4, p4, m4, c4, rfl⟩ := hB.form; have HB4 := hid hB; clear hB)
    (revert H; refine p_s2f ?_; intro w1 hf H hk; clear hf; change Kp _ _ at hk)
    (revert H; refine p_s2 ?_; intro w1 hf H hk; clear hf; change Kp _ _ at hk)
    (refine pl_done ?_)
    rotate_left
    (revert H; refine p_g ?_; intro g w1 hg hf H; (first | replace hf := hf.kp | clear hf))
    (refine pl_ld2 ?_ ?_)
    ((refine p_c H rfl rfl Tryd.func30 (rabs_ar (av HA1) (by omega)) ?_; clear H; rintro e w1 ⟨v3, rfl, hF, hB⟩ H; refine p_r ?_; replace hF := hF.kp); obtain ⟨b3, p3, m3, c3, rfl⟩ := hB.form; have HB3 := hid hB; clear hB)
    (refine pl_ld2 ?_ ?_)
    ((refine p_c H rfl rfl Tryd.func30 (rabs_ar (av HA2) (by omega)) ?_; clear H; rintro e w1 ⟨v4, rfl, hF, hB⟩ H; refine p_r ?_; replace hF := hF.kp); obtain ⟨b4, p4, m4, c4, rfl⟩ := hB.form; have HB4 := hid hB; clear hB)
    (revert H; refine p_g ?_; intro g w1 hg hf H; (first | replace hf := hf.kp | clear hf))
    (revert H; refine p_s2f ?_; intro w1 hf H hk; clear hf; change Kp _ _ at hk)
    (revert H; refine p_s2 ?_; intro w1 hf H hk; clear hf; change Kp _ _ at hk)
    (refine pl_done ?_)
    rotate_left
    (revert H; refine p_g ?_; intro g w1 hg hf H; (first | replace hf := hf.kp | clear hf))
    ((refine p_c H rfl rfl Tryd.func30 (rabs_ar (av HA2) (by omega)) ?_; clear H; rintro e w1 ⟨v4, rfl, hF, hB⟩ H; refine p_r ?_; replace hF := hF.kp); obtain ⟨b4, p4, m4, c4, rfl⟩ := hB.form; have HB4 := hid hB; clear hB)
    (revert H; refine p_s2f ?_; intro w1 hf H hk; clear hf; change Kp _ _ at hk)
    (revert H; refine p_s2 ?_; intro w1 hf H hk; clear hf; change Kp _ _ at hk)
    (refine pl_done ?_)
    rotate_left
    (revert H; refine p_g ?_; intro g w1 hg hf H; (first | replace hf := hf.kp | clear hf))
    ((refine p_c H rfl rfl Tryd.func30 (rabs_ar (av HA1) (by omega)) ?_; clear H; rintro e w1 ⟨v3, rfl, hF, hB⟩ H; refine p_r ?_; replace hF := hF.kp); obtain ⟨b3, p3, m3, c3, rfl⟩ := hB.form; have HB3 := hid hB; clear hB)
    ((refine p_c H rfl rfl Tryd.func30 (rabs_ar (av HA2) (by omega)) ?_; clear H; rintro e w1 ⟨v4, rfl, hF, hB⟩ H; refine p_r ?_; replace hF := hF.kp); obtain ⟨b4, p4, m4, c4, rfl⟩ := hB.form; have HB4 := hid hB; clear hB)
    (revert H; refine p_s2f ?_; intro w1 hf H hk; clear hf; change Kp _ _ at hk)
    (revert H; refine p_s2 ?_; intro w1 hf H hk; clear hf; change Kp _ _ at hk)
    (refine pl_done ?_)
    rotate_left
    (revert H; refine p_g ?_; intro g w1 hg hf H; (first | replace hf := hf.kp | clear hf))
    (refine pl_ld2 ?_ ?_)
    ((refine p_c H rfl rfl Tryd.func30 (rabs_ar (av HA1) (by omega)) ?_; clear H; rintro e w1 ⟨v3, rfl, hF, hB⟩ H; refine p_r ?_; replace hF := hF.kp); obtain ⟨b3, p3, m3, c3, rfl⟩ := hB.form; have HB3 := hid hB; clear hB)
    (refine pl_ld2 ?_ ?_)
    ((refine p_c H rfl rfl Tryd.func30 (rabs_ar (av HA2) (by omega)) ?_; clear H; rintro e w1 ⟨v4, rfl, hF, hB⟩ H; refine p_r ?_; replace hF := hF.kp); obtain ⟨b4, p4, m4, c4, rfl⟩ := hB.form; have HB4 := hid hB; clear hB)
    (revert H; refine p_g ?_; intro g w1 hg hf H; (first | replace hf := hf.kp | clear hf))
    (revert H; refine p_s2f ?_; intro w1 hf H hk; clear hf; change Kp _ _ at hk)
    (revert H; refine p_s2 ?_; intro w1 hf H hk; clear hf; change Kp _ _ at hk)
    (refine pl_done ?_)
    rotate_left
    (revert H; refine p_g ?_; intro g w1 hg hf H; (first | replace hf := hf.kp | clear hf))
    ((refine p_c H rfl rfl Tryd.func30 (rabs_ar (av HA2) (by omega)) ?_; clear H; rintro e w1 ⟨v4, rfl, hF, hB⟩ H; refine p_r ?_; replace hF := hF.kp); obtain ⟨b4, p4, m4, c4, rfl⟩ := hB.form; have HB4 := hid hB; clear hB)
    (revert H; refine p_s2f ?_; intro w1 hf H hk; clear hf; change Kp _ _ at hk)
    (revert H; refine p_s2 ?_; intro w1 hf H hk; clear hf; change Kp _ _ at hk)
    (refine pl_done ?_)
    rotate_left
    (revert H; refine p_g ?_; intro g w1 hg hf H; (first | replace hf := hf.kp | clear hf))
    ((refine p_c H rfl rfl Tryd.func30 (rabs_ar (av HA1) (by omega)) ?_; clear H; rintro e w1 ⟨v3, rfl, hF, hB⟩ H; refine p_r ?_; replace hF := hF.kp); obtain ⟨b3, p3, m3, c3, rfl⟩ := hB.form; have HB3 := hid hB; clear hB)
    ((refine p_c H rfl rfl Tryd.func30 (rabs_ar (av HA2) (by omega)) ?_; clear H; rintro e w1 ⟨v4, rfl, hF, hB⟩ H; refine p_r ?_; replace hF := hF.kp); obtain ⟨b4, p4, m4, c4, rfl⟩ := hB.form; have HB4 := hid hB; clear hB)
    (revert H; refine p_s2f ?_; intro w1 hf H hk; clear hf; change Kp _ _ at hk)
    (revert H; refine p_s2 ?_; intro w1 hf H hk; clear hf; change Kp _ _ at hk)
    (refine pl_done ?_)
    rotate_left
    all_goals
      go_wp2_with (first | refine x_q H ?_ | refine x_cm (fun h => ?_) (fun h => ?_) | (revert H; (first | (refine x_g ?_; intro g w1 hg hf H) | (refine x_s ?_; intro w1 hf H)); (first | replace hf := hf.kp | clear hf)))
      go_meet
      case rel => exact ⟨_, _, _, _, _, _, _, _, _, _, _, rfl, rfl, rfl, hid (bv HB3), hid (bv HB4), by (refine Hp.arr H ?_; repeat (first | exact Pm.nil _ | (apply Pm.cons; · (repeat first | exact Rm.here _ | apply Rm.there))))⟩
  case rest =>
    clear H HA1 HA2
    obtain ⟨g4, g5, g6, b5, p5, m5, c5, b6, p6, m6, c6, rfl, rfl, rfl, HB3, HB4, H⟩ := hcut
    have HB5 := hid (HB3.out.mono (show n ≤ n + m by omega))
    have HB6 := hid (HB4.out.mono (show m ≤ n + m by omega))
    clear HB3 HB4
    go_wp2_with (first | refine x_q H ?_ | refine x_cm (fun h => ?_) (fun h => ?_) | (revert H; (first | (refine x_g ?_; intro g w1 hg hf H) | (refine x_s ?_; intro w1 hf H)); (first | replace hf := hf.kp | clear hf)))
    go_loopg [7] y.natAbs (fun kk s7 wr => ∃ (X : Nat) (b5 : Bool) (p5 : Option Addr) (m5 c5 : Nat) (b6 : Bool) (p6 : Option Addr) (m6 c6 : Nat), Hid (Bv wr (.agg #[.bool b5, .slice p5 m5 c5]) (X : Int) (n + m)) ∧ Hid (Bv wr (.agg #[.bool b6, .slice p6 m6 c6]) (kk : Int) (n + m)) ∧ Hid (Nat.gcd X kk = Nat.gcd x.natAbs y.natAbs) ∧ Hp [] w wr [.blk g6 [.bool b6, .slice p6 m6 c6] 24, .blk g5 [.bool b5, .slice p5 m5 c5] 24, .blk g4 [.bool false, .slice none 0 0] 24])
    case atStart => exact ⟨x.natAbs, _, _, _, _, _, _, _, _, hid (bv HB5), hid (bv HB6), hid rfl, H⟩
    case round =>
      clear H HB5 HB6
      obtain ⟨X, b5, p5, m5, c5, b6, p6, m6, c6, HB5, HB6, HG, H⟩ := hrel
      by_cases h0 : gk = 0
      · have hX : Hid ((X : Int) = ((Nat.gcd x.natAbs y.natAbs : Nat) : Int)) := hid (by rw [← HG.out, h0, Nat.gcd_zero_right])
        have h0' := hid (show (gk : Int) = 0 by omega)
        clear h0
        go_wp2_with (first | refine x_q H ?_ | refine x_cm (fun h => ?_) (fun h => ?_) | (revert H; (first | (refine x_g ?_; intro g w1 hg hf H) | (refine x_s ?_; intro w1 hf H)); (first | replace hf := hf.kp | clear hf)))
        (refine x_c H (rsign_is0 (bv HB6).ar (by omega) h0'.out) ?_; clear H; rintro e w1 ⟨rfl, hF⟩ H; replace hF := hF.kp; skip)
        go_wp2_with (first | refine x_q H ?_ | refine x_cm (fun h => ?_) (fun h => ?_) | (revert H; refine x_s2 ?_; intro w1 hf H hk; clear hf; change Kp _ _ at hk) | (revert H; (first | (refine x_g ?_; intro g w1 hg hf H) | (refine x_s ?_; intro w1 hf H)); (first | replace hf := hf.kp | clear hf)))
        refine c_post H rfl rfl rfl ?_
        rw [hX.out] at HB5
        exact ⟨_, rfl, H.fr, bv HB5⟩
      · have hlt := hid (Nat.mod_lt X (Nat.pos_of_ne_zero h0))
        have hp := hid (show (0 : Int) < (gk : Int) by omega)
        have hne := hid (show (gk : Int) ≠ 0 by omega)
        clear h0
        go_wp2_with (first | refine x_q H ?_ | refine x_cm (fun h => ?_) (fun h => ?_) | (revert H; (first | (refine x_g ?_; intro g w1 hg hf H) | (refine x_s ?_; intro w1 hf H)); (first | replace hf := hf.kp | clear hf)))
        (refine x_c H (rsign_pos (bv HB6).ar (by omega) hp.out) ?_; clear H; rintro e w1 ⟨s, rfl, hs, hF⟩ H; replace hF := hF.kp; skip)
        go_wp2_with (first | refine x_q H ?_ | refine x_cm (fun h => ?_) (fun h => ?_) | (revert H; (first | (refine x_g ?_; intro g w1 hg hf H) | (refine x_s ?_; intro w1 hf H)); (first | replace hf := hf.kp | clear hf)))
        (refine x_c H (rdivMod_ar (bv HB5).ar (bv HB6).ar (by omega) (by omega) hne.out) ?_; clear H; rintro e w1 ⟨v7, v8, rfl, hF, hB, hB'⟩ H; replace hF := hF.kp; obtain ⟨b7, p7, m7, c7, rfl⟩ := hB.form; have HB7 := hid hB; clear hB; have hB := hB'; clear hB'; obtain ⟨b8, p8, m8, c8, rfl⟩ := hB.form; have HB8 := hid hB; clear hB)
        go_wp2_with (first | refine x_q H ?_ | refine x_cm (fun h => ?_) (fun h => ?_) | (revert H; refine x_s2 ?_; intro w1 hf H hk; clear hf; change Kp _ _ at hk) | (revert H; (first | (refine x_g ?_; intro g w1 hg hf H) | (refine x_s ?_; intro w1 hf H)); (first | replace hf := hf.kp | clear hf)))
        (revert H; refine w_pF 3 (.st 0 (.st 1 (.ld 2 (.ld 3 .done)))) ?_ (hs := (List.Sublist.cons_cons _ (List.Sublist.cons _ (List.Sublist.cons_cons _ (List.nil_sublist _))))); intro w1 hf H; (first | replace hf := hf.kp | clear hf))
        iterate 2 refine p_q ?_
        (revert H; refine p_s2 ?_; intro w1 hf H hk; clear hf; change Kp _ _ at hk)
        (revert H; refine p_s2 ?_; intro w1 hf H hk; clear hf; change Kp _ _ at hk)
        (refine pl_done ?_)
        all_goals
          go_wp2_with (first | refine x_q H ?_ | refine x_cm (fun h => ?_) (fun h => ?_) | (revert H; (first | (refine x_g ?_; intro g w1 hg hf H) | (refine x_s ?_; intro w1 hf H)); (first | replace hf := hf.kp | clear hf)))
          rw [← Int.natCast_emod] at HB8
          go_roundg (X % gk)
          case measure => exact hlt.out
          case rel => exact ⟨gk, _, _, _, _, _, _, _, _, hid (bv HB6), hid (bv HB8), hid (by rw [gcd_next]; exact HG.out), by (refine Hp.arr H ?_; repeat (first | exact Pm.nil _ | (apply Pm.cons; · (repeat first | exact Rm.here _ | apply Rm.there))))⟩
end Go.Proofs.YtpmebjhlgdhchaaDoor
