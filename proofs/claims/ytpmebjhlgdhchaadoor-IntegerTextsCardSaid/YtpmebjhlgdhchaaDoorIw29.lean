/-
  The integers: the greatest common divisor.
-/
import Derived.Test.YtpmebjhlgdhchaaDoorIw28
import Derived.Deep.LoopGhost
namespace Go.Proofs.YtpmebjhlgdhchaaDoor
open Go.RowKit
set_option linter.unusedSimpArgs false
set_option linter.unusedVariables false
set_option maxHeartbeats 4000000
set_option maxRecDepth 100000
theorem gcd_next (X Y : Nat) : Nat.gcd Y (X % Y) = Nat.gcd X Y := by
  rw [Nat.gcd_comm Y, ← Nat.gcd_rec, Nat.gcd_comm]
set_option maxHeartbeats 8000000 in
theorem gcd_any {w : World} {p q : Option Addr} {n m c d : Nat} (na nb : Bool) (la lb : List Nat) (hn : la.length = n) (hm : lb.length = m) (hn0 : n ≤ 400000) (hm0 : m ≤ 400000) (h : LR w p c la) (k : LR w q d lb) :
    Calls Tryd.prog 13 #[.agg #[.bool na, .slice p n c], .agg #[.bool nb, .slice q m d]] w fun e w' => Big e w w' ((Nat.gcd (val la) (val lb) : Nat) : Int) := by
  subst hn hm
  have Hh := hid h
  have Hk := hid k
  have hla := digs_len_le h.lim
  have hlb := digs_len_le k.lim
  have H := Hp.start [] w
  have hA := hid (h.trim)
  have hB := hid (k.trim)
  clear h k
  go_enter Tryd.func13, Tryd.ntmps13
  go_upto_region 1 with (first | refine x_q H ?_ | refine x_cm (fun h => ?_) (fun h => ?_) | (revert H; (first | (refine x_g ?_; intro g w1 hg hf H) | (refine x_s ?_; intro w1 hf H)); (try (have hfk := hid hf; clear hf))))
  go_cut [2, 3, 4, 5, 6] (fun s2 s3 s4 s5 s6 wx => ∃ (g3 : Nat) (p1 q1 : Option Addr) (c1 d1 : Nat), s4 = .pointer (some ⟨g3, 0, none⟩) ∧ s5 = .slice p1 (digs (val la)).length c1 ∧ s6 = .slice q1 (digs (val lb)).length d1 ∧ Hid (LR wx p1 c1 (digs (val la))) ∧ Hid (LR wx q1 d1 (digs (val lb))) ∧ Hp [] w wx [.blk g3 [.bool false, .slice none 0 0] 24])
  case first =>
    (revert H; refine w_p 10 (.st 0 (.st 1 (.st 4 (.st 5 (.ld 2 (.ld 3 (.ld 6 (.ld 7 (.st 8 (.st 9 .done)))))))))) ?_; intro w1 H)
    iterate 4 refine p_q ?_
    ((refine p_c H rfl rfl Tryd.func49 (trim_any la rfl (Hh.out.fr H.fr)) ?_; clear H; rintro e w1 ⟨rfl, hF⟩ H; refine p_r ?_); ((try replace HLa := hid (HLa.out.fr hF)); (try replace HLb := hid (HLb.out.fr hF))))
    ((refine p_c H rfl rfl Tryd.func55 (clone_any (digs (val la)) rfl (by omega) (hA.out.fr H.fr)) ?_; clear H; rintro e w1 ⟨p1, c1, rfl, hF, hL⟩ H; refine p_r ?_); ((try replace HLa := hid (HLa.out.fr hF)); (try replace HLb := hid (HLb.out.fr hF))); have HLa := hid hL; clear hL)
    ((refine p_c H rfl rfl Tryd.func49 (trim_any lb rfl (Hk.out.fr H.fr)) ?_; clear H; rintro e w1 ⟨rfl, hF⟩ H; refine p_r ?_); ((try replace HLa := hid (HLa.out.fr hF)); (try replace HLb := hid (HLb.out.fr hF))))
    ((refine p_c H rfl rfl Tryd.func55 (clone_any (digs (val lb)) rfl (by omega) (hB.out.fr H.fr)) ?_; clear H; rintro e w1 ⟨q1, d1, rfl, hF, hL⟩ H; refine p_r ?_); ((try replace HLa := hid (HLa.out.fr hF)); (try replace HLb := hid (HLb.out.fr hF))); have HLb := hid hL; clear hL)
    iterate 2 refine p_q ?_
    (refine pl_done ?_)
    all_goals
      go_wp2_with (first | refine x_q H ?_ | refine x_cm (fun h => ?_) (fun h => ?_) | (revert H; (first | (refine x_g ?_; intro g w1 hg hf H) | (refine x_s ?_; intro w1 hf H)); (try (have hfk := hid hf; clear hf))))
      go_meet
      case rel => exact ⟨_, p1, q1, c1, d1, rfl, rfl, rfl, HLa, HLb, H.sub (by repeat first | exact List.Sublist.refl _ | exact List.nil_sublist _ | apply List.Sublist.cons_cons | apply List.Sublist.cons)⟩
  case rest =>
    clear H
    obtain ⟨g3, p1, q1, c1, d1, rfl, rfl, rfl, HLa, HLb, H⟩ := hcut
    go_wp2_with (first | refine x_q H ?_ | refine x_cm (fun h => ?_) (fun h => ?_) | (revert H; (first | (refine x_g ?_; intro g w1 hg hf H) | (refine x_s ?_; intro w1 hf H)); (try (have hfk := hid hf; clear hf))))
    go_loopg [5, 6] (val lb) (fun kk s5 s6 wr => ∃ (X : Nat) (p1 q1 : Option Addr) (c1 d1 : Nat), s5 = .slice p1 (digs X).length c1 ∧ s6 = .slice q1 (digs kk).length d1 ∧ Hid (LR wr p1 c1 (digs X)) ∧ Hid (LR wr q1 d1 (digs kk)) ∧ Hid (Nat.gcd X kk = Nat.gcd (val la) (val lb)) ∧ (digs X).length ≤ 400000 ∧ (digs kk).length ≤ 400000 ∧ Hp [] w wr [.blk g3 [.bool false, .slice none 0 0] 24])
    case atStart => exact ⟨_, p1, q1, c1, d1, rfl, rfl, HLa, HLb, hid rfl, by omega, by omega, H⟩
    case round =>
      clear H HLa HLb
      obtain ⟨X, p1, q1, c1, d1, rfl, rfl, HLa, HLb, HG, hX, hY, H⟩ := hrel
      by_cases h0 : gk = 0
      · have h0' : (digs gk).length ≤ 0 := by rw [h0, digs_zero]; exact Nat.le_refl _
        have HG2 : Hid (val (digs X) = Nat.gcd (val la) (val lb)) := hid (by rw [val_digs, ← HG.out, h0, Nat.gcd_zero_right])
        clear h0 HG
        go_wp2_with (first | refine x_q H ?_ | refine x_cm (fun h => ?_) (fun h => ?_) | (revert H; (first | (refine x_g ?_; intro g w1 hg hf H) | (refine x_s ?_; intro w1 hf H)); (try (have hfk := hid hf; clear hf))))
        (refine x_c H (big_any false _ rfl HLa.out) ?_; clear H; rintro e w1 ⟨p6, c6, rfl, hF, hL⟩ H; have HL6 := hid hL; clear hL)
        go_wp2_with (first | refine x_q H ?_ | refine x_cm (fun h => ?_) (fun h => ?_) | (revert H; refine x_s2 ?_; intro w1 hf H hk; have hk2 := hid hk; clear hk; (try (have hfk := hid hf; clear hf))) | (revert H; (first | (refine x_g ?_; intro g w1 hg hf H) | (refine x_s ?_; intro w1 hf H)); (try (have hfk := hid hf; clear hf))))
        refine c_post H rfl rfl rfl ?_
        have e1 : zv false (digs X) = ((Nat.gcd (val la) (val lb) : Nat) : Int) := by rw [zv_sg, HG2.out]; rfl
        rw [e1] at HL6
        exact ⟨p6, c6, by rw [e1], H.fr, hk2.out _ _ _ HL6.out⟩
      · have hlen : 0 < (digs gk).length := digs_len_pos h0
        have hlt := hid (Nat.mod_lt X (Nat.pos_of_ne_zero h0))
        have h0 := hid h0
        have hm1 := digs_mono (Nat.le_of_lt hlt.out)
        go_wp2_with (first | refine x_q H ?_ | refine x_cm (fun h => ?_) (fun h => ?_) | (revert H; (first | (refine x_g ?_; intro g w1 hg hf H) | (refine x_s ?_; intro w1 hf H)); (try (have hfk := hid hf; clear hf))))
        (refine x_c H (divide_any X gk rfl rfl hX h0.out HLa.out HLb.out) ?_; clear H; rintro e w1 ⟨p2, c2, p3, c3, rfl, hF, hL1, hL2⟩ H; have HL2 := hid hL2; replace HLb := hid (HLb.out.fr hF); clear hL1 hL2)
        go_wp2_with (first | refine x_q H ?_ | refine x_cm (fun h => ?_) (fun h => ?_) | (revert H; (first | (refine x_g ?_; intro g w1 hg hf H) | (refine x_s ?_; intro w1 hf H)); (try (have hfk := hid hf; clear hf))))
        go_roundg (X % gk)
        case measure => exact hlt.out
        case rel => exact ⟨gk, q1, p3, d1, c3, rfl, rfl, HLb, HL2, hid (by rw [gcd_next]; exact HG.out), hY, by omega, H⟩
end Go.Proofs.YtpmebjhlgdhchaaDoor
