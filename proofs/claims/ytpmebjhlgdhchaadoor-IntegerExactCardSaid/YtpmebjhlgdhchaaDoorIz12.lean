/-
  The law's own copy of an integer: TwinBig.
-/
import Derived.Test.YtpmebjhlgdhchaaDoorIz6
namespace Go.Proofs.YtpmebjhlgdhchaaDoor
open Go.RowKit
set_option linter.unusedSimpArgs false
set_option linter.unusedVariables false
set_option maxHeartbeats 8000000
set_option maxRecDepth 100000
theorem twin_any {w : World} {p : Option Addr} {n c : Nat} (neg : Bool) (l : List Nat) (hl : l.length = n) (hn : n ≤ 100000) (h : LR w p c l) :
    Calls Tryd.prog 17 #[.agg #[.bool neg, .slice p n c]] w fun e w' => ∃ p' c', e = .returned (.agg #[.bool neg, .slice p' n c']) ∧ Fr [] w w' ∧ LR w' p' c' l := by
  subst hl
  have Hh := hid h
  clear h
  have H := (Hp.start [] w).newRow 0 (e := 54) (sz := 1)
  go_enter Tryd.func17, Tryd.ntmps17
  go_wp2_with (first | refine x_q H ?_ | refine x_cm (fun h => ?_) (fun h => ?_) | (revert H; refine x_s2 ?_; intro w1 hf H hk; clear hf hk) | (revert H; (first | (refine x_g ?_; intro g w1 hg hf H) | (refine x_s ?_; intro w1 hf H)); clear hf))
  rename_i g1 wa hg1 g2 wb hg2 wc K0 hK0
  go_loopw [4] (fun s4 wr => ∃ (i : Nat) (pv : Value) (S : List Nat), i ≤ l.length ∧ s4 = .int .i64 (i : Int) ∧ Hp [] w wr [.blk g [.bool neg, pv] 24, .blk g2 [.bool false, .slice none 0 0] 24, .blk g1 [.bool neg, .slice p l.length c] 24, .obj 0 S (RowAt 54 1 pv i (limbs (l.take i)) S)]) (fun v _ => l.length - (intOf v).toNat)
  case atStart => exact ⟨0, _, _, Nat.zero_le _, rfl, H⟩
  case round =>
    clear H
    obtain ⟨i, pv, S, hi, rfl, H⟩ := hrel
    obtain ⟨p5, c5, he, _, hc5, _⟩ := (H.rowo 0).form
    unfold maxLen at hc5
    subst he
    by_cases hin : i < l.length
    · obtain ⟨x, hx⟩ : ∃ x, l[i]? = some x := ⟨_, List.getElem?_eq_getElem hin⟩
      have hxv := limbs_at hx
      have Htk : Hid (limbs (l.take i) ++ [.int .u32 (x : Int)] = limbs (l.take (i + 1))) := hid (by rw [List.take_add_one, hx]; simp [limbs])
      clear hx
      obtain ⟨b0, off, rfl, hb0, hcell⟩ := Hh.out.rd.rng (limbs_ne (i := i) hin)
      have H1 := H.pushRng (b := b0) (off := off) hb0 (by simp) hcell
      clear H hcell
      have H := H1
      clear H1
      go_wp2_with (first | refine x_q H ?_ | refine x_cm (fun h => ?_) (fun h => ?_) | (revert H; (first | (refine x_g ?_; intro g w1 hg hf H) | (refine x_s ?_; intro w1 hf H)); clear hf))
      (revert H; refine w_p 10 (.st 0 (.st 1 (.st 2 (.st 3 (.st 4 (.st 5 (.st 6 (.ld 7 (.ld 8 (.st 9 (.ld 10 .done))))))))))) ?_ (hs := (List.Sublist.cons_cons _ (List.Sublist.cons_cons _ (List.Sublist.cons_cons _ (List.Sublist.cons_cons _ (List.nil_sublist _)))))); intro w1 H)
      iterate 7 refine p_q ?_
      (revert H; refine p_g ?_; intro g w1 hg hf H; clear hf)
      (go_loud (refine pl_rw rfl rfl (fun K hK => c_aprS H rfl rfl rfl 0 (H.rd (b := g) (off := 0) (vs := [.int .u32 (x : Int)]) List.prefix_rfl) rfl (by intro u hu; simp only [List.mem_singleton] at hu; subst hu; rfl) (by omega) (by unfold maxLen; omega) (fun p1 c1 w1 S' hf H1 => hK _ _ (fun hne => by first | exact absurd rfl hne | exact trivial | exact H1.sub (by repeat first | exact List.Sublist.refl _ | exact List.nil_sublist _ | apply List.Sublist.cons_cons | apply List.Sublist.cons)) ?_))); (clear hK K); (clear H; have H := H1; clear H1; (try dsimp only at H); clear hf); (simp only [nrm, ↓reduceIte, Nat.reduceAdd]))
      refine p_q ?_
      (revert H; refine p_s ?_; intro w1 hf H; clear hf)
      (refine pl_done ?_)
      all_goals
        simp only [nrm] at H
        rw [Htk.out] at H
        go_wp2_with (first | refine x_q H ?_ | refine x_cm (fun h => ?_) (fun h => ?_) | (revert H; (first | (refine x_g ?_; intro g w1 hg hf H) | (refine x_s ?_; intro w1 hf H)); clear hf))
        go_roundw
        case rel => exact ⟨i + 1, _, _, by omega, by go_num, by (refine Hp.arr H ?_; repeat (first | exact Pm.nil _ | (apply Pm.cons; · (repeat first | exact Rm.here _ | apply Rm.there))))⟩
        case measure => (simp [intOf]; try omega)
    · have hii : l.take i = l := List.take_of_length_le (by omega)
      have hil : i = l.length := by omega
      rw [hii] at H
      clear hii
      go_wp2_with (first | refine x_q H ?_ | refine x_cm (fun h => ?_) (fun h => ?_) | (revert H; refine x_s2 ?_; intro w1 hf H hk; clear hf hk) | (revert H; (first | (refine x_g ?_; intro g w1 hg hf H) | (refine x_s ?_; intro w1 hf H)); clear hf))
      obtain ⟨p6, c6, e6, e7, hL⟩ := LR.of_row (H.rowo 0) Hh.out.lim
      injection e6 with e61 e62 e63
      subst e61 e63
      refine c_post H rfl rfl rfl ?_
      exact ⟨_, _, by rw [e62], H.fr, hL⟩
end Go.Proofs.YtpmebjhlgdhchaaDoor
