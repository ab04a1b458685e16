/-
  The integers: the square root.
-/
import Derived.Test.YtalfhcndglbjhaaDoorIw29
namespace Go.Proofs.YtalfhcndglbjhaaDoor
open Go.RowKit
set_option linter.unusedSimpArgs false
set_option linter.unusedVariables false
theorem root_len {a k n : Nat} (hn : (digs a).length = n) (hn1 : 1 ≤ n) (hk : k ≤ 2 ^ ((bl a + 1) / 2)) : (digs k).length ≤ n + 1 := by
  apply digs_len_of
  have h1 : bl a ≤ 32 * n := bl_le (by have := digs_lt a; rwa [hn, powB] at this)
  have h2 : 2 ^ ((bl a + 1) / 2) ≤ 2 ^ (32 * n) := Nat.pow_le_pow_right (by decide) (by omega)
  have h3 : 2 ^ (32 * n) < 4294967296 ^ (n + 1) := by
    rw [powB]; exact Nat.pow_lt_pow_right (by decide) (by omega)
  exact Nat.lt_of_le_of_lt (Nat.le_trans hk h2) h3
theorem root_bl {a n : Nat} (hn : (digs a).length = n) : bl a ≤ 32 * n := bl_le (by have := digs_lt a; rwa [hn, powB] at this)
set_option maxHeartbeats 8000000 in
set_option maxRecDepth 100000 in
theorem root_any {w : World} {p : Option Addr} {n c : Nat} (A r : Nat) (hn : (digs A).length = n) (hn0 : n ≤ 400000) (hr : IsRoot A r) (h : LR w p c (digs A)) :
    Calls Tryd.prog 75 #[.slice p n c] w fun e w' => ∃ p1 c1, e = .returned (.slice p1 (digs r).length c1) ∧ Fr [] w w' ∧ LR w' p1 c1 (digs r) := by
  have Hh := hid h
  have Hn := hid hn
  have HR := hid hr
  have H := Hp.start [] w
  have hbl := root_bl hn
  by_cases h0 : n ≤ 0
  · have e : A = 0 := digs_zero_len (by omega)
    have e2 : r = 0 := by
      have h1 := hr.1
      rcases Nat.eq_zero_or_pos r with h2 | h2
      · exact h2
      · have : 1 * 1 ≤ r * r := Nat.mul_le_mul h2 h2
        omega
    have E2 := hid e2
    clear h hn hr e e2
    go_enter Tryd.func75, Tryd.ntmps75
    go_wp2_with (first | ((first | (refine is_cmp rfl rfl ?_; first | (refine wl_ev rfl (by first | exact ev_cmpT rfl rfl rfl rfl | exact ev_cmpF rfl rfl rfl rfl) ?_) | (refine wl_cmp rfl rfl rfl rfl rfl (fun h => ?_) (fun h => ?_) <;> (simp only [cmpP] at h))) | (refine is_bin (op := .quo) rfl ?_; refine wl_ev rfl (ev_quo rfl rfl rfl) ?_)    ) <;> (simp only [nrm, ↓reduceIte, Nat.reduceAdd])) | ((first | (refine is_buildSlice rfl ?_; first | (refine wl_rw rfl (fun K hK => c_s1t H rfl rfl rfl (h := (fun g w1 hg hf H1 => hK _ _ ?_)))) | (refine wl_rw rfl (fun K hK => c_s1c H rfl rfl (h := (fun g w1 hg hf H1 => hK _ _ ?_)))))   ); (clear hK K); (clear H; have H := H1; clear H1; (try dsimp only at H); (try (have hfk := hid hf; clear hf))); (simp only [nrm, ↓reduceIte, Nat.reduceAdd])))
    go_ret
    exact ⟨none, 0, by rw [E2.out, digs_zero]; rfl, H.fr, by rw [E2.out, digs_zero]; exact LR.zero _⟩
  · have hA0 : A ≠ 0 := fun e => by rw [e, digs_zero] at hn; simp at hn; omega
    have hr1 : 1 ≤ r := root_le hr (by omega)
    have hn1 : 1 ≤ n := by omega
    have hst := hid (root_start hr)
    have hlen0 := root_len hn hn1 (Nat.le_refl _)
    clear h hn hr h0
    have HA0 := hid hA0
    clear hA0
    go_enter Tryd.func75, Tryd.ntmps75
    go_wp2_with (first | ((first | (refine is_cmp rfl rfl ?_; first | (refine wl_ev rfl (by first | exact ev_cmpT rfl rfl rfl rfl | exact ev_cmpF rfl rfl rfl rfl) ?_) | (refine wl_cmp rfl rfl rfl rfl rfl (fun h => ?_) (fun h => ?_) <;> (simp only [cmpP] at h))) | (refine is_bin (op := .quo) rfl ?_; refine wl_ev rfl (ev_quo rfl rfl rfl) ?_)    ) <;> (simp only [nrm, ↓reduceIte, Nat.reduceAdd])) | ((first | (refine is_buildSlice rfl ?_; first | (refine wl_rw rfl (fun K hK => c_s1t H rfl rfl rfl (h := (fun g w1 hg hf H1 => hK _ _ ?_)))) | (refine wl_rw rfl (fun K hK => c_s1c H rfl rfl (h := (fun g w1 hg hf H1 => hK _ _ ?_)))))   ); (clear hK K); (clear H; have H := H1; clear H1; (try dsimp only at H); (try (have hfk := hid hf; clear hf))); (simp only [nrm, ↓reduceIte, Nat.reduceAdd])) | (refine is_buildSlice rfl ?_; refine wl_rw rfl (fun K hK => c_sN H rfl (by repeat first | exact .nil _ | apply Parts.tmp (by rfl) (by rfl) | apply Parts.con (by rfl)) rfl (by intro c hc; simp only [List.mem_cons, List.not_mem_nil, or_false] at hc; (try (rcases hc with rfl | rfl | rfl | rfl | rfl | rfl | rfl | rfl <;> rfl))) (by decide) (by decide) (fun g w1 hg hf H1 => hK _ _ ?_)); (clear hK K); (clear H; have H := H1; clear H1; (try dsimp only at H); (try (have hfk := hid hf; clear hf))); (simp only [nrm, ↓reduceIte, Nat.reduceAdd])))
    have HO := hid (LR.of_blk (l := [1]) (c := 1) (pad := []) (by have := H.at g; simpa [limbs] using this) (Lim.cons (by decide) Lim.nil) (by simp) (by unfold maxLen; omega))
    (refine Calls.mono (length_any A Hn.out (by omega) (Hh.out.fr H.fr)) ?_; rintro e w1 ⟨rfl, hF⟩; replace HO := hid (HO.out.fr hF); have H1 := H.step hF (by simp); clear H; have H := H1; clear H1)
    go_wp2_with (first | ((first | (refine is_cmp rfl rfl ?_; first | (refine wl_ev rfl (by first | exact ev_cmpT rfl rfl rfl rfl | exact ev_cmpF rfl rfl rfl rfl) ?_) | (refine wl_cmp rfl rfl rfl rfl rfl (fun h => ?_) (fun h => ?_) <;> (simp only [cmpP] at h))) | (refine is_bin (op := .quo) rfl ?_; refine wl_ev rfl (ev_quo rfl rfl rfl) ?_)    ) <;> (simp only [nrm, ↓reduceIte, Nat.reduceAdd])) | ((first | (refine is_buildSlice rfl ?_; first | (refine wl_rw rfl (fun K hK => c_s1t H rfl rfl rfl (h := (fun g w1 hg hf H1 => hK _ _ ?_)))) | (refine wl_rw rfl (fun K hK => c_s1c H rfl rfl (h := (fun g w1 hg hf H1 => hK _ _ ?_)))))   ); (clear hK K); (clear H; have H := H1; clear H1; (try dsimp only at H); (try (have hfk := hid hf; clear hf))); (simp only [nrm, ↓reduceIte, Nat.reduceAdd])))
    rw [show ((bl A : Int) + 1) / 2 = (((bl A + 1) / 2 : Nat) : Int) by omega]
    (refine Calls.mono (up_any [1] ((bl A + 1) / 2) rfl (by simp) (by omega) HO.out) ?_; rintro e w1 ⟨p1, c1, rfl, hF, hL⟩; have HL1 := hid hL; clear hL HO; have H1 := H.step hF (by simp); clear H; have H := H1; clear H1)
    rw [val_one, Nat.one_mul] at HL1 ⊢
    go_wp2_with (first | ((first | (refine is_cmp rfl rfl ?_; first | (refine wl_ev rfl (by first | exact ev_cmpT rfl rfl rfl rfl | exact ev_cmpF rfl rfl rfl rfl) ?_) | (refine wl_cmp rfl rfl rfl rfl rfl (fun h => ?_) (fun h => ?_) <;> (simp only [cmpP] at h))) | (refine is_bin (op := .quo) rfl ?_; refine wl_ev rfl (ev_quo rfl rfl rfl) ?_)    ) <;> (simp only [nrm, ↓reduceIte, Nat.reduceAdd])) | ((first | (refine is_buildSlice rfl ?_; first | (refine wl_rw rfl (fun K hK => c_s1t H rfl rfl rfl (h := (fun g w1 hg hf H1 => hK _ _ ?_)))) | (refine wl_rw rfl (fun K hK => c_s1c H rfl rfl (h := (fun g w1 hg hf H1 => hK _ _ ?_)))))   ); (clear hK K); (clear H; have H := H1; clear H1; (try dsimp only at H); (try (have hfk := hid hf; clear hf))); (simp only [nrm, ↓reduceIte, Nat.reduceAdd])))
    go_loopg [3] (2 ^ ((bl A + 1) / 2)) (fun kk s3 wr => ∃ (p1 : Option Addr) (c1 : Nat), s3 = .slice p1 (digs kk).length c1 ∧ Hid (LR wr p1 c1 (digs kk)) ∧ r ≤ kk ∧ (digs kk).length ≤ n + 1 ∧ Hp [] w wr [])
    case atStart => exact ⟨p1, c1, rfl, HL1, hst.out, hlen0, H.sub (by repeat first | exact List.Sublist.refl _ | exact List.nil_sublist _ | apply List.Sublist.cons_cons | apply List.Sublist.cons)⟩
    case round =>
      clear H HL1 hlen0
      obtain ⟨p1, c1, rfl, HL1, hrk, hkl, H⟩ := hrel
      have hk0 : gk ≠ 0 := by omega
      have Hk0 := hid hk0
      clear hk0
      have hq1 := digs_mono (Nat.div_le_self A gk)
      rw [Hn.out] at hq1
      go_wp2_with (first | ((first | (refine is_cmp rfl rfl ?_; first | (refine wl_ev rfl (by first | exact ev_cmpT rfl rfl rfl rfl | exact ev_cmpF rfl rfl rfl rfl) ?_) | (refine wl_cmp rfl rfl rfl rfl rfl (fun h => ?_) (fun h => ?_) <;> (simp only [cmpP] at h))) | (refine is_bin (op := .quo) rfl ?_; refine wl_ev rfl (ev_quo rfl rfl rfl) ?_)    ) <;> (simp only [nrm, ↓reduceIte, Nat.reduceAdd])) | ((first | (refine is_buildSlice rfl ?_; first | (refine wl_rw rfl (fun K hK => c_s1t H rfl rfl rfl (h := (fun g w1 hg hf H1 => hK _ _ ?_)))) | (refine wl_rw rfl (fun K hK => c_s1c H rfl rfl (h := (fun g w1 hg hf H1 => hK _ _ ?_)))))   ); (clear hK K); (clear H; have H := H1; clear H1; (try dsimp only at H); (try (have hfk := hid hf; clear hf))); (simp only [nrm, ↓reduceIte, Nat.reduceAdd])))
      (refine Calls.mono (divide_any A gk Hn.out rfl hn0 Hk0.out (Hh.out.fr H.fr) HL1.out) ?_; rintro e w1 ⟨p2, c2, p3, c3, rfl, hF, hL1, hL2⟩; have HL2 := hid hL1; replace HL1 := hid (HL1.out.fr hF); clear hL1 hL2; have H1 := H.step hF (by simp); clear H; have H := H1; clear H1)
      go_wp2_with (first | ((first | (refine is_cmp rfl rfl ?_; first | (refine wl_ev rfl (by first | exact ev_cmpT rfl rfl rfl rfl | exact ev_cmpF rfl rfl rfl rfl) ?_) | (refine wl_cmp rfl rfl rfl rfl rfl (fun h => ?_) (fun h => ?_) <;> (simp only [cmpP] at h))) | (refine is_bin (op := .quo) rfl ?_; refine wl_ev rfl (ev_quo rfl rfl rfl) ?_)    ) <;> (simp only [nrm, ↓reduceIte, Nat.reduceAdd])) | ((first | (refine is_buildSlice rfl ?_; first | (refine wl_rw rfl (fun K hK => c_s1t H rfl rfl rfl (h := (fun g w1 hg hf H1 => hK _ _ ?_)))) | (refine wl_rw rfl (fun K hK => c_s1c H rfl rfl (h := (fun g w1 hg hf H1 => hK _ _ ?_)))))   ); (clear hK K); (clear H; have H := H1; clear H1; (try dsimp only at H); (try (have hfk := hid hf; clear hf))); (simp only [nrm, ↓reduceIte, Nat.reduceAdd])))
      (refine Calls.mono (plus_any (digs gk) (digs (A / gk)) rfl rfl (by omega) (by omega) HL1.out HL2.out) ?_; rintro e w1 ⟨p4, c4, rfl, hF, hL⟩; have HL4 := hid hL; replace HL1 := hid (HL1.out.fr hF); clear hL; have H1 := H.step hF (by simp); clear H; have H := H1; clear H1)
      rw [val_digs, val_digs] at HL4 ⊢
      have hs1 : (digs (gk + A / gk)).length ≤ 2000000 := by
        have := digs_two (digs_lim gk) (digs_lim (A / gk)) (x := gk + A / gk) (by rw [val_digs, val_digs]; exact Nat.le_refl _)
        omega
      go_wp2_with (first | ((first | (refine is_cmp rfl rfl ?_; first | (refine wl_ev rfl (by first | exact ev_cmpT rfl rfl rfl rfl | exact ev_cmpF rfl rfl rfl rfl) ?_) | (refine wl_cmp rfl rfl rfl rfl rfl (fun h => ?_) (fun h => ?_) <;> (simp only [cmpP] at h))) | (refine is_bin (op := .quo) rfl ?_; refine wl_ev rfl (ev_quo rfl rfl rfl) ?_)    ) <;> (simp only [nrm, ↓reduceIte, Nat.reduceAdd])) | ((first | (refine is_buildSlice rfl ?_; first | (refine wl_rw rfl (fun K hK => c_s1t H rfl rfl rfl (h := (fun g w1 hg hf H1 => hK _ _ ?_)))) | (refine wl_rw rfl (fun K hK => c_s1c H rfl rfl (h := (fun g w1 hg hf H1 => hK _ _ ?_)))))   ); (clear hK K); (clear H; have H := H1; clear H1; (try dsimp only at H); (try (have hfk := hid hf; clear hf))); (simp only [nrm, ↓reduceIte, Nat.reduceAdd])))
      (refine Calls.mono (down_any (gk + A / gk) 1 rfl hs1 (by omega) HL4.out) ?_; rintro e w1 ⟨p5, c5, rfl, hF, hL⟩; have HL5 := hid hL; replace HL1 := hid (HL1.out.fr hF); clear hL; have H1 := H.step hF (by simp); clear H; have H := H1; clear H1)
      rw [show 2 ^ 1 = 2 from rfl] at HL5 ⊢
      obtain ⟨y, hy⟩ : ∃ y, (gk + A / gk) / 2 = y := ⟨_, rfl⟩
      have hry : r ≤ y := by rw [← hy]; exact newton_ge (Nat.pos_of_ne_zero Hk0.out) HR.out.1
      have Hy := hid hy
      rw [hy] at HL5 ⊢
      generalize decide ((gk + A / gk) % 2 ≠ 0) = bb
      clear hy
      go_wp2_with (first | ((first | (refine is_cmp rfl rfl ?_; first | (refine wl_ev rfl (by first | exact ev_cmpT rfl rfl rfl rfl | exact ev_cmpF rfl rfl rfl rfl) ?_) | (refine wl_cmp rfl rfl rfl rfl rfl (fun h => ?_) (fun h => ?_) <;> (simp only [cmpP] at h))) | (refine is_bin (op := .quo) rfl ?_; refine wl_ev rfl (ev_quo rfl rfl rfl) ?_)    ) <;> (simp only [nrm, ↓reduceIte, Nat.reduceAdd])) | ((first | (refine is_buildSlice rfl ?_; first | (refine wl_rw rfl (fun K hK => c_s1t H rfl rfl rfl (h := (fun g w1 hg hf H1 => hK _ _ ?_)))) | (refine wl_rw rfl (fun K hK => c_s1c H rfl rfl (h := (fun g w1 hg hf H1 => hK _ _ ?_)))))   ); (clear hK K); (clear H; have H := H1; clear H1; (try dsimp only at H); (try (have hfk := hid hf; clear hf))); (simp only [nrm, ↓reduceIte, Nat.reduceAdd])))
      (refine Calls.mono (compare_any y gk rfl rfl HL5.out HL1.out) ?_; rintro e w1 ⟨rfl, hF⟩; replace HL1 := hid (HL1.out.fr hF); replace HL5 := hid (HL5.out.fr hF); have H1 := H.step hF (by simp); clear H; have H := H1; clear H1)
      by_cases hge : gk ≤ y
      · have hc := cmpZ_nonneg hge
        have E : Hid (gk = r) := hid (Nat.le_antisymm (root_le HR.out (newton_stop (Nat.pos_of_ne_zero Hk0.out) (by rw [Hy.out]; exact hge))) hrk)
        clear hge
        generalize cmpZ y gk = z at hc ⊢
        go_wp2_with (first | ((first | (refine is_cmp rfl rfl ?_; first | (refine wl_ev rfl (by first | exact ev_cmpT rfl rfl rfl rfl | exact ev_cmpF rfl rfl rfl rfl) ?_) | (refine wl_cmp rfl rfl rfl rfl rfl (fun h => ?_) (fun h => ?_) <;> (simp only [cmpP] at h))) | (refine is_bin (op := .quo) rfl ?_; refine wl_ev rfl (ev_quo rfl rfl rfl) ?_)    ) <;> (simp only [nrm, ↓reduceIte, Nat.reduceAdd])) | ((first | (refine is_buildSlice rfl ?_; first | (refine wl_rw rfl (fun K hK => c_s1t H rfl rfl rfl (h := (fun g w1 hg hf H1 => hK _ _ ?_)))) | (refine wl_rw rfl (fun K hK => c_s1c H rfl rfl (h := (fun g w1 hg hf H1 => hK _ _ ?_)))))   ); (clear hK K); (clear H; have H := H1; clear H1; (try dsimp only at H); (try (have hfk := hid hf; clear hf))); (simp only [nrm, ↓reduceIte, Nat.reduceAdd])))
        go_ret
        exact ⟨p1, c1, by rw [E.out]; rfl, H.fr, by have := HL1.out; rwa [E.out] at this⟩
      · have hc := cmpZ_neg (show y < gk by omega)
        have hyk := digs_mono (show y ≤ gk by omega)
        have hlt := hid (show y < gk by omega)
        clear hge
        generalize cmpZ y gk = z at hc ⊢
        go_wp2_with (first | ((first | (refine is_cmp rfl rfl ?_; first | (refine wl_ev rfl (by first | exact ev_cmpT rfl rfl rfl rfl | exact ev_cmpF rfl rfl rfl rfl) ?_) | (refine wl_cmp rfl rfl rfl rfl rfl (fun h => ?_) (fun h => ?_) <;> (simp only [cmpP] at h))) | (refine is_bin (op := .quo) rfl ?_; refine wl_ev rfl (ev_quo rfl rfl rfl) ?_)    ) <;> (simp only [nrm, ↓reduceIte, Nat.reduceAdd])) | ((first | (refine is_buildSlice rfl ?_; first | (refine wl_rw rfl (fun K hK => c_s1t H rfl rfl rfl (h := (fun g w1 hg hf H1 => hK _ _ ?_)))) | (refine wl_rw rfl (fun K hK => c_s1c H rfl rfl (h := (fun g w1 hg hf H1 => hK _ _ ?_)))))   ); (clear hK K); (clear H; have H := H1; clear H1; (try dsimp only at H); (try (have hfk := hid hf; clear hf))); (simp only [nrm, ↓reduceIte, Nat.reduceAdd])))
        go_roundg y
        case measure => exact hlt.out
        case rel => exact ⟨p5, c5, rfl, HL5, hry, by omega, H⟩
end Go.Proofs.YtalfhcndglbjhaaDoor
