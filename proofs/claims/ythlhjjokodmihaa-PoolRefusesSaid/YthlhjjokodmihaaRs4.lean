/-
  The document's pool: Take, Finish, Fail.
-/
import Derived.Test.YthlhjjokodmihaaRs3
namespace Go.Proofs.Ythlhjjokodmihaa
open Go.RowKit
set_option linter.unusedSimpArgs false
set_option linter.unusedVariables false
theorem Fr.nil {T : List Nat} {w w' : World} (h : Fr [] w w') : Fr T w w' := h.mono (by simp)
theorem rdo_fr {A : DA} {s : PS} {w w1 : World} {l : List Ent} (h : DIn A s w) (H : Hp [] w w1 l) : Fr A.T w w1 ∧ DIn A s w1 := ⟨H.fr.nil, h.fr H.fr (by simp)⟩
set_option maxHeartbeats 4000000 in
set_option maxRecDepth 100000 in
theorem take33_any {A : DA} {s : PS} {w : World} (h : DIn A s w) (J : PJ s) (wi : Int) :
    Calls Try.prog 38 #[.pointer (some ⟨A.b, 0, none⟩), .int .i64 wi] w fun e w' => e = .returned (.tuple #[.int .i64 (take s wi).1.1, .int .i64 (take s wi).1.2]) ∧ Fr A.T w w' ∧ DIn A (take s wi).2 w' := by
  have hk := J.wf.k8
  have hn := J.wf.n
  have hsl := J.wf.sta
  have hll := J.wf.loc
  have hlv := J.wf.liv
  have HJ := hid J
  have Hin := hid h
  clear J h
  rcases bool_cases (isW s wi) with hw | hw
  · obtain ⟨v, rfl, hv⟩ := isW_true hw
    have hvl : v < s.tas.length := by rw [← hlv]; exact get_lt hv
    clear hv
    obtain ⟨x, hx⟩ : ∃ x, s.tas[v]? = some x := ⟨_, List.getElem?_eq_getElem (by omega)⟩
    have hr := runW_at hx
    by_cases hx0 : 0 ≤ x
    · have H := Hin.out.rdo
      have hxv := ints_at hx
      have Ht : Hid (take s v = ((-1, 332), s)) := hid (by unfold take; rw [hw, hr, if_neg (by decide), if_pos hx0])
      have Hw := hid hw
      clear hw hr hx hsl hll hlv
      go_enter Try.func38, Try.ntmps38
      go_wp2_with (first | ((first | (refine is_load rfl ?_; refine wl_ev rfl (by first | exact c_ld H rfl rfl | exact c_ld0 H rfl rfl | exact c_ldz H rfl rfl | exact c_ldr H rfl rfl) ?_) | (refine is_cmp rfl rfl ?_; first | (refine wl_ev rfl (by first | exact ev_cmpT rfl rfl rfl rfl | exact ev_cmpF rfl rfl rfl rfl) ?_) | (refine wl_cmp rfl rfl rfl rfl rfl (fun h => ?_) (fun h => ?_) <;> (simp only [cmpP] at h))) | (refine is_indexAddr rfl ?_; refine wl_ev rfl (c_ix rfl rfl rfl) ?_)) <;> (simp only [nrm, ↓reduceIte, Nat.reduceAdd])) | ((first | (refine is_store rfl ?_; first | (refine wl_rw rfl (fun K hK => c_st H rfl rfl rfl (h := (fun w1 hf H1 => hK _ _ ?_)))) | (refine wl_rw rfl (fun K hK => c_stc H rfl rfl (h := (fun w1 hf H1 => hK _ _ ?_)))))); (clear hK K); (clear H; have H := H1; clear H1; (try dsimp only at H); (try clear hf)); (simp only [nrm, ↓reduceIte, Nat.reduceAdd])))
      (refine Calls.mono (is33_any (Hin.out.fr H.fr (by simp)) HJ.out.wf v) ?_; rintro e w1 ⟨rfl, hF⟩; have H1 := H.step hF (by simp); clear H; have H := H1; clear H1)
      rw [Hw.out]
      go_wp2_with (first | ((first | (refine is_load rfl ?_; refine wl_ev rfl (by first | exact c_ld H rfl rfl | exact c_ld0 H rfl rfl | exact c_ldz H rfl rfl | exact c_ldr H rfl rfl) ?_) | (refine is_cmp rfl rfl ?_; first | (refine wl_ev rfl (by first | exact ev_cmpT rfl rfl rfl rfl | exact ev_cmpF rfl rfl rfl rfl) ?_) | (refine wl_cmp rfl rfl rfl rfl rfl (fun h => ?_) (fun h => ?_) <;> (simp only [cmpP] at h))) | (refine is_indexAddr rfl ?_; refine wl_ev rfl (c_ix rfl rfl rfl) ?_)) <;> (simp only [nrm, ↓reduceIte, Nat.reduceAdd])) | ((first | (refine is_store rfl ?_; first | (refine wl_rw rfl (fun K hK => c_st H rfl rfl rfl (h := (fun w1 hf H1 => hK _ _ ?_)))) | (refine wl_rw rfl (fun K hK => c_stc H rfl rfl (h := (fun w1 hf H1 => hK _ _ ?_)))))); (clear hK K); (clear H; have H := H1; clear H1; (try dsimp only at H); (try clear hf)); (simp only [nrm, ↓reduceIte, Nat.reduceAdd])))
      go_ret2
      exact ⟨by rw [Ht.out]; rfl, by rw [Ht.out]; exact rdo_fr Hin.out H⟩
    · have Ht : Hid (take s v = ((choose s v, 0), if 0 ≤ choose s v then { s with sta := s.sta.set (choose s v).toNat 2, tas := s.tas.set v (choose s v) } else s)) := hid (by unfold take; rw [hw, hr, if_neg (by decide), if_neg hx0, Int.toNat_natCast])
      have Hw := hid hw
      have hc := choose_range s v
      clear hw hr
      rcases hc with hc | ⟨q, hc, hq⟩
      · rw [hc] at Ht
        have H := Hin.out.rdo
        have hxv := ints_at hx
        have Hc := hid hc
        clear hc hx hsl hll hlv
        go_enter Try.func38, Try.ntmps38
        go_wp2_with (first | ((first | (refine is_load rfl ?_; refine wl_ev rfl (by first | exact c_ld H rfl rfl | exact c_ld0 H rfl rfl | exact c_ldz H rfl rfl | exact c_ldr H rfl rfl) ?_) | (refine is_cmp rfl rfl ?_; first | (refine wl_ev rfl (by first | exact ev_cmpT rfl rfl rfl rfl | exact ev_cmpF rfl rfl rfl rfl) ?_) | (refine wl_cmp rfl rfl rfl rfl rfl (fun h => ?_) (fun h => ?_) <;> (simp only [cmpP] at h))) | (refine is_indexAddr rfl ?_; refine wl_ev rfl (c_ix rfl rfl rfl) ?_)) <;> (simp only [nrm, ↓reduceIte, Nat.reduceAdd])) | ((first | (refine is_store rfl ?_; first | (refine wl_rw rfl (fun K hK => c_st H rfl rfl rfl (h := (fun w1 hf H1 => hK _ _ ?_)))) | (refine wl_rw rfl (fun K hK => c_stc H rfl rfl (h := (fun w1 hf H1 => hK _ _ ?_)))))); (clear hK K); (clear H; have H := H1; clear H1; (try dsimp only at H); (try clear hf)); (simp only [nrm, ↓reduceIte, Nat.reduceAdd])))
        (refine Calls.mono (is33_any (Hin.out.fr H.fr (by simp)) HJ.out.wf v) ?_; rintro e w1 ⟨rfl, hF⟩; have H1 := H.step hF (by simp); clear H; have H := H1; clear H1)
        rw [Hw.out]
        go_wp2_with (first | ((first | (refine is_load rfl ?_; refine wl_ev rfl (by first | exact c_ld H rfl rfl | exact c_ld0 H rfl rfl | exact c_ldz H rfl rfl | exact c_ldr H rfl rfl) ?_) | (refine is_cmp rfl rfl ?_; first | (refine wl_ev rfl (by first | exact ev_cmpT rfl rfl rfl rfl | exact ev_cmpF rfl rfl rfl rfl) ?_) | (refine wl_cmp rfl rfl rfl rfl rfl (fun h => ?_) (fun h => ?_) <;> (simp only [cmpP] at h))) | (refine is_indexAddr rfl ?_; refine wl_ev rfl (c_ix rfl rfl rfl) ?_)) <;> (simp only [nrm, ↓reduceIte, Nat.reduceAdd])) | ((first | (refine is_store rfl ?_; first | (refine wl_rw rfl (fun K hK => c_st H rfl rfl rfl (h := (fun w1 hf H1 => hK _ _ ?_)))) | (refine wl_rw rfl (fun K hK => c_stc H rfl rfl (h := (fun w1 hf H1 => hK _ _ ?_)))))); (clear hK K); (clear H; have H := H1; clear H1; (try dsimp only at H); (try clear hf)); (simp only [nrm, ↓reduceIte, Nat.reduceAdd])))
        (refine Calls.mono (which33_any (Hin.out.fr H.fr (by simp)) HJ.out v) ?_; rintro e w1 ⟨rfl, hF⟩; have H1 := H.step hF (by simp); clear H; have H := H1; clear H1)
        rw [Hc.out]
        go_wp2_with (first | ((first | (refine is_load rfl ?_; refine wl_ev rfl (by first | exact c_ld H rfl rfl | exact c_ld0 H rfl rfl | exact c_ldz H rfl rfl | exact c_ldr H rfl rfl) ?_) | (refine is_cmp rfl rfl ?_; first | (refine wl_ev rfl (by first | exact ev_cmpT rfl rfl rfl rfl | exact ev_cmpF rfl rfl rfl rfl) ?_) | (refine wl_cmp rfl rfl rfl rfl rfl (fun h => ?_) (fun h => ?_) <;> (simp only [cmpP] at h))) | (refine is_indexAddr rfl ?_; refine wl_ev rfl (c_ix rfl rfl rfl) ?_)) <;> (simp only [nrm, ↓reduceIte, Nat.reduceAdd])) | ((first | (refine is_store rfl ?_; first | (refine wl_rw rfl (fun K hK => c_st H rfl rfl rfl (h := (fun w1 hf H1 => hK _ _ ?_)))) | (refine wl_rw rfl (fun K hK => c_stc H rfl rfl (h := (fun w1 hf H1 => hK _ _ ?_)))))); (clear hK K); (clear H; have H := H1; clear H1; (try dsimp only at H); (try clear hf)); (simp only [nrm, ↓reduceIte, Nat.reduceAdd])))
        go_ret2
        exact ⟨by rw [Ht.out]; rfl, by rw [Ht.out]; exact rdo_fr Hin.out H⟩
      · obtain ⟨t, ht, h1⟩ := choose_ready HJ.out.wf (w := (v : Int)) (by omega)
        obtain rfl : t = q := by omega
        rw [hc] at Ht
        have Hc := hid hc
        have Hst := hid h1
        have Hsl := hid hsl
        have Hll := hid hll
        obtain ⟨ga, ca, pada, e1, e2, hg, hrow⟩ := Hin.out.row (by omega)
        obtain ⟨padd, padf, padt, padl, H⟩ := Hin.out.wro (ca := ca) e1 hg
        rw [e2] at H
        have hxv := pre_at (pad := padt) (ints_at hx)
        have Hrow := hid hrow
        have hq1 : t < (atW s).length := by rw [atW_len]; exact hq
        have hv1 : v < s.tas.length := by omega
        have He := hid e2
        have Hcl : Hid (∀ w1, Hp A.T w w1 [.rng A.b 0 [.slice (some ⟨A.gp, 0, none⟩) s.par.length A.cp, .slice (some ⟨A.go, 0, none⟩) s.par.length A.co, .slice (some ⟨ga, 0, none⟩) s.par.length ca, .slice (some ⟨A.gd, 0, none⟩) s.par.length A.cd, .slice (some ⟨A.gf, 0, none⟩) s.par.length A.cf, .slice (some ⟨A.gt, 0, none⟩) s.tas.length A.ct, .slice (some ⟨A.gl, 0, none⟩) s.tas.length A.cl], .rng A.gp 0 (ints s.par), .rng A.go 0 (ints s.own), .blk ga (ints (atW s) ++ pada) 3, .blk A.gd (boolsV (doneW s) ++ padd) 4, .blk A.gf (boolsV (failW s) ++ padf) 4, .blk A.gt (ints s.tas ++ padt) 3, .blk A.gl (boolsV s.liv ++ padl) 4] → DIn A s w1) := hid (fun w1 H => Hin.out.cls (H.sub (by repeat first | exact List.Sublist.refl _ | exact List.nil_sublist _ | apply List.Sublist.cons_cons | apply List.Sublist.cons)) rfl rfl rfl (Hrow.out w1 _ (atW_len s) (H.at ga)))
        clear hc ht h1 hx hsl hll hlv hg hrow e1 e2
        go_enter Try.func38, Try.ntmps38
        go_wp2_with (first | ((first | (refine is_load rfl ?_; refine wl_ev rfl (by first | exact c_ld H rfl rfl | exact c_ld0 H rfl rfl | exact c_ldz H rfl rfl | exact c_ldr H rfl rfl) ?_) | (refine is_cmp rfl rfl ?_; first | (refine wl_ev rfl (by first | exact ev_cmpT rfl rfl rfl rfl | exact ev_cmpF rfl rfl rfl rfl) ?_) | (refine wl_cmp rfl rfl rfl rfl rfl (fun h => ?_) (fun h => ?_) <;> (simp only [cmpP] at h))) | (refine is_indexAddr rfl ?_; refine wl_ev rfl (c_ix rfl rfl rfl) ?_)) <;> (simp only [nrm, ↓reduceIte, Nat.reduceAdd])) | ((first | (refine is_store rfl ?_; first | (refine wl_rw rfl (fun K hK => c_st H rfl rfl rfl (h := (fun w1 hf H1 => hK _ _ ?_)))) | (refine wl_rw rfl (fun K hK => c_stc H rfl rfl (h := (fun w1 hf H1 => hK _ _ ?_)))))); (clear hK K); (clear H; have H := H1; clear H1; (try dsimp only at H); (try clear hf)); (simp only [nrm, ↓reduceIte, Nat.reduceAdd])))
        (refine Calls.mono (is33_any (Hcl.out _ H) HJ.out.wf v) ?_; rintro e w1 ⟨rfl, hF⟩; have H1 := H.step hF (by simp); clear H; have H := H1; clear H1)
        rw [Hw.out]
        go_wp2_with (first | ((first | (refine is_load rfl ?_; refine wl_ev rfl (by first | exact c_ld H rfl rfl | exact c_ld0 H rfl rfl | exact c_ldz H rfl rfl | exact c_ldr H rfl rfl) ?_) | (refine is_cmp rfl rfl ?_; first | (refine wl_ev rfl (by first | exact ev_cmpT rfl rfl rfl rfl | exact ev_cmpF rfl rfl rfl rfl) ?_) | (refine wl_cmp rfl rfl rfl rfl rfl (fun h => ?_) (fun h => ?_) <;> (simp only [cmpP] at h))) | (refine is_indexAddr rfl ?_; refine wl_ev rfl (c_ix rfl rfl rfl) ?_)) <;> (simp only [nrm, ↓reduceIte, Nat.reduceAdd])) | ((first | (refine is_store rfl ?_; first | (refine wl_rw rfl (fun K hK => c_st H rfl rfl rfl (h := (fun w1 hf H1 => hK _ _ ?_)))) | (refine wl_rw rfl (fun K hK => c_stc H rfl rfl (h := (fun w1 hf H1 => hK _ _ ?_)))))); (clear hK K); (clear H; have H := H1; clear H1; (try dsimp only at H); (try clear hf)); (simp only [nrm, ↓reduceIte, Nat.reduceAdd])))
        (refine Calls.mono (which33_any (Hcl.out _ H) HJ.out v) ?_; rintro e w1 ⟨rfl, hF⟩; have H1 := H.step hF (by simp); clear H; have H := H1; clear H1)
        rw [Hc.out]
        go_wp2_with (first | ((first | (refine is_load rfl ?_; refine wl_ev rfl (by first | exact c_ld H rfl rfl | exact c_ld0 H rfl rfl | exact c_ldz H rfl rfl | exact c_ldr H rfl rfl) ?_) | (refine is_cmp rfl rfl ?_; first | (refine wl_ev rfl (by first | exact ev_cmpT rfl rfl rfl rfl | exact ev_cmpF rfl rfl rfl rfl) ?_) | (refine wl_cmp rfl rfl rfl rfl rfl (fun h => ?_) (fun h => ?_) <;> (simp only [cmpP] at h))) | (refine is_indexAddr rfl ?_; refine wl_ev rfl (c_ix rfl rfl rfl) ?_)) <;> (simp only [nrm, ↓reduceIte, Nat.reduceAdd])) | ((first | (refine is_store rfl ?_; first | (refine wl_rw rfl (fun K hK => c_st H rfl rfl rfl (h := (fun w1 hf H1 => hK _ _ ?_)))) | (refine wl_rw rfl (fun K hK => c_stc H rfl rfl (h := (fun w1 hf H1 => hK _ _ ?_)))))); (clear hK K); (clear H; have H := H1; clear H1; (try dsimp only at H); (try clear hf)); (simp only [nrm, ↓reduceIte, Nat.reduceAdd])))
        rw [intsP_set _ _ _ _ hq1, intsP_set _ _ _ _ hv1] at H
        go_ret2
        refine ⟨by rw [Ht.out]; rfl, H.fr, ?_⟩
        rw [Ht.out]
        simp only
        rw [if_pos (by omega), Int.toNat_natCast]
        have ed := doneW_keep (s := s) Hst.out (x := 2) rfl s.loc (s.tas.set v t) s.liv
        have ef := failW_keep (s := s) Hst.out (x := 2) rfl s.loc (s.tas.set v t) s.liv
        have ea := atW_sta (s := s) (x := 2) (tas := s.tas.set v t) (liv := s.liv) hq Hsl.out Hll.out (by decide)
        refine Hin.out.cls (s' := ⟨s.par, s.own, s.sta.set t 2, s.loc, s.tas.set v t, s.liv⟩) (padd := padd) (padf := padf) (padt := padt) (padl := padl) ?_ rfl rfl (List.length_set ..) ?_
        · rw [ed, ef]
          exact H.sub (by repeat first | exact List.Sublist.refl _ | exact List.nil_sublist _ | apply List.Sublist.cons_cons | apply List.Sublist.cons)
        · rw [ea]
          exact Hrow.out _ _ (by rw [List.length_set, atW_len]) (H.at ga)
  · have H := Hin.out.rdo
    have Ht : Hid (take s wi = ((-1, 330), s)) := hid (by unfold take; rw [hw, if_pos rfl])
    have Hw := hid hw
    clear hw hsl hll hlv
    go_enter Try.func38, Try.ntmps38
    go_wp2_with (first | ((first | (refine is_load rfl ?_; refine wl_ev rfl (by first | exact c_ld H rfl rfl | exact c_ld0 H rfl rfl | exact c_ldz H rfl rfl | exact c_ldr H rfl rfl) ?_) | (refine is_cmp rfl rfl ?_; first | (refine wl_ev rfl (by first | exact ev_cmpT rfl rfl rfl rfl | exact ev_cmpF rfl rfl rfl rfl) ?_) | (refine wl_cmp rfl rfl rfl rfl rfl (fun h => ?_) (fun h => ?_) <;> (simp only [cmpP] at h))) | (refine is_indexAddr rfl ?_; refine wl_ev rfl (c_ix rfl rfl rfl) ?_)) <;> (simp only [nrm, ↓reduceIte, Nat.reduceAdd])) | ((first | (refine is_store rfl ?_; first | (refine wl_rw rfl (fun K hK => c_st H rfl rfl rfl (h := (fun w1 hf H1 => hK _ _ ?_)))) | (refine wl_rw rfl (fun K hK => c_stc H rfl rfl (h := (fun w1 hf H1 => hK _ _ ?_)))))); (clear hK K); (clear H; have H := H1; clear H1; (try dsimp only at H); (try clear hf)); (simp only [nrm, ↓reduceIte, Nat.reduceAdd])))
    (refine Calls.mono (is33_any (Hin.out.fr H.fr (by simp)) HJ.out.wf wi) ?_; rintro e w1 ⟨rfl, hF⟩; have H1 := H.step hF (by simp); clear H; have H := H1; clear H1)
    rw [Hw.out]
    go_wp2_with (first | ((first | (refine is_load rfl ?_; refine wl_ev rfl (by first | exact c_ld H rfl rfl | exact c_ld0 H rfl rfl | exact c_ldz H rfl rfl | exact c_ldr H rfl rfl) ?_) | (refine is_cmp rfl rfl ?_; first | (refine wl_ev rfl (by first | exact ev_cmpT rfl rfl rfl rfl | exact ev_cmpF rfl rfl rfl rfl) ?_) | (refine wl_cmp rfl rfl rfl rfl rfl (fun h => ?_) (fun h => ?_) <;> (simp only [cmpP] at h))) | (refine is_indexAddr rfl ?_; refine wl_ev rfl (c_ix rfl rfl rfl) ?_)) <;> (simp only [nrm, ↓reduceIte, Nat.reduceAdd])) | ((first | (refine is_store rfl ?_; first | (refine wl_rw rfl (fun K hK => c_st H rfl rfl rfl (h := (fun w1 hf H1 => hK _ _ ?_)))) | (refine wl_rw rfl (fun K hK => c_stc H rfl rfl (h := (fun w1 hf H1 => hK _ _ ?_)))))); (clear hK K); (clear H; have H := H1; clear H1; (try dsimp only at H); (try clear hf)); (simp only [nrm, ↓reduceIte, Nat.reduceAdd])))
    go_ret2
    exact ⟨by rw [Ht.out]; rfl, by rw [Ht.out]; exact rdo_fr Hin.out H⟩
end Go.Proofs.Ythlhjjokodmihaa
