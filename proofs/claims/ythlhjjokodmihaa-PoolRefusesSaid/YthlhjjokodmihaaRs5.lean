/-
  The document's pool: Finish, Fail.
-/
import Derived.Test.YthlhjjokodmihaaRs4
import Derived.Test.YthlhjjokodmihaaRt1
namespace Go.Proofs.Ythlhjjokodmihaa
open Go.RowKit
set_option linter.unusedSimpArgs false
set_option linter.unusedVariables false
theorem PW.endS {s : PS} (J : PW s) (v t : Nat) (x : Int) : PW ⟨s.par, s.own, s.sta.set t x, s.loc, s.tas.set v (-1), s.liv⟩ := J.upd (List.length_set ..) rfl (List.length_set ..) rfl (set_tas J.tas' v (-1) (.inl rfl)) J.live
theorem held_par {s : PS} (J : PJ s) {t p : Nat} {x : Int} (hs : s.sta[t]? = some x) (h3 : x ≠ 3) (hp : s.par[t]? = some (p : Int)) (hpl : p < s.par.length) : s.sta[p]? = some 0 := by
  obtain ⟨y, hy⟩ : ∃ y, s.sta[p]? = some y := ⟨_, List.getElem?_eq_getElem (by rw [J.wf.sta]; exact hpl)⟩
  have hh : held s p = true := (held_iff J.wf).2 ⟨t, (List.getElem?_eq_some_iff.1 hp).1, hp, by rw [hs]; simp [h3]⟩
  by_cases e : y = 0
  · subst e; exact hy
  · have := J.kid p y hy e
    rw [hh] at this; cases this
set_option maxHeartbeats 4000000 in
set_option maxRecDepth 100000 in
theorem finish33_any {A : DA} {s : PS} {w : World} (h : DIn A s w) (J : PJ s) (wi : Int) :
    Calls Try.prog 39 #[.pointer (some ⟨A.b, 0, none⟩), .int .i64 wi] w fun e w' => e = .returned (.tuple #[.int .i64 (endW s wi 3).1.1, .int .i64 (endW s wi 3).1.2]) ∧ Fr A.T w w' ∧ DIn A (endW s wi 3).2 w' := by
  have hk := J.wf.k8
  have hn := J.wf.n
  have hsl := J.wf.sta
  have hll := J.wf.loc
  have hol := J.wf.own
  have hlv := J.wf.liv
  have HJ := hid J
  have Hin := hid h
  clear J h
  rcases bool_cases (isW s wi) with hw | hw
  · obtain ⟨v, rfl, hv⟩ := isW_true hw
    have hvl : v < s.tas.length := by rw [← hlv]; exact get_lt hv
    clear hv
    obtain ⟨x, hx⟩ : ∃ x, s.tas[v]? = some x := ⟨_, List.getElem?_eq_getElem (by omega)⟩
    have hr := runW_at hx
    have hxr := HJ.out.wf.tas' v x hx
    have Hw := hid hw
    have Hr := hid hr
    clear hw hr
    rcases hxr with rfl | ⟨t, rfl, ht⟩
    · have H := Hin.out.rdo
      have hxv := ints_at hx
      have Ht : Hid (endW s v 3 = ((-1, 333), s)) := hid (by unfold endW; rw [Hw.out, Hr.out, if_neg (by decide), if_pos (by decide)])
      clear hx hsl hll hlv hol
      go_enter Try.func39, Try.ntmps39
      go_wp2_with (first | ((first | (refine is_load rfl ?_; refine wl_ev rfl (by first | exact c_ld H rfl rfl | exact c_ld0 H rfl rfl | exact c_ldz H rfl rfl | exact c_ldr H rfl rfl) ?_) | (refine is_cmp rfl rfl ?_; first | (refine wl_ev rfl (by first | exact ev_cmpT rfl rfl rfl rfl | exact ev_cmpF rfl rfl rfl rfl) ?_) | (refine wl_cmp rfl rfl rfl rfl rfl (fun h => ?_) (fun h => ?_) <;> (simp only [cmpP] at h))) | (refine is_indexAddr rfl ?_; refine wl_ev rfl (c_ix rfl rfl rfl) ?_)) <;> (simp only [nrm, ↓reduceIte, Nat.reduceAdd])) | ((first | (refine is_store rfl ?_; first | (refine wl_rw rfl (fun K hK => c_st H rfl rfl rfl (h := (fun w1 hf H1 => hK _ _ ?_)))) | (refine wl_rw rfl (fun K hK => c_stc H rfl rfl (h := (fun w1 hf H1 => hK _ _ ?_)))))); (clear hK K); (clear H; have H := H1; clear H1; (try dsimp only at H); (try clear hf)); (simp only [nrm, ↓reduceIte, Nat.reduceAdd])))
      (refine Calls.mono (is33_any (Hin.out.fr H.fr (by simp)) HJ.out.wf v) ?_; rintro e w1 ⟨rfl, hF⟩; have H1 := H.step hF (by simp); clear H; have H := H1; clear H1)
      rw [Hw.out]
      go_wp2_with (first | ((first | (refine is_load rfl ?_; refine wl_ev rfl (by first | exact c_ld H rfl rfl | exact c_ld0 H rfl rfl | exact c_ldz H rfl rfl | exact c_ldr H rfl rfl) ?_) | (refine is_cmp rfl rfl ?_; first | (refine wl_ev rfl (by first | exact ev_cmpT rfl rfl rfl rfl | exact ev_cmpF rfl rfl rfl rfl) ?_) | (refine wl_cmp rfl rfl rfl rfl rfl (fun h => ?_) (fun h => ?_) <;> (simp only [cmpP] at h))) | (refine is_indexAddr rfl ?_; refine wl_ev rfl (c_ix rfl rfl rfl) ?_)) <;> (simp only [nrm, ↓reduceIte, Nat.reduceAdd])) | ((first | (refine is_store rfl ?_; first | (refine wl_rw rfl (fun K hK => c_st H rfl rfl rfl (h := (fun w1 hf H1 => hK _ _ ?_)))) | (refine wl_rw rfl (fun K hK => c_stc H rfl rfl (h := (fun w1 hf H1 => hK _ _ ?_)))))); (clear hK K); (clear H; have H := H1; clear H1; (try dsimp only at H); (try clear hf)); (simp only [nrm, ↓reduceIte, Nat.reduceAdd])))
      go_ret2
      exact ⟨by rw [Ht.out]; rfl, by rw [Ht.out]; exact rdo_fr Hin.out H⟩
    · have hst := HJ.out.run v t hx
      obtain ⟨p, hp⟩ : ∃ p, s.par[t]? = some p := ⟨_, List.getElem?_eq_getElem ht⟩
      have hpr := HJ.out.wf.par' t p hp
      have hE : ended s v 3 = { s with sta := s.sta.set t 3, tas := s.tas.set v (-1) } := by unfold ended; rw [Hr.out, Int.toNat_natCast, Int.toNat_natCast]
      have Ht : Hid (endW s v 3 = (((t : Int), 0), if 0 ≤ p then release { s with sta := s.sta.set t 3, tas := s.tas.set v (-1) } p.toNat else { s with sta := s.sta.set t 3, tas := s.tas.set v (-1) })) := hid (by unfold endW; rw [Hw.out, Hr.out, if_neg (by decide), if_neg (by omega), Int.toNat_natCast, hp, hE]; rfl)
      have Hwf := hid (HJ.out.wf.endS v t 3)
      have Hst := hid hst
      have Hpp := hid hp
      have Hsl := hid hsl
      have Hll := hid hll
      obtain ⟨ga, ca, pada, e1, e2, hg, hrow⟩ := Hin.out.row (by omega)
      obtain ⟨padd, padf, padt, padl, H⟩ := Hin.out.wro (ca := ca) e1 hg
      rw [e2] at H
      have hxv := pre_at (pad := padt) (ints_at hx)
      have hpv := ints_at hp
      have Hrow := hid hrow
      have ht1 : t < (doneW s).length := by rw [doneW_len]; omega
      have ht2 : t < (failW s).length := by rw [failW_len]; omega
      have hv1 : v < s.tas.length := by omega
      have ht3 : t < s.sta.length := by omega
      have ed : doneW ⟨s.par, s.own, s.sta.set t 3, s.loc, s.tas.set v (-1), s.liv⟩ = (doneW s).set t true := doneW_set s t 3 s.loc (s.tas.set v (-1)) s.liv
      have ef := failW_keep hst (x := 3) rfl s.loc (s.tas.set v (-1)) s.liv
      have ea := atW_off (s := s) (x := 3) (tas := s.tas.set v (-1)) (liv := s.liv) ht hsl hll (by decide) hst (by decide)
      have Hed := hid ed
      have Hef := hid ef
      have Hea := hid ea
      have Hcl : Hid (∀ w1, Hp A.T w w1 [.rng A.b 0 [.slice (some ⟨A.gp, 0, none⟩) s.par.length A.cp, .slice (some ⟨A.go, 0, none⟩) s.par.length A.co, .slice (some ⟨ga, 0, none⟩) s.par.length ca, .slice (some ⟨A.gd, 0, none⟩) s.par.length A.cd, .slice (some ⟨A.gf, 0, none⟩) s.par.length A.cf, .slice (some ⟨A.gt, 0, none⟩) s.tas.length A.ct, .slice (some ⟨A.gl, 0, none⟩) s.tas.length A.cl], .rng A.gp 0 (ints s.par), .rng A.go 0 (ints s.own), .blk ga (ints (atW s) ++ pada) 3, .blk A.gd (boolsV (doneW s) ++ padd) 4, .blk A.gf (boolsV (failW s) ++ padf) 4, .blk A.gt (ints s.tas ++ padt) 3, .blk A.gl (boolsV s.liv ++ padl) 4] → DIn A s w1) := hid (fun w1 H => Hin.out.cls (H.sub (by repeat first | exact List.Sublist.refl _ | exact List.nil_sublist _ | apply List.Sublist.cons_cons | apply List.Sublist.cons)) rfl rfl rfl (Hrow.out w1 _ (atW_len s) (H.at ga)))
      have Hcl1 : Hid (∀ w1, Hp A.T w w1 [.rng A.b 0 [.slice (some ⟨A.gp, 0, none⟩) s.par.length A.cp, .slice (some ⟨A.go, 0, none⟩) s.par.length A.co, .slice (some ⟨ga, 0, none⟩) s.par.length ca, .slice (some ⟨A.gd, 0, none⟩) s.par.length A.cd, .slice (some ⟨A.gf, 0, none⟩) s.par.length A.cf, .slice (some ⟨A.gt, 0, none⟩) s.tas.length A.ct, .slice (some ⟨A.gl, 0, none⟩) s.tas.length A.cl], .rng A.gp 0 (ints s.par), .rng A.go 0 (ints s.own), .blk ga (ints (atW s) ++ pada) 3, .blk A.gd (boolsV ((doneW s).set t true) ++ padd) 4, .blk A.gf (boolsV (failW s) ++ padf) 4, .blk A.gt (ints (s.tas.set v (-1)) ++ padt) 3, .blk A.gl (boolsV s.liv ++ padl) 4] → DIn A ⟨s.par, s.own, s.sta.set t 3, s.loc, s.tas.set v (-1), s.liv⟩ w1) := hid (fun w1 H => Hin.out.cls (s' := ⟨s.par, s.own, s.sta.set t 3, s.loc, s.tas.set v (-1), s.liv⟩) (padd := padd) (padf := padf) (padt := padt) (padl := padl) (by rw [ed, ef]; exact H.sub (by repeat first | exact List.Sublist.refl _ | exact List.nil_sublist _ | apply List.Sublist.cons_cons | apply List.Sublist.cons)) rfl rfl (List.length_set ..) (by rw [ea]; exact Hrow.out w1 _ (atW_len s) (H.at ga)))
      have Hxx := hid hx
      clear hx hp hst hE hg hrow e1 e2 ed ef ea hsl hll
      go_enter Try.func39, Try.ntmps39
      go_wp2_with (first | ((first | (refine is_load rfl ?_; refine wl_ev rfl (by first | exact c_ld H rfl rfl | exact c_ld0 H rfl rfl | exact c_ldz H rfl rfl | exact c_ldr H rfl rfl) ?_) | (refine is_cmp rfl rfl ?_; first | (refine wl_ev rfl (by first | exact ev_cmpT rfl rfl rfl rfl | exact ev_cmpF rfl rfl rfl rfl) ?_) | (refine wl_cmp rfl rfl rfl rfl rfl (fun h => ?_) (fun h => ?_) <;> (simp only [cmpP] at h))) | (refine is_indexAddr rfl ?_; refine wl_ev rfl (c_ix rfl rfl rfl) ?_)) <;> (simp only [nrm, ↓reduceIte, Nat.reduceAdd])) | ((first | (refine is_store rfl ?_; first | (refine wl_rw rfl (fun K hK => c_st H rfl rfl rfl (h := (fun w1 hf H1 => hK _ _ ?_)))) | (refine wl_rw rfl (fun K hK => c_stc H rfl rfl (h := (fun w1 hf H1 => hK _ _ ?_)))))); (clear hK K); (clear H; have H := H1; clear H1; (try dsimp only at H); (try clear hf)); (simp only [nrm, ↓reduceIte, Nat.reduceAdd])))
      (refine Calls.mono (is33_any (Hcl.out _ H) HJ.out.wf v) ?_; rintro e w1 ⟨rfl, hF⟩; have H1 := H.step hF (by simp); clear H; have H := H1; clear H1)
      rw [Hw.out]
      rcases hpr with rfl | ⟨q, rfl, hq1, hq2⟩
      · go_wp2_with (first | ((first | (refine is_load rfl ?_; refine wl_ev rfl (by first | exact c_ld H rfl rfl | exact c_ld0 H rfl rfl | exact c_ldz H rfl rfl | exact c_ldr H rfl rfl) ?_) | (refine is_cmp rfl rfl ?_; first | (refine wl_ev rfl (by first | exact ev_cmpT rfl rfl rfl rfl | exact ev_cmpF rfl rfl rfl rfl) ?_) | (refine wl_cmp rfl rfl rfl rfl rfl (fun h => ?_) (fun h => ?_) <;> (simp only [cmpP] at h))) | (refine is_indexAddr rfl ?_; refine wl_ev rfl (c_ix rfl rfl rfl) ?_)) <;> (simp only [nrm, ↓reduceIte, Nat.reduceAdd])) | ((first | (refine is_store rfl ?_; first | (refine wl_rw rfl (fun K hK => c_st H rfl rfl rfl (h := (fun w1 hf H1 => hK _ _ ?_)))) | (refine wl_rw rfl (fun K hK => c_stc H rfl rfl (h := (fun w1 hf H1 => hK _ _ ?_)))))); (clear hK K); (clear H; have H := H1; clear H1; (try dsimp only at H); (try clear hf)); (simp only [nrm, ↓reduceIte, Nat.reduceAdd])))
        rw [intsP_set _ _ _ _ hv1, boolsP_set _ _ _ _ ht1] at H
        go_ret2
        exact ⟨by rw [Ht.out]; rfl, H.fr, by rw [Ht.out]; exact Hcl1.out _ H⟩
      · have hs0 := hid (held_par HJ.out Hst.out (by decide) Hpp.out hq2)
        go_wp2_with (first | ((first | (refine is_load rfl ?_; refine wl_ev rfl (by first | exact c_ld H rfl rfl | exact c_ld0 H rfl rfl | exact c_ldz H rfl rfl | exact c_ldr H rfl rfl) ?_) | (refine is_cmp rfl rfl ?_; first | (refine wl_ev rfl (by first | exact ev_cmpT rfl rfl rfl rfl | exact ev_cmpF rfl rfl rfl rfl) ?_) | (refine wl_cmp rfl rfl rfl rfl rfl (fun h => ?_) (fun h => ?_) <;> (simp only [cmpP] at h))) | (refine is_indexAddr rfl ?_; refine wl_ev rfl (c_ix rfl rfl rfl) ?_)) <;> (simp only [nrm, ↓reduceIte, Nat.reduceAdd])) | ((first | (refine is_store rfl ?_; first | (refine wl_rw rfl (fun K hK => c_st H rfl rfl rfl (h := (fun w1 hf H1 => hK _ _ ?_)))) | (refine wl_rw rfl (fun K hK => c_stc H rfl rfl (h := (fun w1 hf H1 => hK _ _ ?_)))))); (clear hK K); (clear H; have H := H1; clear H1; (try dsimp only at H); (try clear hf)); (simp only [nrm, ↓reduceIte, Nat.reduceAdd])))
        rw [intsP_set _ _ _ _ hv1, boolsP_set _ _ _ _ ht1] at H
        (refine Calls.mono (freeD_any (Hcl1.out _ H) Hwf.out q) ?_; rintro e w1 ⟨rfl, hF⟩; have H1 := H.step hF (by simp); clear H; have H := H1; clear H1)
        rcases bool_cases (held ⟨s.par, s.own, s.sta.set t 3, s.loc, s.tas.set v (-1), s.liv⟩ q) with hh | hh
        · have Hh := hid hh
          rw [hh]
          clear hh
          go_wp2_with (first | ((first | (refine is_load rfl ?_; refine wl_ev rfl (by first | exact c_ld H rfl rfl | exact c_ld0 H rfl rfl | exact c_ldz H rfl rfl | exact c_ldr H rfl rfl) ?_) | (refine is_cmp rfl rfl ?_; first | (refine wl_ev rfl (by first | exact ev_cmpT rfl rfl rfl rfl | exact ev_cmpF rfl rfl rfl rfl) ?_) | (refine wl_cmp rfl rfl rfl rfl rfl (fun h => ?_) (fun h => ?_) <;> (simp only [cmpP] at h))) | (refine is_indexAddr rfl ?_; refine wl_ev rfl (c_ix rfl rfl rfl) ?_)) <;> (simp only [nrm, ↓reduceIte, Nat.reduceAdd])) | ((first | (refine is_store rfl ?_; first | (refine wl_rw rfl (fun K hK => c_st H rfl rfl rfl (h := (fun w1 hf H1 => hK _ _ ?_)))) | (refine wl_rw rfl (fun K hK => c_stc H rfl rfl (h := (fun w1 hf H1 => hK _ _ ?_)))))); (clear hK K); (clear H; have H := H1; clear H1; (try dsimp only at H); (try clear hf)); (simp only [nrm, ↓reduceIte, Nat.reduceAdd])))
          go_ret2
          refine ⟨by rw [Ht.out]; rfl, H.fr, ?_⟩
          rw [Ht.out]
          simp only
          rw [if_pos (by omega), Int.toNat_natCast, release_still Hh.out]
          exact Hcl1.out _ H
        · have Hh := hid hh
          rw [hh]
          clear hh
          obtain ⟨o, ho⟩ : ∃ o, s.own[q]? = some o := ⟨_, List.getElem?_eq_getElem (by omega)⟩
          obtain ⟨u, rfl, hu⟩ := HJ.out.wf.own' q o ho
          have hov := ints_at ho
          have hq3 : q < (atW s).length := by rw [atW_len]; exact hq2
          have Hrl : Hid (release ⟨s.par, s.own, s.sta.set t 3, s.loc, s.tas.set v (-1), s.liv⟩ q = ⟨s.par, s.own, (s.sta.set t 3).set q 1, s.loc.set q ((nextW s.liv u : Nat) : Int), s.tas.set v (-1), s.liv⟩) := hid (release_free (s := ⟨s.par, s.own, s.sta.set t 3, s.loc, s.tas.set v (-1), s.liv⟩) (by show (s.sta.set t 3)[q]? = some 0; rw [set_ne (by omega)]; exact hs0.out) Hh.out ho)
          clear ho
          have hvk : (s.tas.set v (-1)).length = s.tas.length := List.length_set ..
          go_wp2_with (first | ((first | (refine is_load rfl ?_; refine wl_ev rfl (by first | exact c_ld H rfl rfl | exact c_ld0 H rfl rfl | exact c_ldz H rfl rfl | exact c_ldr H rfl rfl) ?_) | (refine is_cmp rfl rfl ?_; first | (refine wl_ev rfl (by first | exact ev_cmpT rfl rfl rfl rfl | exact ev_cmpF rfl rfl rfl rfl) ?_) | (refine wl_cmp rfl rfl rfl rfl rfl (fun h => ?_) (fun h => ?_) <;> (simp only [cmpP] at h))) | (refine is_indexAddr rfl ?_; refine wl_ev rfl (c_ix rfl rfl rfl) ?_)) <;> (simp only [nrm, ↓reduceIte, Nat.reduceAdd])) | ((first | (refine is_store rfl ?_; first | (refine wl_rw rfl (fun K hK => c_st H rfl rfl rfl (h := (fun w1 hf H1 => hK _ _ ?_)))) | (refine wl_rw rfl (fun K hK => c_stc H rfl rfl (h := (fun w1 hf H1 => hK _ _ ?_)))))); (clear hK K); (clear H; have H := H1; clear H1; (try dsimp only at H); (try clear hf)); (simp only [nrm, ↓reduceIte, Nat.reduceAdd])))
          (refine wp_plan H (List.Sublist.refl _) 15 (.st 0 (.st 1 (.st 2 (.st 3 (.st 4 (.st 5 (.st 6 (.st 7 (.st 8 (.st 9 (.st 10 (.st 11 (.st 12 (.ld 13 (.st 14 (.ld 15 .done)))))))))))))))) rfl (by kernel_rfl) (by kernel_rfl) (by intro c a d v w h; cases d <;> exact h) (fun w1 H1 => ?_); (clear H; have H := H1; clear H1))
          (refine pl_ev rfl rfl (fun w H => ev_moveT rfl rfl) ?_; (simp only [nrm, ↓reduceIte, Nat.reduceAdd]))
          (refine pl_ev rfl rfl (fun w H => ev_nilCheck rfl rfl) ?_; (simp only [nrm, ↓reduceIte, Nat.reduceAdd]))
          (first | (refine pl_ev rfl rfl (fun w H => c_fa2 rfl rfl) ?_; (simp only [nrm, ↓reduceIte, Nat.reduceAdd])) | (refine pl_ev rfl rfl (fun w H => c_fa rfl rfl) ?_; (simp only [nrm, ↓reduceIte, Nat.reduceAdd])))
          (refine pl_ev rfl rfl (fun w H => by first | exact c_ld H rfl rfl | exact c_ld0 H rfl rfl | exact c_ldz H rfl rfl | exact c_ldr H rfl rfl) ?_; (simp only [nrm, ↓reduceIte, Nat.reduceAdd]))
          (refine pl_ev rfl rfl (fun w H => ev_moveT rfl rfl) ?_; (simp only [nrm, ↓reduceIte, Nat.reduceAdd]))
          (refine pl_ev rfl rfl (fun w H => ev_moveT rfl rfl) ?_; (simp only [nrm, ↓reduceIte, Nat.reduceAdd]))
          (refine pl_ev rfl rfl (fun w H => ev_moveT rfl rfl) ?_; (simp only [nrm, ↓reduceIte, Nat.reduceAdd]))
          (refine pl_ev rfl rfl (fun w H => ev_nilCheck rfl rfl) ?_; (simp only [nrm, ↓reduceIte, Nat.reduceAdd]))
          (first | (refine pl_ev rfl rfl (fun w H => c_fa2 rfl rfl) ?_; (simp only [nrm, ↓reduceIte, Nat.reduceAdd])) | (refine pl_ev rfl rfl (fun w H => c_fa rfl rfl) ?_; (simp only [nrm, ↓reduceIte, Nat.reduceAdd])))
          (refine pl_ev rfl rfl (fun w H => by first | exact c_ld H rfl rfl | exact c_ld0 H rfl rfl | exact c_ldz H rfl rfl | exact c_ldr H rfl rfl) ?_; (simp only [nrm, ↓reduceIte, Nat.reduceAdd]))
          (refine pl_ev rfl rfl (fun w H => ev_moveT rfl rfl) ?_; (simp only [nrm, ↓reduceIte, Nat.reduceAdd]))
          (refine pl_ev rfl rfl (fun w H => c_ix rfl rfl rfl) ?_; (simp only [nrm, ↓reduceIte, Nat.reduceAdd]))
          (refine pl_ev rfl rfl (fun w H => by first | exact c_ld H rfl rfl | exact c_ld0 H rfl rfl | exact c_ldz H rfl rfl | exact c_ldr H rfl rfl) ?_; (simp only [nrm, ↓reduceIte, Nat.reduceAdd]))
          ((refine pl_rw rfl rfl (fun K hK => rw_call rfl Try.func52 (by kernel_rfl) rfl (next33_any (Hcl1.out _ H) Hwf.out HJ.out.wf.live u (by show u < (s.tas.set v (-1)).length; omega)) (fun e w1 hpost => ?_))); obtain ⟨rfl, hF⟩ := hpost; refine ⟨_, rfl, ?_⟩; have H1 := H.step hF (by simp); refine hK _ _ (fun hne => by first | exact absurd rfl hne | exact H1.sub (by repeat first | exact List.Sublist.refl _ | exact List.nil_sublist _ | apply List.Sublist.cons_cons | apply List.Sublist.cons)) ?_; clear hK K; (clear H; have H := H1; clear H1); (simp only [nrm, ↓reduceIte, Nat.reduceAdd]))
          (refine pl_ev rfl rfl (fun w H => c_ix rfl rfl rfl) ?_; (simp only [nrm, ↓reduceIte, Nat.reduceAdd]))
          (first | (refine pl_rw rfl rfl (fun K hK => c_st H rfl rfl rfl (h := (fun w1 hf H1 => hK _ _ (fun hne => by first | exact absurd rfl hne | exact trivial | exact H1.sub (by repeat first | exact List.Sublist.refl _ | exact List.nil_sublist _ | apply List.Sublist.cons_cons | apply List.Sublist.cons)) ?_))); (clear hK K); (clear H; have H := H1; clear H1; (try dsimp only at H); (try clear hf)); (simp only [nrm, ↓reduceIte, Nat.reduceAdd])) | (refine pl_rw rfl rfl (fun K hK => c_stc H rfl rfl (h := (fun w1 hf H1 => hK _ _ (fun hne => by first | exact absurd rfl hne | exact trivial | exact H1.sub (by repeat first | exact List.Sublist.refl _ | exact List.nil_sublist _ | apply List.Sublist.cons_cons | apply List.Sublist.cons)) ?_))); (clear hK K); (clear H; have H := H1; clear H1; (try dsimp only at H); (try clear hf)); (simp only [nrm, ↓reduceIte, Nat.reduceAdd])) | (refine pl_rw rfl rfl (fun K hK => c_stn H rfl rfl rfl (h := (fun w1 hf H1 => hK _ _ (fun hne => by first | exact absurd rfl hne | exact trivial | exact H1.sub (by repeat first | exact List.Sublist.refl _ | exact List.nil_sublist _ | apply List.Sublist.cons_cons | apply List.Sublist.cons)) ?_))); (clear hK K); (clear H; have H := H1; clear H1; (try dsimp only at H); (try clear hf)); (simp only [nrm, ↓reduceIte, Nat.reduceAdd])))
          (refine pl_done ?_)
          go_wp2_with (first | ((first | (refine is_load rfl ?_; refine wl_ev rfl (by first | exact c_ld H rfl rfl | exact c_ld0 H rfl rfl | exact c_ldz H rfl rfl | exact c_ldr H rfl rfl) ?_) | (refine is_cmp rfl rfl ?_; first | (refine wl_ev rfl (by first | exact ev_cmpT rfl rfl rfl rfl | exact ev_cmpF rfl rfl rfl rfl) ?_) | (refine wl_cmp rfl rfl rfl rfl rfl (fun h => ?_) (fun h => ?_) <;> (simp only [cmpP] at h))) | (refine is_indexAddr rfl ?_; refine wl_ev rfl (c_ix rfl rfl rfl) ?_)) <;> (simp only [nrm, ↓reduceIte, Nat.reduceAdd])) | ((first | (refine is_store rfl ?_; first | (refine wl_rw rfl (fun K hK => c_st H rfl rfl rfl (h := (fun w1 hf H1 => hK _ _ ?_)))) | (refine wl_rw rfl (fun K hK => c_stc H rfl rfl (h := (fun w1 hf H1 => hK _ _ ?_)))))); (clear hK K); (clear H; have H := H1; clear H1; (try dsimp only at H); (try clear hf)); (simp only [nrm, ↓reduceIte, Nat.reduceAdd])))
          rw [intsP_set _ _ _ _ hq3] at H
          go_ret2
          refine ⟨by rw [Ht.out]; rfl, H.fr, ?_⟩
          rw [Ht.out]
          simp only
          rw [if_pos (by omega), Int.toNat_natCast, Hrl.out]
          have e0 := hs0.out
          have e0' : (s.sta.set t 3)[q]? = some 0 := by rw [set_ne (by omega)]; exact e0
          have ed := doneW_keep (s := ⟨s.par, s.own, s.sta.set t 3, s.loc, s.tas.set v (-1), s.liv⟩) e0' (x := 1) rfl (s.loc.set q ((nextW s.liv u : Nat) : Int)) (s.tas.set v (-1)) s.liv
          have ef := failW_keep (s := ⟨s.par, s.own, s.sta.set t 3, s.loc, s.tas.set v (-1), s.liv⟩) e0' (x := 1) rfl (s.loc.set q ((nextW s.liv u : Nat) : Int)) (s.tas.set v (-1)) s.liv
          have ea := atW_set (s := ⟨s.par, s.own, s.sta.set t 3, s.loc, s.tas.set v (-1), s.liv⟩) (q := q) (x := 1) (y := ((nextW s.liv u : Nat) : Int)) (tas := s.tas.set v (-1)) (liv := s.liv) hq2 (by show (s.sta.set t 3).length = _; rw [List.length_set]; exact Hsl.out) Hll.out
          rw [Hed.out] at ed
          rw [Hef.out] at ef
          rw [Hea.out, if_pos rfl] at ea
          refine Hin.out.cls (s' := ⟨s.par, s.own, (s.sta.set t 3).set q 1, s.loc.set q ((nextW s.liv u : Nat) : Int), s.tas.set v (-1), s.liv⟩) (padd := padd) (padf := padf) (padt := padt) (padl := padl) ?_ rfl rfl (List.length_set ..) ?_
          · rw [ed, ef]
            exact H.sub (by repeat first | exact List.Sublist.refl _ | exact List.nil_sublist _ | apply List.Sublist.cons_cons | apply List.Sublist.cons)
          · rw [ea]
            exact Hrow.out _ _ (by rw [List.length_set, atW_len]) (H.at ga)
  · have H := Hin.out.rdo
    have Ht : Hid (endW s wi 3 = ((-1, 330), s)) := hid (by unfold endW; rw [hw, if_pos rfl])
    have Hw := hid hw
    clear hw hsl hll hlv hol
    go_enter Try.func39, Try.ntmps39
    go_wp2_with (first | ((first | (refine is_load rfl ?_; refine wl_ev rfl (by first | exact c_ld H rfl rfl | exact c_ld0 H rfl rfl | exact c_ldz H rfl rfl | exact c_ldr H rfl rfl) ?_) | (refine is_cmp rfl rfl ?_; first | (refine wl_ev rfl (by first | exact ev_cmpT rfl rfl rfl rfl | exact ev_cmpF rfl rfl rfl rfl) ?_) | (refine wl_cmp rfl rfl rfl rfl rfl (fun h => ?_) (fun h => ?_) <;> (simp only [cmpP] at h))) | (refine is_indexAddr rfl ?_; refine wl_ev rfl (c_ix rfl rfl rfl) ?_)) <;> (simp only [nrm, ↓reduceIte, Nat.reduceAdd])) | ((first | (refine is_store rfl ?_; first | (refine wl_rw rfl (fun K hK => c_st H rfl rfl rfl (h := (fun w1 hf H1 => hK _ _ ?_)))) | (refine wl_rw rfl (fun K hK => c_stc H rfl rfl (h := (fun w1 hf H1 => hK _ _ ?_)))))); (clear hK K); (clear H; have H := H1; clear H1; (try dsimp only at H); (try clear hf)); (simp only [nrm, ↓reduceIte, Nat.reduceAdd])))
    (refine Calls.mono (is33_any (Hin.out.fr H.fr (by simp)) HJ.out.wf wi) ?_; rintro e w1 ⟨rfl, hF⟩; have H1 := H.step hF (by simp); clear H; have H := H1; clear H1)
    rw [Hw.out]
    go_wp2_with (first | ((first | (refine is_load rfl ?_; refine wl_ev rfl (by first | exact c_ld H rfl rfl | exact c_ld0 H rfl rfl | exact c_ldz H rfl rfl | exact c_ldr H rfl rfl) ?_) | (refine is_cmp rfl rfl ?_; first | (refine wl_ev rfl (by first | exact ev_cmpT rfl rfl rfl rfl | exact ev_cmpF rfl rfl rfl rfl) ?_) | (refine wl_cmp rfl rfl rfl rfl rfl (fun h => ?_) (fun h => ?_) <;> (simp only [cmpP] at h))) | (refine is_indexAddr rfl ?_; refine wl_ev rfl (c_ix rfl rfl rfl) ?_)) <;> (simp only [nrm, ↓reduceIte, Nat.reduceAdd])) | ((first | (refine is_store rfl ?_; first | (refine wl_rw rfl (fun K hK => c_st H rfl rfl rfl (h := (fun w1 hf H1 => hK _ _ ?_)))) | (refine wl_rw rfl (fun K hK => c_stc H rfl rfl (h := (fun w1 hf H1 => hK _ _ ?_)))))); (clear hK K); (clear H; have H := H1; clear H1; (try dsimp only at H); (try clear hf)); (simp only [nrm, ↓reduceIte, Nat.reduceAdd])))
    go_ret2
    exact ⟨by rw [Ht.out]; rfl, by rw [Ht.out]; exact rdo_fr Hin.out H⟩
set_option maxHeartbeats 4000000 in
set_option maxRecDepth 100000 in
theorem fail33_any {A : DA} {s : PS} {w : World} (h : DIn A s w) (J : PJ s) (wi : Int) :
    Calls Try.prog 42 #[.pointer (some ⟨A.b, 0, none⟩), .int .i64 wi] w fun e w' => e = .returned (.tuple #[.int .i64 (endW s wi 4).1.1, .int .i64 (endW s wi 4).1.2]) ∧ Fr A.T w w' ∧ DIn A (endW s wi 4).2 w' := by
  have hk := J.wf.k8
  have hn := J.wf.n
  have hsl := J.wf.sta
  have hll := J.wf.loc
  have hol := J.wf.own
  have hlv := J.wf.liv
  have HJ := hid J
  have Hin := hid h
  clear J h
  rcases bool_cases (isW s wi) with hw | hw
  · obtain ⟨v, rfl, hv⟩ := isW_true hw
    have hvl : v < s.tas.length := by rw [← hlv]; exact get_lt hv
    clear hv
    obtain ⟨x, hx⟩ : ∃ x, s.tas[v]? = some x := ⟨_, List.getElem?_eq_getElem (by omega)⟩
    have hr := runW_at hx
    have hxr := HJ.out.wf.tas' v x hx
    have Hw := hid hw
    have Hr := hid hr
    clear hw hr
    rcases hxr with rfl | ⟨t, rfl, ht⟩
    · have H := Hin.out.rdo
      have hxv := ints_at hx
      have Ht : Hid (endW s v 4 = ((-1, 333), s)) := hid (by unfold endW; rw [Hw.out, Hr.out, if_neg (by decide), if_pos (by decide)])
      clear hx hsl hll hlv hol
      go_enter Try.func42, Try.ntmps42
      go_wp2_with (first | ((first | (refine is_load rfl ?_; refine wl_ev rfl (by first | exact c_ld H rfl rfl | exact c_ld0 H rfl rfl | exact c_ldz H rfl rfl | exact c_ldr H rfl rfl) ?_) | (refine is_cmp rfl rfl ?_; first | (refine wl_ev rfl (by first | exact ev_cmpT rfl rfl rfl rfl | exact ev_cmpF rfl rfl rfl rfl) ?_) | (refine wl_cmp rfl rfl rfl rfl rfl (fun h => ?_) (fun h => ?_) <;> (simp only [cmpP] at h))) | (refine is_indexAddr rfl ?_; refine wl_ev rfl (c_ix rfl rfl rfl) ?_)) <;> (simp only [nrm, ↓reduceIte, Nat.reduceAdd])) | ((first | (refine is_store rfl ?_; first | (refine wl_rw rfl (fun K hK => c_st H rfl rfl rfl (h := (fun w1 hf H1 => hK _ _ ?_)))) | (refine wl_rw rfl (fun K hK => c_stc H rfl rfl (h := (fun w1 hf H1 => hK _ _ ?_)))))); (clear hK K); (clear H; have H := H1; clear H1; (try dsimp only at H); (try clear hf)); (simp only [nrm, ↓reduceIte, Nat.reduceAdd])))
      (refine Calls.mono (is33_any (Hin.out.fr H.fr (by simp)) HJ.out.wf v) ?_; rintro e w1 ⟨rfl, hF⟩; have H1 := H.step hF (by simp); clear H; have H := H1; clear H1)
      rw [Hw.out]
      go_wp2_with (first | ((first | (refine is_load rfl ?_; refine wl_ev rfl (by first | exact c_ld H rfl rfl | exact c_ld0 H rfl rfl | exact c_ldz H rfl rfl | exact c_ldr H rfl rfl) ?_) | (refine is_cmp rfl rfl ?_; first | (refine wl_ev rfl (by first | exact ev_cmpT rfl rfl rfl rfl | exact ev_cmpF rfl rfl rfl rfl) ?_) | (refine wl_cmp rfl rfl rfl rfl rfl (fun h => ?_) (fun h => ?_) <;> (simp only [cmpP] at h))) | (refine is_indexAddr rfl ?_; refine wl_ev rfl (c_ix rfl rfl rfl) ?_)) <;> (simp only [nrm, ↓reduceIte, Nat.reduceAdd])) | ((first | (refine is_store rfl ?_; first | (refine wl_rw rfl (fun K hK => c_st H rfl rfl rfl (h := (fun w1 hf H1 => hK _ _ ?_)))) | (refine wl_rw rfl (fun K hK => c_stc H rfl rfl (h := (fun w1 hf H1 => hK _ _ ?_)))))); (clear hK K); (clear H; have H := H1; clear H1; (try dsimp only at H); (try clear hf)); (simp only [nrm, ↓reduceIte, Nat.reduceAdd])))
      go_ret2
      exact ⟨by rw [Ht.out]; rfl, by rw [Ht.out]; exact rdo_fr Hin.out H⟩
    · have hst := HJ.out.run v t hx
      obtain ⟨p, hp⟩ : ∃ p, s.par[t]? = some p := ⟨_, List.getElem?_eq_getElem ht⟩
      have hpr := HJ.out.wf.par' t p hp
      have hE : ended s v 4 = { s with sta := s.sta.set t 4, tas := s.tas.set v (-1) } := by unfold ended; rw [Hr.out, Int.toNat_natCast, Int.toNat_natCast]
      have Ht : Hid (endW s v 4 = (((t : Int), 0), if 0 ≤ p then release { s with sta := s.sta.set t 4, tas := s.tas.set v (-1) } p.toNat else { s with sta := s.sta.set t 4, tas := s.tas.set v (-1) })) := hid (by unfold endW; rw [Hw.out, Hr.out, if_neg (by decide), if_neg (by omega), Int.toNat_natCast, hp, hE]; rfl)
      have Hwf := hid (HJ.out.wf.endS v t 4)
      have Hst := hid hst
      have Hpp := hid hp
      have Hsl := hid hsl
      have Hll := hid hll
      obtain ⟨ga, ca, pada, e1, e2, hg, hrow⟩ := Hin.out.row (by omega)
      obtain ⟨padd, padf, padt, padl, H⟩ := Hin.out.wro (ca := ca) e1 hg
      rw [e2] at H
      have hxv := pre_at (pad := padt) (ints_at hx)
      have hpv := ints_at hp
      have Hrow := hid hrow
      have ht1 : t < (doneW s).length := by rw [doneW_len]; omega
      have ht2 : t < (failW s).length := by rw [failW_len]; omega
      have hv1 : v < s.tas.length := by omega
      have ht3 : t < s.sta.length := by omega
      have ed := doneW_keep hst (x := 4) rfl s.loc (s.tas.set v (-1)) s.liv
      have ef : failW ⟨s.par, s.own, s.sta.set t 4, s.loc, s.tas.set v (-1), s.liv⟩ = (failW s).set t true := failW_set s t 4 s.loc (s.tas.set v (-1)) s.liv
      have ea := atW_off (s := s) (x := 4) (tas := s.tas.set v (-1)) (liv := s.liv) ht hsl hll (by decide) hst (by decide)
      skip
      have Hcl : Hid (∀ w1, Hp A.T w w1 [.rng A.b 0 [.slice (some ⟨A.gp, 0, none⟩) s.par.length A.cp, .slice (some ⟨A.go, 0, none⟩) s.par.length A.co, .slice (some ⟨ga, 0, none⟩) s.par.length ca, .slice (some ⟨A.gd, 0, none⟩) s.par.length A.cd, .slice (some ⟨A.gf, 0, none⟩) s.par.length A.cf, .slice (some ⟨A.gt, 0, none⟩) s.tas.length A.ct, .slice (some ⟨A.gl, 0, none⟩) s.tas.length A.cl], .rng A.gp 0 (ints s.par), .rng A.go 0 (ints s.own), .blk ga (ints (atW s) ++ pada) 3, .blk A.gd (boolsV (doneW s) ++ padd) 4, .blk A.gf (boolsV (failW s) ++ padf) 4, .blk A.gt (ints s.tas ++ padt) 3, .blk A.gl (boolsV s.liv ++ padl) 4] → DIn A s w1) := hid (fun w1 H => Hin.out.cls (H.sub (by repeat first | exact List.Sublist.refl _ | exact List.nil_sublist _ | apply List.Sublist.cons_cons | apply List.Sublist.cons)) rfl rfl rfl (Hrow.out w1 _ (atW_len s) (H.at ga)))
      have Hcl1 : Hid (∀ w1, Hp A.T w w1 [.rng A.b 0 [.slice (some ⟨A.gp, 0, none⟩) s.par.length A.cp, .slice (some ⟨A.go, 0, none⟩) s.par.length A.co, .slice (some ⟨ga, 0, none⟩) s.par.length ca, .slice (some ⟨A.gd, 0, none⟩) s.par.length A.cd, .slice (some ⟨A.gf, 0, none⟩) s.par.length A.cf, .slice (some ⟨A.gt, 0, none⟩) s.tas.length A.ct, .slice (some ⟨A.gl, 0, none⟩) s.tas.length A.cl], .rng A.gp 0 (ints s.par), .rng A.go 0 (ints s.own), .blk ga (ints (atW s) ++ pada) 3, .blk A.gd (boolsV (doneW s) ++ padd) 4, .blk A.gf (boolsV ((failW s).set t true) ++ padf) 4, .blk A.gt (ints (s.tas.set v (-1)) ++ padt) 3, .blk A.gl (boolsV s.liv ++ padl) 4] → DIn A ⟨s.par, s.own, s.sta.set t 4, s.loc, s.tas.set v (-1), s.liv⟩ w1) := hid (fun w1 H => Hin.out.cls (s' := ⟨s.par, s.own, s.sta.set t 4, s.loc, s.tas.set v (-1), s.liv⟩) (padd := padd) (padf := padf) (padt := padt) (padl := padl) (by rw [ed, ef]; exact H.sub (by repeat first | exact List.Sublist.refl _ | exact List.nil_sublist _ | apply List.Sublist.cons_cons | apply List.Sublist.cons)) rfl rfl (List.length_set ..) (by rw [ea]; exact Hrow.out w1 _ (atW_len s) (H.at ga)))
      have Hxx := hid hx
      clear hx hp hst hE hg hrow e1 e2 ed ef ea hsl hll
      go_enter Try.func42, Try.ntmps42
      go_wp2_with (first | ((first | (refine is_load rfl ?_; refine wl_ev rfl (by first | exact c_ld H rfl rfl | exact c_ld0 H rfl rfl | exact c_ldz H rfl rfl | exact c_ldr H rfl rfl) ?_) | (refine is_cmp rfl rfl ?_; first | (refine wl_ev rfl (by first | exact ev_cmpT rfl rfl rfl rfl | exact ev_cmpF rfl rfl rfl rfl) ?_) | (refine wl_cmp rfl rfl rfl rfl rfl (fun h => ?_) (fun h => ?_) <;> (simp only [cmpP] at h))) | (refine is_indexAddr rfl ?_; refine wl_ev rfl (c_ix rfl rfl rfl) ?_)) <;> (simp only [nrm, ↓reduceIte, Nat.reduceAdd])) | ((first | (refine is_store rfl ?_; first | (refine wl_rw rfl (fun K hK => c_st H rfl rfl rfl (h := (fun w1 hf H1 => hK _ _ ?_)))) | (refine wl_rw rfl (fun K hK => c_stc H rfl rfl (h := (fun w1 hf H1 => hK _ _ ?_)))))); (clear hK K); (clear H; have H := H1; clear H1; (try dsimp only at H); (try clear hf)); (simp only [nrm, ↓reduceIte, Nat.reduceAdd])))
      (refine Calls.mono (is33_any (Hcl.out _ H) HJ.out.wf v) ?_; rintro e w1 ⟨rfl, hF⟩; have H1 := H.step hF (by simp); clear H; have H := H1; clear H1)
      rw [Hw.out]
      go_wp2_with (first | ((first | (refine is_load rfl ?_; refine wl_ev rfl (by first | exact c_ld H rfl rfl | exact c_ld0 H rfl rfl | exact c_ldz H rfl rfl | exact c_ldr H rfl rfl) ?_) | (refine is_cmp rfl rfl ?_; first | (refine wl_ev rfl (by first | exact ev_cmpT rfl rfl rfl rfl | exact ev_cmpF rfl rfl rfl rfl) ?_) | (refine wl_cmp rfl rfl rfl rfl rfl (fun h => ?_) (fun h => ?_) <;> (simp only [cmpP] at h))) | (refine is_indexAddr rfl ?_; refine wl_ev rfl (c_ix rfl rfl rfl) ?_)) <;> (simp only [nrm, ↓reduceIte, Nat.reduceAdd])) | ((first | (refine is_store rfl ?_; first | (refine wl_rw rfl (fun K hK => c_st H rfl rfl rfl (h := (fun w1 hf H1 => hK _ _ ?_)))) | (refine wl_rw rfl (fun K hK => c_stc H rfl rfl (h := (fun w1 hf H1 => hK _ _ ?_)))))); (clear hK K); (clear H; have H := H1; clear H1; (try dsimp only at H); (try clear hf)); (simp only [nrm, ↓reduceIte, Nat.reduceAdd])))
      rw [intsP_set _ _ _ _ hv1, boolsP_set _ _ _ _ ht2] at H
      go_ret2
      refine ⟨by rw [Ht.out]; rfl, H.fr, ?_⟩
      rw [Ht.out]
      simp only
      rcases hpr with rfl | ⟨q, rfl, hq1, hq2⟩
      · exact Hcl1.out _ H
      · rw [if_pos (by omega), Int.toNat_natCast, release_still]
        · exact Hcl1.out _ H
        · refine (held_iff Hwf.out).2 ⟨t, ht, Hpp.out, ?_⟩
          show (s.sta.set t 4)[t]? ≠ some 3
          rw [set_eq (by have := Hsl.out; omega)]
          decide
  · have H := Hin.out.rdo
    have Ht : Hid (endW s wi 4 = ((-1, 330), s)) := hid (by unfold endW; rw [hw, if_pos rfl])
    have Hw := hid hw
    clear hw hsl hll hlv hol
    go_enter Try.func42, Try.ntmps42
    go_wp2_with (first | ((first | (refine is_load rfl ?_; refine wl_ev rfl (by first | exact c_ld H rfl rfl | exact c_ld0 H rfl rfl | exact c_ldz H rfl rfl | exact c_ldr H rfl rfl) ?_) | (refine is_cmp rfl rfl ?_; first | (refine wl_ev rfl (by first | exact ev_cmpT rfl rfl rfl rfl | exact ev_cmpF rfl rfl rfl rfl) ?_) | (refine wl_cmp rfl rfl rfl rfl rfl (fun h => ?_) (fun h => ?_) <;> (simp only [cmpP] at h))) | (refine is_indexAddr rfl ?_; refine wl_ev rfl (c_ix rfl rfl rfl) ?_)) <;> (simp only [nrm, ↓reduceIte, Nat.reduceAdd])) | ((first | (refine is_store rfl ?_; first | (refine wl_rw rfl (fun K hK => c_st H rfl rfl rfl (h := (fun w1 hf H1 => hK _ _ ?_)))) | (refine wl_rw rfl (fun K hK => c_stc H rfl rfl (h := (fun w1 hf H1 => hK _ _ ?_)))))); (clear hK K); (clear H; have H := H1; clear H1; (try dsimp only at H); (try clear hf)); (simp only [nrm, ↓reduceIte, Nat.reduceAdd])))
    (refine Calls.mono (is33_any (Hin.out.fr H.fr (by simp)) HJ.out.wf wi) ?_; rintro e w1 ⟨rfl, hF⟩; have H1 := H.step hF (by simp); clear H; have H := H1; clear H1)
    rw [Hw.out]
    go_wp2_with (first | ((first | (refine is_load rfl ?_; refine wl_ev rfl (by first | exact c_ld H rfl rfl | exact c_ld0 H rfl rfl | exact c_ldz H rfl rfl | exact c_ldr H rfl rfl) ?_) | (refine is_cmp rfl rfl ?_; first | (refine wl_ev rfl (by first | exact ev_cmpT rfl rfl rfl rfl | exact ev_cmpF rfl rfl rfl rfl) ?_) | (refine wl_cmp rfl rfl rfl rfl rfl (fun h => ?_) (fun h => ?_) <;> (simp only [cmpP] at h))) | (refine is_indexAddr rfl ?_; refine wl_ev rfl (c_ix rfl rfl rfl) ?_)) <;> (simp only [nrm, ↓reduceIte, Nat.reduceAdd])) | ((first | (refine is_store rfl ?_; first | (refine wl_rw rfl (fun K hK => c_st H rfl rfl rfl (h := (fun w1 hf H1 => hK _ _ ?_)))) | (refine wl_rw rfl (fun K hK => c_stc H rfl rfl (h := (fun w1 hf H1 => hK _ _ ?_)))))); (clear hK K); (clear H; have H := H1; clear H1; (try dsimp only at H); (try clear hf)); (simp only [nrm, ↓reduceIte, Nat.reduceAdd])))
    go_ret2
    exact ⟨by rw [Ht.out]; rfl, by rw [Ht.out]; exact rdo_fr Hin.out H⟩
end Go.Proofs.Ythlhjjokodmihaa
