/-
  The document's pool: the methods that only read, and Join.
-/
import Derived.Test.YthlhjjokodmihaaRs1
namespace Go.Proofs.Ythlhjjokodmihaa
open Go.RowKit
set_option linter.unusedSimpArgs false
set_option linter.unusedVariables false
set_option maxHeartbeats 4000000 in
set_option maxRecDepth 100000 in
theorem is33_any {A : DA} {s : PS} {w : World} (h : DIn A s w) (J : PW s) (wi : Int) :
    Calls Try.prog 50 #[.pointer (some ⟨A.b, 0, none⟩), .int .i64 wi] w fun e w' => e = .returned (.bool (isW s wi)) ∧ Fr [] w w' := by
  have H := h.rdo
  have hk := J.k8
  have hlv := J.liv
  clear h J
  by_cases h0 : wi < 0
  · have e : isW s wi = false := by unfold isW; rw [decide_eq_false (by omega)]; rfl
    rw [e]
    clear hlv e
    go_enter Try.func50, Try.ntmps50
    go_wp2_with (first | ((first | (refine is_load rfl ?_; refine wl_ev rfl (by first | exact c_ld H rfl rfl | exact c_ld0 H rfl rfl | exact c_ldz H rfl rfl | exact c_ldr H rfl rfl) ?_) | (refine is_cmp rfl rfl ?_; first | (refine wl_ev rfl (by first | exact ev_cmpT rfl rfl rfl rfl | exact ev_cmpF rfl rfl rfl rfl) ?_) | (refine wl_cmp rfl rfl rfl rfl rfl (fun h => ?_) (fun h => ?_) <;> (simp only [cmpP] at h))) | (refine is_indexAddr rfl ?_; refine wl_ev rfl (c_ix rfl rfl rfl) ?_)) <;> (simp only [nrm, ↓reduceIte, Nat.reduceAdd]))  )
    (refine bodyPost_ret (results_tmp rfl _ _ _) rfl ?_)
    exact ⟨rfl, H.fr⟩
  obtain ⟨v, rfl⟩ : ∃ v : Nat, wi = v := ⟨wi.toNat, by omega⟩
  by_cases hv : v < s.tas.length
  · obtain ⟨x, hx⟩ : ∃ x, s.liv[v]? = some x := ⟨_, List.getElem?_eq_getElem (by omega)⟩
    have hxv := boolsV_at hx
    have e : isW s v = x := by unfold isW; rw [decide_eq_true (by omega), Int.toNat_natCast, hx]; rfl
    rw [e]
    clear hx e hlv
    go_enter Try.func50, Try.ntmps50
    go_wp2_with (first | ((first | (refine is_load rfl ?_; refine wl_ev rfl (by first | exact c_ld H rfl rfl | exact c_ld0 H rfl rfl | exact c_ldz H rfl rfl | exact c_ldr H rfl rfl) ?_) | (refine is_cmp rfl rfl ?_; first | (refine wl_ev rfl (by first | exact ev_cmpT rfl rfl rfl rfl | exact ev_cmpF rfl rfl rfl rfl) ?_) | (refine wl_cmp rfl rfl rfl rfl rfl (fun h => ?_) (fun h => ?_) <;> (simp only [cmpP] at h))) | (refine is_indexAddr rfl ?_; refine wl_ev rfl (c_ix rfl rfl rfl) ?_)) <;> (simp only [nrm, ↓reduceIte, Nat.reduceAdd]))  )
    (refine bodyPost_ret (results_tmp rfl _ _ _) rfl ?_)
    exact ⟨rfl, H.fr⟩
  · have e : isW s v = false := by unfold isW; rw [Int.toNat_natCast, List.getElem?_eq_none (by omega)]; simp
    rw [e]
    clear e hlv
    go_enter Try.func50, Try.ntmps50
    go_wp2_with (first | ((first | (refine is_load rfl ?_; refine wl_ev rfl (by first | exact c_ld H rfl rfl | exact c_ld0 H rfl rfl | exact c_ldz H rfl rfl | exact c_ldr H rfl rfl) ?_) | (refine is_cmp rfl rfl ?_; first | (refine wl_ev rfl (by first | exact ev_cmpT rfl rfl rfl rfl | exact ev_cmpF rfl rfl rfl rfl) ?_) | (refine wl_cmp rfl rfl rfl rfl rfl (fun h => ?_) (fun h => ?_) <;> (simp only [cmpP] at h))) | (refine is_indexAddr rfl ?_; refine wl_ev rfl (c_ix rfl rfl rfl) ?_)) <;> (simp only [nrm, ↓reduceIte, Nat.reduceAdd]))  )
    (refine bodyPost_ret (results_tmp rfl _ _ _) rfl ?_)
    exact ⟨rfl, H.fr⟩
set_option maxHeartbeats 4000000 in
set_option maxRecDepth 100000 in
theorem next33_any {A : DA} {s : PS} {w : World} (h : DIn A s w) (J : PW s) (hlive : ∃ v : Nat, s.liv[v]? = some true) (v : Nat) (hv : v < s.tas.length) :
    Calls Try.prog 52 #[.pointer (some ⟨A.b, 0, none⟩), .int .i64 v] w fun e w' => e = .returned (.int .i64 (nextW s.liv v)) ∧ Fr [] w w' := by
  have H := h.rdo
  have hk := J.k8
  have hlv := J.liv
  have Hlive := hid hlive
  clear h J hlive
  rw [← hlv] at H hk hv
  have hdv := (dist_lt Hlive.out v hv).1
  clear hlv
  go_enter Try.func52, Try.ntmps52
  go_wp2_with (first | ((first | (refine is_load rfl ?_; refine wl_ev rfl (by first | exact c_ld H rfl rfl | exact c_ld0 H rfl rfl | exact c_ldz H rfl rfl | exact c_ldr H rfl rfl) ?_) | (refine is_bin (op := .rem) rfl ?_; refine wl_ev rfl (ev_rem rfl rfl rfl) ?_) | (refine is_indexAddr rfl ?_; refine wl_ev rfl (c_ix rfl rfl rfl) ?_)) <;> (simp only [nrm, ↓reduceIte, Nat.reduceAdd]))  )
  go_loopw [1] (fun s1 wr => ∃ u : Nat, u + dist s.liv (u % s.liv.length) ≤ 16 ∧ s1 = .int .i64 u ∧ Hid (nextW s.liv (u % s.liv.length) = nextW s.liv v) ∧ Hp [] w wr [.rng A.b 0 [.slice (some ⟨A.gp, 0, none⟩) s.par.length A.cp, .slice (some ⟨A.go, 0, none⟩) s.par.length A.co, A.va, .slice (some ⟨A.gd, 0, none⟩) s.par.length A.cd, .slice (some ⟨A.gf, 0, none⟩) s.par.length A.cf, .slice (some ⟨A.gt, 0, none⟩) s.liv.length A.ct, .slice (some ⟨A.gl, 0, none⟩) s.liv.length A.cl], .rng A.gl 0 (boolsV s.liv)]) (fun v1 _ => dist s.liv ((intOf v1).toNat % s.liv.length))
  case atStart => exact ⟨v, by rw [Nat.mod_eq_of_lt hv]; omega, rfl, hid (by rw [Nat.mod_eq_of_lt hv]), H.sub (by repeat first | exact List.Sublist.refl _ | exact List.nil_sublist _ | apply List.Sublist.cons_cons | apply List.Sublist.cons)⟩
  case round =>
    clear H
    obtain ⟨u, hu, rfl, hnx, H⟩ := hrel
    have hul : u % s.liv.length < s.liv.length := Nat.mod_lt _ (by omega)
    obtain ⟨x, hx⟩ : ∃ x, s.liv[u % s.liv.length]? = some x := ⟨_, List.getElem?_eq_getElem hul⟩
    have hxv := boolsV_at hx
    have hxw : (boolsV s.liv)[((u : Int) % (s.liv.length : Int)).toNat]? = some (.bool x) := by
      rw [show ((u : Int) % (s.liv.length : Int)) = ((u % s.liv.length : Nat) : Int) by rw [Int.natCast_emod], Int.toNat_natCast]; exact hxv
    clear hxv
    cases x
    · have Hx := hid hx
      clear hx
      have hd := nextW_dead Hlive.out hul Hx.out
      have hstep : (u % s.liv.length + 1) % s.liv.length = (u + 1) % s.liv.length := by rw [Nat.mod_add_mod]
      rw [hstep] at hd
      have Hd := hid hd
      have hu1 : u ≤ 16 := by omega
      clear hd hstep
      go_wp2_with (first | ((first | (refine is_load rfl ?_; refine wl_ev rfl (by first | exact c_ld H rfl rfl | exact c_ld0 H rfl rfl | exact c_ldz H rfl rfl | exact c_ldr H rfl rfl) ?_) | (refine is_bin (op := .rem) rfl ?_; refine wl_ev rfl (ev_rem rfl rfl rfl) ?_) | (refine is_indexAddr rfl ?_; refine wl_ev rfl (c_ix rfl rfl rfl) ?_)) <;> (simp only [nrm, ↓reduceIte, Nat.reduceAdd]))  )
      (refine wp_plan H (List.Sublist.refl _) 14 (.st 0 (.st 1 (.st 2 (.st 3 (.st 4 (.st 5 (.st 6 (.st 7 (.st 8 (.st 9 (.st 10 (.st 11 (.st 12 (.st 13 .done)))))))))))))) rfl (by kernel_rfl) (by kernel_rfl) (by intro c a d v w h; cases d <;> exact h) (fun w1 H1 => ?_); (clear H; have H := H1; clear H1))
      (refine pl_ev rfl rfl (fun w H => ev_moveT rfl rfl) ?_; (simp only [nrm, ↓reduceIte, Nat.reduceAdd]))
      (refine pl_ev rfl rfl (fun w H => ev_nilCheck rfl rfl) ?_; (simp only [nrm, ↓reduceIte, Nat.reduceAdd]))
      (first | (refine pl_ev rfl rfl (fun w H => c_fa2 rfl rfl) ?_; (simp only [nrm, ↓reduceIte, Nat.reduceAdd])) | (refine pl_ev rfl rfl (fun w H => c_fa rfl rfl) ?_; (simp only [nrm, ↓reduceIte, Nat.reduceAdd])))
      (refine pl_ev rfl rfl (fun w H => by first | exact c_ld H rfl rfl | exact c_ld0 H rfl rfl | exact c_ldz H rfl rfl | exact c_ldr H rfl rfl) ?_; (simp only [nrm, ↓reduceIte, Nat.reduceAdd]))
      (refine pl_ev rfl rfl (fun w H => ev_moveT rfl rfl) ?_; (simp only [nrm, ↓reduceIte, Nat.reduceAdd]))
      (refine pl_ev rfl rfl (fun w H => ev_moveT rfl rfl) ?_; (simp only [nrm, ↓reduceIte, Nat.reduceAdd]))
      (refine pl_ev rfl rfl (fun w H => ev_nilCheck rfl rfl) ?_; (simp only [nrm, ↓reduceIte, Nat.reduceAdd]))
      (first | (refine pl_ev rfl rfl (fun w H => c_fa2 rfl rfl) ?_; (simp only [nrm, ↓reduceIte, Nat.reduceAdd])) | (refine pl_ev rfl rfl (fun w H => c_fa rfl rfl) ?_; (simp only [nrm, ↓reduceIte, Nat.reduceAdd])))
      (refine pl_ev rfl rfl (fun w H => by first | exact c_ld H rfl rfl | exact c_ld0 H rfl rfl | exact c_ldz H rfl rfl | exact c_ldr H rfl rfl) ?_; (simp only [nrm, ↓reduceIte, Nat.reduceAdd]))
      (refine pl_ev rfl rfl (fun w H => by first | exact c_len rfl rfl | exact ev_strLen rfl rfl) ?_; (simp only [nrm, ↓reduceIte, Nat.reduceAdd]))
      (refine pl_ev rfl rfl (fun w H => ev_rem rfl rfl rfl) ?_; (simp only [nrm, ↓reduceIte, Nat.reduceAdd]))
      (refine pl_ev rfl rfl (fun w H => c_ix rfl rfl rfl) ?_; (simp only [nrm, ↓reduceIte, Nat.reduceAdd]))
      (refine pl_ev rfl rfl (fun w H => by first | exact c_ld H rfl rfl | exact c_ld0 H rfl rfl | exact c_ldz H rfl rfl | exact c_ldr H rfl rfl) ?_; (simp only [nrm, ↓reduceIte, Nat.reduceAdd]))
      (refine pl_ev rfl rfl (fun w H => ev_not rfl rfl) ?_; (simp only [nrm, ↓reduceIte, Nat.reduceAdd]))
      (refine pl_done ?_)
      go_wp2_with (first | ((first | (refine is_load rfl ?_; refine wl_ev rfl (by first | exact c_ld H rfl rfl | exact c_ld0 H rfl rfl | exact c_ldz H rfl rfl | exact c_ldr H rfl rfl) ?_) | (refine is_bin (op := .rem) rfl ?_; refine wl_ev rfl (ev_rem rfl rfl rfl) ?_) | (refine is_indexAddr rfl ?_; refine wl_ev rfl (c_ix rfl rfl rfl) ?_)) <;> (simp only [nrm, ↓reduceIte, Nat.reduceAdd]))  )
      go_roundw
      case rel => exact ⟨u + 1, by have := Hd.out.2; omega, by go_num, hid (by rw [Hd.out.1]; exact hnx.out), H⟩
      case measure =>
        have e : ((u : Int) + 1).toNat = u + 1 := by omega
        simp only [intOf, e, Int.toNat_natCast]
        exact Hd.out.2
    · have hn := nextW_live hul hx
      have Hn := hid hn; have Hx := hid hx; clear hx hn
      have hu1 : u ≤ 16 := by omega
      go_wp2_with (first | ((first | (refine is_load rfl ?_; refine wl_ev rfl (by first | exact c_ld H rfl rfl | exact c_ld0 H rfl rfl | exact c_ldz H rfl rfl | exact c_ldr H rfl rfl) ?_) | (refine is_bin (op := .rem) rfl ?_; refine wl_ev rfl (ev_rem rfl rfl rfl) ?_) | (refine is_indexAddr rfl ?_; refine wl_ev rfl (c_ix rfl rfl rfl) ?_)) <;> (simp only [nrm, ↓reduceIte, Nat.reduceAdd]))  )
      (refine wp_plan H (List.Sublist.refl _) 14 (.st 0 (.st 1 (.st 2 (.st 3 (.st 4 (.st 5 (.st 6 (.st 7 (.st 8 (.st 9 (.st 10 (.st 11 (.st 12 (.st 13 .done)))))))))))))) rfl (by kernel_rfl) (by kernel_rfl) (by intro c a d v w h; cases d <;> exact h) (fun w1 H1 => ?_); (clear H; have H := H1; clear H1))
      (refine pl_ev rfl rfl (fun w H => ev_moveT rfl rfl) ?_; (simp only [nrm, ↓reduceIte, Nat.reduceAdd]))
      (refine pl_ev rfl rfl (fun w H => ev_nilCheck rfl rfl) ?_; (simp only [nrm, ↓reduceIte, Nat.reduceAdd]))
      (first | (refine pl_ev rfl rfl (fun w H => c_fa2 rfl rfl) ?_; (simp only [nrm, ↓reduceIte, Nat.reduceAdd])) | (refine pl_ev rfl rfl (fun w H => c_fa rfl rfl) ?_; (simp only [nrm, ↓reduceIte, Nat.reduceAdd])))
      (refine pl_ev rfl rfl (fun w H => by first | exact c_ld H rfl rfl | exact c_ld0 H rfl rfl | exact c_ldz H rfl rfl | exact c_ldr H rfl rfl) ?_; (simp only [nrm, ↓reduceIte, Nat.reduceAdd]))
      (refine pl_ev rfl rfl (fun w H => ev_moveT rfl rfl) ?_; (simp only [nrm, ↓reduceIte, Nat.reduceAdd]))
      (refine pl_ev rfl rfl (fun w H => ev_moveT rfl rfl) ?_; (simp only [nrm, ↓reduceIte, Nat.reduceAdd]))
      (refine pl_ev rfl rfl (fun w H => ev_nilCheck rfl rfl) ?_; (simp only [nrm, ↓reduceIte, Nat.reduceAdd]))
      (first | (refine pl_ev rfl rfl (fun w H => c_fa2 rfl rfl) ?_; (simp only [nrm, ↓reduceIte, Nat.reduceAdd])) | (refine pl_ev rfl rfl (fun w H => c_fa rfl rfl) ?_; (simp only [nrm, ↓reduceIte, Nat.reduceAdd])))
      (refine pl_ev rfl rfl (fun w H => by first | exact c_ld H rfl rfl | exact c_ld0 H rfl rfl | exact c_ldz H rfl rfl | exact c_ldr H rfl rfl) ?_; (simp only [nrm, ↓reduceIte, Nat.reduceAdd]))
      (refine pl_ev rfl rfl (fun w H => by first | exact c_len rfl rfl | exact ev_strLen rfl rfl) ?_; (simp only [nrm, ↓reduceIte, Nat.reduceAdd]))
      (refine pl_ev rfl rfl (fun w H => ev_rem rfl rfl rfl) ?_; (simp only [nrm, ↓reduceIte, Nat.reduceAdd]))
      (refine pl_ev rfl rfl (fun w H => c_ix rfl rfl rfl) ?_; (simp only [nrm, ↓reduceIte, Nat.reduceAdd]))
      (refine pl_ev rfl rfl (fun w H => by first | exact c_ld H rfl rfl | exact c_ld0 H rfl rfl | exact c_ldz H rfl rfl | exact c_ldr H rfl rfl) ?_; (simp only [nrm, ↓reduceIte, Nat.reduceAdd]))
      (refine pl_ev rfl rfl (fun w H => ev_not rfl rfl) ?_; (simp only [nrm, ↓reduceIte, Nat.reduceAdd]))
      (refine pl_done ?_)
      go_wp2_with (first | ((first | (refine is_load rfl ?_; refine wl_ev rfl (by first | exact c_ld H rfl rfl | exact c_ld0 H rfl rfl | exact c_ldz H rfl rfl | exact c_ldr H rfl rfl) ?_) | (refine is_bin (op := .rem) rfl ?_; refine wl_ev rfl (ev_rem rfl rfl rfl) ?_) | (refine is_indexAddr rfl ?_; refine wl_ev rfl (c_ix rfl rfl rfl) ?_)) <;> (simp only [nrm, ↓reduceIte, Nat.reduceAdd]))  )
      (refine bodyPost_ret (results_tmp rfl _ _ _) rfl ?_)
      exact ⟨by rw [← hnx.out, Hn.out, Int.natCast_emod]; rfl, H.fr⟩
set_option maxHeartbeats 4000000 in
set_option maxRecDepth 100000 in
theorem ready33_any {A : DA} {s : PS} {w : World} (h : DIn A s w) (J : PJ s) (wi : Int) :
    Calls Try.prog 36 #[.pointer (some ⟨A.b, 0, none⟩), .int .i64 wi] w fun e w' => ∃ v, e = .returned v ∧ Fr [] w w' ∧ w'.ownsRow w.heap.size 3 1 v (readyW s wi).length (readyV (readyW s wi)) := by
  have H := h.rdo
  have hn := J.wf.n
  have Ha0 := hid h.ha
  obtain ⟨pa, ca, hva, _⟩ := h.ha.form
  clear h
  have HJ := hid J
  clear J
  rw [hva] at H Ha0
  have Hr0 : Hid (Rd w (.slice pa s.par.length ca) s.par.length (ints (atW s))) := hid Ha0.out.rd
  clear hva Ha0
  have H := H.newRow 0 (e := 3) (sz := 1)
  go_enter Try.func36, Try.ntmps36
  go_wp2_with (first | ((first | (refine is_load rfl ?_; refine wl_ev rfl (by first | exact c_ld H rfl rfl | exact c_ld0 H rfl rfl | exact c_ldz H rfl rfl | exact c_ldr H rfl rfl) ?_) | (refine is_cmp rfl rfl ?_; first | (refine wl_ev rfl (by first | exact ev_cmpT rfl rfl rfl rfl | exact ev_cmpF rfl rfl rfl rfl) ?_) | (refine wl_cmp rfl rfl rfl rfl rfl (fun h => ?_) (fun h => ?_) <;> (simp only [cmpP] at h))) | (refine is_indexAddr rfl ?_; refine wl_ev rfl (c_ix rfl rfl rfl) ?_)) <;> (simp only [nrm, ↓reduceIte, Nat.reduceAdd])) | ((first | (refine is_buildSlice rfl ?_; first | (refine wl_rw rfl (fun K hK => c_s1t H rfl rfl rfl (h := (fun g w1 hg hf H1 => hK _ _ ?_)))) | (refine wl_rw rfl (fun K hK => c_s1c H rfl rfl (h := (fun g w1 hg hf H1 => hK _ _ ?_)))))   ); (clear hK K); (clear H; have H := H1; clear H1; (try dsimp only at H); (try clear hf)); (simp only [nrm, ↓reduceIte, Nat.reduceAdd])))
  go_loopw [5, 6] (fun s5 s13 wr => ∃ (i : Nat) (pv : Value) (S : List Nat), i ≤ s.par.length ∧ s13 = .int .i64 i ∧ s5 = pv ∧ Hp [] w wr [.obj 0 S (RowAt 3 1 pv (readyF s wi i).length (readyV (readyF s wi i)) S), .rng A.b 0 [.slice (some ⟨A.gp, 0, none⟩) s.par.length A.cp, .slice (some ⟨A.go, 0, none⟩) s.par.length A.co, .slice pa s.par.length ca, .slice (some ⟨A.gd, 0, none⟩) s.par.length A.cd, .slice (some ⟨A.gf, 0, none⟩) s.par.length A.cf, .slice (some ⟨A.gt, 0, none⟩) s.tas.length A.ct, .slice (some ⟨A.gl, 0, none⟩) s.tas.length A.cl]]) (fun _ v _ => s.par.length - (intOf v).toNat)
  case atStart => exact ⟨0, _, _, Nat.zero_le _, rfl, rfl, H.sub (by repeat first | exact List.Sublist.refl _ | exact List.nil_sublist _ | apply List.Sublist.cons_cons | apply List.Sublist.cons)⟩
  case round =>
    clear H
    obtain ⟨i, pv, S, hi, rfl, hpv, H⟩ := hrel
    obtain ⟨p5, c5, he, hle, hcm, _⟩ := (H.rowo 0).form
    subst he
    subst hpv
    have hrl := readyF_len s wi i
    by_cases hin : i < s.par.length
    · obtain ⟨y, hy⟩ : ∃ y, (atW s)[i]? = some y := ⟨_, List.getElem?_eq_getElem (by rw [atW_len]; exact hin)⟩
      have hyv := ints_at hy
      have Hy := hid hy
      clear hy
      obtain ⟨b0, off, rfl, hb0, hcell⟩ := Hr0.out.rng (ints_ne (i := i) (by rw [atW_len]; exact hin))
      have H1 := H.pushRng (b := b0) (off := off) hb0 (by simp) hcell
      clear H hcell
      have H := H1
      clear H1
      by_cases h0 : 0 ≤ wi
      · by_cases hyw : y = wi
        · subst hyw
          have hb := HJ.out.at Hy.out h0
          have hf := readyF_yes hb.1 hb.2
          have Hf := hid hf
          clear hf hb
          go_wp2_with (first | ((first | (refine is_load rfl ?_; refine wl_ev rfl (by first | exact c_ld H rfl rfl | exact c_ld0 H rfl rfl | exact c_ldz H rfl rfl | exact c_ldr H rfl rfl) ?_) | (refine is_cmp rfl rfl ?_; first | (refine wl_ev rfl (by first | exact ev_cmpT rfl rfl rfl rfl | exact ev_cmpF rfl rfl rfl rfl) ?_) | (refine wl_cmp rfl rfl rfl rfl rfl (fun h => ?_) (fun h => ?_) <;> (simp only [cmpP] at h))) | (refine is_indexAddr rfl ?_; refine wl_ev rfl (c_ix rfl rfl rfl) ?_)) <;> (simp only [nrm, ↓reduceIte, Nat.reduceAdd])) | ((first | (refine is_buildSlice rfl ?_; first | (refine wl_rw rfl (fun K hK => c_s1t H rfl rfl rfl (h := (fun g w1 hg hf H1 => hK _ _ ?_)))) | (refine wl_rw rfl (fun K hK => c_s1c H rfl rfl (h := (fun g w1 hg hf H1 => hK _ _ ?_)))))   ); (clear hK K); (clear H; have H := H1; clear H1; (try dsimp only at H); (try clear hf)); (simp only [nrm, ↓reduceIte, Nat.reduceAdd])) | (refine is_blt (b := .append) rfl ?_; go_loud (refine wl_rw rfl (fun K hK => c_aprS H rfl rfl rfl 0 (H.rd (b := g) (off := 0) (vs := [.int .i64 i]) List.prefix_rfl) rfl (by intro u hu; simp only [List.mem_singleton] at hu; subst hu; rfl) (by omega) (by unfold maxLen; omega) (fun p1 c1 w1 S' hf H1 => hK _ _ ?_))); (clear hK K); (clear H; have H := H1; clear H1; (try dsimp only at H); (try clear hf)); (simp only [nrm, ↓reduceIte, Nat.reduceAdd])))
          go_roundw
          case rel => exact ⟨i + 1, _, S', by omega, by go_num, rfl, by rw [Hf.out, List.length_append, List.length_singleton, show readyV (readyF s y i ++ [i]) = readyV (readyF s y i) ++ [.int .i64 i] by simp [readyV]]; exact H.sub (by repeat first | exact List.Sublist.refl _ | exact List.nil_sublist _ | apply List.Sublist.cons_cons | apply List.Sublist.cons)⟩
          case measure => simp [intOf]; omega
        · have Hf := hid (readyF_no' HJ.out.wf hin (HJ.out.notAt Hy.out (v := wi) (fun hh => hyw hh.2)))
          go_wp2_with (first | ((first | (refine is_load rfl ?_; refine wl_ev rfl (by first | exact c_ld H rfl rfl | exact c_ld0 H rfl rfl | exact c_ldz H rfl rfl | exact c_ldr H rfl rfl) ?_) | (refine is_cmp rfl rfl ?_; first | (refine wl_ev rfl (by first | exact ev_cmpT rfl rfl rfl rfl | exact ev_cmpF rfl rfl rfl rfl) ?_) | (refine wl_cmp rfl rfl rfl rfl rfl (fun h => ?_) (fun h => ?_) <;> (simp only [cmpP] at h))) | (refine is_indexAddr rfl ?_; refine wl_ev rfl (c_ix rfl rfl rfl) ?_)) <;> (simp only [nrm, ↓reduceIte, Nat.reduceAdd])) | ((first | (refine is_buildSlice rfl ?_; first | (refine wl_rw rfl (fun K hK => c_s1t H rfl rfl rfl (h := (fun g w1 hg hf H1 => hK _ _ ?_)))) | (refine wl_rw rfl (fun K hK => c_s1c H rfl rfl (h := (fun g w1 hg hf H1 => hK _ _ ?_)))))   ); (clear hK K); (clear H; have H := H1; clear H1; (try dsimp only at H); (try clear hf)); (simp only [nrm, ↓reduceIte, Nat.reduceAdd])))
          go_roundw
          case rel => exact ⟨i + 1, _, S, by omega, by go_num, rfl, by rw [Hf.out]; exact H.sub (by repeat first | exact List.Sublist.refl _ | exact List.nil_sublist _ | apply List.Sublist.cons_cons | apply List.Sublist.cons)⟩
          case measure => simp [intOf]; omega
      · have Hf := hid (readyF_no' HJ.out.wf hin (HJ.out.notAt Hy.out (v := wi) (fun hh => h0 hh.1)))
        go_wp2_with (first | ((first | (refine is_load rfl ?_; refine wl_ev rfl (by first | exact c_ld H rfl rfl | exact c_ld0 H rfl rfl | exact c_ldz H rfl rfl | exact c_ldr H rfl rfl) ?_) | (refine is_cmp rfl rfl ?_; first | (refine wl_ev rfl (by first | exact ev_cmpT rfl rfl rfl rfl | exact ev_cmpF rfl rfl rfl rfl) ?_) | (refine wl_cmp rfl rfl rfl rfl rfl (fun h => ?_) (fun h => ?_) <;> (simp only [cmpP] at h))) | (refine is_indexAddr rfl ?_; refine wl_ev rfl (c_ix rfl rfl rfl) ?_)) <;> (simp only [nrm, ↓reduceIte, Nat.reduceAdd])) | ((first | (refine is_buildSlice rfl ?_; first | (refine wl_rw rfl (fun K hK => c_s1t H rfl rfl rfl (h := (fun g w1 hg hf H1 => hK _ _ ?_)))) | (refine wl_rw rfl (fun K hK => c_s1c H rfl rfl (h := (fun g w1 hg hf H1 => hK _ _ ?_)))))   ); (clear hK K); (clear H; have H := H1; clear H1; (try dsimp only at H); (try clear hf)); (simp only [nrm, ↓reduceIte, Nat.reduceAdd])))
        go_roundw
        case rel => exact ⟨i + 1, _, S, by omega, by go_num, rfl, by rw [Hf.out]; exact H.sub (by repeat first | exact List.Sublist.refl _ | exact List.nil_sublist _ | apply List.Sublist.cons_cons | apply List.Sublist.cons)⟩
        case measure => simp [intOf]; omega
    · have e : readyF s wi i = readyW s wi := by rw [show i = s.par.length by omega]; rfl
      rw [e] at H hle ⊢
      clear e hrl
      go_wp2_with (first | ((first | (refine is_load rfl ?_; refine wl_ev rfl (by first | exact c_ld H rfl rfl | exact c_ld0 H rfl rfl | exact c_ldz H rfl rfl | exact c_ldr H rfl rfl) ?_) | (refine is_cmp rfl rfl ?_; first | (refine wl_ev rfl (by first | exact ev_cmpT rfl rfl rfl rfl | exact ev_cmpF rfl rfl rfl rfl) ?_) | (refine wl_cmp rfl rfl rfl rfl rfl (fun h => ?_) (fun h => ?_) <;> (simp only [cmpP] at h))) | (refine is_indexAddr rfl ?_; refine wl_ev rfl (c_ix rfl rfl rfl) ?_)) <;> (simp only [nrm, ↓reduceIte, Nat.reduceAdd])) | ((first | (refine is_buildSlice rfl ?_; first | (refine wl_rw rfl (fun K hK => c_s1t H rfl rfl rfl (h := (fun g w1 hg hf H1 => hK _ _ ?_)))) | (refine wl_rw rfl (fun K hK => c_s1c H rfl rfl (h := (fun g w1 hg hf H1 => hK _ _ ?_)))))   ); (clear hK K); (clear H; have H := H1; clear H1; (try dsimp only at H); (try clear hf)); (simp only [nrm, ↓reduceIte, Nat.reduceAdd])))
      (refine bodyPost_ret (results_tmp rfl _ _ _) rfl ?_)
      exact ⟨_, rfl, H.fr, (H.rowo 0).owns (fun x hx => (H.home 0 x hx).resolve_left (by simp))⟩
set_option maxHeartbeats 4000000 in
set_option maxRecDepth 100000 in
theorem left33_any {A : DA} {s : PS} {w : World} (h : DIn A s w) (J : PW s) :
    Calls Try.prog 37 #[.pointer (some ⟨A.b, 0, none⟩)] w fun e w' => e = .returned (.int .i64 (leftW s)) ∧ Fr [] w w' := by
  have H := h.rdo
  have hn := J.n
  have Hsl := hid J.sta
  clear h J
  go_enter Try.func37, Try.ntmps37
  go_wp2_with (first | ((first | (refine is_load rfl ?_; refine wl_ev rfl (by first | exact c_ld H rfl rfl | exact c_ld0 H rfl rfl | exact c_ldz H rfl rfl | exact c_ldr H rfl rfl) ?_) | (refine is_cmp rfl rfl ?_; first | (refine wl_ev rfl (by first | exact ev_cmpT rfl rfl rfl rfl | exact ev_cmpF rfl rfl rfl rfl) ?_) | (refine wl_cmp rfl rfl rfl rfl rfl (fun h => ?_) (fun h => ?_) <;> (simp only [cmpP] at h))) | (refine is_indexAddr rfl ?_; refine wl_ev rfl (c_ix rfl rfl rfl) ?_)) <;> (simp only [nrm, ↓reduceIte, Nat.reduceAdd]))  )
  go_loopw [3, 4] (fun s3 s13 wr => ∃ i : Nat, i ≤ s.par.length ∧ s13 = .int .i64 i ∧ s3 = .int .i64 (leftF s i) ∧ Hp [] w wr [.rng A.b 0 [.slice (some ⟨A.gp, 0, none⟩) s.par.length A.cp, .slice (some ⟨A.go, 0, none⟩) s.par.length A.co, A.va, .slice (some ⟨A.gd, 0, none⟩) s.par.length A.cd, .slice (some ⟨A.gf, 0, none⟩) s.par.length A.cf, .slice (some ⟨A.gt, 0, none⟩) s.tas.length A.ct, .slice (some ⟨A.gl, 0, none⟩) s.tas.length A.cl], .rng A.gp 0 (ints s.par), .rng A.go 0 (ints s.own), .rng A.gd 0 (boolsV (doneW s))]) (fun _ v _ => s.par.length - (intOf v).toNat)
  case atStart => exact ⟨0, Nat.zero_le _, rfl, rfl, H.sub (by repeat first | exact List.Sublist.refl _ | exact List.nil_sublist _ | apply List.Sublist.cons_cons | apply List.Sublist.cons)⟩
  case round =>
    clear H
    obtain ⟨i, hi, rfl, rfl, H⟩ := hrel
    have hle := leftF_le s i
    by_cases hin : i < s.par.length
    · obtain ⟨x, hx⟩ : ∃ x, s.sta[i]? = some x := ⟨_, List.getElem?_eq_getElem (by rw [Hsl.out]; exact hin)⟩
      have hd : (doneW s)[i]? = some (x == 3) := by unfold doneW; rw [List.getElem?_map, hx]; rfl
      have hxv := boolsV_at hd
      clear hd
      by_cases hx3 : x = 3
      · subst hx3
        have hxv : (boolsV (doneW s))[i]? = some (.bool true) := hxv
        have Hf := hid (leftF_no hx)
        clear hx
        generalize leftF s i = L at *
        go_wp2_with (first | ((first | (refine is_load rfl ?_; refine wl_ev rfl (by first | exact c_ld H rfl rfl | exact c_ld0 H rfl rfl | exact c_ldz H rfl rfl | exact c_ldr H rfl rfl) ?_) | (refine is_cmp rfl rfl ?_; first | (refine wl_ev rfl (by first | exact ev_cmpT rfl rfl rfl rfl | exact ev_cmpF rfl rfl rfl rfl) ?_) | (refine wl_cmp rfl rfl rfl rfl rfl (fun h => ?_) (fun h => ?_) <;> (simp only [cmpP] at h))) | (refine is_indexAddr rfl ?_; refine wl_ev rfl (c_ix rfl rfl rfl) ?_)) <;> (simp only [nrm, ↓reduceIte, Nat.reduceAdd]))  )
        go_roundw
        case rel => exact ⟨i + 1, by omega, by go_num, by rw [Hf.out], H⟩
        case measure => simp [intOf]; omega
      · have hxv : (boolsV (doneW s))[i]? = some (.bool false) := by rw [hxv]; simp [hx3]
        have Hf := hid (leftF_yes hx hx3)
        clear hx
        generalize leftF s i = L at *
        go_wp2_with (first | ((first | (refine is_load rfl ?_; refine wl_ev rfl (by first | exact c_ld H rfl rfl | exact c_ld0 H rfl rfl | exact c_ldz H rfl rfl | exact c_ldr H rfl rfl) ?_) | (refine is_cmp rfl rfl ?_; first | (refine wl_ev rfl (by first | exact ev_cmpT rfl rfl rfl rfl | exact ev_cmpF rfl rfl rfl rfl) ?_) | (refine wl_cmp rfl rfl rfl rfl rfl (fun h => ?_) (fun h => ?_) <;> (simp only [cmpP] at h))) | (refine is_indexAddr rfl ?_; refine wl_ev rfl (c_ix rfl rfl rfl) ?_)) <;> (simp only [nrm, ↓reduceIte, Nat.reduceAdd]))  )
        go_roundw
        case rel => exact ⟨i + 1, by omega, by go_num, by rw [Hf.out]; go_num, H⟩
        case measure => simp [intOf]; omega
    · have Hf : Hid (leftW s = leftF s i) := hid (by unfold leftW leftF; rw [List.take_of_length_le (by rw [Hsl.out]; omega)])
      go_wp2_with (first | ((first | (refine is_load rfl ?_; refine wl_ev rfl (by first | exact c_ld H rfl rfl | exact c_ld0 H rfl rfl | exact c_ldz H rfl rfl | exact c_ldr H rfl rfl) ?_) | (refine is_cmp rfl rfl ?_; first | (refine wl_ev rfl (by first | exact ev_cmpT rfl rfl rfl rfl | exact ev_cmpF rfl rfl rfl rfl) ?_) | (refine wl_cmp rfl rfl rfl rfl rfl (fun h => ?_) (fun h => ?_) <;> (simp only [cmpP] at h))) | (refine is_indexAddr rfl ?_; refine wl_ev rfl (c_ix rfl rfl rfl) ?_)) <;> (simp only [nrm, ↓reduceIte, Nat.reduceAdd]))  )
      (refine bodyPost_ret (results_tmp rfl _ _ _) rfl ?_)
      exact ⟨by rw [Hf.out]; rfl, H.fr⟩
end Go.Proofs.Ythlhjjokodmihaa
