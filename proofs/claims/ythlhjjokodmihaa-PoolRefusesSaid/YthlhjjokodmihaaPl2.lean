/-
  The pool's methods that only read.
-/
import Derived.Test.YthlhjjokodmihaaPl1
namespace Go.Proofs.Ythlhjjokodmihaa
open Go.RowKit
set_option linter.unusedSimpArgs false
set_option linter.unusedVariables false
def liveAt (liv : List Bool) (w j : Nat) : Bool := liv[(w + j) % liv.length]?.getD false
def dist (liv : List Bool) (w : Nat) : Nat := (List.range liv.length).findIdx (liveAt liv w)
theorem nextW_dist (liv : List Bool) (w : Nat) : nextW liv w = (w + dist liv w) % liv.length := rfl
theorem dist_lt {liv : List Bool} (h : ∃ v : Nat, liv[v]? = some true) (w : Nat) (hw : w < liv.length) : dist liv w < liv.length ∧ liveAt liv w (dist liv w) = true ∧ ∀ i, i < dist liv w → liveAt liv w i = false := by
  obtain ⟨v, hv⟩ := h
  have hvl := (List.getElem?_eq_some_iff.1 hv).1
  have hm : (w + (v + liv.length - w) % liv.length) % liv.length = v := by
    rw [Nat.add_mod_mod, show w + (v + liv.length - w) = v + liv.length by omega, Nat.add_mod_right, Nat.mod_eq_of_lt hvl]
  have hex : ∃ x ∈ List.range liv.length, liveAt liv w x = true := ⟨(v + liv.length - w) % liv.length, List.mem_range.2 (Nat.mod_lt _ (by omega)), by unfold liveAt; rw [hm, hv]; rfl⟩
  have h1 : dist liv w < (List.range liv.length).length := List.findIdx_lt_length_of_exists hex
  have h1' := h1
  rw [List.length_range] at h1
  refine ⟨h1, ?_, fun i hi => ?_⟩
  · have := List.findIdx_getElem (xs := List.range liv.length) (p := liveAt liv w) (w := h1')
    have e : (List.range liv.length)[List.findIdx (liveAt liv w) (List.range liv.length)] = dist liv w := List.getElem_range _
    rw [e] at this
    exact this
  · have := List.not_of_lt_findIdx (xs := List.range liv.length) (p := liveAt liv w) (i := i) hi
    rw [List.getElem_range] at this
    simpa using this
theorem dist_eq {liv : List Bool} {w d : Nat} (hd : d < liv.length) (h1 : liveAt liv w d = true) (h2 : ∀ i, i < d → liveAt liv w i = false) : dist liv w = d := by
  unfold dist
  rw [List.findIdx_eq (by rw [List.length_range]; exact hd)]
  refine ⟨by rw [List.getElem_range]; exact h1, fun j hj => by rw [List.getElem_range]; exact h2 j hj⟩
theorem nextW_live {liv : List Bool} {w : Nat} (hw : w < liv.length) (h : liv[w]? = some true) : nextW liv w = w := by
  have : dist liv w = 0 := dist_eq (by omega) (by unfold liveAt; rw [Nat.add_zero, Nat.mod_eq_of_lt hw, h]; rfl) (fun i hi => by omega)
  rw [nextW_dist, this, Nat.add_zero, Nat.mod_eq_of_lt hw]
theorem nextW_dead {liv : List Bool} {w : Nat} (hl : ∃ v : Nat, liv[v]? = some true) (hw : w < liv.length) (h : liv[w]? = some false) : nextW liv ((w + 1) % liv.length) = nextW liv w ∧ dist liv ((w + 1) % liv.length) < dist liv w := by
  obtain ⟨h1, h2, h3⟩ := dist_lt hl w hw
  have h0 : dist liv w ≠ 0 := fun e => by
    rw [e] at h2; unfold liveAt at h2; rw [Nat.add_zero, Nat.mod_eq_of_lt hw, h] at h2; cases h2
  have hstep : ∀ i, liveAt liv ((w + 1) % liv.length) i = liveAt liv w (i + 1) := fun i => by
    unfold liveAt; rw [Nat.mod_add_mod, show w + 1 + i = w + (i + 1) by omega]
  have hd : dist liv ((w + 1) % liv.length) = dist liv w - 1 := dist_eq (by omega) (by rw [hstep, show dist liv w - 1 + 1 = dist liv w by omega]; exact h2) (fun i hi => by rw [hstep]; exact h3 (i + 1) (by omega))
  refine ⟨?_, by omega⟩
  rw [nextW_dist, nextW_dist, hd, Nat.mod_add_mod, show w + 1 + (dist liv w - 1) = w + dist liv w by omega]
theorem nextW_lt (liv : List Bool) (w : Nat) (h : 0 < liv.length) : nextW liv w < liv.length := Nat.mod_lt _ h
set_option maxHeartbeats 4000000 in
set_option maxRecDepth 100000 in
theorem next_any {A : PA} {s : PS} {w : World} (h : PoolIn A s w) (v : Nat) (hv : v < s.tas.length) :
    Calls Try.prog 34 #[.pointer (some ⟨A.b, 0, none⟩), .int .i64 v] w fun e w' => e = .returned (.int .i64 (nextW s.liv v)) ∧ Fr [] w w' := by
  have H := h.rdo
  have hk := h.wf.k8
  have hlv := h.wf.liv
  have Hlive := hid h.wf.live
  clear h
  rw [← hlv] at H hk hv
  clear hlv
  go_enter Try.func34, Try.ntmps34
  go_wp2_with (first | ((first | (refine is_load rfl ?_; refine wl_ev rfl (by first | exact c_ld H rfl rfl | exact c_ld0 H rfl rfl | exact c_ldz H rfl rfl | exact c_ldr H rfl rfl) ?_) | (refine is_bin (op := .rem) rfl ?_; refine wl_ev rfl (ev_rem rfl rfl rfl) ?_) | (refine is_indexAddr rfl ?_; refine wl_ev rfl (c_ix rfl rfl rfl) ?_)) <;> (simp only [nrm, ↓reduceIte, Nat.reduceAdd]))  )
  go_loopw [1] (fun s1 wr => ∃ u : Nat, u < s.liv.length ∧ s1 = .int .i64 u ∧ Hid (nextW s.liv u = nextW s.liv v) ∧ Hp [] w wr [.rng A.b 0 [A.vp, A.vo, .slice (some ⟨A.gs, 0, none⟩) s.par.length s.par.length, .slice (some ⟨A.ga, 0, none⟩) s.par.length s.par.length, .slice (some ⟨A.gt, 0, none⟩) s.liv.length A.ct, .slice (some ⟨A.gl, 0, none⟩) s.liv.length A.cl], .rng A.gs 0 (ints s.sta), .rng A.ga 0 (ints s.loc), .rng A.gt 0 (ints s.tas), .rng A.gl 0 (boolsV s.liv)]) (fun v1 _ => dist s.liv (intOf v1).toNat)
  case atStart => exact ⟨v, hv, rfl, hid rfl, H⟩
  case round =>
    clear H
    obtain ⟨u, hu, rfl, hnx, H⟩ := hrel
    obtain ⟨x, hx⟩ : ∃ x, s.liv[u]? = some x := ⟨_, List.getElem?_eq_getElem hu⟩
    have hxv := boolsV_at hx
    cases x
    · have Hx := hid hx; clear hx
      go_wp2_with (first | ((first | (refine is_load rfl ?_; refine wl_ev rfl (by first | exact c_ld H rfl rfl | exact c_ld0 H rfl rfl | exact c_ldz H rfl rfl | exact c_ldr H rfl rfl) ?_) | (refine is_bin (op := .rem) rfl ?_; refine wl_ev rfl (ev_rem rfl rfl rfl) ?_) | (refine is_indexAddr rfl ?_; refine wl_ev rfl (c_ix rfl rfl rfl) ?_)) <;> (simp only [nrm, ↓reduceIte, Nat.reduceAdd]))  )
      have hd := nextW_dead Hlive.out hu Hx.out
      go_roundw
      case rel => exact ⟨(u + 1) % s.liv.length, Nat.mod_lt _ (by omega), by go_num, hid (by rw [hd.1]; exact hnx.out), H⟩
      case measure =>
        have e : (((u : Int) + 1) % (s.liv.length : Int)) = (((u + 1) % s.liv.length : Nat) : Int) := by rw [Int.natCast_emod, Int.natCast_add]; rfl
        simp only [intOf, e, Int.toNat_natCast]
        exact hd.2
    · have hn := nextW_live hu hx
      have Hn := hid hn; have Hx := hid hx; clear hx hn
      go_wp2_with (first | ((first | (refine is_load rfl ?_; refine wl_ev rfl (by first | exact c_ld H rfl rfl | exact c_ld0 H rfl rfl | exact c_ldz H rfl rfl | exact c_ldr H rfl rfl) ?_) | (refine is_bin (op := .rem) rfl ?_; refine wl_ev rfl (ev_rem rfl rfl rfl) ?_) | (refine is_indexAddr rfl ?_; refine wl_ev rfl (c_ix rfl rfl rfl) ?_)) <;> (simp only [nrm, ↓reduceIte, Nat.reduceAdd]))  )
      (refine bodyPost_ret (results_tmp rfl _ _ _) rfl ?_)
      exact ⟨by rw [← hnx.out, Hn.out]; rfl, H.fr⟩
/-- What a pool's memory shows to one who reads. -/
theorem bool_cases (b : Bool) : b = true ∨ b = false := by cases b <;> simp
set_option maxHeartbeats 4000000 in
set_option maxRecDepth 100000 in
theorem worker_any {A : PA} {s : PS} {w : World} (h : PoolIn A s w) (wi : Int) :
    Calls Try.prog 30 #[.pointer (some ⟨A.b, 0, none⟩), .int .i64 wi] w fun e w' => e = .returned (.bool (isW s wi)) ∧ Fr [] w w' := by
  have H := h.rdo
  have hk := h.wf.k8
  have hlv := h.wf.liv
  clear h
  by_cases h0 : wi < 0
  · have e : isW s wi = false := by unfold isW; rw [decide_eq_false (by omega)]; rfl
    rw [e]
    go_enter Try.func30, Try.ntmps30
    go_wp2_with (first | ((first | (refine is_load rfl ?_; refine wl_ev rfl (by first | exact c_ld H rfl rfl | exact c_ld0 H rfl rfl | exact c_ldz H rfl rfl | exact c_ldr H rfl rfl) ?_) | (refine is_cmp rfl rfl ?_; first | (refine wl_ev rfl (by first | exact ev_cmpT rfl rfl rfl rfl | exact ev_cmpF rfl rfl rfl rfl) ?_) | (refine wl_cmp rfl rfl rfl rfl rfl (fun h => ?_) (fun h => ?_) <;> (simp only [cmpP] at h))) | (refine is_indexAddr rfl ?_; refine wl_ev rfl (c_ix rfl rfl rfl) ?_)) <;> (simp only [nrm, ↓reduceIte, Nat.reduceAdd]))  )
    (refine bodyPost_ret (results_tmp rfl _ _ _) rfl ?_)
    exact ⟨rfl, H.fr⟩
  obtain ⟨v, rfl⟩ : ∃ v : Nat, wi = v := ⟨wi.toNat, by omega⟩
  by_cases hv : v < s.tas.length
  · obtain ⟨x, hx⟩ : ∃ x, s.liv[v]? = some x := ⟨_, List.getElem?_eq_getElem (by omega)⟩
    have hxv := boolsV_at hx
    have e : isW s v = x := by unfold isW; rw [decide_eq_true (by omega), Int.toNat_natCast, hx]; rfl
    rw [e]
    clear hx e hlv
    go_enter Try.func30, Try.ntmps30
    go_wp2_with (first | ((first | (refine is_load rfl ?_; refine wl_ev rfl (by first | exact c_ld H rfl rfl | exact c_ld0 H rfl rfl | exact c_ldz H rfl rfl | exact c_ldr H rfl rfl) ?_) | (refine is_cmp rfl rfl ?_; first | (refine wl_ev rfl (by first | exact ev_cmpT rfl rfl rfl rfl | exact ev_cmpF rfl rfl rfl rfl) ?_) | (refine wl_cmp rfl rfl rfl rfl rfl (fun h => ?_) (fun h => ?_) <;> (simp only [cmpP] at h))) | (refine is_indexAddr rfl ?_; refine wl_ev rfl (c_ix rfl rfl rfl) ?_)) <;> (simp only [nrm, ↓reduceIte, Nat.reduceAdd]))  )
    (refine bodyPost_ret (results_tmp rfl _ _ _) rfl ?_)
    exact ⟨rfl, H.fr⟩
  · have e : isW s v = false := by unfold isW; rw [Int.toNat_natCast, List.getElem?_eq_none (by omega)]; simp
    rw [e]
    clear e hlv
    go_enter Try.func30, Try.ntmps30
    go_wp2_with (first | ((first | (refine is_load rfl ?_; refine wl_ev rfl (by first | exact c_ld H rfl rfl | exact c_ld0 H rfl rfl | exact c_ldz H rfl rfl | exact c_ldr H rfl rfl) ?_) | (refine is_cmp rfl rfl ?_; first | (refine wl_ev rfl (by first | exact ev_cmpT rfl rfl rfl rfl | exact ev_cmpF rfl rfl rfl rfl) ?_) | (refine wl_cmp rfl rfl rfl rfl rfl (fun h => ?_) (fun h => ?_) <;> (simp only [cmpP] at h))) | (refine is_indexAddr rfl ?_; refine wl_ev rfl (c_ix rfl rfl rfl) ?_)) <;> (simp only [nrm, ↓reduceIte, Nat.reduceAdd]))  )
    (refine bodyPost_ret (results_tmp rfl _ _ _) rfl ?_)
    exact ⟨rfl, H.fr⟩
def readyF (s : PS) (w : Int) (i : Nat) : List Nat := (List.range i).filter fun t => s.sta[t]?.getD 0 == 1 && s.loc[t]?.getD 0 == w
theorem readyF_yes {s : PS} {w : Int} {i : Nat} (h1 : s.sta[i]? = some 1) (h2 : s.loc[i]? = some w) : readyF s w (i + 1) = readyF s w i ++ [i] := by
  unfold readyF; rw [List.range_succ, List.filter_append]; simp [h1, h2]
theorem readyF_no {s : PS} {w : Int} {i : Nat} {x y : Int} (h1 : s.sta[i]? = some x) (h2 : s.loc[i]? = some y) (h : x ≠ 1 ∨ y ≠ w) : readyF s w (i + 1) = readyF s w i := by
  unfold readyF; rw [List.range_succ, List.filter_append]
  rcases h with h | h <;> simp [h1, h2, h]
theorem readyF_len (s : PS) (w : Int) (i : Nat) : (readyF s w i).length ≤ i := by
  unfold readyF; exact Nat.le_trans (List.length_filter_le _ _) (by rw [List.length_range]; exact Nat.le_refl _)
@[simp] theorem readyV_len (l : List Nat) : (readyV l).length = l.length := by simp [readyV]
set_option maxHeartbeats 4000000 in
set_option maxRecDepth 100000 in
theorem ready_any {A : PA} {s : PS} {w : World} (h : PoolIn A s w) (wi : Int) :
    Calls Try.prog 35 #[.pointer (some ⟨A.b, 0, none⟩), .int .i64 wi] w fun e w' => ∃ v, e = .returned v ∧ Fr [] w w' ∧ w'.ownsRow w.heap.size 3 1 v (readyW s wi).length (readyV (readyW s wi)) := by
  have H := h.rdo
  have hn := h.wf.n
  have hsl := h.wf.sta
  have hll := h.wf.loc
  clear h
  have H := H.newRow 0 (e := 3) (sz := 1)
  go_enter Try.func35, Try.ntmps35
  go_wp2_with (first | ((first | (refine is_load rfl ?_; refine wl_ev rfl (by first | exact c_ld H rfl rfl | exact c_ld0 H rfl rfl | exact c_ldz H rfl rfl | exact c_ldr H rfl rfl) ?_) | (refine is_cmp rfl rfl ?_; first | (refine wl_ev rfl (by first | exact ev_cmpT rfl rfl rfl rfl | exact ev_cmpF rfl rfl rfl rfl) ?_) | (refine wl_cmp rfl rfl rfl rfl rfl (fun h => ?_) (fun h => ?_) <;> (simp only [cmpP] at h))) | (refine is_indexAddr rfl ?_; refine wl_ev rfl (c_ix rfl rfl rfl) ?_)) <;> (simp only [nrm, ↓reduceIte, Nat.reduceAdd])) | ((first | (refine is_buildSlice rfl ?_; first | (refine wl_rw rfl (fun K hK => c_s1t H rfl rfl rfl (h := (fun g w1 hg hf H1 => hK _ _ ?_)))) | (refine wl_rw rfl (fun K hK => c_s1c H rfl rfl (h := (fun g w1 hg hf H1 => hK _ _ ?_)))))   ); (clear hK K); (clear H; have H := H1; clear H1; (try dsimp only at H); (try clear hf)); (simp only [nrm, ↓reduceIte, Nat.reduceAdd])))
  go_loopw [5, 13] (fun s5 s13 wr => ∃ (i : Nat) (pv : Value) (S : List Nat), i ≤ s.par.length ∧ s13 = .int .i64 i ∧ s5 = pv ∧ Hp [] w wr [.obj 0 S (RowAt 3 1 pv (readyF s wi i).length (readyV (readyF s wi i)) S), .rng A.b 0 [A.vp, A.vo, .slice (some ⟨A.gs, 0, none⟩) s.par.length s.par.length, .slice (some ⟨A.ga, 0, none⟩) s.par.length s.par.length, .slice (some ⟨A.gt, 0, none⟩) s.tas.length A.ct, .slice (some ⟨A.gl, 0, none⟩) s.tas.length A.cl], .rng A.gs 0 (ints s.sta), .rng A.ga 0 (ints s.loc), .rng A.gt 0 (ints s.tas), .rng A.gl 0 (boolsV s.liv)]) (fun _ v _ => s.par.length - (intOf v).toNat)
  case atStart => exact ⟨0, _, _, Nat.zero_le _, rfl, rfl, H⟩
  case round =>
    clear H
    obtain ⟨i, pv, S, hi, rfl, hpv, H⟩ := hrel
    obtain ⟨p5, c5, he, hle, hcm, _⟩ := (H.rowo 0).form
    subst he
    subst hpv
    have hrl := readyF_len s wi i
    by_cases hin : i < s.par.length
    · obtain ⟨x, hx⟩ : ∃ x, s.sta[i]? = some x := ⟨_, List.getElem?_eq_getElem (by omega)⟩
      obtain ⟨y, hy⟩ : ∃ y, s.loc[i]? = some y := ⟨_, List.getElem?_eq_getElem (by omega)⟩
      have hxv := ints_at hx
      have hyv := ints_at hy
      by_cases hx1 : x = 1
      · subst hx1
        by_cases hyw : y = wi
        · subst hyw
          have hf := readyF_yes hx hy
          have Hf := hid hf
          clear hf hx hy
          go_wp2_with (first | ((first | (refine is_load rfl ?_; refine wl_ev rfl (by first | exact c_ld H rfl rfl | exact c_ld0 H rfl rfl | exact c_ldz H rfl rfl | exact c_ldr H rfl rfl) ?_) | (refine is_cmp rfl rfl ?_; first | (refine wl_ev rfl (by first | exact ev_cmpT rfl rfl rfl rfl | exact ev_cmpF rfl rfl rfl rfl) ?_) | (refine wl_cmp rfl rfl rfl rfl rfl (fun h => ?_) (fun h => ?_) <;> (simp only [cmpP] at h))) | (refine is_indexAddr rfl ?_; refine wl_ev rfl (c_ix rfl rfl rfl) ?_)) <;> (simp only [nrm, ↓reduceIte, Nat.reduceAdd])) | ((first | (refine is_buildSlice rfl ?_; first | (refine wl_rw rfl (fun K hK => c_s1t H rfl rfl rfl (h := (fun g w1 hg hf H1 => hK _ _ ?_)))) | (refine wl_rw rfl (fun K hK => c_s1c H rfl rfl (h := (fun g w1 hg hf H1 => hK _ _ ?_)))))   ); (clear hK K); (clear H; have H := H1; clear H1; (try dsimp only at H); (try clear hf)); (simp only [nrm, ↓reduceIte, Nat.reduceAdd])) | (refine is_blt (b := .append) rfl ?_; go_loud (refine wl_rw rfl (fun K hK => c_aprS H rfl rfl rfl 0 (H.rd (b := g) (off := 0) (vs := [.int .i64 i]) List.prefix_rfl) rfl (by intro u hu; simp only [List.mem_singleton] at hu; subst hu; rfl) (by omega) (by unfold maxLen; omega) (fun p1 c1 w1 S' hf H1 => hK _ _ ?_))); (clear hK K); (clear H; have H := H1; clear H1; (try dsimp only at H); (try clear hf)); (simp only [nrm, ↓reduceIte, Nat.reduceAdd])))
          go_roundw
          case rel => exact ⟨i + 1, _, S', by omega, by go_num, rfl, by rw [Hf.out, List.length_append, List.length_singleton, show readyV (readyF s y i ++ [i]) = readyV (readyF s y i) ++ [.int .i64 i] by simp [readyV]]; exact H.sub (by repeat first | exact List.Sublist.refl _ | exact List.nil_sublist _ | apply List.Sublist.cons_cons | apply List.Sublist.cons)⟩
          case measure => simp [intOf]; omega
        · have hf := readyF_no hx hy (.inr hyw)
          have Hf := hid hf
          clear hf hx hy
          go_wp2_with (first | ((first | (refine is_load rfl ?_; refine wl_ev rfl (by first | exact c_ld H rfl rfl | exact c_ld0 H rfl rfl | exact c_ldz H rfl rfl | exact c_ldr H rfl rfl) ?_) | (refine is_cmp rfl rfl ?_; first | (refine wl_ev rfl (by first | exact ev_cmpT rfl rfl rfl rfl | exact ev_cmpF rfl rfl rfl rfl) ?_) | (refine wl_cmp rfl rfl rfl rfl rfl (fun h => ?_) (fun h => ?_) <;> (simp only [cmpP] at h))) | (refine is_indexAddr rfl ?_; refine wl_ev rfl (c_ix rfl rfl rfl) ?_)) <;> (simp only [nrm, ↓reduceIte, Nat.reduceAdd])) | ((first | (refine is_buildSlice rfl ?_; first | (refine wl_rw rfl (fun K hK => c_s1t H rfl rfl rfl (h := (fun g w1 hg hf H1 => hK _ _ ?_)))) | (refine wl_rw rfl (fun K hK => c_s1c H rfl rfl (h := (fun g w1 hg hf H1 => hK _ _ ?_)))))   ); (clear hK K); (clear H; have H := H1; clear H1; (try dsimp only at H); (try clear hf)); (simp only [nrm, ↓reduceIte, Nat.reduceAdd])))
          go_roundw
          case rel => exact ⟨i + 1, _, S, by omega, by go_num, rfl, by rw [Hf.out]; exact H⟩
          case measure => simp [intOf]; omega
      · have hf := readyF_no (w := wi) hx hy (.inl hx1)
        have Hf := hid hf
        clear hf hx hy
        go_wp2_with (first | ((first | (refine is_load rfl ?_; refine wl_ev rfl (by first | exact c_ld H rfl rfl | exact c_ld0 H rfl rfl | exact c_ldz H rfl rfl | exact c_ldr H rfl rfl) ?_) | (refine is_cmp rfl rfl ?_; first | (refine wl_ev rfl (by first | exact ev_cmpT rfl rfl rfl rfl | exact ev_cmpF rfl rfl rfl rfl) ?_) | (refine wl_cmp rfl rfl rfl rfl rfl (fun h => ?_) (fun h => ?_) <;> (simp only [cmpP] at h))) | (refine is_indexAddr rfl ?_; refine wl_ev rfl (c_ix rfl rfl rfl) ?_)) <;> (simp only [nrm, ↓reduceIte, Nat.reduceAdd])) | ((first | (refine is_buildSlice rfl ?_; first | (refine wl_rw rfl (fun K hK => c_s1t H rfl rfl rfl (h := (fun g w1 hg hf H1 => hK _ _ ?_)))) | (refine wl_rw rfl (fun K hK => c_s1c H rfl rfl (h := (fun g w1 hg hf H1 => hK _ _ ?_)))))   ); (clear hK K); (clear H; have H := H1; clear H1; (try dsimp only at H); (try clear hf)); (simp only [nrm, ↓reduceIte, Nat.reduceAdd])))
        go_roundw
        case rel => exact ⟨i + 1, _, S, by omega, by go_num, rfl, by rw [Hf.out]; exact H⟩
        case measure => simp [intOf]; omega
    · have e : readyF s wi i = readyW s wi := by rw [show i = s.par.length by omega]; rfl
      rw [e] at H hle ⊢
      clear e hrl
      go_wp2_with (first | ((first | (refine is_load rfl ?_; refine wl_ev rfl (by first | exact c_ld H rfl rfl | exact c_ld0 H rfl rfl | exact c_ldz H rfl rfl | exact c_ldr H rfl rfl) ?_) | (refine is_cmp rfl rfl ?_; first | (refine wl_ev rfl (by first | exact ev_cmpT rfl rfl rfl rfl | exact ev_cmpF rfl rfl rfl rfl) ?_) | (refine wl_cmp rfl rfl rfl rfl rfl (fun h => ?_) (fun h => ?_) <;> (simp only [cmpP] at h))) | (refine is_indexAddr rfl ?_; refine wl_ev rfl (c_ix rfl rfl rfl) ?_)) <;> (simp only [nrm, ↓reduceIte, Nat.reduceAdd])) | ((first | (refine is_buildSlice rfl ?_; first | (refine wl_rw rfl (fun K hK => c_s1t H rfl rfl rfl (h := (fun g w1 hg hf H1 => hK _ _ ?_)))) | (refine wl_rw rfl (fun K hK => c_s1c H rfl rfl (h := (fun g w1 hg hf H1 => hK _ _ ?_)))))   ); (clear hK K); (clear H; have H := H1; clear H1; (try dsimp only at H); (try clear hf)); (simp only [nrm, ↓reduceIte, Nat.reduceAdd])))
      (refine bodyPost_ret (results_tmp rfl _ _ _) rfl ?_)
      exact ⟨_, rfl, H.fr, (H.rowo 0).owns (fun x hx => (H.home 0 x hx).resolve_left (by simp))⟩
theorem ReadyOut.form {w w' : World} {v : Value} {l : List Nat} (h : w'.ownsRow w.heap.size 3 1 v l.length (readyV l)) : ∃ p c, v = .slice p l.length c := by
  rcases h.2 with ⟨rfl, e⟩ | ⟨g, cap, cur, rfl, _⟩
  · rw [e]; exact ⟨_, _, rfl⟩
  · exact ⟨_, _, rfl⟩
theorem choose_own {s : PS} {w : Int} {t : Nat} {l : List Nat} (h : readyW s w = t :: l) : choose s w = t := by unfold choose; rw [h]
theorem choose_other {s : PS} {w : Int} (h : readyW s w = []) : choose s w = (chooseF s s.tas.length).1 := by unfold choose; rw [h]
theorem chooseF_yes {s : PS} {v m : Nat} (h : (chooseF s v).2 < (readyW s v).length) (hm : (readyW s v)[(readyW s v).length - 1]? = some m) : chooseF s (v + 1) = ((m : Int), (readyW s v).length) := by
  rw [chooseF, if_pos h, List.getLast?_eq_getElem?, hm]; rfl
theorem chooseF_no {s : PS} {v : Nat} (h : ¬ (chooseF s v).2 < (readyW s v).length) : chooseF s (v + 1) = chooseF s v := by rw [chooseF, if_neg h]
theorem readyW_len (s : PS) (w : Int) : (readyW s w).length ≤ s.par.length := readyF_len s w _
set_option maxHeartbeats 4000000 in
set_option maxRecDepth 100000 in
theorem choose_any {A : PA} {s : PS} {w : World} (h : PoolIn A s w) (wi : Int) :
    Calls Try.prog 31 #[.pointer (some ⟨A.b, 0, none⟩), .int .i64 wi] w fun e w' => e = .returned (.int .i64 (choose s wi)) ∧ Fr [] w w' := by
  have H := h.rdo
  have hn := h.wf.n
  have hk := h.wf.k8
  have Hin := hid h
  clear h
  go_enter Try.func31, Try.ntmps31
  go_wp2_with (first | ((first | (refine is_load rfl ?_; refine wl_ev rfl (by first | exact c_ld H rfl rfl | exact c_ld0 H rfl rfl | exact c_ldz H rfl rfl | exact c_ldr H rfl rfl) ?_) | (refine is_cmp rfl rfl ?_; first | (refine wl_ev rfl (by first | exact ev_cmpT rfl rfl rfl rfl | exact ev_cmpF rfl rfl rfl rfl) ?_) | (refine wl_cmp rfl rfl rfl rfl rfl (fun h => ?_) (fun h => ?_) <;> (simp only [cmpP] at h))) | (refine is_indexAddr rfl ?_; refine wl_ev rfl (c_ix rfl rfl rfl) ?_)) <;> (simp only [nrm, ↓reduceIte, Nat.reduceAdd]))  )
  refine Calls.mono (ready_any (Hin.out.fr H.fr (by simp)) wi) ?_
  rintro e w1 ⟨v, rfl, hF, hown⟩
  have hwl := readyW_len s wi
  cases hrw : readyW s wi with
  | cons t l =>
    rw [hrw] at hown hwl
    have Hc := hid (choose_own hrw)
    clear hrw
    obtain ⟨g, cap, pad, rfl, hn2, hc2, hl2, hg2, H1⟩ := H.row hF hown (by simp)
    clear H hF hown
    have H := H1
    clear H1
    have h0 : (readyV (t :: l) ++ pad)[0]? = some (.int .i64 t) := rfl
    have hlen : 0 < (t :: l).length := by simp
    generalize (t :: l).length = m at hn2 hlen hwl ⊢
    generalize readyV (t :: l) ++ pad = cs at H h0
    go_wp2_with (first | ((first | (refine is_load rfl ?_; refine wl_ev rfl (by first | exact c_ld H rfl rfl | exact c_ld0 H rfl rfl | exact c_ldz H rfl rfl | exact c_ldr H rfl rfl) ?_) | (refine is_cmp rfl rfl ?_; first | (refine wl_ev rfl (by first | exact ev_cmpT rfl rfl rfl rfl | exact ev_cmpF rfl rfl rfl rfl) ?_) | (refine wl_cmp rfl rfl rfl rfl rfl (fun h => ?_) (fun h => ?_) <;> (simp only [cmpP] at h))) | (refine is_indexAddr rfl ?_; refine wl_ev rfl (c_ix rfl rfl rfl) ?_)) <;> (simp only [nrm, ↓reduceIte, Nat.reduceAdd]))  )
    (refine bodyPost_ret (results_tmp rfl _ _ _) rfl ?_)
    exact ⟨by rw [Hc.out]; rfl, H.fr⟩
  | nil =>
    rw [hrw] at hown
    have Hc := hid (choose_other hrw)
    clear hrw hwl
    obtain ⟨p, c, rfl⟩ := ReadyOut.form hown
    have H1 := H.step hF (by simp)
    clear H hF hown
    have H := H1
    clear H1
    go_wp2_with (first | ((first | (refine is_load rfl ?_; refine wl_ev rfl (by first | exact c_ld H rfl rfl | exact c_ld0 H rfl rfl | exact c_ldz H rfl rfl | exact c_ldr H rfl rfl) ?_) | (refine is_cmp rfl rfl ?_; first | (refine wl_ev rfl (by first | exact ev_cmpT rfl rfl rfl rfl | exact ev_cmpF rfl rfl rfl rfl) ?_) | (refine wl_cmp rfl rfl rfl rfl rfl (fun h => ?_) (fun h => ?_) <;> (simp only [cmpP] at h))) | (refine is_indexAddr rfl ?_; refine wl_ev rfl (c_ix rfl rfl rfl) ?_)) <;> (simp only [nrm, ↓reduceIte, Nat.reduceAdd]))  )
    go_loopw [6, 7, 24] (fun s6 s7 s24 wr => ∃ v : Nat, v ≤ s.tas.length ∧ s24 = .int .i64 v ∧ s6 = .int .i64 (chooseF s v).1 ∧ s7 = .int .i64 (chooseF s v).2 ∧ Hp [] w wr [.rng A.b 0 [A.vp, A.vo, .slice (some ⟨A.gs, 0, none⟩) s.par.length s.par.length, .slice (some ⟨A.ga, 0, none⟩) s.par.length s.par.length, .slice (some ⟨A.gt, 0, none⟩) s.tas.length A.ct, .slice (some ⟨A.gl, 0, none⟩) s.tas.length A.cl]]) (fun _ _ v _ => s.tas.length - (intOf v).toNat)
    case atStart => exact ⟨0, Nat.zero_le _, rfl, rfl, rfl, H.sub (by repeat first | exact List.Sublist.refl _ | exact List.nil_sublist _ | apply List.Sublist.cons_cons | apply List.Sublist.cons)⟩
    case round =>
      clear H
      obtain ⟨v, hv, rfl, rfl, rfl, H⟩ := hrel
      by_cases hvk : v < s.tas.length
      · have hwl := readyW_len s v
        go_wp2_with (first | ((first | (refine is_load rfl ?_; refine wl_ev rfl (by first | exact c_ld H rfl rfl | exact c_ld0 H rfl rfl | exact c_ldz H rfl rfl | exact c_ldr H rfl rfl) ?_) | (refine is_cmp rfl rfl ?_; first | (refine wl_ev rfl (by first | exact ev_cmpT rfl rfl rfl rfl | exact ev_cmpF rfl rfl rfl rfl) ?_) | (refine wl_cmp rfl rfl rfl rfl rfl (fun h => ?_) (fun h => ?_) <;> (simp only [cmpP] at h))) | (refine is_indexAddr rfl ?_; refine wl_ev rfl (c_ix rfl rfl rfl) ?_)) <;> (simp only [nrm, ↓reduceIte, Nat.reduceAdd]))  )
        refine Calls.mono (ready_any (Hin.out.fr H.fr (by simp)) v) ?_
        rintro e w1 ⟨vv, rfl, hF, hown⟩
        by_cases hm : (chooseF s v).2 < (readyW s v).length
        · obtain ⟨m, hmx⟩ : ∃ m, (readyW s v)[(readyW s v).length - 1]? = some m := ⟨_, List.getElem?_eq_getElem (by omega)⟩
          have hcf := chooseF_yes hm hmx
          have Hcf := hid hcf
          clear hcf
          have hmv : (readyV (readyW s v))[(readyW s v).length - 1]? = some (.int .i64 m) := by simp [readyV, hmx]
          clear hmx
          obtain ⟨g, cap, pad, rfl, hn2, hc2, hl2, hg2, H1⟩ := H.row hF hown (by omega)
          clear H hF hown
          have H := H1
          clear H1
          have hmv2 := pre_at (pad := pad) hmv
          clear hmv
          generalize readyV (readyW s v) ++ pad = cs at H hmv2
          generalize (chooseF s v).2 = c2 at hm ⊢
          generalize (chooseF s v).1 = c1
          generalize (readyW s v).length = L at *
          have hmv3 : cs[((L : Int) - 1).toNat]? = some (.int .i64 m) := by rw [show ((L : Int) - 1).toNat = L - 1 by omega]; exact hmv2
          clear hmv2
          go_wp2_with (first | ((first | (refine is_load rfl ?_; refine wl_ev rfl (by first | exact c_ld H rfl rfl | exact c_ld0 H rfl rfl | exact c_ldz H rfl rfl | exact c_ldr H rfl rfl) ?_) | (refine is_cmp rfl rfl ?_; first | (refine wl_ev rfl (by first | exact ev_cmpT rfl rfl rfl rfl | exact ev_cmpF rfl rfl rfl rfl) ?_) | (refine wl_cmp rfl rfl rfl rfl rfl (fun h => ?_) (fun h => ?_) <;> (simp only [cmpP] at h))) | (refine is_indexAddr rfl ?_; refine wl_ev rfl (c_ix rfl rfl rfl) ?_)) <;> (simp only [nrm, ↓reduceIte, Nat.reduceAdd]))  )
          go_roundw
          case rel => exact ⟨v + 1, by omega, by go_num, by rw [Hcf.out], by rw [Hcf.out], H.sub (by repeat first | exact List.Sublist.refl _ | exact List.nil_sublist _ | apply List.Sublist.cons_cons | apply List.Sublist.cons)⟩
          case measure => simp [intOf]; omega
        · have hcf := chooseF_no hm
          have Hcf := hid hcf
          clear hcf
          obtain ⟨p2, cc2, rfl⟩ := ReadyOut.form hown
          have H1 := H.step hF (by simp)
          clear H hF hown
          have H := H1
          clear H1
          go_wp2_with (first | ((first | (refine is_load rfl ?_; refine wl_ev rfl (by first | exact c_ld H rfl rfl | exact c_ld0 H rfl rfl | exact c_ldz H rfl rfl | exact c_ldr H rfl rfl) ?_) | (refine is_cmp rfl rfl ?_; first | (refine wl_ev rfl (by first | exact ev_cmpT rfl rfl rfl rfl | exact ev_cmpF rfl rfl rfl rfl) ?_) | (refine wl_cmp rfl rfl rfl rfl rfl (fun h => ?_) (fun h => ?_) <;> (simp only [cmpP] at h))) | (refine is_indexAddr rfl ?_; refine wl_ev rfl (c_ix rfl rfl rfl) ?_)) <;> (simp only [nrm, ↓reduceIte, Nat.reduceAdd]))  )
          go_roundw
          case rel => exact ⟨v + 1, by omega, by go_num, by rw [Hcf.out], by rw [Hcf.out], H.sub (by repeat first | exact List.Sublist.refl _ | exact List.nil_sublist _ | apply List.Sublist.cons_cons | apply List.Sublist.cons)⟩
          case measure => simp [intOf]; omega
      · have e : v = s.tas.length := by omega
        have Hce : Hid (choose s wi = (chooseF s v).1) := hid (by rw [e]; exact Hc.out)
        clear e
        go_wp2_with (first | ((first | (refine is_load rfl ?_; refine wl_ev rfl (by first | exact c_ld H rfl rfl | exact c_ld0 H rfl rfl | exact c_ldz H rfl rfl | exact c_ldr H rfl rfl) ?_) | (refine is_cmp rfl rfl ?_; first | (refine wl_ev rfl (by first | exact ev_cmpT rfl rfl rfl rfl | exact ev_cmpF rfl rfl rfl rfl) ?_) | (refine wl_cmp rfl rfl rfl rfl rfl (fun h => ?_) (fun h => ?_) <;> (simp only [cmpP] at h))) | (refine is_indexAddr rfl ?_; refine wl_ev rfl (c_ix rfl rfl rfl) ?_)) <;> (simp only [nrm, ↓reduceIte, Nat.reduceAdd]))  )
        (refine bodyPost_ret (results_tmp rfl _ _ _) rfl ?_)
        exact ⟨by rw [Hce.out]; rfl, H.fr⟩
set_option maxHeartbeats 4000000 in
set_option maxRecDepth 100000 in
theorem readyOf_any {A : PA} {s : PS} {w : World} (h : PoolIn A s w) (wi : Int) :
    Calls Try.prog 20 #[.pointer (some ⟨A.b, 0, none⟩), .int .i64 wi] w fun e w' => ∃ v, e = .returned v ∧ Fr [] w w' ∧ w'.ownsRow w.heap.size 3 1 v (readyW s wi).length (readyV (readyW s wi)) := by
  have H := Hp.start [] w
  go_enter Try.func20, Try.ntmps20
  go_wp2_with (first | ((first | (refine is_cmp rfl rfl ?_; first | (refine wl_ev rfl (by first | exact ev_cmpT rfl rfl rfl rfl | exact ev_cmpF rfl rfl rfl rfl | exact c_peq rfl rfl | exact c_pne rfl rfl) ?_) | (refine wl_cmp rfl rfl rfl rfl rfl (fun h => ?_) (fun h => ?_) <;> (simp only [cmpP] at h)))     ) <;> (simp only [nrm, ↓reduceIte, Nat.reduceAdd]))  )
  refine Calls.mono (ready_any h wi) ?_
  rintro e w1 ⟨v, rfl, hF, hown⟩
  have H1 := H.step hF (by simp)
  clear H
  have H := H1
  clear H1
  go_wp2_with (first | ((first | (refine is_cmp rfl rfl ?_; first | (refine wl_ev rfl (by first | exact ev_cmpT rfl rfl rfl rfl | exact ev_cmpF rfl rfl rfl rfl | exact c_peq rfl rfl | exact c_pne rfl rfl) ?_) | (refine wl_cmp rfl rfl rfl rfl rfl (fun h => ?_) (fun h => ?_) <;> (simp only [cmpP] at h)))     ) <;> (simp only [nrm, ↓reduceIte, Nat.reduceAdd]))  )
  (refine bodyPost_ret (results_tmp rfl _ _ _) rfl ?_)
  exact ⟨v, rfl, hF, hown⟩
set_option maxHeartbeats 4000000 in
set_option maxRecDepth 100000 in
theorem live_any {A : PA} {s : PS} {w : World} (h : PoolIn A s w) (wi : Int) :
    Calls Try.prog 26 #[.pointer (some ⟨A.b, 0, none⟩), .int .i64 wi] w fun e w' => e = .returned (.bool (isW s wi)) ∧ Fr [] w w' := by
  have H := Hp.start [] w
  go_enter Try.func26, Try.ntmps26
  go_wp2_with (first | ((first | (refine is_cmp rfl rfl ?_; first | (refine wl_ev rfl (by first | exact ev_cmpT rfl rfl rfl rfl | exact ev_cmpF rfl rfl rfl rfl | exact c_peq rfl rfl | exact c_pne rfl rfl) ?_) | (refine wl_cmp rfl rfl rfl rfl rfl (fun h => ?_) (fun h => ?_) <;> (simp only [cmpP] at h)))     ) <;> (simp only [nrm, ↓reduceIte, Nat.reduceAdd]))  )
  (refine Calls.mono (worker_any h wi) ?_; rintro e w1 ⟨rfl, hF⟩; have H1 := H.step hF (by simp); clear H; have H := H1; clear H1)
  go_wp2_with (first | ((first | (refine is_cmp rfl rfl ?_; first | (refine wl_ev rfl (by first | exact ev_cmpT rfl rfl rfl rfl | exact ev_cmpF rfl rfl rfl rfl | exact c_peq rfl rfl | exact c_pne rfl rfl) ?_) | (refine wl_cmp rfl rfl rfl rfl rfl (fun h => ?_) (fun h => ?_) <;> (simp only [cmpP] at h)))     ) <;> (simp only [nrm, ↓reduceIte, Nat.reduceAdd]))  )
  (refine bodyPost_ret (results_tmp rfl _ _ _) rfl ?_)
  exact ⟨rfl, H.fr⟩
set_option maxHeartbeats 4000000 in
set_option maxRecDepth 100000 in
theorem running_any {A : PA} {s : PS} {w : World} (h : PoolIn A s w) (wi : Int) :
    Calls Try.prog 19 #[.pointer (some ⟨A.b, 0, none⟩), .int .i64 wi] w fun e w' => e = .returned (.int .i64 (runW s wi)) ∧ Fr [] w w' := by
  have H := h.rdo
  have hk := h.wf.k8
  clear h
  by_cases h0 : wi < 0
  · have e : runW s wi = -1 := by unfold runW; rw [if_pos h0]
    rw [e]
    clear e
    go_enter Try.func19, Try.ntmps19
    go_wp2_with (first | ((first | (refine is_load rfl ?_; refine wl_ev rfl (by first | exact c_ld H rfl rfl | exact c_ld0 H rfl rfl | exact c_ldz H rfl rfl | exact c_ldr H rfl rfl) ?_) | (refine is_cmp rfl rfl ?_; first | (refine wl_ev rfl (by first | exact ev_cmpT rfl rfl rfl rfl | exact ev_cmpF rfl rfl rfl rfl | exact c_peq rfl rfl | exact c_pne rfl rfl) ?_) | (refine wl_cmp rfl rfl rfl rfl rfl (fun h => ?_) (fun h => ?_) <;> (simp only [cmpP] at h))) | (refine is_indexAddr rfl ?_; refine wl_ev rfl (c_ix rfl rfl rfl) ?_)) <;> (simp only [nrm, ↓reduceIte, Nat.reduceAdd]))  )
    (refine bodyPost_ret (results_tmp rfl _ _ _) rfl ?_)
    exact ⟨rfl, H.fr⟩
  obtain ⟨v, rfl⟩ : ∃ v : Nat, wi = v := ⟨wi.toNat, by omega⟩
  by_cases hv : v < s.tas.length
  · obtain ⟨x, hx⟩ : ∃ x, s.tas[v]? = some x := ⟨_, List.getElem?_eq_getElem (by omega)⟩
    have hxv := ints_at hx
    have e : runW s v = x := by unfold runW; rw [if_neg (by omega), Int.toNat_natCast, hx]; rfl
    rw [e]
    clear hx e
    go_enter Try.func19, Try.ntmps19
    go_wp2_with (first | ((first | (refine is_load rfl ?_; refine wl_ev rfl (by first | exact c_ld H rfl rfl | exact c_ld0 H rfl rfl | exact c_ldz H rfl rfl | exact c_ldr H rfl rfl) ?_) | (refine is_cmp rfl rfl ?_; first | (refine wl_ev rfl (by first | exact ev_cmpT rfl rfl rfl rfl | exact ev_cmpF rfl rfl rfl rfl | exact c_peq rfl rfl | exact c_pne rfl rfl) ?_) | (refine wl_cmp rfl rfl rfl rfl rfl (fun h => ?_) (fun h => ?_) <;> (simp only [cmpP] at h))) | (refine is_indexAddr rfl ?_; refine wl_ev rfl (c_ix rfl rfl rfl) ?_)) <;> (simp only [nrm, ↓reduceIte, Nat.reduceAdd]))  )
    (refine bodyPost_ret (results_tmp rfl _ _ _) rfl ?_)
    exact ⟨rfl, H.fr⟩
  · have e : runW s v = -1 := by unfold runW; rw [if_neg (by omega), Int.toNat_natCast, List.getElem?_eq_none (by omega)]; rfl
    rw [e]
    clear e
    go_enter Try.func19, Try.ntmps19
    go_wp2_with (first | ((first | (refine is_load rfl ?_; refine wl_ev rfl (by first | exact c_ld H rfl rfl | exact c_ld0 H rfl rfl | exact c_ldz H rfl rfl | exact c_ldr H rfl rfl) ?_) | (refine is_cmp rfl rfl ?_; first | (refine wl_ev rfl (by first | exact ev_cmpT rfl rfl rfl rfl | exact ev_cmpF rfl rfl rfl rfl | exact c_peq rfl rfl | exact c_pne rfl rfl) ?_) | (refine wl_cmp rfl rfl rfl rfl rfl (fun h => ?_) (fun h => ?_) <;> (simp only [cmpP] at h))) | (refine is_indexAddr rfl ?_; refine wl_ev rfl (c_ix rfl rfl rfl) ?_)) <;> (simp only [nrm, ↓reduceIte, Nat.reduceAdd]))  )
    (refine bodyPost_ret (results_tmp rfl _ _ _) rfl ?_)
    exact ⟨rfl, H.fr⟩
def leftF (s : PS) (i : Nat) : Nat := ((s.sta.take i).filter fun x => x != 3).length
theorem leftF_yes {s : PS} {i : Nat} {x : Int} (h : s.sta[i]? = some x) (hx : x ≠ 3) : leftF s (i + 1) = leftF s i + 1 := by
  unfold leftF; rw [List.take_add_one, h, List.filter_append]; simp [hx]
theorem leftF_no {s : PS} {i : Nat} (h : s.sta[i]? = some 3) : leftF s (i + 1) = leftF s i := by
  unfold leftF; rw [List.take_add_one, h, List.filter_append]; simp
theorem leftF_le (s : PS) (i : Nat) : leftF s i ≤ i := by
  unfold leftF; exact Nat.le_trans (List.length_filter_le _ _) (by rw [List.length_take]; omega)
set_option maxHeartbeats 4000000 in
set_option maxRecDepth 100000 in
theorem left_any {A : PA} {s : PS} {w : World} (h : PoolIn A s w) :
    Calls Try.prog 18 #[.pointer (some ⟨A.b, 0, none⟩)] w fun e w' => e = .returned (.int .i64 (leftW s)) ∧ Fr [] w w' := by
  have H := h.rdo
  have hn := h.wf.n
  have hsl := h.wf.sta
  clear h
  go_enter Try.func18, Try.ntmps18
  go_wp2_with (first | ((first | (refine is_load rfl ?_; refine wl_ev rfl (by first | exact c_ld H rfl rfl | exact c_ld0 H rfl rfl | exact c_ldz H rfl rfl | exact c_ldr H rfl rfl) ?_) | (refine is_cmp rfl rfl ?_; first | (refine wl_ev rfl (by first | exact ev_cmpT rfl rfl rfl rfl | exact ev_cmpF rfl rfl rfl rfl | exact c_peq rfl rfl | exact c_pne rfl rfl) ?_) | (refine wl_cmp rfl rfl rfl rfl rfl (fun h => ?_) (fun h => ?_) <;> (simp only [cmpP] at h))) | (refine is_indexAddr rfl ?_; refine wl_ev rfl (c_ix rfl rfl rfl) ?_)) <;> (simp only [nrm, ↓reduceIte, Nat.reduceAdd]))  )
  go_loopw [3, 13] (fun s3 s13 wr => ∃ i : Nat, i ≤ s.par.length ∧ s13 = .int .i64 i ∧ s3 = .int .i64 (leftF s i) ∧ Hp [] w wr [.rng A.gs 0 (ints s.sta)]) (fun _ v _ => s.par.length - (intOf v).toNat)
  case atStart => exact ⟨0, Nat.zero_le _, rfl, rfl, H.sub (by repeat first | exact List.Sublist.refl _ | exact List.nil_sublist _ | apply List.Sublist.cons_cons | apply List.Sublist.cons)⟩
  case round =>
    clear H
    obtain ⟨i, hi, rfl, rfl, H⟩ := hrel
    have hle := leftF_le s i
    by_cases hin : i < s.par.length
    · obtain ⟨x, hx⟩ : ∃ x, s.sta[i]? = some x := ⟨_, List.getElem?_eq_getElem (by omega)⟩
      have hxv := ints_at hx
      by_cases hx3 : x = 3
      · subst hx3
        have Hf := hid (leftF_no hx)
        clear hx
        generalize leftF s i = L at *
        go_wp2_with (first | ((first | (refine is_load rfl ?_; refine wl_ev rfl (by first | exact c_ld H rfl rfl | exact c_ld0 H rfl rfl | exact c_ldz H rfl rfl | exact c_ldr H rfl rfl) ?_) | (refine is_cmp rfl rfl ?_; first | (refine wl_ev rfl (by first | exact ev_cmpT rfl rfl rfl rfl | exact ev_cmpF rfl rfl rfl rfl | exact c_peq rfl rfl | exact c_pne rfl rfl) ?_) | (refine wl_cmp rfl rfl rfl rfl rfl (fun h => ?_) (fun h => ?_) <;> (simp only [cmpP] at h))) | (refine is_indexAddr rfl ?_; refine wl_ev rfl (c_ix rfl rfl rfl) ?_)) <;> (simp only [nrm, ↓reduceIte, Nat.reduceAdd]))  )
        go_roundw
        case rel => exact ⟨i + 1, by omega, by go_num, by rw [Hf.out], H⟩
        case measure => simp [intOf]; omega
      · have Hf := hid (leftF_yes hx hx3)
        clear hx
        generalize leftF s i = L at *
        go_wp2_with (first | ((first | (refine is_load rfl ?_; refine wl_ev rfl (by first | exact c_ld H rfl rfl | exact c_ld0 H rfl rfl | exact c_ldz H rfl rfl | exact c_ldr H rfl rfl) ?_) | (refine is_cmp rfl rfl ?_; first | (refine wl_ev rfl (by first | exact ev_cmpT rfl rfl rfl rfl | exact ev_cmpF rfl rfl rfl rfl | exact c_peq rfl rfl | exact c_pne rfl rfl) ?_) | (refine wl_cmp rfl rfl rfl rfl rfl (fun h => ?_) (fun h => ?_) <;> (simp only [cmpP] at h))) | (refine is_indexAddr rfl ?_; refine wl_ev rfl (c_ix rfl rfl rfl) ?_)) <;> (simp only [nrm, ↓reduceIte, Nat.reduceAdd]))  )
        go_roundw
        case rel => exact ⟨i + 1, by omega, by go_num, by rw [Hf.out]; go_num, H⟩
        case measure => simp [intOf]; omega
    · have Hf : Hid (leftW s = leftF s i) := hid (by unfold leftW leftF; rw [List.take_of_length_le (by omega)])
      go_wp2_with (first | ((first | (refine is_load rfl ?_; refine wl_ev rfl (by first | exact c_ld H rfl rfl | exact c_ld0 H rfl rfl | exact c_ldz H rfl rfl | exact c_ldr H rfl rfl) ?_) | (refine is_cmp rfl rfl ?_; first | (refine wl_ev rfl (by first | exact ev_cmpT rfl rfl rfl rfl | exact ev_cmpF rfl rfl rfl rfl | exact c_peq rfl rfl | exact c_pne rfl rfl) ?_) | (refine wl_cmp rfl rfl rfl rfl rfl (fun h => ?_) (fun h => ?_) <;> (simp only [cmpP] at h))) | (refine is_indexAddr rfl ?_; refine wl_ev rfl (c_ix rfl rfl rfl) ?_)) <;> (simp only [nrm, ↓reduceIte, Nat.reduceAdd]))  )
      (refine bodyPost_ret (results_tmp rfl _ _ _) rfl ?_)
      exact ⟨by rw [Hf.out]; rfl, H.fr⟩
def doneF (s : PS) (i : Nat) : List Bool := (s.sta.take i).map fun x => x == 3
theorem doneF_step {s : PS} {i : Nat} {x : Int} (h : s.sta[i]? = some x) : doneF s (i + 1) = doneF s i ++ [x == 3] := by
  unfold doneF; rw [List.take_add_one, h, List.map_append]; rfl
theorem doneF_len (s : PS) (i : Nat) : (doneF s i).length ≤ i := by unfold doneF; rw [List.length_map, List.length_take]; omega
set_option maxHeartbeats 4000000 in
set_option maxRecDepth 100000 in
theorem done_any {A : PA} {s : PS} {w : World} (h : PoolIn A s w) :
    Calls Try.prog 27 #[.pointer (some ⟨A.b, 0, none⟩)] w fun e w' => ∃ v, e = .returned v ∧ Fr [] w w' ∧ w'.ownsRow w.heap.size 4 1 v (doneW s).length (boolsV (doneW s)) := by
  have H := h.rdo
  have hn := h.wf.n
  have hsl := h.wf.sta
  clear h
  have H := H.newRow 0 (e := 4) (sz := 1)
  go_enter Try.func27, Try.ntmps27
  go_wp2_with (first | ((first | (refine is_load rfl ?_; refine wl_ev rfl (by first | exact c_ld H rfl rfl | exact c_ld0 H rfl rfl | exact c_ldz H rfl rfl | exact c_ldr H rfl rfl) ?_) | (refine is_cmp rfl rfl ?_; first | (refine wl_ev rfl (by first | exact ev_cmpT rfl rfl rfl rfl | exact ev_cmpF rfl rfl rfl rfl | exact c_peq rfl rfl | exact c_pne rfl rfl) ?_) | (refine wl_cmp rfl rfl rfl rfl rfl (fun h => ?_) (fun h => ?_) <;> (simp only [cmpP] at h))) | (refine is_indexAddr rfl ?_; refine wl_ev rfl (c_ix rfl rfl rfl) ?_)) <;> (simp only [nrm, ↓reduceIte, Nat.reduceAdd])) | ((first | (refine is_buildSlice rfl ?_; first | (refine wl_rw rfl (fun K hK => c_s1t H rfl rfl rfl (h := (fun g w1 hg hf H1 => hK _ _ ?_)))) | (refine wl_rw rfl (fun K hK => c_s1c H rfl rfl (h := (fun g w1 hg hf H1 => hK _ _ ?_)))))   ); (clear hK K); (clear H; have H := H1; clear H1; (try dsimp only at H); (try clear hf)); (simp only [nrm, ↓reduceIte, Nat.reduceAdd])))
  go_loopw [3, 13] (fun s3 s13 wr => ∃ (i : Nat) (pv : Value) (S : List Nat), i ≤ s.par.length ∧ s13 = .int .i64 i ∧ s3 = pv ∧ Hp [] w wr [.obj 0 S (RowAt 4 1 pv (doneF s i).length (boolsV (doneF s i)) S), .rng A.gs 0 (ints s.sta)]) (fun _ v _ => s.par.length - (intOf v).toNat)
  case atStart => exact ⟨0, _, _, Nat.zero_le _, rfl, rfl, H.sub (by repeat first | exact List.Sublist.refl _ | exact List.nil_sublist _ | apply List.Sublist.cons_cons | apply List.Sublist.cons)⟩
  case round =>
    clear H
    obtain ⟨i, pv, S, hi, rfl, hpv, H⟩ := hrel
    obtain ⟨p5, c5, he, hle, hcm, _⟩ := (H.rowo 0).form
    subst he
    subst hpv
    have hrl := doneF_len s i
    by_cases hin : i < s.par.length
    · obtain ⟨x, hx⟩ : ∃ x, s.sta[i]? = some x := ⟨_, List.getElem?_eq_getElem (by omega)⟩
      have hxv := ints_at hx
      have hd := doneF_step hx
      by_cases hx3 : x = 3
      · subst hx3
        have Hd : Hid (doneF s (i + 1) = doneF s i ++ [true]) := hid hd
        clear hd hx
        go_wp2_with (first | ((first | (refine is_load rfl ?_; refine wl_ev rfl (by first | exact c_ld H rfl rfl | exact c_ld0 H rfl rfl | exact c_ldz H rfl rfl | exact c_ldr H rfl rfl) ?_) | (refine is_cmp rfl rfl ?_; first | (refine wl_ev rfl (by first | exact ev_cmpT rfl rfl rfl rfl | exact ev_cmpF rfl rfl rfl rfl | exact c_peq rfl rfl | exact c_pne rfl rfl) ?_) | (refine wl_cmp rfl rfl rfl rfl rfl (fun h => ?_) (fun h => ?_) <;> (simp only [cmpP] at h))) | (refine is_indexAddr rfl ?_; refine wl_ev rfl (c_ix rfl rfl rfl) ?_)) <;> (simp only [nrm, ↓reduceIte, Nat.reduceAdd])) | ((first | (refine is_buildSlice rfl ?_; first | (refine wl_rw rfl (fun K hK => c_s1t H rfl rfl rfl (h := (fun g w1 hg hf H1 => hK _ _ ?_)))) | (refine wl_rw rfl (fun K hK => c_s1c H rfl rfl (h := (fun g w1 hg hf H1 => hK _ _ ?_)))))   ); (clear hK K); (clear H; have H := H1; clear H1; (try dsimp only at H); (try clear hf)); (simp only [nrm, ↓reduceIte, Nat.reduceAdd])) | (refine is_blt (b := .append) rfl ?_; go_loud (refine wl_rw rfl (fun K hK => c_aprS H rfl rfl rfl 0 (H.rd (b := g) (off := 0) (vs := [.bool true]) List.prefix_rfl) rfl (by intro u hu; simp only [List.mem_singleton] at hu; subst hu; rfl) (by omega) (by unfold maxLen; omega) (fun p1 c1 w1 S' hf H1 => hK _ _ ?_))); (clear hK K); (clear H; have H := H1; clear H1; (try dsimp only at H); (try clear hf)); (simp only [nrm, ↓reduceIte, Nat.reduceAdd])))
        go_roundw
        case rel => exact ⟨i + 1, _, S', by omega, by go_num, rfl, by rw [Hd.out, List.length_append, List.length_singleton, show boolsV (doneF s i ++ [true]) = boolsV (doneF s i) ++ [.bool true] by simp [boolsV]]; exact H.sub (by repeat first | exact List.Sublist.refl _ | exact List.nil_sublist _ | apply List.Sublist.cons_cons | apply List.Sublist.cons)⟩
        case measure => simp [intOf]; omega
      · have Hd : Hid (doneF s (i + 1) = doneF s i ++ [false]) := hid (by rw [hd]; simp [hx3])
        clear hd hx
        go_wp2_with (first | ((first | (refine is_load rfl ?_; refine wl_ev rfl (by first | exact c_ld H rfl rfl | exact c_ld0 H rfl rfl | exact c_ldz H rfl rfl | exact c_ldr H rfl rfl) ?_) | (refine is_cmp rfl rfl ?_; first | (refine wl_ev rfl (by first | exact ev_cmpT rfl rfl rfl rfl | exact ev_cmpF rfl rfl rfl rfl | exact c_peq rfl rfl | exact c_pne rfl rfl) ?_) | (refine wl_cmp rfl rfl rfl rfl rfl (fun h => ?_) (fun h => ?_) <;> (simp only [cmpP] at h))) | (refine is_indexAddr rfl ?_; refine wl_ev rfl (c_ix rfl rfl rfl) ?_)) <;> (simp only [nrm, ↓reduceIte, Nat.reduceAdd])) | ((first | (refine is_buildSlice rfl ?_; first | (refine wl_rw rfl (fun K hK => c_s1t H rfl rfl rfl (h := (fun g w1 hg hf H1 => hK _ _ ?_)))) | (refine wl_rw rfl (fun K hK => c_s1c H rfl rfl (h := (fun g w1 hg hf H1 => hK _ _ ?_)))))   ); (clear hK K); (clear H; have H := H1; clear H1; (try dsimp only at H); (try clear hf)); (simp only [nrm, ↓reduceIte, Nat.reduceAdd])) | (refine is_blt (b := .append) rfl ?_; go_loud (refine wl_rw rfl (fun K hK => c_aprS H rfl rfl rfl 0 (H.rd (b := g) (off := 0) (vs := [.bool false]) List.prefix_rfl) rfl (by intro u hu; simp only [List.mem_singleton] at hu; subst hu; rfl) (by omega) (by unfold maxLen; omega) (fun p1 c1 w1 S' hf H1 => hK _ _ ?_))); (clear hK K); (clear H; have H := H1; clear H1; (try dsimp only at H); (try clear hf)); (simp only [nrm, ↓reduceIte, Nat.reduceAdd])))
        go_roundw
        case rel => exact ⟨i + 1, _, S', by omega, by go_num, rfl, by rw [Hd.out, List.length_append, List.length_singleton, show boolsV (doneF s i ++ [false]) = boolsV (doneF s i) ++ [.bool false] by simp [boolsV]]; exact H.sub (by repeat first | exact List.Sublist.refl _ | exact List.nil_sublist _ | apply List.Sublist.cons_cons | apply List.Sublist.cons)⟩
        case measure => simp [intOf]; omega
    · have e : doneF s i = doneW s := by unfold doneF doneW; rw [List.take_of_length_le (by omega)]
      rw [e] at H hle ⊢
      clear e hrl
      go_wp2_with (first | ((first | (refine is_load rfl ?_; refine wl_ev rfl (by first | exact c_ld H rfl rfl | exact c_ld0 H rfl rfl | exact c_ldz H rfl rfl | exact c_ldr H rfl rfl) ?_) | (refine is_cmp rfl rfl ?_; first | (refine wl_ev rfl (by first | exact ev_cmpT rfl rfl rfl rfl | exact ev_cmpF rfl rfl rfl rfl | exact c_peq rfl rfl | exact c_pne rfl rfl) ?_) | (refine wl_cmp rfl rfl rfl rfl rfl (fun h => ?_) (fun h => ?_) <;> (simp only [cmpP] at h))) | (refine is_indexAddr rfl ?_; refine wl_ev rfl (c_ix rfl rfl rfl) ?_)) <;> (simp only [nrm, ↓reduceIte, Nat.reduceAdd])) | ((first | (refine is_buildSlice rfl ?_; first | (refine wl_rw rfl (fun K hK => c_s1t H rfl rfl rfl (h := (fun g w1 hg hf H1 => hK _ _ ?_)))) | (refine wl_rw rfl (fun K hK => c_s1c H rfl rfl (h := (fun g w1 hg hf H1 => hK _ _ ?_)))))   ); (clear hK K); (clear H; have H := H1; clear H1; (try dsimp only at H); (try clear hf)); (simp only [nrm, ↓reduceIte, Nat.reduceAdd])))
      (refine bodyPost_ret (results_tmp rfl _ _ _) rfl ?_)
      exact ⟨_, rfl, H.fr, (H.rowo 0).owns (fun x hx => (H.home 0 x hx).resolve_left (by simp))⟩
end Go.Proofs.Ythlhjjokodmihaa
