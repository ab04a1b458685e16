/-
  The pool's methods that write: Lose, Join; Contains.
-/
import Derived.Test.YthlhjjokodmihaaPl3
namespace Go.Proofs.Ythlhjjokodmihaa
open Go.RowKit
set_option linter.unusedSimpArgs false
set_option linter.unusedVariables false
set_option maxHeartbeats 4000000 in
set_option maxRecDepth 100000 in
theorem index_any {w : World} {b n c : Nat} {bs : List Bool} (hn : bs.length = n) (hl : n ≤ 1000) (hb : b < w.heap.size) (hr : ∀ (j : Nat) u, (boolsV bs)[j]? = some u → w.cell? ⟨b, 0 + j, none⟩ = some u) :
    Calls Try.prog 49 #[.slice (some ⟨b, 0, none⟩) n c, .bool true] w fun e w' => ∃ i : Int, e = .returned (.int .i64 i) ∧ Fr [] w w' ∧ (0 ≤ i ↔ bs.contains true = true) := by
  have H := (Hp.start [] w).pushRng (b := b) (off := 0) (cs := boolsV bs) hb (by simp) hr
  clear hr
  go_enter Try.func49, Try.ntmps49
  go_wp2_with (first | ((first | (refine is_load rfl ?_; refine wl_ev rfl (by first | exact c_ld H rfl rfl | exact c_ld0 H rfl rfl | exact c_ldz H rfl rfl | exact c_ldr H rfl rfl) ?_) | (refine is_cmp rfl rfl ?_; first | (refine wl_ev rfl (by first | exact ev_cmpT rfl rfl rfl rfl | exact ev_cmpF rfl rfl rfl rfl) ?_) | (refine wl_cmp rfl rfl rfl rfl rfl (fun h => ?_) (fun h => ?_) <;> (simp only [cmpP] at h))) | (refine is_indexAddr rfl ?_; refine wl_ev rfl (c_ix rfl rfl rfl) ?_)) <;> (simp only [nrm, ↓reduceIte, Nat.reduceAdd]))  )
  go_loopw [8] (fun s8 wr => ∃ i : Nat, i ≤ n ∧ s8 = .int .i64 i ∧ Hid (∀ c, c < i → bs[c]? = some false) ∧ Hp [] w wr [.rng b 0 (boolsV bs)]) (fun v _ => n - (intOf v).toNat)
  case atStart => exact ⟨0, Nat.zero_le _, rfl, hid (fun c hc => by omega), H⟩
  case round =>
    clear H
    obtain ⟨i, hi, rfl, hall, H⟩ := hrel
    by_cases hin : i < n
    · obtain ⟨x, hx⟩ : ∃ x, bs[i]? = some x := ⟨_, List.getElem?_eq_getElem (by omega)⟩
      have hxv := boolsV_at hx
      have Hx := hid hx
      clear hx
      cases x
      · go_wp2_with (first | ((first | (refine is_load rfl ?_; refine wl_ev rfl (by first | exact c_ld H rfl rfl | exact c_ld0 H rfl rfl | exact c_ldz H rfl rfl | exact c_ldr H rfl rfl) ?_) | (refine is_cmp rfl rfl ?_; first | (refine wl_ev rfl (by first | exact ev_cmpT rfl rfl rfl rfl | exact ev_cmpF rfl rfl rfl rfl) ?_) | (refine wl_cmp rfl rfl rfl rfl rfl (fun h => ?_) (fun h => ?_) <;> (simp only [cmpP] at h))) | (refine is_indexAddr rfl ?_; refine wl_ev rfl (c_ix rfl rfl rfl) ?_)) <;> (simp only [nrm, ↓reduceIte, Nat.reduceAdd]))  )
        go_roundw
        case rel => exact ⟨i + 1, by omega, by go_num, hid (upto_step (P := fun c => bs[c]? = some false) hall.out Hx.out), H⟩
        case measure => simp [intOf]; omega
      · go_wp2_with (first | ((first | (refine is_load rfl ?_; refine wl_ev rfl (by first | exact c_ld H rfl rfl | exact c_ld0 H rfl rfl | exact c_ldz H rfl rfl | exact c_ldr H rfl rfl) ?_) | (refine is_cmp rfl rfl ?_; first | (refine wl_ev rfl (by first | exact ev_cmpT rfl rfl rfl rfl | exact ev_cmpF rfl rfl rfl rfl) ?_) | (refine wl_cmp rfl rfl rfl rfl rfl (fun h => ?_) (fun h => ?_) <;> (simp only [cmpP] at h))) | (refine is_indexAddr rfl ?_; refine wl_ev rfl (c_ix rfl rfl rfl) ?_)) <;> (simp only [nrm, ↓reduceIte, Nat.reduceAdd]))  )
        go_ret
        exact ⟨i, rfl, H.fr, ⟨fun _ => by rw [List.contains_iff_mem]; exact List.mem_of_getElem? Hx.out, fun _ => by omega⟩⟩
    · go_wp2_with (first | ((first | (refine is_load rfl ?_; refine wl_ev rfl (by first | exact c_ld H rfl rfl | exact c_ld0 H rfl rfl | exact c_ldz H rfl rfl | exact c_ldr H rfl rfl) ?_) | (refine is_cmp rfl rfl ?_; first | (refine wl_ev rfl (by first | exact ev_cmpT rfl rfl rfl rfl | exact ev_cmpF rfl rfl rfl rfl) ?_) | (refine wl_cmp rfl rfl rfl rfl rfl (fun h => ?_) (fun h => ?_) <;> (simp only [cmpP] at h))) | (refine is_indexAddr rfl ?_; refine wl_ev rfl (c_ix rfl rfl rfl) ?_)) <;> (simp only [nrm, ↓reduceIte, Nat.reduceAdd]))  )
      go_ret
      refine ⟨-1, rfl, H.fr, ⟨fun h => by omega, fun h => ?_⟩⟩
      rw [List.contains_iff_mem] at h
      obtain ⟨j, hj⟩ := List.mem_iff_getElem?.1 h
      have hjl := (List.getElem?_eq_some_iff.1 hj).1
      rw [hall.out j (by omega)] at hj
      cases hj
set_option maxHeartbeats 4000000 in
set_option maxRecDepth 100000 in
theorem contains_any {w : World} {b n c : Nat} {bs : List Bool} (hn : bs.length = n) (hl : n ≤ 1000) (hb : b < w.heap.size) (hr : ∀ (j : Nat) u, (boolsV bs)[j]? = some u → w.cell? ⟨b, 0 + j, none⟩ = some u) :
    Calls Try.prog 33 #[.slice (some ⟨b, 0, none⟩) n c, .bool true] w fun e w' => e = .returned (.bool (bs.contains true)) ∧ Fr [] w w' := by
  have H := Hp.start [] w
  go_enter Try.func33, Try.ntmps33
  go_wp2_with (first | ((first | (refine is_cmp rfl rfl ?_; first | (refine wl_ev rfl (by first | exact ev_cmpT rfl rfl rfl rfl | exact ev_cmpF rfl rfl rfl rfl) ?_) | (refine wl_cmp rfl rfl rfl rfl rfl (fun h => ?_) (fun h => ?_) <;> (simp only [cmpP] at h)))     ) <;> (simp only [nrm, ↓reduceIte, Nat.reduceAdd]))  )
  refine Calls.mono (index_any hn hl hb hr) ?_
  rintro e w1 ⟨i, rfl, hF, hi⟩
  have H1 := H.step hF (by simp)
  clear H
  have H := H1
  clear H1
  have Hi := hid hi
  clear hi
  by_cases h0 : 0 ≤ i
  · have Hc := hid (Hi.out.1 h0)
    go_wp2_with (first | ((first | (refine is_cmp rfl rfl ?_; first | (refine wl_ev rfl (by first | exact ev_cmpT rfl rfl rfl rfl | exact ev_cmpF rfl rfl rfl rfl) ?_) | (refine wl_cmp rfl rfl rfl rfl rfl (fun h => ?_) (fun h => ?_) <;> (simp only [cmpP] at h)))     ) <;> (simp only [nrm, ↓reduceIte, Nat.reduceAdd]))  )
    go_ret
    exact ⟨by rw [Hc.out]; rfl, H.fr⟩
  · have Hc : Hid (bs.contains true = false) := hid (by
      cases e : bs.contains true
      · rfl
      · exact absurd (Hi.out.2 e) h0)
    go_wp2_with (first | ((first | (refine is_cmp rfl rfl ?_; first | (refine wl_ev rfl (by first | exact ev_cmpT rfl rfl rfl rfl | exact ev_cmpF rfl rfl rfl rfl) ?_) | (refine wl_cmp rfl rfl rfl rfl rfl (fun h => ?_) (fun h => ?_) <;> (simp only [cmpP] at h)))     ) <;> (simp only [nrm, ↓reduceIte, Nat.reduceAdd]))  )
    go_ret
    exact ⟨by rw [Hc.out]; rfl, H.fr⟩
def movedF (s : PS) (w : Int) (to i : Nat) : List Int := ((readyW s w).take i).foldl (fun l t => l.set t (to : Int)) s.loc
theorem movedF_step {s : PS} {w : Int} {to i t : Nat} (h : (readyW s w)[i]? = some t) : movedF s w to (i + 1) = (movedF s w to i).set t (to : Int) := by
  unfold movedF; rw [List.take_add_one, h, List.foldl_append]; rfl
theorem movedF_len (s : PS) (w : Int) (to i : Nat) : (movedF s w to i).length = s.loc.length := by
  unfold movedF
  generalize (readyW s w).take i = l
  generalize s.loc = m
  induction l generalizing m with
  | nil => rfl
  | cons t l ih => rw [List.foldl_cons, ih, List.length_set]
theorem movedF_all (s : PS) (w : Int) (to : Nat) : movedF s w to (readyW s w).length = moved s w to := by
  unfold movedF moved; rw [List.take_of_length_le (Nat.le_refl _)]
theorem readyW_lt {s : PS} {w : Int} {i t : Nat} (h : (readyW s w)[i]? = some t) : t < s.par.length := List.mem_range.1 (List.mem_filter.1 (List.mem_of_getElem? h)).1
set_option maxHeartbeats 4000000 in
set_option maxRecDepth 100000 in
theorem join_any {A : PA} {s : PS} {w : World} (h : PoolIn A s w) (wi : Int) :
    Calls Try.prog 17 #[.pointer (some ⟨A.b, 0, none⟩), .int .i64 wi] w fun e w' => e = .returned (.int .i64 (join s wi).1) ∧ Fr A.T w w' ∧ PoolIn A (join s wi).2 w' := by
  obtain ⟨padt, padl, H⟩ := h.wro
  have hk := h.wf.k8
  have hlv := h.wf.liv
  have Hin := hid h
  clear h
  by_cases h0 : wi < 0
  · have Ht : Hid (join s wi = (330, s)) := hid (by unfold join; rw [if_pos (.inl h0)])
    go_enter Try.func17, Try.ntmps17
    go_wp2_with (first | ((first | (refine is_load rfl ?_; refine wl_ev rfl (by first | exact c_ld H rfl rfl | exact c_ld0 H rfl rfl | exact c_ldz H rfl rfl | exact c_ldr H rfl rfl) ?_) | (refine is_cmp rfl rfl ?_; first | (refine wl_ev rfl (by first | exact ev_cmpT rfl rfl rfl rfl | exact ev_cmpF rfl rfl rfl rfl | exact c_peq rfl rfl | exact c_pne rfl rfl) ?_) | (refine wl_cmp rfl rfl rfl rfl rfl (fun h => ?_) (fun h => ?_) <;> (simp only [cmpP] at h))) | (refine is_indexAddr rfl ?_; refine wl_ev rfl (c_ix rfl rfl rfl) ?_)) <;> (simp only [nrm, ↓reduceIte, Nat.reduceAdd])) | ((first | (refine is_store rfl ?_; first | (refine wl_rw rfl (fun K hK => c_st H rfl rfl rfl (h := (fun w1 hf H1 => hK _ _ ?_)))) | (refine wl_rw rfl (fun K hK => c_stc H rfl rfl (h := (fun w1 hf H1 => hK _ _ ?_)))))); (clear hK K); (clear H; have H := H1; clear H1; (try dsimp only at H); (try clear hf)); (simp only [nrm, ↓reduceIte, Nat.reduceAdd])))
    go_ret
    exact ⟨by rw [Ht.out]; rfl, H.fr, by rw [Ht.out]; exact Hin.out.cls (H.sub (by repeat first | exact List.Sublist.refl _ | exact List.nil_sublist _ | apply List.Sublist.cons_cons | apply List.Sublist.cons)) rfl Hin.out.wf⟩
  obtain ⟨v, rfl⟩ : ∃ v : Nat, wi = v := ⟨wi.toNat, by omega⟩
  by_cases hv : v < s.tas.length
  · obtain ⟨x, hx⟩ : ∃ x, s.liv[v]? = some x := ⟨_, List.getElem?_eq_getElem (by omega)⟩
    have hxv := pre_at (pad := padl) (boolsV_at hx)
    cases x
    · have Ht : Hid (join s v = (0, { s with liv := s.liv.set v true })) := hid (by unfold join; rw [if_neg (by omega), Int.toNat_natCast, hx]; rfl)
      have hv1 : v < s.liv.length := by omega
      have Hwf : Hid (PW ⟨s.par, s.own, s.sta, s.loc, s.tas, s.liv.set v true⟩) := hid (Hin.out.wf.upd rfl rfl rfl (List.length_set ..) Hin.out.wf.tas' ⟨v, by rw [List.getElem?_set_self hv1]⟩)
      clear hx hlv
      go_enter Try.func17, Try.ntmps17
      go_wp2_with (first | ((first | (refine is_load rfl ?_; refine wl_ev rfl (by first | exact c_ld H rfl rfl | exact c_ld0 H rfl rfl | exact c_ldz H rfl rfl | exact c_ldr H rfl rfl) ?_) | (refine is_cmp rfl rfl ?_; first | (refine wl_ev rfl (by first | exact ev_cmpT rfl rfl rfl rfl | exact ev_cmpF rfl rfl rfl rfl | exact c_peq rfl rfl | exact c_pne rfl rfl) ?_) | (refine wl_cmp rfl rfl rfl rfl rfl (fun h => ?_) (fun h => ?_) <;> (simp only [cmpP] at h))) | (refine is_indexAddr rfl ?_; refine wl_ev rfl (c_ix rfl rfl rfl) ?_)) <;> (simp only [nrm, ↓reduceIte, Nat.reduceAdd])) | ((first | (refine is_store rfl ?_; first | (refine wl_rw rfl (fun K hK => c_st H rfl rfl rfl (h := (fun w1 hf H1 => hK _ _ ?_)))) | (refine wl_rw rfl (fun K hK => c_stc H rfl rfl (h := (fun w1 hf H1 => hK _ _ ?_)))))); (clear hK K); (clear H; have H := H1; clear H1; (try dsimp only at H); (try clear hf)); (simp only [nrm, ↓reduceIte, Nat.reduceAdd])))
      rw [boolsP_set _ _ _ _ hv1] at H
      go_ret
      refine ⟨by rw [Ht.out]; rfl, H.fr, ?_⟩
      rw [Ht.out]
      exact Hin.out.cls (H.sub (by repeat first | exact List.Sublist.refl _ | exact List.nil_sublist _ | apply List.Sublist.cons_cons | apply List.Sublist.cons)) rfl Hwf.out
    · have Ht : Hid (join s v = (330, s)) := hid (by unfold join; rw [if_neg (by omega), Int.toNat_natCast, hx]; rfl)
      clear hx hlv
      go_enter Try.func17, Try.ntmps17
      go_wp2_with (first | ((first | (refine is_load rfl ?_; refine wl_ev rfl (by first | exact c_ld H rfl rfl | exact c_ld0 H rfl rfl | exact c_ldz H rfl rfl | exact c_ldr H rfl rfl) ?_) | (refine is_cmp rfl rfl ?_; first | (refine wl_ev rfl (by first | exact ev_cmpT rfl rfl rfl rfl | exact ev_cmpF rfl rfl rfl rfl | exact c_peq rfl rfl | exact c_pne rfl rfl) ?_) | (refine wl_cmp rfl rfl rfl rfl rfl (fun h => ?_) (fun h => ?_) <;> (simp only [cmpP] at h))) | (refine is_indexAddr rfl ?_; refine wl_ev rfl (c_ix rfl rfl rfl) ?_)) <;> (simp only [nrm, ↓reduceIte, Nat.reduceAdd])) | ((first | (refine is_store rfl ?_; first | (refine wl_rw rfl (fun K hK => c_st H rfl rfl rfl (h := (fun w1 hf H1 => hK _ _ ?_)))) | (refine wl_rw rfl (fun K hK => c_stc H rfl rfl (h := (fun w1 hf H1 => hK _ _ ?_)))))); (clear hK K); (clear H; have H := H1; clear H1; (try dsimp only at H); (try clear hf)); (simp only [nrm, ↓reduceIte, Nat.reduceAdd])))
      go_ret
      exact ⟨by rw [Ht.out]; rfl, H.fr, by rw [Ht.out]; exact Hin.out.cls (H.sub (by repeat first | exact List.Sublist.refl _ | exact List.nil_sublist _ | apply List.Sublist.cons_cons | apply List.Sublist.cons)) rfl Hin.out.wf⟩
  · have Ht : Hid (join s v = (330, s)) := hid (by unfold join; rw [if_pos (.inr (by omega))])
    clear hlv
    go_enter Try.func17, Try.ntmps17
    go_wp2_with (first | ((first | (refine is_load rfl ?_; refine wl_ev rfl (by first | exact c_ld H rfl rfl | exact c_ld0 H rfl rfl | exact c_ldz H rfl rfl | exact c_ldr H rfl rfl) ?_) | (refine is_cmp rfl rfl ?_; first | (refine wl_ev rfl (by first | exact ev_cmpT rfl rfl rfl rfl | exact ev_cmpF rfl rfl rfl rfl | exact c_peq rfl rfl | exact c_pne rfl rfl) ?_) | (refine wl_cmp rfl rfl rfl rfl rfl (fun h => ?_) (fun h => ?_) <;> (simp only [cmpP] at h))) | (refine is_indexAddr rfl ?_; refine wl_ev rfl (c_ix rfl rfl rfl) ?_)) <;> (simp only [nrm, ↓reduceIte, Nat.reduceAdd])) | ((first | (refine is_store rfl ?_; first | (refine wl_rw rfl (fun K hK => c_st H rfl rfl rfl (h := (fun w1 hf H1 => hK _ _ ?_)))) | (refine wl_rw rfl (fun K hK => c_stc H rfl rfl (h := (fun w1 hf H1 => hK _ _ ?_)))))); (clear hK K); (clear H; have H := H1; clear H1; (try dsimp only at H); (try clear hf)); (simp only [nrm, ↓reduceIte, Nat.reduceAdd])))
    go_ret
    exact ⟨by rw [Ht.out]; rfl, H.fr, by rw [Ht.out]; exact Hin.out.cls (H.sub (by repeat first | exact List.Sublist.refl _ | exact List.nil_sublist _ | apply List.Sublist.cons_cons | apply List.Sublist.cons)) rfl Hin.out.wf⟩
theorem set_back {l : List Bool} {v : Nat} (h : l[v]? = some true) : (l.set v false).set v true = l := by
  rw [List.set_set]
  apply List.ext_getElem?
  intro i
  rw [List.getElem?_set]
  split
  · rename_i e
    subst e
    have := (List.getElem?_eq_some_iff.1 h).1
    rw [if_pos this, h]
  · rfl
set_option maxHeartbeats 4000000 in
set_option maxRecDepth 100000 in
theorem lose_any {A : PA} {s : PS} {w : World} (h : PoolIn A s w) (wi : Int) :
    Calls Try.prog 16 #[.pointer (some ⟨A.b, 0, none⟩), .int .i64 wi] w fun e w' => e = .returned (.int .i64 (lose s wi).1) ∧ Fr A.T w w' ∧ PoolIn A (lose s wi).2 w' := by
  obtain ⟨padt, padl, H⟩ := h.wro
  have hn := h.wf.n
  have hk := h.wf.k8
  have hsl := h.wf.sta
  have hll := h.wf.loc
  have hlv := h.wf.liv
  have hcl : ∀ w1, Hp A.T w w1 [.rng A.b 0 [A.vp, A.vo, .slice (some ⟨A.gs, 0, none⟩) s.par.length s.par.length, .slice (some ⟨A.ga, 0, none⟩) s.par.length s.par.length, .slice (some ⟨A.gt, 0, none⟩) s.tas.length A.ct, .slice (some ⟨A.gl, 0, none⟩) s.tas.length A.cl], .blk A.gs (ints s.sta) 3, .blk A.ga (ints s.loc) 3, .blk A.gt (ints s.tas ++ padt) 3, .blk A.gl (boolsV s.liv ++ padl) 4] → PoolIn A s w1 := fun w1 H => h.cls (H.sub (.cons _ (.refl _))) rfl h.wf
  have Hcl := hid hcl
  have Hin := hid h
  clear hcl h
  rcases bool_cases (isW s wi) with hw | hw
  · obtain ⟨v, rfl, hv⟩ := isW_true hw
    have hvl := (List.getElem?_eq_some_iff.1 hv).1
    have Hv := hid hv
    clear hv
    obtain ⟨x, hx⟩ : ∃ x, s.tas[v]? = some x := ⟨_, List.getElem?_eq_getElem (by omega)⟩
    have hxv := pre_at (pad := padt) (ints_at hx)
    have hr := runW_at hx
    have hxr := Hin.out.wf.tas' v x hx
    have Hw := hid hw
    have Hr := hid hr
    clear hw hr hx
    go_enter Try.func16, Try.ntmps16
    go_wp2_with (first | ((first | (refine is_load rfl ?_; refine wl_ev rfl (by first | exact c_ld H rfl rfl | exact c_ld0 H rfl rfl | exact c_ldz H rfl rfl | exact c_ldr H rfl rfl) ?_) | (refine is_cmp rfl rfl ?_; first | (refine wl_ev rfl (by first | exact ev_cmpT rfl rfl rfl rfl | exact ev_cmpF rfl rfl rfl rfl | exact c_peq rfl rfl | exact c_pne rfl rfl) ?_) | (refine wl_cmp rfl rfl rfl rfl rfl (fun h => ?_) (fun h => ?_) <;> (simp only [cmpP] at h))) | (refine is_indexAddr rfl ?_; refine wl_ev rfl (c_ix rfl rfl rfl) ?_)) <;> (simp only [nrm, ↓reduceIte, Nat.reduceAdd])) | ((first | (refine is_store rfl ?_; first | (refine wl_rw rfl (fun K hK => c_st H rfl rfl rfl (h := (fun w1 hf H1 => hK _ _ ?_)))) | (refine wl_rw rfl (fun K hK => c_stc H rfl rfl (h := (fun w1 hf H1 => hK _ _ ?_)))))); (clear hK K); (clear H; have H := H1; clear H1; (try dsimp only at H); (try clear hf)); (simp only [nrm, ↓reduceIte, Nat.reduceAdd])))
    (refine Calls.mono (worker_any (Hcl.out _ H) v) ?_; rintro e w1 ⟨rfl, hF⟩; have H1 := H.step hF (by simp); clear H; have H := H1; clear H1)
    rw [Hw.out]
    go_wp2_with (first | ((first | (refine is_load rfl ?_; refine wl_ev rfl (by first | exact c_ld H rfl rfl | exact c_ld0 H rfl rfl | exact c_ldz H rfl rfl | exact c_ldr H rfl rfl) ?_) | (refine is_cmp rfl rfl ?_; first | (refine wl_ev rfl (by first | exact ev_cmpT rfl rfl rfl rfl | exact ev_cmpF rfl rfl rfl rfl | exact c_peq rfl rfl | exact c_pne rfl rfl) ?_) | (refine wl_cmp rfl rfl rfl rfl rfl (fun h => ?_) (fun h => ?_) <;> (simp only [cmpP] at h))) | (refine is_indexAddr rfl ?_; refine wl_ev rfl (c_ix rfl rfl rfl) ?_)) <;> (simp only [nrm, ↓reduceIte, Nat.reduceAdd])) | ((first | (refine is_store rfl ?_; first | (refine wl_rw rfl (fun K hK => c_st H rfl rfl rfl (h := (fun w1 hf H1 => hK _ _ ?_)))) | (refine wl_rw rfl (fun K hK => c_stc H rfl rfl (h := (fun w1 hf H1 => hK _ _ ?_)))))); (clear hK K); (clear H; have H := H1; clear H1; (try dsimp only at H); (try clear hf)); (simp only [nrm, ↓reduceIte, Nat.reduceAdd])))
    rw [boolsP_set _ _ _ _ hvl] at H
    (refine Calls.mono (contains_any (bs := s.liv.set v false) (n := s.tas.length) (by rw [List.length_set]; exact hlv) (by omega) (lt_of_get (H.at A.gl)) (row_cell (H.at A.gl))) ?_; rintro e w1 ⟨rfl, hF⟩; have H1 := H.step hF (by simp); clear H; have H := H1; clear H1)
    rcases bool_cases ((s.liv.set v false).contains true) with hc | hc
    · have Hc := hid hc
      have hlive : ∃ w : Nat, (s.liv.set v false)[w]? = some true := by
        rw [List.contains_iff_mem] at hc
        exact List.mem_iff_getElem?.1 hc
      have Hlive := hid hlive
      obtain ⟨to, hto⟩ : ∃ to, nextW (s.liv.set v false) v = to := ⟨_, rfl⟩
      have Hto := hid hto
      rw [hc]
      clear hc hlive hto
      have Hcl1 : Hid (∀ w1, Hp A.T w w1 [.rng A.b 0 [A.vp, A.vo, .slice (some ⟨A.gs, 0, none⟩) s.par.length s.par.length, .slice (some ⟨A.ga, 0, none⟩) s.par.length s.par.length, .slice (some ⟨A.gt, 0, none⟩) s.tas.length A.ct, .slice (some ⟨A.gl, 0, none⟩) s.tas.length A.cl], .blk A.gs (ints s.sta) 3, .blk A.ga (ints s.loc) 3, .blk A.gt (ints s.tas ++ padt) 3, .blk A.gl (boolsV (s.liv.set v false) ++ padl) 4] → PoolIn A ⟨s.par, s.own, s.sta, s.loc, s.tas, s.liv.set v false⟩ w1) := hid (fun w1 H => Hin.out.cls (H.sub (.cons _ (.refl _))) rfl (Hin.out.wf.upd rfl rfl rfl (List.length_set ..) Hin.out.wf.tas' Hlive.out))
      go_wp2_with (first | ((first | (refine is_load rfl ?_; refine wl_ev rfl (by first | exact c_ld H rfl rfl | exact c_ld0 H rfl rfl | exact c_ldz H rfl rfl | exact c_ldr H rfl rfl) ?_) | (refine is_cmp rfl rfl ?_; first | (refine wl_ev rfl (by first | exact ev_cmpT rfl rfl rfl rfl | exact ev_cmpF rfl rfl rfl rfl | exact c_peq rfl rfl | exact c_pne rfl rfl) ?_) | (refine wl_cmp rfl rfl rfl rfl rfl (fun h => ?_) (fun h => ?_) <;> (simp only [cmpP] at h))) | (refine is_indexAddr rfl ?_; refine wl_ev rfl (c_ix rfl rfl rfl) ?_)) <;> (simp only [nrm, ↓reduceIte, Nat.reduceAdd])) | ((first | (refine is_store rfl ?_; first | (refine wl_rw rfl (fun K hK => c_st H rfl rfl rfl (h := (fun w1 hf H1 => hK _ _ ?_)))) | (refine wl_rw rfl (fun K hK => c_stc H rfl rfl (h := (fun w1 hf H1 => hK _ _ ?_)))))); (clear hK K); (clear H; have H := H1; clear H1; (try dsimp only at H); (try clear hf)); (simp only [nrm, ↓reduceIte, Nat.reduceAdd])))
      (refine Calls.mono (next_any (Hcl1.out _ H) v (by show v < s.tas.length; omega)) ?_; rintro e w1 ⟨rfl, hF⟩; have H1 := H.step hF (by simp); clear H; have H := H1; clear H1)
      rw [Hto.out]
      go_wp2_with (first | ((first | (refine is_load rfl ?_; refine wl_ev rfl (by first | exact c_ld H rfl rfl | exact c_ld0 H rfl rfl | exact c_ldz H rfl rfl | exact c_ldr H rfl rfl) ?_) | (refine is_cmp rfl rfl ?_; first | (refine wl_ev rfl (by first | exact ev_cmpT rfl rfl rfl rfl | exact ev_cmpF rfl rfl rfl rfl | exact c_peq rfl rfl | exact c_pne rfl rfl) ?_) | (refine wl_cmp rfl rfl rfl rfl rfl (fun h => ?_) (fun h => ?_) <;> (simp only [cmpP] at h))) | (refine is_indexAddr rfl ?_; refine wl_ev rfl (c_ix rfl rfl rfl) ?_)) <;> (simp only [nrm, ↓reduceIte, Nat.reduceAdd])) | ((first | (refine is_store rfl ?_; first | (refine wl_rw rfl (fun K hK => c_st H rfl rfl rfl (h := (fun w1 hf H1 => hK _ _ ?_)))) | (refine wl_rw rfl (fun K hK => c_stc H rfl rfl (h := (fun w1 hf H1 => hK _ _ ?_)))))); (clear hK K); (clear H; have H := H1; clear H1; (try dsimp only at H); (try clear hf)); (simp only [nrm, ↓reduceIte, Nat.reduceAdd])))
      refine Calls.mono (ready_any (Hcl1.out _ H) v) ?_
      rintro e w1 ⟨rv, rfl, hF, hown⟩
      have hown : w1.ownsRow _ 3 1 rv (readyW s v).length (readyV (readyW s v)) := hown
      have hwl := readyW_len s v
      by_cases hL : (readyW s v).length = 0
      · have Hmv : Hid (s.loc = moved s v to) := hid (by rw [← movedF_all, hL]; rfl)
        rw [hL] at hown
        have hown2 := hown.2
        clear hL hwl
        obtain ⟨p, c, rfl⟩ : ∃ p c, rv = .slice p 0 c := by
          rcases hown2 with ⟨rfl, _⟩ | ⟨g, cap, cur, rfl, _⟩
          · exact ⟨_, _, rfl⟩
          · exact ⟨_, _, rfl⟩
        have H1 := H.step hF (by simp)
        clear H hF hown hown2
        have H := H1
        clear H1
        go_wp2_with (first | ((first | (refine is_load rfl ?_; refine wl_ev rfl (by first | exact c_ld H rfl rfl | exact c_ld0 H rfl rfl | exact c_ldz H rfl rfl | exact c_ldr H rfl rfl) ?_) | (refine is_cmp rfl rfl ?_; first | (refine wl_ev rfl (by first | exact ev_cmpT rfl rfl rfl rfl | exact ev_cmpF rfl rfl rfl rfl | exact c_peq rfl rfl | exact c_pne rfl rfl) ?_) | (refine wl_cmp rfl rfl rfl rfl rfl (fun h => ?_) (fun h => ?_) <;> (simp only [cmpP] at h))) | (refine is_indexAddr rfl ?_; refine wl_ev rfl (c_ix rfl rfl rfl) ?_)) <;> (simp only [nrm, ↓reduceIte, Nat.reduceAdd])) | ((first | (refine is_store rfl ?_; first | (refine wl_rw rfl (fun K hK => c_st H rfl rfl rfl (h := (fun w1 hf H1 => hK _ _ ?_)))) | (refine wl_rw rfl (fun K hK => c_stc H rfl rfl (h := (fun w1 hf H1 => hK _ _ ?_)))))); (clear hK K); (clear H; have H := H1; clear H1; (try dsimp only at H); (try clear hf)); (simp only [nrm, ↓reduceIte, Nat.reduceAdd])))
        go_loopw [40] (fun s40 wr => s40 = .int .i64 0 ∧ Hp A.T w wr [.rng A.b 0 [A.vp, A.vo, .slice (some ⟨A.gs, 0, none⟩) s.par.length s.par.length, .slice (some ⟨A.ga, 0, none⟩) s.par.length s.par.length, .slice (some ⟨A.gt, 0, none⟩) s.tas.length A.ct, .slice (some ⟨A.gl, 0, none⟩) s.tas.length A.cl], .blk A.gs (ints s.sta) 3, .blk A.ga (ints s.loc) 3, .blk A.gt (ints s.tas ++ padt) 3, .blk A.gl (boolsV (s.liv.set v false) ++ padl) 4]) (fun _ _ => 0)
        case atStart => exact ⟨rfl, H⟩
        case round =>
          clear H
          obtain ⟨rfl, H⟩ := hrel
          obtain ⟨lc, hlc⟩ : ∃ lc, s.loc = lc := ⟨_, rfl⟩
          have Hmvl : Hid (lc.length = s.loc.length) := hid (by rw [hlc])
          rw [hlc] at H
          have Hmv : Hid (lc = moved s v to) := hid (by rw [← hlc]; exact Hmv.out)
          clear hlc
          rcases hxr with rfl | ⟨q, rfl, hq⟩
          · go_wp2_with (first | ((first | (refine is_load rfl ?_; refine wl_ev rfl (by first | exact c_ld H rfl rfl | exact c_ld0 H rfl rfl | exact c_ldz H rfl rfl | exact c_ldr H rfl rfl) ?_) | (refine is_cmp rfl rfl ?_; first | (refine wl_ev rfl (by first | exact ev_cmpT rfl rfl rfl rfl | exact ev_cmpF rfl rfl rfl rfl | exact c_peq rfl rfl | exact c_pne rfl rfl) ?_) | (refine wl_cmp rfl rfl rfl rfl rfl (fun h => ?_) (fun h => ?_) <;> (simp only [cmpP] at h))) | (refine is_indexAddr rfl ?_; refine wl_ev rfl (c_ix rfl rfl rfl) ?_)) <;> (simp only [nrm, ↓reduceIte, Nat.reduceAdd])) | ((first | (refine is_store rfl ?_; first | (refine wl_rw rfl (fun K hK => c_st H rfl rfl rfl (h := (fun w1 hf H1 => hK _ _ ?_)))) | (refine wl_rw rfl (fun K hK => c_stc H rfl rfl (h := (fun w1 hf H1 => hK _ _ ?_)))))); (clear hK K); (clear H; have H := H1; clear H1; (try dsimp only at H); (try clear hf)); (simp only [nrm, ↓reduceIte, Nat.reduceAdd])))
            go_ret
            have Ht : lose s v = (0, { s with liv := s.liv.set v false, loc := moved s v to }) := by unfold lose; rw [Hw.out, Int.toNat_natCast, Hc.out, Hr.out, Hto.out, if_neg (by decide), if_neg (by decide), if_neg (by decide)]
            refine ⟨by rw [Ht]; rfl, H.fr, ?_⟩
            rw [Ht, ← Hmv.out]
            exact Hin.out.cls (H.sub (by repeat first | exact List.Sublist.refl _ | exact List.nil_sublist _ | apply List.Sublist.cons_cons | apply List.Sublist.cons)) rfl (Hin.out.wf.upd rfl Hmvl.out rfl (List.length_set ..) Hin.out.wf.tas' Hlive.out)
          · have hq1 : q < s.sta.length := by omega
            have hq2 : q < lc.length := by have := Hmvl.out; omega
            have hv1 : v < s.tas.length := by omega
            go_wp2_with (first | ((first | (refine is_load rfl ?_; refine wl_ev rfl (by first | exact c_ld H rfl rfl | exact c_ld0 H rfl rfl | exact c_ldz H rfl rfl | exact c_ldr H rfl rfl) ?_) | (refine is_cmp rfl rfl ?_; first | (refine wl_ev rfl (by first | exact ev_cmpT rfl rfl rfl rfl | exact ev_cmpF rfl rfl rfl rfl | exact c_peq rfl rfl | exact c_pne rfl rfl) ?_) | (refine wl_cmp rfl rfl rfl rfl rfl (fun h => ?_) (fun h => ?_) <;> (simp only [cmpP] at h))) | (refine is_indexAddr rfl ?_; refine wl_ev rfl (c_ix rfl rfl rfl) ?_)) <;> (simp only [nrm, ↓reduceIte, Nat.reduceAdd])) | ((first | (refine is_store rfl ?_; first | (refine wl_rw rfl (fun K hK => c_st H rfl rfl rfl (h := (fun w1 hf H1 => hK _ _ ?_)))) | (refine wl_rw rfl (fun K hK => c_stc H rfl rfl (h := (fun w1 hf H1 => hK _ _ ?_)))))); (clear hK K); (clear H; have H := H1; clear H1; (try dsimp only at H); (try clear hf)); (simp only [nrm, ↓reduceIte, Nat.reduceAdd])))
            (refine wp_plan H (.cons_cons _ (List.nil_sublist _)) 21 (.st 0 (.st 1 (.st 2 (.st 3 (.st 4 (.st 5 (.st 6 (.st 7 (.st 8 (.st 9 (.st 10 (.st 11 (.st 12 (.st 13 (.st 14 (.st 15 (.st 16 (.ld 17 (.st 18 (.ld 19 (.st 20 (.ld 21 .done)))))))))))))))))))))) rfl (by kernel_rfl) (by kernel_rfl) (by intro c a d v w h; cases d <;> exact h) (fun w1 H1 => ?_); (clear H; have H := H1; clear H1))
            (refine pl_ev rfl rfl (fun w H => ev_moveT rfl rfl) ?_; (simp only [nrm, ↓reduceIte, Nat.reduceAdd]))
            (refine pl_ev rfl rfl (fun w H => ev_nilCheck rfl rfl) ?_; (simp only [nrm, ↓reduceIte, Nat.reduceAdd]))
            (first | (refine pl_ev rfl rfl (fun w H => c_fa2 rfl rfl) ?_; (simp only [nrm, ↓reduceIte, Nat.reduceAdd])) | (refine pl_ev rfl rfl (fun w H => c_fa rfl rfl) ?_; (simp only [nrm, ↓reduceIte, Nat.reduceAdd])))
            (refine pl_ev rfl rfl (fun w H => by first | exact c_ld H rfl rfl | exact c_ld0 H rfl rfl | exact c_ldz H rfl rfl | exact c_ldr H rfl rfl) ?_; (simp only [nrm, ↓reduceIte, Nat.reduceAdd]))
            (refine pl_ev rfl rfl (fun w H => ev_moveT rfl rfl) ?_; (simp only [nrm, ↓reduceIte, Nat.reduceAdd]))
            (refine pl_ev rfl rfl (fun w H => ev_moveT rfl rfl) ?_; (simp only [nrm, ↓reduceIte, Nat.reduceAdd]))
            (refine pl_ev rfl rfl (fun w H => ev_nilCheck rfl rfl) ?_; (simp only [nrm, ↓reduceIte, Nat.reduceAdd]))
            (first | (refine pl_ev rfl rfl (fun w H => c_fa2 rfl rfl) ?_; (simp only [nrm, ↓reduceIte, Nat.reduceAdd])) | (refine pl_ev rfl rfl (fun w H => c_fa rfl rfl) ?_; (simp only [nrm, ↓reduceIte, Nat.reduceAdd])))
            (refine pl_ev rfl rfl (fun w H => by first | exact c_ld H rfl rfl | exact c_ld0 H rfl rfl | exact c_ldz H rfl rfl | exact c_ldr H rfl rfl) ?_; (simp only [nrm, ↓reduceIte, Nat.reduceAdd]))
            (refine pl_ev rfl rfl (fun w H => ev_moveT rfl rfl) ?_; (simp only [nrm, ↓reduceIte, Nat.reduceAdd]))
            (refine pl_ev rfl rfl (fun w H => ev_moveT rfl rfl) ?_; (simp only [nrm, ↓reduceIte, Nat.reduceAdd]))
            (refine pl_ev rfl rfl (fun w H => ev_nilCheck rfl rfl) ?_; (simp only [nrm, ↓reduceIte, Nat.reduceAdd]))
            (first | (refine pl_ev rfl rfl (fun w H => c_fa2 rfl rfl) ?_; (simp only [nrm, ↓reduceIte, Nat.reduceAdd])) | (refine pl_ev rfl rfl (fun w H => c_fa rfl rfl) ?_; (simp only [nrm, ↓reduceIte, Nat.reduceAdd])))
            (refine pl_ev rfl rfl (fun w H => by first | exact c_ld H rfl rfl | exact c_ld0 H rfl rfl | exact c_ldz H rfl rfl | exact c_ldr H rfl rfl) ?_; (simp only [nrm, ↓reduceIte, Nat.reduceAdd]))
            (refine pl_ev rfl rfl (fun w H => ev_moveT rfl rfl) ?_; (simp only [nrm, ↓reduceIte, Nat.reduceAdd]))
            (refine pl_ev rfl rfl (fun w H => ev_moveT rfl rfl) ?_; (simp only [nrm, ↓reduceIte, Nat.reduceAdd]))
            (refine pl_ev rfl rfl (fun w H => c_ix rfl rfl rfl) ?_; (simp only [nrm, ↓reduceIte, Nat.reduceAdd]))
            (first | (refine pl_rw rfl rfl (fun K hK => c_st H rfl rfl rfl (h := (fun w1 hf H1 => hK _ _ (fun hne => by first | exact absurd rfl hne | exact trivial | exact H1.sub (by repeat first | exact List.Sublist.refl _ | exact List.nil_sublist _ | apply List.Sublist.cons_cons | apply List.Sublist.cons)) ?_))); (clear hK K); (clear H; have H := H1; clear H1; (try dsimp only at H); (try clear hf)); (simp only [nrm, ↓reduceIte, Nat.reduceAdd])) | (refine pl_rw rfl rfl (fun K hK => c_stc H rfl rfl (h := (fun w1 hf H1 => hK _ _ (fun hne => by first | exact absurd rfl hne | exact trivial | exact H1.sub (by repeat first | exact List.Sublist.refl _ | exact List.nil_sublist _ | apply List.Sublist.cons_cons | apply List.Sublist.cons)) ?_))); (clear hK K); (clear H; have H := H1; clear H1; (try dsimp only at H); (try clear hf)); (simp only [nrm, ↓reduceIte, Nat.reduceAdd])) | (refine pl_rw rfl rfl (fun K hK => c_stn H rfl rfl rfl (h := (fun w1 hf H1 => hK _ _ (fun hne => by first | exact absurd rfl hne | exact trivial | exact H1.sub (by repeat first | exact List.Sublist.refl _ | exact List.nil_sublist _ | apply List.Sublist.cons_cons | apply List.Sublist.cons)) ?_))); (clear hK K); (clear H; have H := H1; clear H1; (try dsimp only at H); (try clear hf)); (simp only [nrm, ↓reduceIte, Nat.reduceAdd])))
            (refine pl_ev rfl rfl (fun w H => c_ix rfl rfl rfl) ?_; (simp only [nrm, ↓reduceIte, Nat.reduceAdd]))
            (first | (refine pl_rw rfl rfl (fun K hK => c_st H rfl rfl rfl (h := (fun w1 hf H1 => hK _ _ (fun hne => by first | exact absurd rfl hne | exact trivial | exact H1.sub (by repeat first | exact List.Sublist.refl _ | exact List.nil_sublist _ | apply List.Sublist.cons_cons | apply List.Sublist.cons)) ?_))); (clear hK K); (clear H; have H := H1; clear H1; (try dsimp only at H); (try clear hf)); (simp only [nrm, ↓reduceIte, Nat.reduceAdd])) | (refine pl_rw rfl rfl (fun K hK => c_stc H rfl rfl (h := (fun w1 hf H1 => hK _ _ (fun hne => by first | exact absurd rfl hne | exact trivial | exact H1.sub (by repeat first | exact List.Sublist.refl _ | exact List.nil_sublist _ | apply List.Sublist.cons_cons | apply List.Sublist.cons)) ?_))); (clear hK K); (clear H; have H := H1; clear H1; (try dsimp only at H); (try clear hf)); (simp only [nrm, ↓reduceIte, Nat.reduceAdd])) | (refine pl_rw rfl rfl (fun K hK => c_stn H rfl rfl rfl (h := (fun w1 hf H1 => hK _ _ (fun hne => by first | exact absurd rfl hne | exact trivial | exact H1.sub (by repeat first | exact List.Sublist.refl _ | exact List.nil_sublist _ | apply List.Sublist.cons_cons | apply List.Sublist.cons)) ?_))); (clear hK K); (clear H; have H := H1; clear H1; (try dsimp only at H); (try clear hf)); (simp only [nrm, ↓reduceIte, Nat.reduceAdd])))
            (refine pl_ev rfl rfl (fun w H => c_ix rfl rfl rfl) ?_; (simp only [nrm, ↓reduceIte, Nat.reduceAdd]))
            (first | (refine pl_rw rfl rfl (fun K hK => c_st H rfl rfl rfl (h := (fun w1 hf H1 => hK _ _ (fun hne => by first | exact absurd rfl hne | exact trivial | exact H1.sub (by repeat first | exact List.Sublist.refl _ | exact List.nil_sublist _ | apply List.Sublist.cons_cons | apply List.Sublist.cons)) ?_))); (clear hK K); (clear H; have H := H1; clear H1; (try dsimp only at H); (try clear hf)); (simp only [nrm, ↓reduceIte, Nat.reduceAdd])) | (refine pl_rw rfl rfl (fun K hK => c_stc H rfl rfl (h := (fun w1 hf H1 => hK _ _ (fun hne => by first | exact absurd rfl hne | exact trivial | exact H1.sub (by repeat first | exact List.Sublist.refl _ | exact List.nil_sublist _ | apply List.Sublist.cons_cons | apply List.Sublist.cons)) ?_))); (clear hK K); (clear H; have H := H1; clear H1; (try dsimp only at H); (try clear hf)); (simp only [nrm, ↓reduceIte, Nat.reduceAdd])) | (refine pl_rw rfl rfl (fun K hK => c_stn H rfl rfl rfl (h := (fun w1 hf H1 => hK _ _ (fun hne => by first | exact absurd rfl hne | exact trivial | exact H1.sub (by repeat first | exact List.Sublist.refl _ | exact List.nil_sublist _ | apply List.Sublist.cons_cons | apply List.Sublist.cons)) ?_))); (clear hK K); (clear H; have H := H1; clear H1; (try dsimp only at H); (try clear hf)); (simp only [nrm, ↓reduceIte, Nat.reduceAdd])))
            (refine pl_done ?_)
            rw [ints_set, ints_set, intsP_set _ _ _ _ hv1] at H
            go_wp2_with (first | ((first | (refine is_load rfl ?_; refine wl_ev rfl (by first | exact c_ld H rfl rfl | exact c_ld0 H rfl rfl | exact c_ldz H rfl rfl | exact c_ldr H rfl rfl) ?_) | (refine is_cmp rfl rfl ?_; first | (refine wl_ev rfl (by first | exact ev_cmpT rfl rfl rfl rfl | exact ev_cmpF rfl rfl rfl rfl | exact c_peq rfl rfl | exact c_pne rfl rfl) ?_) | (refine wl_cmp rfl rfl rfl rfl rfl (fun h => ?_) (fun h => ?_) <;> (simp only [cmpP] at h))) | (refine is_indexAddr rfl ?_; refine wl_ev rfl (c_ix rfl rfl rfl) ?_)) <;> (simp only [nrm, ↓reduceIte, Nat.reduceAdd])) | ((first | (refine is_store rfl ?_; first | (refine wl_rw rfl (fun K hK => c_st H rfl rfl rfl (h := (fun w1 hf H1 => hK _ _ ?_)))) | (refine wl_rw rfl (fun K hK => c_stc H rfl rfl (h := (fun w1 hf H1 => hK _ _ ?_)))))); (clear hK K); (clear H; have H := H1; clear H1; (try dsimp only at H); (try clear hf)); (simp only [nrm, ↓reduceIte, Nat.reduceAdd])))
            go_ret
            have Ht : lose s v = (0, { s with liv := s.liv.set v false, sta := s.sta.set q 1, loc := (moved s v to).set q (to : Int), tas := s.tas.set v (-1) }) := by unfold lose; rw [Hw.out, Int.toNat_natCast, Hc.out, Hr.out, Hto.out, if_neg (by decide), if_neg (by decide), if_pos (by omega), Int.toNat_natCast]
            refine ⟨by rw [Ht]; rfl, H.fr, ?_⟩
            rw [Ht, ← Hmv.out]
            exact Hin.out.cls (H.sub (by repeat first | exact List.Sublist.refl _ | exact List.nil_sublist _ | apply List.Sublist.cons_cons | apply List.Sublist.cons)) (List.length_set ..) (Hin.out.wf.upd (List.length_set ..) (by rw [List.length_set]; exact Hmvl.out) (List.length_set ..) (List.length_set ..) (set_tas Hin.out.wf.tas' v (-1) (.inl rfl)) Hlive.out)
      · obtain ⟨g, cap, pad, rfl, hn2, hc2, hl2, hg2, H1⟩ := H.row hF hown (by omega)
        clear H hF hown
        have H := H1
        clear H1
        generalize hL2 : (readyW s v).length = L at *
        have HL2 := hid hL2
        clear hL2 hL
        go_wp2_with (first | ((first | (refine is_load rfl ?_; refine wl_ev rfl (by first | exact c_ld H rfl rfl | exact c_ld0 H rfl rfl | exact c_ldz H rfl rfl | exact c_ldr H rfl rfl) ?_) | (refine is_cmp rfl rfl ?_; first | (refine wl_ev rfl (by first | exact ev_cmpT rfl rfl rfl rfl | exact ev_cmpF rfl rfl rfl rfl | exact c_peq rfl rfl | exact c_pne rfl rfl) ?_) | (refine wl_cmp rfl rfl rfl rfl rfl (fun h => ?_) (fun h => ?_) <;> (simp only [cmpP] at h))) | (refine is_indexAddr rfl ?_; refine wl_ev rfl (c_ix rfl rfl rfl) ?_)) <;> (simp only [nrm, ↓reduceIte, Nat.reduceAdd])) | ((first | (refine is_store rfl ?_; first | (refine wl_rw rfl (fun K hK => c_st H rfl rfl rfl (h := (fun w1 hf H1 => hK _ _ ?_)))) | (refine wl_rw rfl (fun K hK => c_stc H rfl rfl (h := (fun w1 hf H1 => hK _ _ ?_)))))); (clear hK K); (clear H; have H := H1; clear H1; (try dsimp only at H); (try clear hf)); (simp only [nrm, ↓reduceIte, Nat.reduceAdd])))
        go_loopw [40] (fun s40 wr => ∃ i : Nat, i ≤ L ∧ s40 = .int .i64 i ∧ Hp A.T w wr [.blk g (readyV (readyW s v) ++ pad) 3, .rng A.b 0 [A.vp, A.vo, .slice (some ⟨A.gs, 0, none⟩) s.par.length s.par.length, .slice (some ⟨A.ga, 0, none⟩) s.par.length s.par.length, .slice (some ⟨A.gt, 0, none⟩) s.tas.length A.ct, .slice (some ⟨A.gl, 0, none⟩) s.tas.length A.cl], .blk A.gs (ints s.sta) 3, .blk A.ga (ints (movedF s v to i)) 3, .blk A.gt (ints s.tas ++ padt) 3, .blk A.gl (boolsV (s.liv.set v false) ++ padl) 4]) (fun u _ => L - (intOf u).toNat)
        case atStart => exact ⟨0, Nat.zero_le _, rfl, H⟩
        case round =>
          clear H
          obtain ⟨i, hi, rfl, H⟩ := hrel
          have hml := movedF_len s v to i
          by_cases hin : i < L
          · obtain ⟨t, ht⟩ : ∃ t, (readyW s v)[i]? = some t := ⟨_, List.getElem?_eq_getElem (by have := HL2.out; omega)⟩
            have htn := readyW_lt ht
            have htv : (readyV (readyW s v) ++ pad)[i]? = some (.int .i64 t) := pre_at (by simp [readyV, ht])
            have Hst := hid (movedF_step (to := to) ht)
            have htl : t < (movedF s v to i).length := by omega
            clear ht
            go_wp2_with (first | ((first | (refine is_load rfl ?_; refine wl_ev rfl (by first | exact c_ld H rfl rfl | exact c_ld0 H rfl rfl | exact c_ldz H rfl rfl | exact c_ldr H rfl rfl) ?_) | (refine is_cmp rfl rfl ?_; first | (refine wl_ev rfl (by first | exact ev_cmpT rfl rfl rfl rfl | exact ev_cmpF rfl rfl rfl rfl | exact c_peq rfl rfl | exact c_pne rfl rfl) ?_) | (refine wl_cmp rfl rfl rfl rfl rfl (fun h => ?_) (fun h => ?_) <;> (simp only [cmpP] at h))) | (refine is_indexAddr rfl ?_; refine wl_ev rfl (c_ix rfl rfl rfl) ?_)) <;> (simp only [nrm, ↓reduceIte, Nat.reduceAdd])) | ((first | (refine is_store rfl ?_; first | (refine wl_rw rfl (fun K hK => c_st H rfl rfl rfl (h := (fun w1 hf H1 => hK _ _ ?_)))) | (refine wl_rw rfl (fun K hK => c_stc H rfl rfl (h := (fun w1 hf H1 => hK _ _ ?_)))))); (clear hK K); (clear H; have H := H1; clear H1; (try dsimp only at H); (try clear hf)); (simp only [nrm, ↓reduceIte, Nat.reduceAdd])))
            rw [ints_set, ← Hst.out] at H
            go_roundw
            case rel => exact ⟨i + 1, by omega, by go_num, H⟩
            case measure => simp [intOf]; omega
          · have Hmv : Hid (movedF s v to i = moved s v to) := hid (by rw [show i = L by omega, ← HL2.out]; exact movedF_all s v to)
            generalize movedF s v to i = lc at H Hmv hml
            have Hmvl : Hid (lc.length = s.loc.length) := hid hml
            clear hml
            rcases hxr with rfl | ⟨q, rfl, hq⟩
            · go_wp2_with (first | ((first | (refine is_load rfl ?_; refine wl_ev rfl (by first | exact c_ld H rfl rfl | exact c_ld0 H rfl rfl | exact c_ldz H rfl rfl | exact c_ldr H rfl rfl) ?_) | (refine is_cmp rfl rfl ?_; first | (refine wl_ev rfl (by first | exact ev_cmpT rfl rfl rfl rfl | exact ev_cmpF rfl rfl rfl rfl | exact c_peq rfl rfl | exact c_pne rfl rfl) ?_) | (refine wl_cmp rfl rfl rfl rfl rfl (fun h => ?_) (fun h => ?_) <;> (simp only [cmpP] at h))) | (refine is_indexAddr rfl ?_; refine wl_ev rfl (c_ix rfl rfl rfl) ?_)) <;> (simp only [nrm, ↓reduceIte, Nat.reduceAdd])) | ((first | (refine is_store rfl ?_; first | (refine wl_rw rfl (fun K hK => c_st H rfl rfl rfl (h := (fun w1 hf H1 => hK _ _ ?_)))) | (refine wl_rw rfl (fun K hK => c_stc H rfl rfl (h := (fun w1 hf H1 => hK _ _ ?_)))))); (clear hK K); (clear H; have H := H1; clear H1; (try dsimp only at H); (try clear hf)); (simp only [nrm, ↓reduceIte, Nat.reduceAdd])))
              go_ret
              have Ht : lose s v = (0, { s with liv := s.liv.set v false, loc := moved s v to }) := by unfold lose; rw [Hw.out, Int.toNat_natCast, Hc.out, Hr.out, Hto.out, if_neg (by decide), if_neg (by decide), if_neg (by decide)]
              refine ⟨by rw [Ht]; rfl, H.fr, ?_⟩
              rw [Ht, ← Hmv.out]
              exact Hin.out.cls (H.sub (by repeat first | exact List.Sublist.refl _ | exact List.nil_sublist _ | apply List.Sublist.cons_cons | apply List.Sublist.cons)) rfl (Hin.out.wf.upd rfl Hmvl.out rfl (List.length_set ..) Hin.out.wf.tas' Hlive.out)
            · have hq1 : q < s.sta.length := by omega
              have hq2 : q < lc.length := by have := Hmvl.out; omega
              have hv1 : v < s.tas.length := by omega
              go_wp2_with (first | ((first | (refine is_load rfl ?_; refine wl_ev rfl (by first | exact c_ld H rfl rfl | exact c_ld0 H rfl rfl | exact c_ldz H rfl rfl | exact c_ldr H rfl rfl) ?_) | (refine is_cmp rfl rfl ?_; first | (refine wl_ev rfl (by first | exact ev_cmpT rfl rfl rfl rfl | exact ev_cmpF rfl rfl rfl rfl | exact c_peq rfl rfl | exact c_pne rfl rfl) ?_) | (refine wl_cmp rfl rfl rfl rfl rfl (fun h => ?_) (fun h => ?_) <;> (simp only [cmpP] at h))) | (refine is_indexAddr rfl ?_; refine wl_ev rfl (c_ix rfl rfl rfl) ?_)) <;> (simp only [nrm, ↓reduceIte, Nat.reduceAdd])) | ((first | (refine is_store rfl ?_; first | (refine wl_rw rfl (fun K hK => c_st H rfl rfl rfl (h := (fun w1 hf H1 => hK _ _ ?_)))) | (refine wl_rw rfl (fun K hK => c_stc H rfl rfl (h := (fun w1 hf H1 => hK _ _ ?_)))))); (clear hK K); (clear H; have H := H1; clear H1; (try dsimp only at H); (try clear hf)); (simp only [nrm, ↓reduceIte, Nat.reduceAdd])))
              (refine wp_plan H (.cons _ (.cons_cons _ (List.nil_sublist _))) 21 (.st 0 (.st 1 (.st 2 (.st 3 (.st 4 (.st 5 (.st 6 (.st 7 (.st 8 (.st 9 (.st 10 (.st 11 (.st 12 (.st 13 (.st 14 (.st 15 (.st 16 (.ld 17 (.st 18 (.ld 19 (.st 20 (.ld 21 .done)))))))))))))))))))))) rfl (by kernel_rfl) (by kernel_rfl) (by intro c a d v w h; cases d <;> exact h) (fun w1 H1 => ?_); (clear H; have H := H1; clear H1))
              (refine pl_ev rfl rfl (fun w H => ev_moveT rfl rfl) ?_; (simp only [nrm, ↓reduceIte, Nat.reduceAdd]))
              (refine pl_ev rfl rfl (fun w H => ev_nilCheck rfl rfl) ?_; (simp only [nrm, ↓reduceIte, Nat.reduceAdd]))
              (first | (refine pl_ev rfl rfl (fun w H => c_fa2 rfl rfl) ?_; (simp only [nrm, ↓reduceIte, Nat.reduceAdd])) | (refine pl_ev rfl rfl (fun w H => c_fa rfl rfl) ?_; (simp only [nrm, ↓reduceIte, Nat.reduceAdd])))
              (refine pl_ev rfl rfl (fun w H => by first | exact c_ld H rfl rfl | exact c_ld0 H rfl rfl | exact c_ldz H rfl rfl | exact c_ldr H rfl rfl) ?_; (simp only [nrm, ↓reduceIte, Nat.reduceAdd]))
              (refine pl_ev rfl rfl (fun w H => ev_moveT rfl rfl) ?_; (simp only [nrm, ↓reduceIte, Nat.reduceAdd]))
              (refine pl_ev rfl rfl (fun w H => ev_moveT rfl rfl) ?_; (simp only [nrm, ↓reduceIte, Nat.reduceAdd]))
              (refine pl_ev rfl rfl (fun w H => ev_nilCheck rfl rfl) ?_; (simp only [nrm, ↓reduceIte, Nat.reduceAdd]))
              (first | (refine pl_ev rfl rfl (fun w H => c_fa2 rfl rfl) ?_; (simp only [nrm, ↓reduceIte, Nat.reduceAdd])) | (refine pl_ev rfl rfl (fun w H => c_fa rfl rfl) ?_; (simp only [nrm, ↓reduceIte, Nat.reduceAdd])))
              (refine pl_ev rfl rfl (fun w H => by first | exact c_ld H rfl rfl | exact c_ld0 H rfl rfl | exact c_ldz H rfl rfl | exact c_ldr H rfl rfl) ?_; (simp only [nrm, ↓reduceIte, Nat.reduceAdd]))
              (refine pl_ev rfl rfl (fun w H => ev_moveT rfl rfl) ?_; (simp only [nrm, ↓reduceIte, Nat.reduceAdd]))
              (refine pl_ev rfl rfl (fun w H => ev_moveT rfl rfl) ?_; (simp only [nrm, ↓reduceIte, Nat.reduceAdd]))
              (refine pl_ev rfl rfl (fun w H => ev_nilCheck rfl rfl) ?_; (simp only [nrm, ↓reduceIte, Nat.reduceAdd]))
              (first | (refine pl_ev rfl rfl (fun w H => c_fa2 rfl rfl) ?_; (simp only [nrm, ↓reduceIte, Nat.reduceAdd])) | (refine pl_ev rfl rfl (fun w H => c_fa rfl rfl) ?_; (simp only [nrm, ↓reduceIte, Nat.reduceAdd])))
              (refine pl_ev rfl rfl (fun w H => by first | exact c_ld H rfl rfl | exact c_ld0 H rfl rfl | exact c_ldz H rfl rfl | exact c_ldr H rfl rfl) ?_; (simp only [nrm, ↓reduceIte, Nat.reduceAdd]))
              (refine pl_ev rfl rfl (fun w H => ev_moveT rfl rfl) ?_; (simp only [nrm, ↓reduceIte, Nat.reduceAdd]))
              (refine pl_ev rfl rfl (fun w H => ev_moveT rfl rfl) ?_; (simp only [nrm, ↓reduceIte, Nat.reduceAdd]))
              (refine pl_ev rfl rfl (fun w H => c_ix rfl rfl rfl) ?_; (simp only [nrm, ↓reduceIte, Nat.reduceAdd]))
              (first | (refine pl_rw rfl rfl (fun K hK => c_st H rfl rfl rfl (h := (fun w1 hf H1 => hK _ _ (fun hne => by first | exact absurd rfl hne | exact trivial | exact H1.sub (by repeat first | exact List.Sublist.refl _ | exact List.nil_sublist _ | apply List.Sublist.cons_cons | apply List.Sublist.cons)) ?_))); (clear hK K); (clear H; have H := H1; clear H1; (try dsimp only at H); (try clear hf)); (simp only [nrm, ↓reduceIte, Nat.reduceAdd])) | (refine pl_rw rfl rfl (fun K hK => c_stc H rfl rfl (h := (fun w1 hf H1 => hK _ _ (fun hne => by first | exact absurd rfl hne | exact trivial | exact H1.sub (by repeat first | exact List.Sublist.refl _ | exact List.nil_sublist _ | apply List.Sublist.cons_cons | apply List.Sublist.cons)) ?_))); (clear hK K); (clear H; have H := H1; clear H1; (try dsimp only at H); (try clear hf)); (simp only [nrm, ↓reduceIte, Nat.reduceAdd])) | (refine pl_rw rfl rfl (fun K hK => c_stn H rfl rfl rfl (h := (fun w1 hf H1 => hK _ _ (fun hne => by first | exact absurd rfl hne | exact trivial | exact H1.sub (by repeat first | exact List.Sublist.refl _ | exact List.nil_sublist _ | apply List.Sublist.cons_cons | apply List.Sublist.cons)) ?_))); (clear hK K); (clear H; have H := H1; clear H1; (try dsimp only at H); (try clear hf)); (simp only [nrm, ↓reduceIte, Nat.reduceAdd])))
              (refine pl_ev rfl rfl (fun w H => c_ix rfl rfl rfl) ?_; (simp only [nrm, ↓reduceIte, Nat.reduceAdd]))
              (first | (refine pl_rw rfl rfl (fun K hK => c_st H rfl rfl rfl (h := (fun w1 hf H1 => hK _ _ (fun hne => by first | exact absurd rfl hne | exact trivial | exact H1.sub (by repeat first | exact List.Sublist.refl _ | exact List.nil_sublist _ | apply List.Sublist.cons_cons | apply List.Sublist.cons)) ?_))); (clear hK K); (clear H; have H := H1; clear H1; (try dsimp only at H); (try clear hf)); (simp only [nrm, ↓reduceIte, Nat.reduceAdd])) | (refine pl_rw rfl rfl (fun K hK => c_stc H rfl rfl (h := (fun w1 hf H1 => hK _ _ (fun hne => by first | exact absurd rfl hne | exact trivial | exact H1.sub (by repeat first | exact List.Sublist.refl _ | exact List.nil_sublist _ | apply List.Sublist.cons_cons | apply List.Sublist.cons)) ?_))); (clear hK K); (clear H; have H := H1; clear H1; (try dsimp only at H); (try clear hf)); (simp only [nrm, ↓reduceIte, Nat.reduceAdd])) | (refine pl_rw rfl rfl (fun K hK => c_stn H rfl rfl rfl (h := (fun w1 hf H1 => hK _ _ (fun hne => by first | exact absurd rfl hne | exact trivial | exact H1.sub (by repeat first | exact List.Sublist.refl _ | exact List.nil_sublist _ | apply List.Sublist.cons_cons | apply List.Sublist.cons)) ?_))); (clear hK K); (clear H; have H := H1; clear H1; (try dsimp only at H); (try clear hf)); (simp only [nrm, ↓reduceIte, Nat.reduceAdd])))
              (refine pl_ev rfl rfl (fun w H => c_ix rfl rfl rfl) ?_; (simp only [nrm, ↓reduceIte, Nat.reduceAdd]))
              (first | (refine pl_rw rfl rfl (fun K hK => c_st H rfl rfl rfl (h := (fun w1 hf H1 => hK _ _ (fun hne => by first | exact absurd rfl hne | exact trivial | exact H1.sub (by repeat first | exact List.Sublist.refl _ | exact List.nil_sublist _ | apply List.Sublist.cons_cons | apply List.Sublist.cons)) ?_))); (clear hK K); (clear H; have H := H1; clear H1; (try dsimp only at H); (try clear hf)); (simp only [nrm, ↓reduceIte, Nat.reduceAdd])) | (refine pl_rw rfl rfl (fun K hK => c_stc H rfl rfl (h := (fun w1 hf H1 => hK _ _ (fun hne => by first | exact absurd rfl hne | exact trivial | exact H1.sub (by repeat first | exact List.Sublist.refl _ | exact List.nil_sublist _ | apply List.Sublist.cons_cons | apply List.Sublist.cons)) ?_))); (clear hK K); (clear H; have H := H1; clear H1; (try dsimp only at H); (try clear hf)); (simp only [nrm, ↓reduceIte, Nat.reduceAdd])) | (refine pl_rw rfl rfl (fun K hK => c_stn H rfl rfl rfl (h := (fun w1 hf H1 => hK _ _ (fun hne => by first | exact absurd rfl hne | exact trivial | exact H1.sub (by repeat first | exact List.Sublist.refl _ | exact List.nil_sublist _ | apply List.Sublist.cons_cons | apply List.Sublist.cons)) ?_))); (clear hK K); (clear H; have H := H1; clear H1; (try dsimp only at H); (try clear hf)); (simp only [nrm, ↓reduceIte, Nat.reduceAdd])))
              (refine pl_done ?_)
              rw [ints_set, ints_set, intsP_set _ _ _ _ hv1] at H
              go_wp2_with (first | ((first | (refine is_load rfl ?_; refine wl_ev rfl (by first | exact c_ld H rfl rfl | exact c_ld0 H rfl rfl | exact c_ldz H rfl rfl | exact c_ldr H rfl rfl) ?_) | (refine is_cmp rfl rfl ?_; first | (refine wl_ev rfl (by first | exact ev_cmpT rfl rfl rfl rfl | exact ev_cmpF rfl rfl rfl rfl | exact c_peq rfl rfl | exact c_pne rfl rfl) ?_) | (refine wl_cmp rfl rfl rfl rfl rfl (fun h => ?_) (fun h => ?_) <;> (simp only [cmpP] at h))) | (refine is_indexAddr rfl ?_; refine wl_ev rfl (c_ix rfl rfl rfl) ?_)) <;> (simp only [nrm, ↓reduceIte, Nat.reduceAdd])) | ((first | (refine is_store rfl ?_; first | (refine wl_rw rfl (fun K hK => c_st H rfl rfl rfl (h := (fun w1 hf H1 => hK _ _ ?_)))) | (refine wl_rw rfl (fun K hK => c_stc H rfl rfl (h := (fun w1 hf H1 => hK _ _ ?_)))))); (clear hK K); (clear H; have H := H1; clear H1; (try dsimp only at H); (try clear hf)); (simp only [nrm, ↓reduceIte, Nat.reduceAdd])))
              go_ret
              have Ht : lose s v = (0, { s with liv := s.liv.set v false, sta := s.sta.set q 1, loc := (moved s v to).set q (to : Int), tas := s.tas.set v (-1) }) := by unfold lose; rw [Hw.out, Int.toNat_natCast, Hc.out, Hr.out, Hto.out, if_neg (by decide), if_neg (by decide), if_pos (by omega), Int.toNat_natCast]
              refine ⟨by rw [Ht]; rfl, H.fr, ?_⟩
              rw [Ht, ← Hmv.out]
              exact Hin.out.cls (H.sub (by repeat first | exact List.Sublist.refl _ | exact List.nil_sublist _ | apply List.Sublist.cons_cons | apply List.Sublist.cons)) (List.length_set ..) (Hin.out.wf.upd (List.length_set ..) (by rw [List.length_set]; exact Hmvl.out) (List.length_set ..) (List.length_set ..) (set_tas Hin.out.wf.tas' v (-1) (.inl rfl)) Hlive.out)
    · have Hc := hid hc
      rw [hc]
      have Ht : Hid (lose s v = (330, s)) := hid (by unfold lose; rw [Hw.out, Int.toNat_natCast, hc, if_neg (by decide), if_pos rfl])
      have hvl2 : v < (s.liv.set v false).length := by rw [List.length_set]; exact hvl
      clear hc
      go_wp2_with (first | ((first | (refine is_load rfl ?_; refine wl_ev rfl (by first | exact c_ld H rfl rfl | exact c_ld0 H rfl rfl | exact c_ldz H rfl rfl | exact c_ldr H rfl rfl) ?_) | (refine is_cmp rfl rfl ?_; first | (refine wl_ev rfl (by first | exact ev_cmpT rfl rfl rfl rfl | exact ev_cmpF rfl rfl rfl rfl | exact c_peq rfl rfl | exact c_pne rfl rfl) ?_) | (refine wl_cmp rfl rfl rfl rfl rfl (fun h => ?_) (fun h => ?_) <;> (simp only [cmpP] at h))) | (refine is_indexAddr rfl ?_; refine wl_ev rfl (c_ix rfl rfl rfl) ?_)) <;> (simp only [nrm, ↓reduceIte, Nat.reduceAdd])) | ((first | (refine is_store rfl ?_; first | (refine wl_rw rfl (fun K hK => c_st H rfl rfl rfl (h := (fun w1 hf H1 => hK _ _ ?_)))) | (refine wl_rw rfl (fun K hK => c_stc H rfl rfl (h := (fun w1 hf H1 => hK _ _ ?_)))))); (clear hK K); (clear H; have H := H1; clear H1; (try dsimp only at H); (try clear hf)); (simp only [nrm, ↓reduceIte, Nat.reduceAdd])))
      rw [boolsP_set _ _ _ _ hvl2, set_back Hv.out] at H
      go_ret
      exact ⟨by rw [Ht.out]; rfl, H.fr, by rw [Ht.out]; exact Hcl.out _ H⟩
  · have Ht : Hid (lose s wi = (330, s)) := hid (by unfold lose; rw [hw, if_pos rfl])
    have Hw := hid hw
    clear hw
    go_enter Try.func16, Try.ntmps16
    go_wp2_with (first | ((first | (refine is_load rfl ?_; refine wl_ev rfl (by first | exact c_ld H rfl rfl | exact c_ld0 H rfl rfl | exact c_ldz H rfl rfl | exact c_ldr H rfl rfl) ?_) | (refine is_cmp rfl rfl ?_; first | (refine wl_ev rfl (by first | exact ev_cmpT rfl rfl rfl rfl | exact ev_cmpF rfl rfl rfl rfl | exact c_peq rfl rfl | exact c_pne rfl rfl) ?_) | (refine wl_cmp rfl rfl rfl rfl rfl (fun h => ?_) (fun h => ?_) <;> (simp only [cmpP] at h))) | (refine is_indexAddr rfl ?_; refine wl_ev rfl (c_ix rfl rfl rfl) ?_)) <;> (simp only [nrm, ↓reduceIte, Nat.reduceAdd])) | ((first | (refine is_store rfl ?_; first | (refine wl_rw rfl (fun K hK => c_st H rfl rfl rfl (h := (fun w1 hf H1 => hK _ _ ?_)))) | (refine wl_rw rfl (fun K hK => c_stc H rfl rfl (h := (fun w1 hf H1 => hK _ _ ?_)))))); (clear hK K); (clear H; have H := H1; clear H1; (try dsimp only at H); (try clear hf)); (simp only [nrm, ↓reduceIte, Nat.reduceAdd])))
    (refine Calls.mono (worker_any (Hcl.out _ H) wi) ?_; rintro e w1 ⟨rfl, hF⟩; have H1 := H.step hF (by simp); clear H; have H := H1; clear H1)
    rw [Hw.out]
    go_wp2_with (first | ((first | (refine is_load rfl ?_; refine wl_ev rfl (by first | exact c_ld H rfl rfl | exact c_ld0 H rfl rfl | exact c_ldz H rfl rfl | exact c_ldr H rfl rfl) ?_) | (refine is_cmp rfl rfl ?_; first | (refine wl_ev rfl (by first | exact ev_cmpT rfl rfl rfl rfl | exact ev_cmpF rfl rfl rfl rfl | exact c_peq rfl rfl | exact c_pne rfl rfl) ?_) | (refine wl_cmp rfl rfl rfl rfl rfl (fun h => ?_) (fun h => ?_) <;> (simp only [cmpP] at h))) | (refine is_indexAddr rfl ?_; refine wl_ev rfl (c_ix rfl rfl rfl) ?_)) <;> (simp only [nrm, ↓reduceIte, Nat.reduceAdd])) | ((first | (refine is_store rfl ?_; first | (refine wl_rw rfl (fun K hK => c_st H rfl rfl rfl (h := (fun w1 hf H1 => hK _ _ ?_)))) | (refine wl_rw rfl (fun K hK => c_stc H rfl rfl (h := (fun w1 hf H1 => hK _ _ ?_)))))); (clear hK K); (clear H; have H := H1; clear H1; (try dsimp only at H); (try clear hf)); (simp only [nrm, ↓reduceIte, Nat.reduceAdd])))
    go_ret
    exact ⟨by rw [Ht.out]; rfl, H.fr, by rw [Ht.out]; exact Hcl.out _ H⟩
end Go.Proofs.Ythlhjjokodmihaa
