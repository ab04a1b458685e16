/-
  The document's pool: what changes of the state do to what it shows; Free, Which, Join over the object.
-/
import Derived.Test.YthlhjjokodmihaaRs2
namespace Go.Proofs.Ythlhjjokodmihaa
open Go.RowKit
set_option linter.unusedSimpArgs false
set_option linter.unusedVariables false
theorem getD_set {α : Type} (l : List α) (q t : Nat) (x d : α) (hq : q < l.length) : (l.set q x)[t]?.getD d = if q = t then x else l[t]?.getD d := by
  rw [List.getElem?_set]
  by_cases e : q = t
  · subst e; rw [if_pos rfl, if_pos rfl, if_pos hq]; rfl
  · rw [if_neg e, if_neg e]
theorem atW_set {s : PS} {q : Nat} {x y : Int} {tas : List Int} {liv : List Bool} (hq : q < s.par.length) (h1 : s.sta.length = s.par.length) (h2 : s.loc.length = s.par.length) : atW ⟨s.par, s.own, s.sta.set q x, s.loc.set q y, tas, liv⟩ = (atW s).set q (if x = 1 then y else -1) := by
  apply List.ext_getElem?
  intro j
  rw [List.getElem?_set, atW_len]
  by_cases hj : j < s.par.length
  · rw [atW_at (s := ⟨s.par, s.own, s.sta.set q x, s.loc.set q y, tas, liv⟩) (t := j) hj]
    unfold atX
    simp only
    rw [getD_set _ _ _ _ _ (by omega), getD_set _ _ _ _ _ (by omega)]
    by_cases e : q = j
    · simp only [e, if_true]; rw [if_pos hj]
    · simp only [e, if_false]; rw [atW_at hj]; rfl
  · rw [List.getElem?_eq_none (by rw [atW_len]; exact Nat.le_of_not_lt hj), List.getElem?_eq_none (by rw [atW_len]; omega)]
    split <;> simp
    omega
theorem set_self {α : Type} {l : List α} {q : Nat} {y : α} (h : l[q]? = some y) : l.set q y = l := by
  apply List.ext_getElem?
  intro i
  rw [List.getElem?_set]
  split
  · rename_i e; subst e; rw [if_pos (List.getElem?_eq_some_iff.1 h).1, h]
  · rfl
theorem atW_sta {s : PS} {q : Nat} {x : Int} {tas : List Int} {liv : List Bool} (hq : q < s.par.length) (h1 : s.sta.length = s.par.length) (h2 : s.loc.length = s.par.length) (hx : x ≠ 1) : atW ⟨s.par, s.own, s.sta.set q x, s.loc, tas, liv⟩ = (atW s).set q (-1) := by
  obtain ⟨y, hy⟩ : ∃ y, s.loc[q]? = some y := ⟨_, List.getElem?_eq_getElem (by omega)⟩
  have := atW_set (s := s) (q := q) (x := x) (y := y) (tas := tas) (liv := liv) hq h1 h2
  rw [set_self hy, if_neg hx] at this
  exact this
theorem atW_off {s : PS} {q : Nat} {x y : Int} {tas : List Int} {liv : List Bool} (hq : q < s.par.length) (h1 : s.sta.length = s.par.length) (h2 : s.loc.length = s.par.length) (hx : x ≠ 1) (hy : s.sta[q]? = some y) (hy1 : y ≠ 1) : atW ⟨s.par, s.own, s.sta.set q x, s.loc, tas, liv⟩ = atW s := by
  rw [atW_sta hq h1 h2 hx, set_self]
  rw [atW_at hq]
  obtain ⟨z, hz⟩ : ∃ y, s.loc[q]? = some y := ⟨_, List.getElem?_eq_getElem (by omega)⟩
  rw [atX_of hy hz, if_neg hy1]
theorem doneW_set (s : PS) (q : Nat) (x : Int) (loc tas : List Int) (liv : List Bool) : doneW ⟨s.par, s.own, s.sta.set q x, loc, tas, liv⟩ = (doneW s).set q (x == 3) := by
  unfold doneW; rw [List.map_set]
theorem failW_set (s : PS) (q : Nat) (x : Int) (loc tas : List Int) (liv : List Bool) : failW ⟨s.par, s.own, s.sta.set q x, loc, tas, liv⟩ = (failW s).set q (x == 4) := by
  unfold failW; rw [List.map_set]
theorem doneW_at {s : PS} {q : Nat} {x : Int} (h : s.sta[q]? = some x) : (doneW s)[q]? = some (x == 3) := by unfold doneW; rw [List.getElem?_map, h]; rfl
theorem failW_at {s : PS} {q : Nat} {x : Int} (h : s.sta[q]? = some x) : (failW s)[q]? = some (x == 4) := by unfold failW; rw [List.getElem?_map, h]; rfl
theorem doneW_keep {s : PS} {q : Nat} {x y : Int} (h : s.sta[q]? = some y) (hxy : (x == 3) = (y == 3)) (loc tas : List Int) (liv : List Bool) : doneW ⟨s.par, s.own, s.sta.set q x, loc, tas, liv⟩ = doneW s := by
  rw [doneW_set, hxy, set_self (doneW_at h)]
theorem failW_keep {s : PS} {q : Nat} {x y : Int} (h : s.sta[q]? = some y) (hxy : (x == 4) = (y == 4)) (loc tas : List Int) (liv : List Bool) : failW ⟨s.par, s.own, s.sta.set q x, loc, tas, liv⟩ = failW s := by
  rw [failW_set, hxy, set_self (failW_at h)]
/-- The row of readiness, where there are tasks. -/
theorem DIn.row {A : DA} {s : PS} {w : World} (h : DIn A s w) (h0 : 0 < s.par.length) : ∃ ga ca pada, A.Sa = [ga] ∧ A.va = .slice (some ⟨ga, 0, none⟩) s.par.length ca ∧ w.heap[ga]? = some (.cells (ints (atW s) ++ pada).toArray 3 (0, 0)) ∧ ∀ (w1 : World) (xs : List Int), xs.length = s.par.length → w1.heap[ga]? = some (.cells (ints xs ++ pada).toArray 3 (0, 0)) → RowAt 3 1 A.va s.par.length (ints xs) A.Sa w1 := by
  obtain ⟨hl, ⟨_, e, _⟩ | ⟨ga, ca, pada, e1, e2, e3, e4, e5, e6⟩⟩ := h.ha
  · omega
  refine ⟨ga, ca, pada, e1, e2, e6, fun w1 xs hx hg => ⟨by rw [ints_len, hx, Nat.mul_one], .inr ⟨ga, ca, pada, e1, e2, e3, e4, ?_, hg⟩⟩⟩
  rw [List.length_append, ints_len, hx, ← e5, List.length_append, ints_len, atW_len]
set_option maxHeartbeats 4000000 in
set_option maxRecDepth 100000 in
theorem freeD_any {A : DA} {s : PS} {w : World} (h : DIn A s w) (J : PW s) (t : Nat) :
    Calls Try.prog 48 #[.pointer (some ⟨A.b, 0, none⟩), .int .i64 t] w fun e w' => e = .returned (.bool (!held s t)) ∧ Fr [] w w' := by
  obtain ⟨p1, h1⟩ := h.hp
  obtain ⟨p3, h3⟩ := h.hd
  rw [← heldD_view J]
  refine free33_any (n := s.par.length) (p := some ⟨A.gp, 0, none⟩) (c := A.cp) (q := some ⟨A.gd, 0, none⟩) (d := A.cd) s.par (doneW s) rfl (by rw [doneW_len]; exact J.sta) (by have := J.n; omega) (lt_of_get h.hb) (row_cell0 h.hb) ?_ ?_ t
  · have H := (Hp.start [] w).pushRng (b := A.gp) (off := 0) (cs := ints s.par) (lt_of_get h1) (by simp) (row_cell h1)
    exact H.rdRng (.head _) List.prefix_rfl
  · have H := (Hp.start [] w).pushRng (b := A.gd) (off := 0) (cs := boolsV (doneW s)) (lt_of_get h3) (by simp) (row_cell h3)
    exact H.rdRng (.head _) List.prefix_rfl
set_option maxHeartbeats 4000000 in
set_option maxRecDepth 100000 in
theorem join33_any {A : DA} {s : PS} {w : World} (h : DIn A s w) (J : PW s) (wi : Int) :
    Calls Try.prog 41 #[.pointer (some ⟨A.b, 0, none⟩), .int .i64 wi] w fun e w' => e = .returned (.int .i64 (join s wi).1) ∧ Fr A.T w w' ∧ DIn A (join s wi).2 w' := by
  obtain ⟨pl, hgl⟩ := h.hl
  have hnd := h.nd
  have hbT : A.b ∉ [A.gl] := by
    have := (DA.ne hnd).1; simp only [DA.T, List.mem_cons, not_or] at this; simp [this.2.2.2.1]
  have H := (Hp.start [A.gl] w).push hgl (.inl (.head _)) (by simp)
  have H := H.pushRng (b := A.b) (off := 0) (lt_of_get h.hb) hbT (row_cell0 h.hb)
  have H : Hp [A.gl] w w [.rng A.b 0 [.slice (some ⟨A.gp, 0, none⟩) s.par.length A.cp, .slice (some ⟨A.go, 0, none⟩) s.par.length A.co, A.va, .slice (some ⟨A.gd, 0, none⟩) s.par.length A.cd, .slice (some ⟨A.gf, 0, none⟩) s.par.length A.cf, .slice (some ⟨A.gt, 0, none⟩) s.tas.length A.ct, .slice (some ⟨A.gl, 0, none⟩) s.tas.length A.cl], .blk A.gl (boolsV s.liv ++ pl) 4] := H
  have hcl : ∀ (w1 : World) (lv : List Bool), Hp [A.gl] w w1 [.blk A.gl (boolsV lv ++ pl) 4] → Fr A.T w w1 ∧ DIn A ⟨s.par, s.own, s.sta, s.loc, s.tas, lv⟩ w1 := by
    intro w1 lv H
    obtain ⟨p1, h1⟩ := h.hp
    obtain ⟨p2, h2⟩ := h.ho
    obtain ⟨p3, h3⟩ := h.hd
    obtain ⟨p4, h4⟩ := h.hf
    obtain ⟨p5, h5⟩ := h.ht
    have hn := hnd
    simp only [DA.S, List.nodup_cons, List.mem_cons, not_or] at hn
    obtain ⟨⟨a1, a2, a3, a4, a5, a6, a7⟩, ⟨b1, b2, b3, b4, b5, b6⟩, ⟨c1, c2, c3, c4, c5⟩, ⟨d1, d2, d3, d4⟩, ⟨e1, e2, e3⟩, ⟨f1, f2⟩, g1, g2⟩ := hn
    refine ⟨H.fr.mono (fun x hx => .inl (by simp only [List.mem_singleton] at hx; subst hx; simp [DA.T])), hnd, ?_, ⟨p1, H.fr.get h1 (by simp [b5])⟩, ⟨p2, H.fr.get h2 (by simp [c4])⟩, ⟨p3, H.fr.get h3 (by simp [d3])⟩, ⟨p4, H.fr.get h4 (by simp [e2])⟩, ⟨p5, H.fr.get h5 (by simp [f1])⟩, ⟨pl, H.at A.gl⟩, ?_⟩
    · exact H.fr.get h.hb (by simp [a6])
    · exact RowAt.firm.fr w w1 [A.gl] H.fr (fun x hx hx2 => by simp only [List.mem_singleton] at hx2; subst hx2; exact g1 hx) h.ha
  have Hcl := hid hcl
  have hk := J.k8
  have hlv := J.liv
  clear h J hcl hgl hbT hnd
  by_cases h0 : wi < 0
  · have Ht : Hid (join s wi = (330, s)) := hid (by unfold join; rw [if_pos (.inl h0)])
    clear hlv
    go_enter Try.func41, Try.ntmps41
    go_wp2_with (first | ((first | (refine is_load rfl ?_; refine wl_ev rfl (by first | exact c_ld H rfl rfl | exact c_ld0 H rfl rfl | exact c_ldz H rfl rfl | exact c_ldr H rfl rfl) ?_) | (refine is_cmp rfl rfl ?_; first | (refine wl_ev rfl (by first | exact ev_cmpT rfl rfl rfl rfl | exact ev_cmpF rfl rfl rfl rfl) ?_) | (refine wl_cmp rfl rfl rfl rfl rfl (fun h => ?_) (fun h => ?_) <;> (simp only [cmpP] at h))) | (refine is_indexAddr rfl ?_; refine wl_ev rfl (c_ix rfl rfl rfl) ?_)) <;> (simp only [nrm, ↓reduceIte, Nat.reduceAdd])) | ((first | (refine is_store rfl ?_; first | (refine wl_rw rfl (fun K hK => c_st H rfl rfl rfl (h := (fun w1 hf H1 => hK _ _ ?_)))) | (refine wl_rw rfl (fun K hK => c_stc H rfl rfl (h := (fun w1 hf H1 => hK _ _ ?_)))))); (clear hK K); (clear H; have H := H1; clear H1; (try dsimp only at H); (try clear hf)); (simp only [nrm, ↓reduceIte, Nat.reduceAdd])))
    go_ret
    exact ⟨by rw [Ht.out]; rfl, by rw [Ht.out]; exact Hcl.out _ s.liv (H.sub (by repeat first | exact List.Sublist.refl _ | exact List.nil_sublist _ | apply List.Sublist.cons_cons | apply List.Sublist.cons))⟩
  obtain ⟨v, rfl⟩ : ∃ v : Nat, wi = v := ⟨wi.toNat, by omega⟩
  by_cases hv : v < s.tas.length
  · obtain ⟨x, hx⟩ : ∃ x, s.liv[v]? = some x := ⟨_, List.getElem?_eq_getElem (by omega)⟩
    have hxv := pre_at (pad := pl) (boolsV_at hx)
    cases x
    · have Ht : Hid (join s v = (0, { s with liv := s.liv.set v true })) := hid (by unfold join; rw [if_neg (by omega), Int.toNat_natCast, hx]; rfl)
      have hv1 : v < s.liv.length := by omega
      clear hx hlv
      go_enter Try.func41, Try.ntmps41
      go_wp2_with (first | ((first | (refine is_load rfl ?_; refine wl_ev rfl (by first | exact c_ld H rfl rfl | exact c_ld0 H rfl rfl | exact c_ldz H rfl rfl | exact c_ldr H rfl rfl) ?_) | (refine is_cmp rfl rfl ?_; first | (refine wl_ev rfl (by first | exact ev_cmpT rfl rfl rfl rfl | exact ev_cmpF rfl rfl rfl rfl) ?_) | (refine wl_cmp rfl rfl rfl rfl rfl (fun h => ?_) (fun h => ?_) <;> (simp only [cmpP] at h))) | (refine is_indexAddr rfl ?_; refine wl_ev rfl (c_ix rfl rfl rfl) ?_)) <;> (simp only [nrm, ↓reduceIte, Nat.reduceAdd])) | ((first | (refine is_store rfl ?_; first | (refine wl_rw rfl (fun K hK => c_st H rfl rfl rfl (h := (fun w1 hf H1 => hK _ _ ?_)))) | (refine wl_rw rfl (fun K hK => c_stc H rfl rfl (h := (fun w1 hf H1 => hK _ _ ?_)))))); (clear hK K); (clear H; have H := H1; clear H1; (try dsimp only at H); (try clear hf)); (simp only [nrm, ↓reduceIte, Nat.reduceAdd])))
      rw [boolsP_set _ _ _ _ hv1] at H
      go_ret
      exact ⟨by rw [Ht.out]; rfl, by rw [Ht.out]; exact Hcl.out _ _ (H.sub (by repeat first | exact List.Sublist.refl _ | exact List.nil_sublist _ | apply List.Sublist.cons_cons | apply List.Sublist.cons))⟩
    · have Ht : Hid (join s v = (330, s)) := hid (by unfold join; rw [if_neg (by omega), Int.toNat_natCast, hx]; rfl)
      clear hx hlv
      go_enter Try.func41, Try.ntmps41
      go_wp2_with (first | ((first | (refine is_load rfl ?_; refine wl_ev rfl (by first | exact c_ld H rfl rfl | exact c_ld0 H rfl rfl | exact c_ldz H rfl rfl | exact c_ldr H rfl rfl) ?_) | (refine is_cmp rfl rfl ?_; first | (refine wl_ev rfl (by first | exact ev_cmpT rfl rfl rfl rfl | exact ev_cmpF rfl rfl rfl rfl) ?_) | (refine wl_cmp rfl rfl rfl rfl rfl (fun h => ?_) (fun h => ?_) <;> (simp only [cmpP] at h))) | (refine is_indexAddr rfl ?_; refine wl_ev rfl (c_ix rfl rfl rfl) ?_)) <;> (simp only [nrm, ↓reduceIte, Nat.reduceAdd])) | ((first | (refine is_store rfl ?_; first | (refine wl_rw rfl (fun K hK => c_st H rfl rfl rfl (h := (fun w1 hf H1 => hK _ _ ?_)))) | (refine wl_rw rfl (fun K hK => c_stc H rfl rfl (h := (fun w1 hf H1 => hK _ _ ?_)))))); (clear hK K); (clear H; have H := H1; clear H1; (try dsimp only at H); (try clear hf)); (simp only [nrm, ↓reduceIte, Nat.reduceAdd])))
      go_ret
      exact ⟨by rw [Ht.out]; rfl, by rw [Ht.out]; exact Hcl.out _ s.liv (H.sub (by repeat first | exact List.Sublist.refl _ | exact List.nil_sublist _ | apply List.Sublist.cons_cons | apply List.Sublist.cons))⟩
  · have Ht : Hid (join s v = (330, s)) := hid (by unfold join; rw [if_pos (.inr (by omega))])
    clear hlv
    go_enter Try.func41, Try.ntmps41
    go_wp2_with (first | ((first | (refine is_load rfl ?_; refine wl_ev rfl (by first | exact c_ld H rfl rfl | exact c_ld0 H rfl rfl | exact c_ldz H rfl rfl | exact c_ldr H rfl rfl) ?_) | (refine is_cmp rfl rfl ?_; first | (refine wl_ev rfl (by first | exact ev_cmpT rfl rfl rfl rfl | exact ev_cmpF rfl rfl rfl rfl) ?_) | (refine wl_cmp rfl rfl rfl rfl rfl (fun h => ?_) (fun h => ?_) <;> (simp only [cmpP] at h))) | (refine is_indexAddr rfl ?_; refine wl_ev rfl (c_ix rfl rfl rfl) ?_)) <;> (simp only [nrm, ↓reduceIte, Nat.reduceAdd])) | ((first | (refine is_store rfl ?_; first | (refine wl_rw rfl (fun K hK => c_st H rfl rfl rfl (h := (fun w1 hf H1 => hK _ _ ?_)))) | (refine wl_rw rfl (fun K hK => c_stc H rfl rfl (h := (fun w1 hf H1 => hK _ _ ?_)))))); (clear hK K); (clear H; have H := H1; clear H1; (try dsimp only at H); (try clear hf)); (simp only [nrm, ↓reduceIte, Nat.reduceAdd])))
    go_ret
    exact ⟨by rw [Ht.out]; rfl, by rw [Ht.out]; exact Hcl.out _ s.liv (H.sub (by repeat first | exact List.Sublist.refl _ | exact List.nil_sublist _ | apply List.Sublist.cons_cons | apply List.Sublist.cons))⟩
theorem chooseF_take {s : PS} {v m : Nat} (h : (chooseF s v).2 < (readyW s v).length) (hm : (readyW s v).getLast? = some m) : chooseF s (v + 1) = ((m : Int), (readyW s v).length) := by
  rw [chooseF, if_pos h, hm]; rfl
/-- What the document's search knows behind v workers. -/
def BestOf (s : PS) (v : Nat) (b : Int) : Prop := (b = -1 ∧ (chooseF s v).2 = 0) ∨ ∃ u m : Nat, b = u ∧ u < s.tas.length ∧ (readyW s u).length = (chooseF s v).2 ∧ 0 < (chooseF s v).2 ∧ (readyW s u)[(readyW s u).length - 1]? = some m ∧ (chooseF s v).1 = m
set_option maxHeartbeats 4000000 in
set_option maxRecDepth 100000 in
theorem which33_any {A : DA} {s : PS} {w : World} (h : DIn A s w) (J : PJ s) (wi : Int) :
    Calls Try.prog 51 #[.pointer (some ⟨A.b, 0, none⟩), .int .i64 wi] w fun e w' => e = .returned (.int .i64 (choose s wi)) ∧ Fr [] w w' := by
  have H := h.rdo
  have hn := J.wf.n
  have hk := J.wf.k8
  have Hin := hid h
  have HJ := hid J
  clear h J
  go_enter Try.func51, Try.ntmps51
  go_wp2_with (first | ((first | (refine is_load rfl ?_; refine wl_ev rfl (by first | exact c_ld H rfl rfl | exact c_ld0 H rfl rfl | exact c_ldz H rfl rfl | exact c_ldr H rfl rfl) ?_) | (refine is_cmp rfl rfl ?_; first | (refine wl_ev rfl (by first | exact ev_cmpT rfl rfl rfl rfl | exact ev_cmpF rfl rfl rfl rfl) ?_) | (refine wl_cmp rfl rfl rfl rfl rfl (fun h => ?_) (fun h => ?_) <;> (simp only [cmpP] at h))) | (refine is_indexAddr rfl ?_; refine wl_ev rfl (c_ix rfl rfl rfl) ?_)) <;> (simp only [nrm, ↓reduceIte, Nat.reduceAdd]))  )
  refine Calls.mono (ready33_any (Hin.out.fr H.fr (by simp)) HJ.out wi) ?_
  rintro e w1 ⟨v, rfl, hF, hown⟩
  have hwl := readyW_len s wi
  cases hrw : readyW s wi with
  | cons t l =>
    rw [hrw] at hown hwl
    have Hc := hid (choose_own hrw)
    clear hrw
    obtain ⟨g, cap, pad, rfl, hn2, hc2, hl2, hg2, H1⟩ := H.row hF hown (by simp)
    clear H hF hown
    have H := H1
    clear H1
    have h0 : (readyV (t :: l) ++ pad)[0]? = some (.int .i64 t) := rfl
    have hlen : 0 < (t :: l).length := by simp
    generalize (t :: l).length = m at hn2 hlen hwl ⊢
    generalize readyV (t :: l) ++ pad = cs at H h0
    go_wp2_with (first | ((first | (refine is_load rfl ?_; refine wl_ev rfl (by first | exact c_ld H rfl rfl | exact c_ld0 H rfl rfl | exact c_ldz H rfl rfl | exact c_ldr H rfl rfl) ?_) | (refine is_cmp rfl rfl ?_; first | (refine wl_ev rfl (by first | exact ev_cmpT rfl rfl rfl rfl | exact ev_cmpF rfl rfl rfl rfl) ?_) | (refine wl_cmp rfl rfl rfl rfl rfl (fun h => ?_) (fun h => ?_) <;> (simp only [cmpP] at h))) | (refine is_indexAddr rfl ?_; refine wl_ev rfl (c_ix rfl rfl rfl) ?_)) <;> (simp only [nrm, ↓reduceIte, Nat.reduceAdd]))  )
    (refine bodyPost_ret (results_tmp rfl _ _ _) rfl ?_)
    exact ⟨by rw [Hc.out]; rfl, H.fr⟩
  | nil =>
    rw [hrw] at hown
    have Hc := hid (choose_other hrw)
    clear hrw hwl
    obtain ⟨p, c, rfl⟩ := ReadyOut.form hown
    have H1 := H.step hF (by simp)
    clear H hF hown
    have H := H1
    clear H1
    go_wp2_with (first | ((first | (refine is_load rfl ?_; refine wl_ev rfl (by first | exact c_ld H rfl rfl | exact c_ld0 H rfl rfl | exact c_ldz H rfl rfl | exact c_ldr H rfl rfl) ?_) | (refine is_cmp rfl rfl ?_; first | (refine wl_ev rfl (by first | exact ev_cmpT rfl rfl rfl rfl | exact ev_cmpF rfl rfl rfl rfl) ?_) | (refine wl_cmp rfl rfl rfl rfl rfl (fun h => ?_) (fun h => ?_) <;> (simp only [cmpP] at h))) | (refine is_indexAddr rfl ?_; refine wl_ev rfl (c_ix rfl rfl rfl) ?_)) <;> (simp only [nrm, ↓reduceIte, Nat.reduceAdd]))  )
    go_loopw [6, 7] (fun s6 s7 wr => ∃ (v : Nat) (b : Int), v ≤ s.tas.length ∧ s7 = .int .i64 v ∧ s6 = .int .i64 b ∧ Hid (BestOf s v b) ∧ Hp [] w wr [.rng A.b 0 [.slice (some ⟨A.gp, 0, none⟩) s.par.length A.cp, .slice (some ⟨A.go, 0, none⟩) s.par.length A.co, A.va, .slice (some ⟨A.gd, 0, none⟩) s.par.length A.cd, .slice (some ⟨A.gf, 0, none⟩) s.par.length A.cf, .slice (some ⟨A.gt, 0, none⟩) s.tas.length A.ct, .slice (some ⟨A.gl, 0, none⟩) s.tas.length A.cl], .rng A.gp 0 (ints s.par), .rng A.go 0 (ints s.own)]) (fun _ v _ => s.tas.length - (intOf v).toNat)
    case atStart => exact ⟨0, -1, Nat.zero_le _, rfl, rfl, hid (.inl ⟨rfl, rfl⟩), H.sub (by repeat first | exact List.Sublist.refl _ | exact List.nil_sublist _ | apply List.Sublist.cons_cons | apply List.Sublist.cons)⟩
    case round =>
      clear H
      obtain ⟨v, b, hv, rfl, rfl, hbest, H⟩ := hrel
      by_cases hvk : v < s.tas.length
      · have hwl := readyW_len s v
        go_wp2_with (first | ((first | (refine is_load rfl ?_; refine wl_ev rfl (by first | exact c_ld H rfl rfl | exact c_ld0 H rfl rfl | exact c_ldz H rfl rfl | exact c_ldr H rfl rfl) ?_) | (refine is_cmp rfl rfl ?_; first | (refine wl_ev rfl (by first | exact ev_cmpT rfl rfl rfl rfl | exact ev_cmpF rfl rfl rfl rfl) ?_) | (refine wl_cmp rfl rfl rfl rfl rfl (fun h => ?_) (fun h => ?_) <;> (simp only [cmpP] at h))) | (refine is_indexAddr rfl ?_; refine wl_ev rfl (c_ix rfl rfl rfl) ?_)) <;> (simp only [nrm, ↓reduceIte, Nat.reduceAdd]))  )
        refine Calls.mono (ready33_any (Hin.out.fr H.fr (by simp)) HJ.out v) ?_
        rintro e w1 ⟨vv, rfl, hF, hown⟩
        obtain ⟨p2, cc2, rfl⟩ := ReadyOut.form hown
        have H1 := H.step hF (by simp)
        clear H hF hown
        have H := H1
        clear H1
        by_cases hL : (readyW s v).length = 0
        · have Hb2 : Hid (BestOf s (v + 1) b) := hid (by unfold BestOf; rw [chooseF_no (by omega)]; exact hbest.out)
          rw [hL]
          clear hL hwl
          go_wp2_with (first | ((first | (refine is_load rfl ?_; refine wl_ev rfl (by first | exact c_ld H rfl rfl | exact c_ld0 H rfl rfl | exact c_ldz H rfl rfl | exact c_ldr H rfl rfl) ?_) | (refine is_cmp rfl rfl ?_; first | (refine wl_ev rfl (by first | exact ev_cmpT rfl rfl rfl rfl | exact ev_cmpF rfl rfl rfl rfl) ?_) | (refine wl_cmp rfl rfl rfl rfl rfl (fun h => ?_) (fun h => ?_) <;> (simp only [cmpP] at h))) | (refine is_indexAddr rfl ?_; refine wl_ev rfl (c_ix rfl rfl rfl) ?_)) <;> (simp only [nrm, ↓reduceIte, Nat.reduceAdd]))  )
          go_roundw
          case rel => exact ⟨v + 1, b, by omega, by go_num, rfl, Hb2, H⟩
          case measure => simp [intOf]; omega
        · obtain ⟨m, hm⟩ : ∃ m, (readyW s v)[(readyW s v).length - 1]? = some m := ⟨_, List.getElem?_eq_getElem (by omega)⟩
          have Hm := hid hm
          clear hm
          have hb0 := hbest.out
          rcases hb0 with ⟨rfl, h00⟩ | ⟨u, m2, rfl, huk, hul, hpos, hlast, h11⟩
          · have Hb2 : Hid (BestOf s (v + 1) v) := hid (by
              unfold BestOf
              rw [chooseF_yes (by omega) Hm.out]
              exact .inr ⟨v, m, rfl, hvk, rfl, by show 0 < (readyW s v).length; omega, Hm.out, rfl⟩)
            generalize (readyW s v).length = L at hL hwl ⊢
            clear h00
            go_wp2_with (first | ((first | (refine is_load rfl ?_; refine wl_ev rfl (by first | exact c_ld H rfl rfl | exact c_ld0 H rfl rfl | exact c_ldz H rfl rfl | exact c_ldr H rfl rfl) ?_) | (refine is_cmp rfl rfl ?_; first | (refine wl_ev rfl (by first | exact ev_cmpT rfl rfl rfl rfl | exact ev_cmpF rfl rfl rfl rfl) ?_) | (refine wl_cmp rfl rfl rfl rfl rfl (fun h => ?_) (fun h => ?_) <;> (simp only [cmpP] at h))) | (refine is_indexAddr rfl ?_; refine wl_ev rfl (c_ix rfl rfl rfl) ?_)) <;> (simp only [nrm, ↓reduceIte, Nat.reduceAdd]))  )
            go_roundw
            case rel => exact ⟨v + 1, v, by omega, by go_num, rfl, Hb2, H⟩
            case measure => simp [intOf]; omega
          · have Hul := hid hul
            have Hlast := hid hlast
            have Hpos := hid hpos
            have H11 := hid h11
            clear hul hlast hpos h11
            have HLv : Hid (∃ L, (readyW s v).length = L) := hid ⟨_, rfl⟩
            generalize hLg : (readyW s v).length = L at hL hwl ⊢
            have HL := hid hLg
            clear hLg
            have hul2 := readyW_len s u
            go_wp2_with (first | ((first | (refine is_load rfl ?_; refine wl_ev rfl (by first | exact c_ld H rfl rfl | exact c_ld0 H rfl rfl | exact c_ldz H rfl rfl | exact c_ldr H rfl rfl) ?_) | (refine is_cmp rfl rfl ?_; first | (refine wl_ev rfl (by first | exact ev_cmpT rfl rfl rfl rfl | exact ev_cmpF rfl rfl rfl rfl) ?_) | (refine wl_cmp rfl rfl rfl rfl rfl (fun h => ?_) (fun h => ?_) <;> (simp only [cmpP] at h))) | (refine is_indexAddr rfl ?_; refine wl_ev rfl (c_ix rfl rfl rfl) ?_)) <;> (simp only [nrm, ↓reduceIte, Nat.reduceAdd]))  )
            refine Calls.mono (ready33_any (Hin.out.fr H.fr (by simp)) HJ.out u) ?_
            rintro e w1 ⟨vv, rfl, hF, hown⟩
            obtain ⟨p3, cc3, rfl⟩ := ReadyOut.form hown
            have H1 := H.step hF (by simp)
            clear H hF hown
            have H := H1
            clear H1
            generalize hMg : (readyW s u).length = M at hul2 ⊢
            have HM := hid hMg
            clear hMg
            by_cases hlt : M < L
            · have Hb2 : Hid (BestOf s (v + 1) v) := hid (by
                have h1 := Hul.out
                unfold BestOf
                rw [chooseF_yes (by rw [← h1, HM.out, HL.out]; exact hlt) Hm.out]
                exact .inr ⟨v, m, rfl, hvk, rfl, by show 0 < (readyW s v).length; rw [HL.out]; omega, Hm.out, rfl⟩)
              go_wp2_with (first | ((first | (refine is_load rfl ?_; refine wl_ev rfl (by first | exact c_ld H rfl rfl | exact c_ld0 H rfl rfl | exact c_ldz H rfl rfl | exact c_ldr H rfl rfl) ?_) | (refine is_cmp rfl rfl ?_; first | (refine wl_ev rfl (by first | exact ev_cmpT rfl rfl rfl rfl | exact ev_cmpF rfl rfl rfl rfl) ?_) | (refine wl_cmp rfl rfl rfl rfl rfl (fun h => ?_) (fun h => ?_) <;> (simp only [cmpP] at h))) | (refine is_indexAddr rfl ?_; refine wl_ev rfl (c_ix rfl rfl rfl) ?_)) <;> (simp only [nrm, ↓reduceIte, Nat.reduceAdd]))  )
              go_roundw
              case rel => exact ⟨v + 1, v, by omega, by go_num, rfl, Hb2, H⟩
              case measure => simp [intOf]; omega
            · have Hb2 : Hid (BestOf s (v + 1) u) := hid (by
                have h1 := Hul.out
                unfold BestOf
                rw [chooseF_no (by rw [← h1, HM.out, HL.out]; exact hlt)]
                exact .inr ⟨u, m2, rfl, huk, Hul.out, Hpos.out, Hlast.out, H11.out⟩)
              go_wp2_with (first | ((first | (refine is_load rfl ?_; refine wl_ev rfl (by first | exact c_ld H rfl rfl | exact c_ld0 H rfl rfl | exact c_ldz H rfl rfl | exact c_ldr H rfl rfl) ?_) | (refine is_cmp rfl rfl ?_; first | (refine wl_ev rfl (by first | exact ev_cmpT rfl rfl rfl rfl | exact ev_cmpF rfl rfl rfl rfl) ?_) | (refine wl_cmp rfl rfl rfl rfl rfl (fun h => ?_) (fun h => ?_) <;> (simp only [cmpP] at h))) | (refine is_indexAddr rfl ?_; refine wl_ev rfl (c_ix rfl rfl rfl) ?_)) <;> (simp only [nrm, ↓reduceIte, Nat.reduceAdd]))  )
              go_roundw
              case rel => exact ⟨v + 1, u, by omega, by go_num, rfl, Hb2, H⟩
              case measure => simp [intOf]; omega
      · have e : v = s.tas.length := by omega
        have Hce : Hid (choose s wi = (chooseF s v).1) := hid (by rw [e]; exact Hc.out)
        clear e
        have hb0 := hbest.out
        rcases hb0 with ⟨rfl, h00⟩ | ⟨u, m2, rfl, huk, hul, hpos, hlast, h11⟩
        · have Hz := hid (chooseF_zero s v h00)
          clear h00
          go_wp2_with (first | ((first | (refine is_load rfl ?_; refine wl_ev rfl (by first | exact c_ld H rfl rfl | exact c_ld0 H rfl rfl | exact c_ldz H rfl rfl | exact c_ldr H rfl rfl) ?_) | (refine is_cmp rfl rfl ?_; first | (refine wl_ev rfl (by first | exact ev_cmpT rfl rfl rfl rfl | exact ev_cmpF rfl rfl rfl rfl) ?_) | (refine wl_cmp rfl rfl rfl rfl rfl (fun h => ?_) (fun h => ?_) <;> (simp only [cmpP] at h))) | (refine is_indexAddr rfl ?_; refine wl_ev rfl (c_ix rfl rfl rfl) ?_)) <;> (simp only [nrm, ↓reduceIte, Nat.reduceAdd]))  )
          (refine bodyPost_ret (results_tmp rfl _ _ _) rfl ?_)
          exact ⟨by rw [Hce.out, Hz.out]; rfl, H.fr⟩
        · have H11 := hid h11
          have hLp : (readyW s u).length ≠ 0 := by omega
          have hmv : (readyV (readyW s u))[(readyW s u).length - 1]? = some (.int .i64 m2) := by simp [readyV, hlast]
          clear hul hlast hpos h11
          have hul2 := readyW_len s u
          go_wp2_with (first | ((first | (refine is_load rfl ?_; refine wl_ev rfl (by first | exact c_ld H rfl rfl | exact c_ld0 H rfl rfl | exact c_ldz H rfl rfl | exact c_ldr H rfl rfl) ?_) | (refine is_cmp rfl rfl ?_; first | (refine wl_ev rfl (by first | exact ev_cmpT rfl rfl rfl rfl | exact ev_cmpF rfl rfl rfl rfl) ?_) | (refine wl_cmp rfl rfl rfl rfl rfl (fun h => ?_) (fun h => ?_) <;> (simp only [cmpP] at h))) | (refine is_indexAddr rfl ?_; refine wl_ev rfl (c_ix rfl rfl rfl) ?_)) <;> (simp only [nrm, ↓reduceIte, Nat.reduceAdd]))  )
          refine Calls.mono (ready33_any (Hin.out.fr H.fr (by simp)) HJ.out u) ?_
          rintro e w1 ⟨vv, rfl, hF, hown⟩
          obtain ⟨g, cap, pad, rfl, hn2, hc2, hl2, hg2, H1⟩ := H.row hF hown hLp
          clear H hF hown
          have H := H1
          clear H1
          have hmv2 := pre_at (pad := pad) hmv
          clear hmv
          generalize readyV (readyW s u) ++ pad = cs at H hmv2
          generalize (readyW s u).length = L at *
          have hmv3 : cs[((L : Int) - 1).toNat]? = some (.int .i64 m2) := by rw [show ((L : Int) - 1).toNat = L - 1 by omega]; exact hmv2
          clear hmv2
          go_wp2_with (first | ((first | (refine is_load rfl ?_; refine wl_ev rfl (by first | exact c_ld H rfl rfl | exact c_ld0 H rfl rfl | exact c_ldz H rfl rfl | exact c_ldr H rfl rfl) ?_) | (refine is_cmp rfl rfl ?_; first | (refine wl_ev rfl (by first | exact ev_cmpT rfl rfl rfl rfl | exact ev_cmpF rfl rfl rfl rfl) ?_) | (refine wl_cmp rfl rfl rfl rfl rfl (fun h => ?_) (fun h => ?_) <;> (simp only [cmpP] at h))) | (refine is_indexAddr rfl ?_; refine wl_ev rfl (c_ix rfl rfl rfl) ?_)) <;> (simp only [nrm, ↓reduceIte, Nat.reduceAdd]))  )
          (refine bodyPost_ret (results_tmp rfl _ _ _) rfl ?_)
          exact ⟨by rw [Hce.out, H11.out]; rfl, H.fr⟩
end Go.Proofs.Ythlhjjokodmihaa
