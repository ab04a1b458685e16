/-
  The document's pool: Lose.
-/
import Derived.Test.YthlhjjokodmihaaRs5
namespace Go.Proofs.Ythlhjjokodmihaa
open Go.RowKit
set_option linter.unusedSimpArgs false
set_option linter.unusedVariables false
def cntF (l : List Bool) (i : Nat) : Nat := (l.take i).count true
theorem cntF_yes {l : List Bool} {i : Nat} (h : l[i]? = some true) : cntF l (i + 1) = cntF l i + 1 := by
  unfold cntF; rw [List.take_add_one, h, List.count_append]; rfl
theorem cntF_no {l : List Bool} {i : Nat} (h : l[i]? = some false) : cntF l (i + 1) = cntF l i := by
  unfold cntF; rw [List.take_add_one, h, List.count_append]; rfl
theorem cntF_le (l : List Bool) (i : Nat) : cntF l i ≤ i := by
  unfold cntF; exact Nat.le_trans List.count_le_length (by rw [List.length_take]; omega)
theorem cntF_all (l : List Bool) : cntF l l.length = l.count true := by unfold cntF; rw [List.take_of_length_le (Nat.le_refl _)]
theorem cnt_two {l : List Bool} {v : Nat} (h : l[v]? = some true) : 2 ≤ cntF l l.length ↔ (l.set v false).contains true = true := by
  obtain ⟨hl, hv⟩ := List.getElem?_eq_some_iff.1 h
  have hc := List.count_set (a := false) (b := true) (l := l) (i := v) hl
  have hp : 0 < l.count true := List.count_pos_iff.2 (List.mem_of_getElem? h)
  rw [hv] at hc
  simp at hc
  rw [cntF_all, List.contains_iff_mem, ← List.count_pos_iff, hc]
  omega
def atL (s : PS) (v : Nat) (x : Int) (tw i : Nat) : List Int := (List.range s.par.length).map fun j => if j < i ∧ (atX s j = (v : Int) ∨ x = (j : Int)) then (tw : Int) else atX s j
@[simp] theorem atL_len (s : PS) (v : Nat) (x : Int) (tw i : Nat) : (atL s v x tw i).length = s.par.length := by simp [atL]
theorem atL_zero (s : PS) (v : Nat) (x : Int) (tw : Nat) : atL s v x tw 0 = atW s := by
  unfold atL atW
  refine List.map_congr_left fun j _ => ?_
  rw [if_neg (by omega)]
theorem atL_at {s : PS} {v : Nat} {x : Int} {tw i : Nat} (h : i < s.par.length) : (atL s v x tw i)[i]? = some (atX s i) := by
  unfold atL
  rw [List.getElem?_map, List.getElem?_range h]
  simp
theorem atL_yes {s : PS} {v : Nat} {x : Int} {tw i : Nat} (hi : i < s.par.length) (h : atX s i = (v : Int) ∨ x = (i : Int)) : (atL s v x tw i).set i (tw : Int) = atL s v x tw (i + 1) := by
  apply List.ext_getElem?
  intro j
  rw [List.getElem?_set, atL_len]
  unfold atL
  by_cases hj : j < s.par.length
  · rw [List.getElem?_map, List.getElem?_map, List.getElem?_range hj]
    by_cases e : i = j
    · subst e; rw [if_pos rfl, if_pos hi]; simp [h]
    · rw [if_neg e]
      simp only [Option.map_some]
      congr 2
      rw [eq_iff_iff]
      constructor
      · rintro ⟨a, b⟩; exact ⟨by omega, b⟩
      · rintro ⟨a, b⟩; exact ⟨by omega, b⟩
  · rw [if_neg (by omega), List.getElem?_eq_none (by simp; omega), List.getElem?_eq_none (by simp; omega)]
theorem atL_no {s : PS} {v : Nat} {x : Int} {tw i : Nat} (h : ¬ (atX s i = (v : Int) ∨ x = (i : Int))) : atL s v x tw (i + 1) = atL s v x tw i := by
  unfold atL
  refine List.map_congr_left fun j _ => ?_
  by_cases e : j = i
  · subst e; rw [if_neg (fun a => h a.2), if_neg (fun a => h a.2)]
  · by_cases e2 : j < i
    · congr 1
      rw [eq_iff_iff]
      exact ⟨fun a => ⟨by omega, a.2⟩, fun a => ⟨by omega, a.2⟩⟩
    · rw [if_neg (fun a => by omega), if_neg (fun a => by omega)]
theorem atL_all {s : PS} (J : PJ s) {v : Nat} {x : Int} {tw : Nat} (hx : s.tas[v]? = some x) {sta loc tas : List Int} {liv : List Bool}
    (h : (x = -1 ∧ sta = s.sta ∧ loc = moved s v tw) ∨ ∃ q : Nat, x = q ∧ sta = s.sta.set q 1 ∧ loc = (moved s v tw).set q (tw : Int)) : atW ⟨s.par, s.own, sta, loc, tas, liv⟩ = atL s v x tw s.par.length := by
  unfold atW atL
  refine List.map_congr_left fun j hj => ?_
  have hj := List.mem_range.1 hj
  obtain ⟨y, hy⟩ : ∃ y, s.sta[j]? = some y := ⟨_, List.getElem?_eq_getElem (by rw [J.wf.sta]; exact hj)⟩
  obtain ⟨z, hz⟩ : ∃ z, s.loc[j]? = some z := ⟨_, List.getElem?_eq_getElem (by rw [J.wf.loc]; exact hj)⟩
  have hm : (moved s v tw)[j]? = some (if y = 1 ∧ z = (v : Int) then (tw : Int) else z) := by
    rw [moved_get (get_lt hz)]
    by_cases e : y = 1 ∧ z = (v : Int)
    · rw [if_pos e, if_pos ((mem_readyW J.wf).2 ⟨by rw [hy, e.1], by rw [hz, e.2]⟩)]
    · rw [if_neg e, if_neg (fun a => e (by have := (mem_readyW J.wf).1 a; rw [hy, hz] at this; simp at this; exact this)), hz]
  have hbase : ∀ sta' loc' : List Int, sta'[j]? = some y → loc'[j]? = some (if y = 1 ∧ z = (v : Int) then (tw : Int) else z) → x ≠ (j : Int) → atX ⟨s.par, s.own, sta', loc', tas, liv⟩ j = if j < s.par.length ∧ (atX s j = (v : Int) ∨ x = (j : Int)) then (tw : Int) else atX s j := fun sta' loc' h1 h2 h3 => by
    rw [atX_of (s := ⟨s.par, s.own, sta', loc', tas, liv⟩) h1 h2, atX_of hy hz]
    by_cases e : y = 1
    · subst e
      simp only [if_true, true_and]
      by_cases e2 : z = (v : Int)
      · rw [if_pos e2, if_pos ⟨hj, .inl e2⟩]
      · rw [if_neg e2, if_neg (fun a => a.2.elim e2 h3)]
    · rw [if_neg e, if_neg (fun a => a.2.elim (fun b => by rw [if_neg e] at b; omega) h3), if_neg e]
  rcases h with ⟨rfl, rfl, rfl⟩ | ⟨q, rfl, rfl, rfl⟩
  · exact hbase _ _ hy hm (by omega)
  · by_cases e : q = j
    · subst e
      rw [atX_of (s := ⟨s.par, s.own, s.sta.set q 1, (moved s v tw).set q (tw : Int), tas, liv⟩) (x := 1) (y := (tw : Int)) (set_eq (get_lt hy)) (set_eq (get_lt hm)), if_pos rfl, if_pos ⟨hj, .inr rfl⟩]
    · exact hbase _ _ (by rw [set_ne e]; exact hy) (by rw [set_ne e]; exact hm) (by omega)
/-- What Lose leaves, as the document shows it. -/
theorem lose_view {s : PS} (J : PJ s) {v tw : Nat} {x : Int} (hv : s.liv[v]? = some true) (hc : (s.liv.set v false).contains true = true) (hx : s.tas[v]? = some x) (ht : nextW (s.liv.set v false) v = tw) :
    ∃ sta loc, lose s v = (0, ⟨s.par, s.own, sta, loc, s.tas.set v (-1), s.liv.set v false⟩) ∧ atW ⟨s.par, s.own, sta, loc, s.tas.set v (-1), s.liv.set v false⟩ = atL s v x tw s.par.length ∧ doneW ⟨s.par, s.own, sta, loc, s.tas.set v (-1), s.liv.set v false⟩ = doneW s ∧ failW ⟨s.par, s.own, sta, loc, s.tas.set v (-1), s.liv.set v false⟩ = failW s := by
  have hW : isW s v = true := by unfold isW; rw [decide_eq_true (by omega), Int.toNat_natCast, hv]; rfl
  have hr := runW_at hx
  rcases J.wf.tas' v x hx with rfl | ⟨q, rfl, hq⟩
  · refine ⟨s.sta, moved s v tw, ?_, atL_all J hx (.inl ⟨rfl, rfl, rfl⟩), rfl, rfl⟩
    unfold lose
    rw [hW, Int.toNat_natCast, hc, hr, ht, if_neg (by decide), if_neg (by decide), if_neg (by decide), set_self hx]
  · have h2 := J.run v q hx
    refine ⟨s.sta.set q 1, (moved s v tw).set q (tw : Int), ?_, atL_all J hx (.inr ⟨q, rfl, rfl, rfl⟩), doneW_keep h2 (x := 1) rfl .., failW_keep h2 (x := 1) rfl ..⟩
    unfold lose
    rw [hW, Int.toNat_natCast, hc, hr, ht, if_neg (by decide), if_neg (by decide), if_pos (by omega), Int.toNat_natCast]
theorem lose_one {s : PS} {v : Nat} (hv : s.liv[v]? = some true) (hc : (s.liv.set v false).contains true = false) : lose s v = (330, s) := by
  have hW : isW s v = true := by unfold isW; rw [decide_eq_true (by omega), Int.toNat_natCast, hv]; rfl
  unfold lose; rw [hW, Int.toNat_natCast, hc, if_neg (by decide), if_pos rfl]
/-- Opened tw write the workers' rows alone. -/
theorem DIn.wrt {A : DA} {s : PS} {w : World} (h : DIn A s w) : ∃ p c padt padl, A.va = .slice p s.par.length c ∧ Hp [A.gt, A.gl] w w [.rng A.b 0 [.slice (some ⟨A.gp, 0, none⟩) s.par.length A.cp, .slice (some ⟨A.go, 0, none⟩) s.par.length A.co, .slice p s.par.length c, .slice (some ⟨A.gd, 0, none⟩) s.par.length A.cd, .slice (some ⟨A.gf, 0, none⟩) s.par.length A.cf, .slice (some ⟨A.gt, 0, none⟩) s.tas.length A.ct, .slice (some ⟨A.gl, 0, none⟩) s.tas.length A.cl], .blk A.gt (ints s.tas ++ padt) 3, .blk A.gl (boolsV s.liv ++ padl) 4] := by
  obtain ⟨p5, h5⟩ := h.ht
  obtain ⟨p6, h6⟩ := h.hl
  obtain ⟨p, c, he, _⟩ := h.ha.form
  have hn := h.nd
  simp only [DA.S, List.nodup_cons, List.mem_cons, not_or] at hn
  obtain ⟨⟨a1, a2, a3, a4, a5, a6, a7⟩, _, _, _, _, ⟨f1, f2⟩, _⟩ := hn
  have H := (Hp.start [A.gt, A.gl] w).push h6 (.inl (by simp)) (by simp)
  have H := H.push h5 (.inl (by simp)) (by simp [Ent.own, f1])
  refine ⟨p, c, p5, p6, he, ?_⟩
  have := H.pushRng (b := A.b) (off := 0) (lt_of_get h.hb) (by simp [a5, a6]) (row_cell0 h.hb)
  rw [DA.hdr, he] at this
  exact this
theorem DIn.clt {A : DA} {s : PS} {w w1 : World} (h : DIn A s w) {tas : List Int} {liv : List Bool} {padt padl : List Value} (H : Hp [A.gt, A.gl] w w1 [.blk A.gt (ints tas ++ padt) 3, .blk A.gl (boolsV liv ++ padl) 4]) (hk : tas.length = s.tas.length) : Fr A.T w w1 ∧ DIn A ⟨s.par, s.own, s.sta, s.loc, tas, liv⟩ w1 := by
  obtain ⟨p1, h1⟩ := h.hp
  obtain ⟨p2, h2⟩ := h.ho
  obtain ⟨p3, h3⟩ := h.hd
  obtain ⟨p4, h4⟩ := h.hf
  have hn := h.nd
  simp only [DA.S, List.nodup_cons, List.mem_cons, not_or] at hn
  obtain ⟨⟨a1, a2, a3, a4, a5, a6, a7⟩, ⟨b1, b2, b3, b4, b5, b6⟩, ⟨c1, c2, c3, c4, c5⟩, ⟨d1, d2, d3, d4⟩, ⟨e1, e2, e3⟩, ⟨f1, f2⟩, g1, g2⟩ := hn
  refine ⟨H.fr.mono (fun x hx => .inl (by simp only [List.mem_cons, List.not_mem_nil, or_false] at hx; rcases hx with rfl | rfl <;> simp [DA.T])), h.nd, ?_, ⟨p1, H.fr.get h1 (by simp [b4, b5])⟩, ⟨p2, H.fr.get h2 (by simp [c3, c4])⟩, ⟨p3, H.fr.get h3 (by simp [d2, d3])⟩, ⟨p4, H.fr.get h4 (by simp [e1, e2])⟩, ⟨padt, H.at A.gt⟩, ⟨padl, H.at A.gl⟩, ?_⟩
  · have := H.fr.get h.hb (by simp [a5, a6])
    simpa [DA.hdr, hk] using this
  · exact RowAt.firm.fr w w1 _ H.fr (fun x hx hx2 => by simp only [List.mem_cons, List.not_mem_nil, or_false] at hx2; exact hx2.elim (fun e => f2 (e ▸ hx)) (fun e => g1 (e ▸ hx))) h.ha
set_option maxHeartbeats 8000000 in
set_option maxRecDepth 100000 in
theorem lose33_any {A : DA} {s : PS} {w : World} (h : DIn A s w) (J : PJ s) (wi : Int) :
    Calls Try.prog 40 #[.pointer (some ⟨A.b, 0, none⟩), .int .i64 wi] w fun e w' => e = .returned (.int .i64 (lose s wi).1) ∧ Fr A.T w w' ∧ DIn A (lose s wi).2 w' := by
  have hk := J.wf.k8
  have hn := J.wf.n
  have Hlv := hid J.wf.liv
  have HJ := hid J
  have Hin := hid h
  clear J h
  obtain ⟨p, c, padt, padl, hva, H⟩ := Hin.out.wrt
  have Hva := hid hva
  clear hva
  have Hcl : Hid (∀ w1, Hp [A.gt, A.gl] w w1 [.rng A.b 0 [.slice (some ⟨A.gp, 0, none⟩) s.par.length A.cp, .slice (some ⟨A.go, 0, none⟩) s.par.length A.co, .slice p s.par.length c, .slice (some ⟨A.gd, 0, none⟩) s.par.length A.cd, .slice (some ⟨A.gf, 0, none⟩) s.par.length A.cf, .slice (some ⟨A.gt, 0, none⟩) s.tas.length A.ct, .slice (some ⟨A.gl, 0, none⟩) s.tas.length A.cl], .blk A.gt (ints s.tas ++ padt) 3, .blk A.gl (boolsV s.liv ++ padl) 4] → Fr A.T w w1 ∧ DIn A s w1) := hid (fun w1 H => Hin.out.clt (H.sub (by repeat first | exact List.Sublist.refl _ | exact List.nil_sublist _ | apply List.Sublist.cons_cons | apply List.Sublist.cons)) rfl)
  rcases bool_cases (isW s wi) with hw | hw
  · obtain ⟨v, rfl, hv⟩ := isW_true hw
    have hvl : v < s.tas.length := by rw [← Hlv.out]; exact get_lt hv
    have hvl2 : v < s.liv.length := get_lt hv
    obtain ⟨x, hx⟩ : ∃ x, s.tas[v]? = some x := ⟨_, List.getElem?_eq_getElem hvl⟩
    have hxr := HJ.out.wf.tas' v x hx
    have Hv := hid hv
    have Hx := hid hx
    have Hw := hid hw
    clear hv hw hx
    rcases bool_cases ((s.liv.set v false).contains true) with hc | hc
    · have h2 := hid ((cnt_two Hv.out).2 hc)
      obtain ⟨tw, hto⟩ : ∃ tw, nextW (s.liv.set v false) v = tw := ⟨_, rfl⟩
      obtain ⟨sta, loc, e1, e2, e3, e4⟩ := lose_view HJ.out Hv.out hc Hx.out hto
      have hlive : ∃ u : Nat, (s.liv.set v false)[u]? = some true := by
        rw [List.contains_iff_mem] at hc
        exact List.mem_iff_getElem?.1 hc
      have Hlive := hid hlive
      have Hto := hid hto
      have E1 := hid e1
      have E2 := hid e2
      have E3 := hid e3
      have E4 := hid e4
      have Hwf1 : Hid (PW ⟨s.par, s.own, s.sta, s.loc, s.tas, s.liv.set v false⟩) := hid (HJ.out.wf.upd rfl rfl rfl (List.length_set ..) HJ.out.wf.tas' hlive)
      clear hc hto e1 e2 e3 e4 hlive
      by_cases hn0 : s.par.length = 0
      · have Hn0 := hid hn0
        have hn0' : s.par.length ≤ 0 := by omega
        clear hn0
        have hxm : x = -1 := by
          rcases hxr with h | ⟨q, _, hq⟩
          · exact h
          · omega
        have Hxm := hid hxm
        have Hcl1 : Hid (∀ w1, Hp [A.gt, A.gl] w w1 [.rng A.b 0 [.slice (some ⟨A.gp, 0, none⟩) s.par.length A.cp, .slice (some ⟨A.go, 0, none⟩) s.par.length A.co, .slice p s.par.length c, .slice (some ⟨A.gd, 0, none⟩) s.par.length A.cd, .slice (some ⟨A.gf, 0, none⟩) s.par.length A.cf, .slice (some ⟨A.gt, 0, none⟩) s.tas.length A.ct, .slice (some ⟨A.gl, 0, none⟩) s.tas.length A.cl], .blk A.gt (ints s.tas ++ padt) 3, .blk A.gl (boolsV (s.liv.set v false) ++ padl) 4] → Fr A.T w w1 ∧ DIn A ⟨s.par, s.own, s.sta, s.loc, s.tas, s.liv.set v false⟩ w1) := hid (fun w1 H => Hin.out.clt (H.sub (by repeat first | exact List.Sublist.refl _ | exact List.nil_sublist _ | apply List.Sublist.cons_cons | apply List.Sublist.cons)) rfl)
        clear hxm hxr
        go_enter Try.func40, Try.ntmps40
        go_wp2_with (first | ((first | (refine is_load rfl ?_; refine wl_ev rfl (by first | exact c_ld H rfl rfl | exact c_ld0 H rfl rfl | exact c_ldz H rfl rfl | exact c_ldr H rfl rfl) ?_) | (refine is_cmp rfl rfl ?_; first | (refine wl_ev rfl (by first | exact ev_cmpT rfl rfl rfl rfl | exact ev_cmpF rfl rfl rfl rfl) ?_) | (refine wl_cmp rfl rfl rfl rfl rfl (fun h => ?_) (fun h => ?_) <;> (simp only [cmpP] at h))) | (refine is_indexAddr rfl ?_; refine wl_ev rfl (c_ix rfl rfl rfl) ?_)) <;> (simp only [nrm, ↓reduceIte, Nat.reduceAdd])) | ((first | (refine is_store rfl ?_; first | (refine wl_rw rfl (fun K hK => c_st H rfl rfl rfl (h := (fun w1 hf H1 => hK _ _ ?_)))) | (refine wl_rw rfl (fun K hK => c_stc H rfl rfl (h := (fun w1 hf H1 => hK _ _ ?_)))))); (clear hK K); (clear H; have H := H1; clear H1; (try dsimp only at H); (try clear hf)); (simp only [nrm, ↓reduceIte, Nat.reduceAdd])))
        go_loopw [5, 6] (fun s5 s6 wr => ∃ i : Nat, i ≤ s.tas.length ∧ s6 = .int .i64 i ∧ s5 = .int .i64 (cntF s.liv i) ∧ Hp [A.gt, A.gl] w wr [.rng A.b 0 [.slice (some ⟨A.gp, 0, none⟩) s.par.length A.cp, .slice (some ⟨A.go, 0, none⟩) s.par.length A.co, .slice p s.par.length c, .slice (some ⟨A.gd, 0, none⟩) s.par.length A.cd, .slice (some ⟨A.gf, 0, none⟩) s.par.length A.cf, .slice (some ⟨A.gt, 0, none⟩) s.tas.length A.ct, .slice (some ⟨A.gl, 0, none⟩) s.tas.length A.cl], .blk A.gt (ints s.tas ++ padt) 3, .blk A.gl (boolsV s.liv ++ padl) 4]) (fun _ v _ => s.tas.length - (intOf v).toNat)
        case atStart => exact ⟨0, Nat.zero_le _, rfl, rfl, H⟩
        case round =>
          clear H
          obtain ⟨i, hi, rfl, rfl, H⟩ := hrel
          have hle := cntF_le s.liv i
          by_cases hin : i < s.tas.length
          · obtain ⟨y, hy⟩ : ∃ y, s.liv[i]? = some y := ⟨_, List.getElem?_eq_getElem (by have := Hlv.out; omega)⟩
            have hyv := pre_at (pad := padl) (boolsV_at hy)
            cases y
            · have Hf := hid (cntF_no hy)
              clear hy
              generalize cntF s.liv i = C at *
              go_wp2_with (first | ((first | (refine is_load rfl ?_; refine wl_ev rfl (by first | exact c_ld H rfl rfl | exact c_ld0 H rfl rfl | exact c_ldz H rfl rfl | exact c_ldr H rfl rfl) ?_) | (refine is_cmp rfl rfl ?_; first | (refine wl_ev rfl (by first | exact ev_cmpT rfl rfl rfl rfl | exact ev_cmpF rfl rfl rfl rfl) ?_) | (refine wl_cmp rfl rfl rfl rfl rfl (fun h => ?_) (fun h => ?_) <;> (simp only [cmpP] at h))) | (refine is_indexAddr rfl ?_; refine wl_ev rfl (c_ix rfl rfl rfl) ?_)) <;> (simp only [nrm, ↓reduceIte, Nat.reduceAdd])) | ((first | (refine is_store rfl ?_; first | (refine wl_rw rfl (fun K hK => c_st H rfl rfl rfl (h := (fun w1 hf H1 => hK _ _ ?_)))) | (refine wl_rw rfl (fun K hK => c_stc H rfl rfl (h := (fun w1 hf H1 => hK _ _ ?_)))))); (clear hK K); (clear H; have H := H1; clear H1; (try dsimp only at H); (try clear hf)); (simp only [nrm, ↓reduceIte, Nat.reduceAdd])))
              go_roundw
              case rel => exact ⟨i + 1, by omega, by go_num, by rw [Hf.out], H⟩
              case measure => simp [intOf]; omega
            · have Hf := hid (cntF_yes hy)
              clear hy
              generalize cntF s.liv i = C at *
              go_wp2_with (first | ((first | (refine is_load rfl ?_; refine wl_ev rfl (by first | exact c_ld H rfl rfl | exact c_ld0 H rfl rfl | exact c_ldz H rfl rfl | exact c_ldr H rfl rfl) ?_) | (refine is_cmp rfl rfl ?_; first | (refine wl_ev rfl (by first | exact ev_cmpT rfl rfl rfl rfl | exact ev_cmpF rfl rfl rfl rfl) ?_) | (refine wl_cmp rfl rfl rfl rfl rfl (fun h => ?_) (fun h => ?_) <;> (simp only [cmpP] at h))) | (refine is_indexAddr rfl ?_; refine wl_ev rfl (c_ix rfl rfl rfl) ?_)) <;> (simp only [nrm, ↓reduceIte, Nat.reduceAdd])) | ((first | (refine is_store rfl ?_; first | (refine wl_rw rfl (fun K hK => c_st H rfl rfl rfl (h := (fun w1 hf H1 => hK _ _ ?_)))) | (refine wl_rw rfl (fun K hK => c_stc H rfl rfl (h := (fun w1 hf H1 => hK _ _ ?_)))))); (clear hK K); (clear H; have H := H1; clear H1; (try dsimp only at H); (try clear hf)); (simp only [nrm, ↓reduceIte, Nat.reduceAdd])))
              go_roundw
              case rel => exact ⟨i + 1, by omega, by go_num, by rw [Hf.out]; go_num, H⟩
              case measure => simp [intOf]; omega
          · have HC : Hid (cntF s.liv i = cntF s.liv s.liv.length) := hid (by rw [show i = s.liv.length by have := Hlv.out; omega])
            generalize cntF s.liv i = C at *
            go_wp2_with (first | ((first | (refine is_load rfl ?_; refine wl_ev rfl (by first | exact c_ld H rfl rfl | exact c_ld0 H rfl rfl | exact c_ldz H rfl rfl | exact c_ldr H rfl rfl) ?_) | (refine is_cmp rfl rfl ?_; first | (refine wl_ev rfl (by first | exact ev_cmpT rfl rfl rfl rfl | exact ev_cmpF rfl rfl rfl rfl) ?_) | (refine wl_cmp rfl rfl rfl rfl rfl (fun h => ?_) (fun h => ?_) <;> (simp only [cmpP] at h))) | (refine is_indexAddr rfl ?_; refine wl_ev rfl (c_ix rfl rfl rfl) ?_)) <;> (simp only [nrm, ↓reduceIte, Nat.reduceAdd])) | ((first | (refine is_store rfl ?_; first | (refine wl_rw rfl (fun K hK => c_st H rfl rfl rfl (h := (fun w1 hf H1 => hK _ _ ?_)))) | (refine wl_rw rfl (fun K hK => c_stc H rfl rfl (h := (fun w1 hf H1 => hK _ _ ?_)))))); (clear hK K); (clear H; have H := H1; clear H1; (try dsimp only at H); (try clear hf)); (simp only [nrm, ↓reduceIte, Nat.reduceAdd])))
            (refine Calls.mono (is33_any (Hcl.out _ H).2 HJ.out.wf v) ?_; rintro e w1 ⟨rfl, hF⟩; have H1 := H.step hF (by simp); clear H; have H := H1; clear H1)
            rw [Hw.out]
            have hC : 2 ≤ C := by have := HC.out; have := h2.out; omega
            have hC2 : (C : Int) ≤ 9 := by omega
            go_wp2_with (first | ((first | (refine is_load rfl ?_; refine wl_ev rfl (by first | exact c_ld H rfl rfl | exact c_ld0 H rfl rfl | exact c_ldz H rfl rfl | exact c_ldr H rfl rfl) ?_) | (refine is_cmp rfl rfl ?_; first | (refine wl_ev rfl (by first | exact ev_cmpT rfl rfl rfl rfl | exact ev_cmpF rfl rfl rfl rfl) ?_) | (refine wl_cmp rfl rfl rfl rfl rfl (fun h => ?_) (fun h => ?_) <;> (simp only [cmpP] at h))) | (refine is_indexAddr rfl ?_; refine wl_ev rfl (c_ix rfl rfl rfl) ?_)) <;> (simp only [nrm, ↓reduceIte, Nat.reduceAdd])) | ((first | (refine is_store rfl ?_; first | (refine wl_rw rfl (fun K hK => c_st H rfl rfl rfl (h := (fun w1 hf H1 => hK _ _ ?_)))) | (refine wl_rw rfl (fun K hK => c_stc H rfl rfl (h := (fun w1 hf H1 => hK _ _ ?_)))))); (clear hK K); (clear H; have H := H1; clear H1; (try dsimp only at H); (try clear hf)); (simp only [nrm, ↓reduceIte, Nat.reduceAdd])))
            rw [boolsP_set _ _ _ _ hvl2] at H
            (refine Calls.mono (next33_any (Hcl1.out _ H).2 Hwf1.out Hlive.out v hvl) ?_; rintro e w1 ⟨rfl, hF⟩; have H1 := H.step hF (by simp); clear H; have H := H1; clear H1)
            rw [Hto.out]
            go_wp2_with (first | ((first | (refine is_load rfl ?_; refine wl_ev rfl (by first | exact c_ld H rfl rfl | exact c_ld0 H rfl rfl | exact c_ldz H rfl rfl | exact c_ldr H rfl rfl) ?_) | (refine is_cmp rfl rfl ?_; first | (refine wl_ev rfl (by first | exact ev_cmpT rfl rfl rfl rfl | exact ev_cmpF rfl rfl rfl rfl) ?_) | (refine wl_cmp rfl rfl rfl rfl rfl (fun h => ?_) (fun h => ?_) <;> (simp only [cmpP] at h))) | (refine is_indexAddr rfl ?_; refine wl_ev rfl (c_ix rfl rfl rfl) ?_)) <;> (simp only [nrm, ↓reduceIte, Nat.reduceAdd])) | ((first | (refine is_store rfl ?_; first | (refine wl_rw rfl (fun K hK => c_st H rfl rfl rfl (h := (fun w1 hf H1 => hK _ _ ?_)))) | (refine wl_rw rfl (fun K hK => c_stc H rfl rfl (h := (fun w1 hf H1 => hK _ _ ?_)))))); (clear hK K); (clear H; have H := H1; clear H1; (try dsimp only at H); (try clear hf)); (simp only [nrm, ↓reduceIte, Nat.reduceAdd])))
            go_loopw [8] (fun s8 wr => s8 = .int .i64 0 ∧ Hp [A.gt, A.gl] w wr [.rng A.b 0 [.slice (some ⟨A.gp, 0, none⟩) s.par.length A.cp, .slice (some ⟨A.go, 0, none⟩) s.par.length A.co, .slice p s.par.length c, .slice (some ⟨A.gd, 0, none⟩) s.par.length A.cd, .slice (some ⟨A.gf, 0, none⟩) s.par.length A.cf, .slice (some ⟨A.gt, 0, none⟩) s.tas.length A.ct, .slice (some ⟨A.gl, 0, none⟩) s.tas.length A.cl], .blk A.gt (ints s.tas ++ padt) 3, .blk A.gl (boolsV (s.liv.set v false) ++ padl) 4]) (fun _ _ => 0)
            case atStart => exact ⟨rfl, H⟩
            case round =>
              clear H
              obtain ⟨rfl, H⟩ := hrel
              go_wp2_with (first | ((first | (refine is_load rfl ?_; refine wl_ev rfl (by first | exact c_ld H rfl rfl | exact c_ld0 H rfl rfl | exact c_ldz H rfl rfl | exact c_ldr H rfl rfl) ?_) | (refine is_cmp rfl rfl ?_; first | (refine wl_ev rfl (by first | exact ev_cmpT rfl rfl rfl rfl | exact ev_cmpF rfl rfl rfl rfl) ?_) | (refine wl_cmp rfl rfl rfl rfl rfl (fun h => ?_) (fun h => ?_) <;> (simp only [cmpP] at h))) | (refine is_indexAddr rfl ?_; refine wl_ev rfl (c_ix rfl rfl rfl) ?_)) <;> (simp only [nrm, ↓reduceIte, Nat.reduceAdd])) | ((first | (refine is_store rfl ?_; first | (refine wl_rw rfl (fun K hK => c_st H rfl rfl rfl (h := (fun w1 hf H1 => hK _ _ ?_)))) | (refine wl_rw rfl (fun K hK => c_stc H rfl rfl (h := (fun w1 hf H1 => hK _ _ ?_)))))); (clear hK K); (clear H; have H := H1; clear H1; (try dsimp only at H); (try clear hf)); (simp only [nrm, ↓reduceIte, Nat.reduceAdd])))
              rw [intsP_set _ _ _ _ hvl] at H
              go_ret
              rw [E1.out]
              refine ⟨rfl, H.fr.mono (fun x hx => .inl (by simp only [List.mem_cons, List.not_mem_nil, or_false] at hx; rcases hx with rfl | rfl <;> simp [DA.T])), ?_⟩
              have hd := (Hin.out.clt (tas := s.tas.set v (-1)) (liv := s.liv.set v false) (padt := padt) (padl := padl) (H.sub (by repeat first | exact List.Sublist.refl _ | exact List.nil_sublist _ | apply List.Sublist.cons_cons | apply List.Sublist.cons)) (List.length_set ..)).2
              have ea := E2.out
              have hl0 : s.sta = [] := List.eq_nil_of_length_eq_zero (by rw [HJ.out.wf.sta]; exact Hn0.out)
              exact ⟨hd.nd, hd.hb, hd.hp, hd.ho, by obtain ⟨q, hq⟩ := hd.hd; exact ⟨q, by rw [E3.out]; exact hq⟩, by obtain ⟨q, hq⟩ := hd.hf; exact ⟨q, by rw [E4.out]; exact hq⟩, hd.ht, hd.hl, by
                have h0 := hd.ha
                have hz : ∀ t : PS, t.par = s.par → atW t = [] := fun t ht => by unfold atW; rw [ht, Hn0.out]; rfl
                rw [hz ⟨s.par, s.own, s.sta, s.loc, s.tas.set v (-1), s.liv.set v false⟩ rfl] at h0
                rw [hz ⟨s.par, s.own, sta, loc, s.tas.set v (-1), s.liv.set v false⟩ rfl]
                exact h0⟩

      · have hnp : 0 < s.par.length := by omega
        clear H
        obtain ⟨ga, ca, pada, ea1, ea2, hg, hrow⟩ := Hin.out.row hnp
        obtain ⟨padd, padf, padt, padl, H⟩ := Hin.out.wro (ca := ca) ea1 hg
        rw [ea2] at H
        have Hrow := hid hrow
        have hxv := pre_at (pad := padt) (ints_at Hx.out)
        have Hclm : Hid (∀ w1, Hp A.T w w1 [.rng A.b 0 [.slice (some ⟨A.gp, 0, none⟩) s.par.length A.cp, .slice (some ⟨A.go, 0, none⟩) s.par.length A.co, .slice (some ⟨ga, 0, none⟩) s.par.length ca, .slice (some ⟨A.gd, 0, none⟩) s.par.length A.cd, .slice (some ⟨A.gf, 0, none⟩) s.par.length A.cf, .slice (some ⟨A.gt, 0, none⟩) s.tas.length A.ct, .slice (some ⟨A.gl, 0, none⟩) s.tas.length A.cl], .rng A.gp 0 (ints s.par), .rng A.go 0 (ints s.own), .blk ga (ints (atW s) ++ pada) 3, .blk A.gd (boolsV (doneW s) ++ padd) 4, .blk A.gf (boolsV (failW s) ++ padf) 4, .blk A.gt (ints s.tas ++ padt) 3, .blk A.gl (boolsV s.liv ++ padl) 4] → DIn A s w1) := hid (fun w1 H => Hin.out.cls (H.sub (by repeat first | exact List.Sublist.refl _ | exact List.nil_sublist _ | apply List.Sublist.cons_cons | apply List.Sublist.cons)) rfl rfl rfl (Hrow.out w1 _ (atW_len s) (H.at ga)))
        have Hclm1 : Hid (∀ w1, Hp A.T w w1 [.rng A.b 0 [.slice (some ⟨A.gp, 0, none⟩) s.par.length A.cp, .slice (some ⟨A.go, 0, none⟩) s.par.length A.co, .slice (some ⟨ga, 0, none⟩) s.par.length ca, .slice (some ⟨A.gd, 0, none⟩) s.par.length A.cd, .slice (some ⟨A.gf, 0, none⟩) s.par.length A.cf, .slice (some ⟨A.gt, 0, none⟩) s.tas.length A.ct, .slice (some ⟨A.gl, 0, none⟩) s.tas.length A.cl], .rng A.gp 0 (ints s.par), .rng A.go 0 (ints s.own), .blk ga (ints (atW s) ++ pada) 3, .blk A.gd (boolsV (doneW s) ++ padd) 4, .blk A.gf (boolsV (failW s) ++ padf) 4, .blk A.gt (ints s.tas ++ padt) 3, .blk A.gl (boolsV (s.liv.set v false) ++ padl) 4] → DIn A ⟨s.par, s.own, s.sta, s.loc, s.tas, s.liv.set v false⟩ w1) := hid (fun w1 H => Hin.out.cls (s' := ⟨s.par, s.own, s.sta, s.loc, s.tas, s.liv.set v false⟩) (padd := padd) (padf := padf) (padt := padt) (padl := padl) (H.sub (by repeat first | exact List.Sublist.refl _ | exact List.nil_sublist _ | apply List.Sublist.cons_cons | apply List.Sublist.cons)) rfl rfl rfl (Hrow.out w1 _ (atW_len s) (H.at ga)))
        clear hg hrow ea1 ea2 hn0
        go_enter Try.func40, Try.ntmps40
        go_wp2_with (first | ((first | (refine is_load rfl ?_; refine wl_ev rfl (by first | exact c_ld H rfl rfl | exact c_ld0 H rfl rfl | exact c_ldz H rfl rfl | exact c_ldr H rfl rfl) ?_) | (refine is_cmp rfl rfl ?_; first | (refine wl_ev rfl (by first | exact ev_cmpT rfl rfl rfl rfl | exact ev_cmpF rfl rfl rfl rfl) ?_) | (refine wl_cmp rfl rfl rfl rfl rfl (fun h => ?_) (fun h => ?_) <;> (simp only [cmpP] at h))) | (refine is_indexAddr rfl ?_; refine wl_ev rfl (c_ix rfl rfl rfl) ?_)) <;> (simp only [nrm, ↓reduceIte, Nat.reduceAdd])) | ((first | (refine is_store rfl ?_; first | (refine wl_rw rfl (fun K hK => c_st H rfl rfl rfl (h := (fun w1 hf H1 => hK _ _ ?_)))) | (refine wl_rw rfl (fun K hK => c_stc H rfl rfl (h := (fun w1 hf H1 => hK _ _ ?_)))))); (clear hK K); (clear H; have H := H1; clear H1; (try dsimp only at H); (try clear hf)); (simp only [nrm, ↓reduceIte, Nat.reduceAdd])))
        go_loopw [5, 6] (fun s5 s6 wr => ∃ i : Nat, i ≤ s.tas.length ∧ s6 = .int .i64 i ∧ s5 = .int .i64 (cntF s.liv i) ∧ Hp A.T w wr [.rng A.b 0 [.slice (some ⟨A.gp, 0, none⟩) s.par.length A.cp, .slice (some ⟨A.go, 0, none⟩) s.par.length A.co, .slice (some ⟨ga, 0, none⟩) s.par.length ca, .slice (some ⟨A.gd, 0, none⟩) s.par.length A.cd, .slice (some ⟨A.gf, 0, none⟩) s.par.length A.cf, .slice (some ⟨A.gt, 0, none⟩) s.tas.length A.ct, .slice (some ⟨A.gl, 0, none⟩) s.tas.length A.cl], .rng A.gp 0 (ints s.par), .rng A.go 0 (ints s.own), .blk ga (ints (atW s) ++ pada) 3, .blk A.gd (boolsV (doneW s) ++ padd) 4, .blk A.gf (boolsV (failW s) ++ padf) 4, .blk A.gt (ints s.tas ++ padt) 3, .blk A.gl (boolsV s.liv ++ padl) 4]) (fun _ v _ => s.tas.length - (intOf v).toNat)
        case atStart => exact ⟨0, Nat.zero_le _, rfl, rfl, H⟩
        case round =>
          clear H
          obtain ⟨i, hi, rfl, rfl, H⟩ := hrel
          have hle := cntF_le s.liv i
          by_cases hin : i < s.tas.length
          · obtain ⟨y, hy⟩ : ∃ y, s.liv[i]? = some y := ⟨_, List.getElem?_eq_getElem (by have := Hlv.out; omega)⟩
            have hyv := pre_at (pad := padl) (boolsV_at hy)
            cases y
            · have Hf := hid (cntF_no hy)
              clear hy
              generalize cntF s.liv i = C at *
              go_wp2_with (first | ((first | (refine is_load rfl ?_; refine wl_ev rfl (by first | exact c_ld H rfl rfl | exact c_ld0 H rfl rfl | exact c_ldz H rfl rfl | exact c_ldr H rfl rfl) ?_) | (refine is_cmp rfl rfl ?_; first | (refine wl_ev rfl (by first | exact ev_cmpT rfl rfl rfl rfl | exact ev_cmpF rfl rfl rfl rfl) ?_) | (refine wl_cmp rfl rfl rfl rfl rfl (fun h => ?_) (fun h => ?_) <;> (simp only [cmpP] at h))) | (refine is_indexAddr rfl ?_; refine wl_ev rfl (c_ix rfl rfl rfl) ?_)) <;> (simp only [nrm, ↓reduceIte, Nat.reduceAdd])) | ((first | (refine is_store rfl ?_; first | (refine wl_rw rfl (fun K hK => c_st H rfl rfl rfl (h := (fun w1 hf H1 => hK _ _ ?_)))) | (refine wl_rw rfl (fun K hK => c_stc H rfl rfl (h := (fun w1 hf H1 => hK _ _ ?_)))))); (clear hK K); (clear H; have H := H1; clear H1; (try dsimp only at H); (try clear hf)); (simp only [nrm, ↓reduceIte, Nat.reduceAdd])))
              go_roundw
              case rel => exact ⟨i + 1, by omega, by go_num, by rw [Hf.out], H⟩
              case measure => simp [intOf]; omega
            · have Hf := hid (cntF_yes hy)
              clear hy
              generalize cntF s.liv i = C at *
              go_wp2_with (first | ((first | (refine is_load rfl ?_; refine wl_ev rfl (by first | exact c_ld H rfl rfl | exact c_ld0 H rfl rfl | exact c_ldz H rfl rfl | exact c_ldr H rfl rfl) ?_) | (refine is_cmp rfl rfl ?_; first | (refine wl_ev rfl (by first | exact ev_cmpT rfl rfl rfl rfl | exact ev_cmpF rfl rfl rfl rfl) ?_) | (refine wl_cmp rfl rfl rfl rfl rfl (fun h => ?_) (fun h => ?_) <;> (simp only [cmpP] at h))) | (refine is_indexAddr rfl ?_; refine wl_ev rfl (c_ix rfl rfl rfl) ?_)) <;> (simp only [nrm, ↓reduceIte, Nat.reduceAdd])) | ((first | (refine is_store rfl ?_; first | (refine wl_rw rfl (fun K hK => c_st H rfl rfl rfl (h := (fun w1 hf H1 => hK _ _ ?_)))) | (refine wl_rw rfl (fun K hK => c_stc H rfl rfl (h := (fun w1 hf H1 => hK _ _ ?_)))))); (clear hK K); (clear H; have H := H1; clear H1; (try dsimp only at H); (try clear hf)); (simp only [nrm, ↓reduceIte, Nat.reduceAdd])))
              go_roundw
              case rel => exact ⟨i + 1, by omega, by go_num, by rw [Hf.out]; go_num, H⟩
              case measure => simp [intOf]; omega
          · have HC : Hid (cntF s.liv i = cntF s.liv s.liv.length) := hid (by rw [show i = s.liv.length by have := Hlv.out; omega])
            generalize cntF s.liv i = C at *
            go_wp2_with (first | ((first | (refine is_load rfl ?_; refine wl_ev rfl (by first | exact c_ld H rfl rfl | exact c_ld0 H rfl rfl | exact c_ldz H rfl rfl | exact c_ldr H rfl rfl) ?_) | (refine is_cmp rfl rfl ?_; first | (refine wl_ev rfl (by first | exact ev_cmpT rfl rfl rfl rfl | exact ev_cmpF rfl rfl rfl rfl) ?_) | (refine wl_cmp rfl rfl rfl rfl rfl (fun h => ?_) (fun h => ?_) <;> (simp only [cmpP] at h))) | (refine is_indexAddr rfl ?_; refine wl_ev rfl (c_ix rfl rfl rfl) ?_)) <;> (simp only [nrm, ↓reduceIte, Nat.reduceAdd])) | ((first | (refine is_store rfl ?_; first | (refine wl_rw rfl (fun K hK => c_st H rfl rfl rfl (h := (fun w1 hf H1 => hK _ _ ?_)))) | (refine wl_rw rfl (fun K hK => c_stc H rfl rfl (h := (fun w1 hf H1 => hK _ _ ?_)))))); (clear hK K); (clear H; have H := H1; clear H1; (try dsimp only at H); (try clear hf)); (simp only [nrm, ↓reduceIte, Nat.reduceAdd])))
            (refine Calls.mono (is33_any (Hclm.out _ H) HJ.out.wf v) ?_; rintro e w1 ⟨rfl, hF⟩; have H1 := H.step hF (by simp); clear H; have H := H1; clear H1)
            rw [Hw.out]
            have hC : 2 ≤ C := by have := HC.out; have := h2.out; omega
            have hC2 : (C : Int) ≤ 9 := by omega
            go_wp2_with (first | ((first | (refine is_load rfl ?_; refine wl_ev rfl (by first | exact c_ld H rfl rfl | exact c_ld0 H rfl rfl | exact c_ldz H rfl rfl | exact c_ldr H rfl rfl) ?_) | (refine is_cmp rfl rfl ?_; first | (refine wl_ev rfl (by first | exact ev_cmpT rfl rfl rfl rfl | exact ev_cmpF rfl rfl rfl rfl) ?_) | (refine wl_cmp rfl rfl rfl rfl rfl (fun h => ?_) (fun h => ?_) <;> (simp only [cmpP] at h))) | (refine is_indexAddr rfl ?_; refine wl_ev rfl (c_ix rfl rfl rfl) ?_)) <;> (simp only [nrm, ↓reduceIte, Nat.reduceAdd])) | ((first | (refine is_store rfl ?_; first | (refine wl_rw rfl (fun K hK => c_st H rfl rfl rfl (h := (fun w1 hf H1 => hK _ _ ?_)))) | (refine wl_rw rfl (fun K hK => c_stc H rfl rfl (h := (fun w1 hf H1 => hK _ _ ?_)))))); (clear hK K); (clear H; have H := H1; clear H1; (try dsimp only at H); (try clear hf)); (simp only [nrm, ↓reduceIte, Nat.reduceAdd])))
            rw [boolsP_set _ _ _ _ hvl2] at H
            (refine Calls.mono (next33_any (Hclm1.out _ H) Hwf1.out Hlive.out v hvl) ?_; rintro e w1 ⟨rfl, hF⟩; have H1 := H.step hF (by simp); clear H; have H := H1; clear H1)
            rw [Hto.out]
            go_wp2_with (first | ((first | (refine is_load rfl ?_; refine wl_ev rfl (by first | exact c_ld H rfl rfl | exact c_ld0 H rfl rfl | exact c_ldz H rfl rfl | exact c_ldr H rfl rfl) ?_) | (refine is_cmp rfl rfl ?_; first | (refine wl_ev rfl (by first | exact ev_cmpT rfl rfl rfl rfl | exact ev_cmpF rfl rfl rfl rfl) ?_) | (refine wl_cmp rfl rfl rfl rfl rfl (fun h => ?_) (fun h => ?_) <;> (simp only [cmpP] at h))) | (refine is_indexAddr rfl ?_; refine wl_ev rfl (c_ix rfl rfl rfl) ?_)) <;> (simp only [nrm, ↓reduceIte, Nat.reduceAdd])) | ((first | (refine is_store rfl ?_; first | (refine wl_rw rfl (fun K hK => c_st H rfl rfl rfl (h := (fun w1 hf H1 => hK _ _ ?_)))) | (refine wl_rw rfl (fun K hK => c_stc H rfl rfl (h := (fun w1 hf H1 => hK _ _ ?_)))))); (clear hK K); (clear H; have H := H1; clear H1; (try dsimp only at H); (try clear hf)); (simp only [nrm, ↓reduceIte, Nat.reduceAdd])))
            go_loopw [8] (fun s8 wr => ∃ i : Nat, i ≤ s.par.length ∧ s8 = .int .i64 i ∧ Hp A.T w wr [.rng A.b 0 [.slice (some ⟨A.gp, 0, none⟩) s.par.length A.cp, .slice (some ⟨A.go, 0, none⟩) s.par.length A.co, .slice (some ⟨ga, 0, none⟩) s.par.length ca, .slice (some ⟨A.gd, 0, none⟩) s.par.length A.cd, .slice (some ⟨A.gf, 0, none⟩) s.par.length A.cf, .slice (some ⟨A.gt, 0, none⟩) s.tas.length A.ct, .slice (some ⟨A.gl, 0, none⟩) s.tas.length A.cl], .rng A.gp 0 (ints s.par), .rng A.go 0 (ints s.own), .blk ga (ints (atL s v x tw i) ++ pada) 3, .blk A.gd (boolsV (doneW s) ++ padd) 4, .blk A.gf (boolsV (failW s) ++ padf) 4, .blk A.gt (ints s.tas ++ padt) 3, .blk A.gl (boolsV (s.liv.set v false) ++ padl) 4]) (fun v _ => s.par.length - (intOf v).toNat)
            case atStart => exact ⟨0, Nat.zero_le _, rfl, by rw [atL_zero]; exact H⟩
            case round =>
              clear H
              obtain ⟨i, hi, rfl, H⟩ := hrel
              by_cases hin : i < s.par.length
              · have hav := pre_at (pad := pada) (ints_at (atL_at (s := s) (v := v) (x := x) (tw := tw) hin))
                have hal : i < (atL s v x tw i).length := by rw [atL_len]; exact hin
                have Hy := hid (atL_yes (s := s) (v := v) (x := x) (tw := tw) hin)
                have Hno := hid (atL_no (s := s) (v := v) (x := x) (tw := tw) (i := i))
                generalize hag : atX s i = y at hav
                have Hag := hid hag
                clear hag
                by_cases hyv : y = (v : Int)
                · subst hyv
                  go_wp2_with (first | ((first | (refine is_load rfl ?_; refine wl_ev rfl (by first | exact c_ld H rfl rfl | exact c_ld0 H rfl rfl | exact c_ldz H rfl rfl | exact c_ldr H rfl rfl) ?_) | (refine is_cmp rfl rfl ?_; first | (refine wl_ev rfl (by first | exact ev_cmpT rfl rfl rfl rfl | exact ev_cmpF rfl rfl rfl rfl) ?_) | (refine wl_cmp rfl rfl rfl rfl rfl (fun h => ?_) (fun h => ?_) <;> (simp only [cmpP] at h))) | (refine is_indexAddr rfl ?_; refine wl_ev rfl (c_ix rfl rfl rfl) ?_)) <;> (simp only [nrm, ↓reduceIte, Nat.reduceAdd])) | ((first | (refine is_store rfl ?_; first | (refine wl_rw rfl (fun K hK => c_st H rfl rfl rfl (h := (fun w1 hf H1 => hK _ _ ?_)))) | (refine wl_rw rfl (fun K hK => c_stc H rfl rfl (h := (fun w1 hf H1 => hK _ _ ?_)))))); (clear hK K); (clear H; have H := H1; clear H1; (try dsimp only at H); (try clear hf)); (simp only [nrm, ↓reduceIte, Nat.reduceAdd])))
                  rw [intsP_set _ _ _ _ hal, Hy.out (.inl Hag.out)] at H
                  go_roundw
                  case rel => exact ⟨i + 1, by omega, by go_num, H⟩
                  case measure => simp [intOf]; omega
                · by_cases hxi : x = (i : Int)
                  · subst hxi
                    go_wp2_with (first | ((first | (refine is_load rfl ?_; refine wl_ev rfl (by first | exact c_ld H rfl rfl | exact c_ld0 H rfl rfl | exact c_ldz H rfl rfl | exact c_ldr H rfl rfl) ?_) | (refine is_cmp rfl rfl ?_; first | (refine wl_ev rfl (by first | exact ev_cmpT rfl rfl rfl rfl | exact ev_cmpF rfl rfl rfl rfl) ?_) | (refine wl_cmp rfl rfl rfl rfl rfl (fun h => ?_) (fun h => ?_) <;> (simp only [cmpP] at h))) | (refine is_indexAddr rfl ?_; refine wl_ev rfl (c_ix rfl rfl rfl) ?_)) <;> (simp only [nrm, ↓reduceIte, Nat.reduceAdd])) | ((first | (refine is_store rfl ?_; first | (refine wl_rw rfl (fun K hK => c_st H rfl rfl rfl (h := (fun w1 hf H1 => hK _ _ ?_)))) | (refine wl_rw rfl (fun K hK => c_stc H rfl rfl (h := (fun w1 hf H1 => hK _ _ ?_)))))); (clear hK K); (clear H; have H := H1; clear H1; (try dsimp only at H); (try clear hf)); (simp only [nrm, ↓reduceIte, Nat.reduceAdd])))
                    rw [intsP_set _ _ _ _ hal, Hy.out (.inr rfl)] at H
                    go_roundw
                    case rel => exact ⟨i + 1, by omega, by go_num, H⟩
                    case measure => simp [intOf]; omega
                  · have HN := hid (Hno.out (fun hh => hh.elim (fun h => hyv (by rw [← Hag.out]; exact h)) hxi))
                    go_wp2_with (first | ((first | (refine is_load rfl ?_; refine wl_ev rfl (by first | exact c_ld H rfl rfl | exact c_ld0 H rfl rfl | exact c_ldz H rfl rfl | exact c_ldr H rfl rfl) ?_) | (refine is_cmp rfl rfl ?_; first | (refine wl_ev rfl (by first | exact ev_cmpT rfl rfl rfl rfl | exact ev_cmpF rfl rfl rfl rfl) ?_) | (refine wl_cmp rfl rfl rfl rfl rfl (fun h => ?_) (fun h => ?_) <;> (simp only [cmpP] at h))) | (refine is_indexAddr rfl ?_; refine wl_ev rfl (c_ix rfl rfl rfl) ?_)) <;> (simp only [nrm, ↓reduceIte, Nat.reduceAdd])) | ((first | (refine is_store rfl ?_; first | (refine wl_rw rfl (fun K hK => c_st H rfl rfl rfl (h := (fun w1 hf H1 => hK _ _ ?_)))) | (refine wl_rw rfl (fun K hK => c_stc H rfl rfl (h := (fun w1 hf H1 => hK _ _ ?_)))))); (clear hK K); (clear H; have H := H1; clear H1; (try dsimp only at H); (try clear hf)); (simp only [nrm, ↓reduceIte, Nat.reduceAdd])))
                    go_roundw
                    case rel => exact ⟨i + 1, by omega, by go_num, by rw [HN.out]; exact H⟩
                    case measure => simp [intOf]; omega
              · have e : i = s.par.length := by omega
                have Hi := hid e
                clear e
                go_wp2_with (first | ((first | (refine is_load rfl ?_; refine wl_ev rfl (by first | exact c_ld H rfl rfl | exact c_ld0 H rfl rfl | exact c_ldz H rfl rfl | exact c_ldr H rfl rfl) ?_) | (refine is_cmp rfl rfl ?_; first | (refine wl_ev rfl (by first | exact ev_cmpT rfl rfl rfl rfl | exact ev_cmpF rfl rfl rfl rfl) ?_) | (refine wl_cmp rfl rfl rfl rfl rfl (fun h => ?_) (fun h => ?_) <;> (simp only [cmpP] at h))) | (refine is_indexAddr rfl ?_; refine wl_ev rfl (c_ix rfl rfl rfl) ?_)) <;> (simp only [nrm, ↓reduceIte, Nat.reduceAdd])) | ((first | (refine is_store rfl ?_; first | (refine wl_rw rfl (fun K hK => c_st H rfl rfl rfl (h := (fun w1 hf H1 => hK _ _ ?_)))) | (refine wl_rw rfl (fun K hK => c_stc H rfl rfl (h := (fun w1 hf H1 => hK _ _ ?_)))))); (clear hK K); (clear H; have H := H1; clear H1; (try dsimp only at H); (try clear hf)); (simp only [nrm, ↓reduceIte, Nat.reduceAdd])))
                rw [intsP_set _ _ _ _ hvl, Hi.out] at H
                go_ret
                rw [E1.out]
                refine ⟨rfl, H.fr, ?_⟩
                refine Hin.out.cls (s' := ⟨s.par, s.own, sta, loc, s.tas.set v (-1), s.liv.set v false⟩) (padd := padd) (padf := padf) (padt := padt) (padl := padl) ?_ rfl rfl (List.length_set ..) ?_
                · rw [E3.out, E4.out]
                  exact H.sub (by repeat first | exact List.Sublist.refl _ | exact List.nil_sublist _ | apply List.Sublist.cons_cons | apply List.Sublist.cons)
                · rw [E2.out]
                  exact Hrow.out _ _ (atL_len ..) (H.at ga)

    · have h2 : Hid (¬ 2 ≤ cntF s.liv s.liv.length) := hid (fun h => by rw [(cnt_two Hv.out).1 h] at hc; cases hc)
      have Ht := hid (lose_one Hv.out hc)
      clear hc hxr
      go_enter Try.func40, Try.ntmps40
      go_wp2_with (first | ((first | (refine is_load rfl ?_; refine wl_ev rfl (by first | exact c_ld H rfl rfl | exact c_ld0 H rfl rfl | exact c_ldz H rfl rfl | exact c_ldr H rfl rfl) ?_) | (refine is_cmp rfl rfl ?_; first | (refine wl_ev rfl (by first | exact ev_cmpT rfl rfl rfl rfl | exact ev_cmpF rfl rfl rfl rfl) ?_) | (refine wl_cmp rfl rfl rfl rfl rfl (fun h => ?_) (fun h => ?_) <;> (simp only [cmpP] at h))) | (refine is_indexAddr rfl ?_; refine wl_ev rfl (c_ix rfl rfl rfl) ?_)) <;> (simp only [nrm, ↓reduceIte, Nat.reduceAdd])) | ((first | (refine is_store rfl ?_; first | (refine wl_rw rfl (fun K hK => c_st H rfl rfl rfl (h := (fun w1 hf H1 => hK _ _ ?_)))) | (refine wl_rw rfl (fun K hK => c_stc H rfl rfl (h := (fun w1 hf H1 => hK _ _ ?_)))))); (clear hK K); (clear H; have H := H1; clear H1; (try dsimp only at H); (try clear hf)); (simp only [nrm, ↓reduceIte, Nat.reduceAdd])))
      go_loopw [5, 6] (fun s5 s6 wr => ∃ i : Nat, i ≤ s.tas.length ∧ s6 = .int .i64 i ∧ s5 = .int .i64 (cntF s.liv i) ∧ Hp [A.gt, A.gl] w wr [.rng A.b 0 [.slice (some ⟨A.gp, 0, none⟩) s.par.length A.cp, .slice (some ⟨A.go, 0, none⟩) s.par.length A.co, .slice p s.par.length c, .slice (some ⟨A.gd, 0, none⟩) s.par.length A.cd, .slice (some ⟨A.gf, 0, none⟩) s.par.length A.cf, .slice (some ⟨A.gt, 0, none⟩) s.tas.length A.ct, .slice (some ⟨A.gl, 0, none⟩) s.tas.length A.cl], .blk A.gt (ints s.tas ++ padt) 3, .blk A.gl (boolsV s.liv ++ padl) 4]) (fun _ v _ => s.tas.length - (intOf v).toNat)
      case atStart => exact ⟨0, Nat.zero_le _, rfl, rfl, H⟩
      case round =>
        clear H
        obtain ⟨i, hi, rfl, rfl, H⟩ := hrel
        have hle := cntF_le s.liv i
        by_cases hin : i < s.tas.length
        · obtain ⟨y, hy⟩ : ∃ y, s.liv[i]? = some y := ⟨_, List.getElem?_eq_getElem (by have := Hlv.out; omega)⟩
          have hyv := pre_at (pad := padl) (boolsV_at hy)
          cases y
          · have Hf := hid (cntF_no hy)
            clear hy
            generalize cntF s.liv i = C at *
            go_wp2_with (first | ((first | (refine is_load rfl ?_; refine wl_ev rfl (by first | exact c_ld H rfl rfl | exact c_ld0 H rfl rfl | exact c_ldz H rfl rfl | exact c_ldr H rfl rfl) ?_) | (refine is_cmp rfl rfl ?_; first | (refine wl_ev rfl (by first | exact ev_cmpT rfl rfl rfl rfl | exact ev_cmpF rfl rfl rfl rfl) ?_) | (refine wl_cmp rfl rfl rfl rfl rfl (fun h => ?_) (fun h => ?_) <;> (simp only [cmpP] at h))) | (refine is_indexAddr rfl ?_; refine wl_ev rfl (c_ix rfl rfl rfl) ?_)) <;> (simp only [nrm, ↓reduceIte, Nat.reduceAdd])) | ((first | (refine is_store rfl ?_; first | (refine wl_rw rfl (fun K hK => c_st H rfl rfl rfl (h := (fun w1 hf H1 => hK _ _ ?_)))) | (refine wl_rw rfl (fun K hK => c_stc H rfl rfl (h := (fun w1 hf H1 => hK _ _ ?_)))))); (clear hK K); (clear H; have H := H1; clear H1; (try dsimp only at H); (try clear hf)); (simp only [nrm, ↓reduceIte, Nat.reduceAdd])))
            go_roundw
            case rel => exact ⟨i + 1, by omega, by go_num, by rw [Hf.out], H⟩
            case measure => simp [intOf]; omega
          · have Hf := hid (cntF_yes hy)
            clear hy
            generalize cntF s.liv i = C at *
            go_wp2_with (first | ((first | (refine is_load rfl ?_; refine wl_ev rfl (by first | exact c_ld H rfl rfl | exact c_ld0 H rfl rfl | exact c_ldz H rfl rfl | exact c_ldr H rfl rfl) ?_) | (refine is_cmp rfl rfl ?_; first | (refine wl_ev rfl (by first | exact ev_cmpT rfl rfl rfl rfl | exact ev_cmpF rfl rfl rfl rfl) ?_) | (refine wl_cmp rfl rfl rfl rfl rfl (fun h => ?_) (fun h => ?_) <;> (simp only [cmpP] at h))) | (refine is_indexAddr rfl ?_; refine wl_ev rfl (c_ix rfl rfl rfl) ?_)) <;> (simp only [nrm, ↓reduceIte, Nat.reduceAdd])) | ((first | (refine is_store rfl ?_; first | (refine wl_rw rfl (fun K hK => c_st H rfl rfl rfl (h := (fun w1 hf H1 => hK _ _ ?_)))) | (refine wl_rw rfl (fun K hK => c_stc H rfl rfl (h := (fun w1 hf H1 => hK _ _ ?_)))))); (clear hK K); (clear H; have H := H1; clear H1; (try dsimp only at H); (try clear hf)); (simp only [nrm, ↓reduceIte, Nat.reduceAdd])))
            go_roundw
            case rel => exact ⟨i + 1, by omega, by go_num, by rw [Hf.out]; go_num, H⟩
            case measure => simp [intOf]; omega
        · have HC : Hid (cntF s.liv i = cntF s.liv s.liv.length) := hid (by rw [show i = s.liv.length by have := Hlv.out; omega])
          generalize cntF s.liv i = C at *
          go_wp2_with (first | ((first | (refine is_load rfl ?_; refine wl_ev rfl (by first | exact c_ld H rfl rfl | exact c_ld0 H rfl rfl | exact c_ldz H rfl rfl | exact c_ldr H rfl rfl) ?_) | (refine is_cmp rfl rfl ?_; first | (refine wl_ev rfl (by first | exact ev_cmpT rfl rfl rfl rfl | exact ev_cmpF rfl rfl rfl rfl) ?_) | (refine wl_cmp rfl rfl rfl rfl rfl (fun h => ?_) (fun h => ?_) <;> (simp only [cmpP] at h))) | (refine is_indexAddr rfl ?_; refine wl_ev rfl (c_ix rfl rfl rfl) ?_)) <;> (simp only [nrm, ↓reduceIte, Nat.reduceAdd])) | ((first | (refine is_store rfl ?_; first | (refine wl_rw rfl (fun K hK => c_st H rfl rfl rfl (h := (fun w1 hf H1 => hK _ _ ?_)))) | (refine wl_rw rfl (fun K hK => c_stc H rfl rfl (h := (fun w1 hf H1 => hK _ _ ?_)))))); (clear hK K); (clear H; have H := H1; clear H1; (try dsimp only at H); (try clear hf)); (simp only [nrm, ↓reduceIte, Nat.reduceAdd])))
          (refine Calls.mono (is33_any (Hcl.out _ H).2 HJ.out.wf v) ?_; rintro e w1 ⟨rfl, hF⟩; have H1 := H.step hF (by simp); clear H; have H := H1; clear H1)
          rw [Hw.out]
          have hC : C < 2 := by have := HC.out; have := h2.out; omega
          go_wp2_with (first | ((first | (refine is_load rfl ?_; refine wl_ev rfl (by first | exact c_ld H rfl rfl | exact c_ld0 H rfl rfl | exact c_ldz H rfl rfl | exact c_ldr H rfl rfl) ?_) | (refine is_cmp rfl rfl ?_; first | (refine wl_ev rfl (by first | exact ev_cmpT rfl rfl rfl rfl | exact ev_cmpF rfl rfl rfl rfl) ?_) | (refine wl_cmp rfl rfl rfl rfl rfl (fun h => ?_) (fun h => ?_) <;> (simp only [cmpP] at h))) | (refine is_indexAddr rfl ?_; refine wl_ev rfl (c_ix rfl rfl rfl) ?_)) <;> (simp only [nrm, ↓reduceIte, Nat.reduceAdd])) | ((first | (refine is_store rfl ?_; first | (refine wl_rw rfl (fun K hK => c_st H rfl rfl rfl (h := (fun w1 hf H1 => hK _ _ ?_)))) | (refine wl_rw rfl (fun K hK => c_stc H rfl rfl (h := (fun w1 hf H1 => hK _ _ ?_)))))); (clear hK K); (clear H; have H := H1; clear H1; (try dsimp only at H); (try clear hf)); (simp only [nrm, ↓reduceIte, Nat.reduceAdd])))
          go_ret
          exact ⟨by rw [Ht.out]; rfl, by rw [Ht.out]; exact Hcl.out _ H⟩

  · have Ht : Hid (lose s wi = (330, s)) := hid (by unfold lose; rw [hw, if_pos rfl])
    have Hw := hid hw
    clear hw
    go_enter Try.func40, Try.ntmps40
    go_wp2_with (first | ((first | (refine is_load rfl ?_; refine wl_ev rfl (by first | exact c_ld H rfl rfl | exact c_ld0 H rfl rfl | exact c_ldz H rfl rfl | exact c_ldr H rfl rfl) ?_) | (refine is_cmp rfl rfl ?_; first | (refine wl_ev rfl (by first | exact ev_cmpT rfl rfl rfl rfl | exact ev_cmpF rfl rfl rfl rfl) ?_) | (refine wl_cmp rfl rfl rfl rfl rfl (fun h => ?_) (fun h => ?_) <;> (simp only [cmpP] at h))) | (refine is_indexAddr rfl ?_; refine wl_ev rfl (c_ix rfl rfl rfl) ?_)) <;> (simp only [nrm, ↓reduceIte, Nat.reduceAdd])) | ((first | (refine is_store rfl ?_; first | (refine wl_rw rfl (fun K hK => c_st H rfl rfl rfl (h := (fun w1 hf H1 => hK _ _ ?_)))) | (refine wl_rw rfl (fun K hK => c_stc H rfl rfl (h := (fun w1 hf H1 => hK _ _ ?_)))))); (clear hK K); (clear H; have H := H1; clear H1; (try dsimp only at H); (try clear hf)); (simp only [nrm, ↓reduceIte, Nat.reduceAdd])))
    go_loopw [5, 6] (fun s5 s6 wr => ∃ i : Nat, i ≤ s.tas.length ∧ s6 = .int .i64 i ∧ s5 = .int .i64 (cntF s.liv i) ∧ Hp [A.gt, A.gl] w wr [.rng A.b 0 [.slice (some ⟨A.gp, 0, none⟩) s.par.length A.cp, .slice (some ⟨A.go, 0, none⟩) s.par.length A.co, .slice p s.par.length c, .slice (some ⟨A.gd, 0, none⟩) s.par.length A.cd, .slice (some ⟨A.gf, 0, none⟩) s.par.length A.cf, .slice (some ⟨A.gt, 0, none⟩) s.tas.length A.ct, .slice (some ⟨A.gl, 0, none⟩) s.tas.length A.cl], .blk A.gt (ints s.tas ++ padt) 3, .blk A.gl (boolsV s.liv ++ padl) 4]) (fun _ v _ => s.tas.length - (intOf v).toNat)
    case atStart => exact ⟨0, Nat.zero_le _, rfl, rfl, H⟩
    case round =>
      clear H
      obtain ⟨i, hi, rfl, rfl, H⟩ := hrel
      have hle := cntF_le s.liv i
      by_cases hin : i < s.tas.length
      · obtain ⟨y, hy⟩ : ∃ y, s.liv[i]? = some y := ⟨_, List.getElem?_eq_getElem (by have := Hlv.out; omega)⟩
        have hyv := pre_at (pad := padl) (boolsV_at hy)
        cases y
        · have Hf := hid (cntF_no hy)
          clear hy
          generalize cntF s.liv i = C at *
          go_wp2_with (first | ((first | (refine is_load rfl ?_; refine wl_ev rfl (by first | exact c_ld H rfl rfl | exact c_ld0 H rfl rfl | exact c_ldz H rfl rfl | exact c_ldr H rfl rfl) ?_) | (refine is_cmp rfl rfl ?_; first | (refine wl_ev rfl (by first | exact ev_cmpT rfl rfl rfl rfl | exact ev_cmpF rfl rfl rfl rfl) ?_) | (refine wl_cmp rfl rfl rfl rfl rfl (fun h => ?_) (fun h => ?_) <;> (simp only [cmpP] at h))) | (refine is_indexAddr rfl ?_; refine wl_ev rfl (c_ix rfl rfl rfl) ?_)) <;> (simp only [nrm, ↓reduceIte, Nat.reduceAdd])) | ((first | (refine is_store rfl ?_; first | (refine wl_rw rfl (fun K hK => c_st H rfl rfl rfl (h := (fun w1 hf H1 => hK _ _ ?_)))) | (refine wl_rw rfl (fun K hK => c_stc H rfl rfl (h := (fun w1 hf H1 => hK _ _ ?_)))))); (clear hK K); (clear H; have H := H1; clear H1; (try dsimp only at H); (try clear hf)); (simp only [nrm, ↓reduceIte, Nat.reduceAdd])))
          go_roundw
          case rel => exact ⟨i + 1, by omega, by go_num, by rw [Hf.out], H⟩
          case measure => simp [intOf]; omega
        · have Hf := hid (cntF_yes hy)
          clear hy
          generalize cntF s.liv i = C at *
          go_wp2_with (first | ((first | (refine is_load rfl ?_; refine wl_ev rfl (by first | exact c_ld H rfl rfl | exact c_ld0 H rfl rfl | exact c_ldz H rfl rfl | exact c_ldr H rfl rfl) ?_) | (refine is_cmp rfl rfl ?_; first | (refine wl_ev rfl (by first | exact ev_cmpT rfl rfl rfl rfl | exact ev_cmpF rfl rfl rfl rfl) ?_) | (refine wl_cmp rfl rfl rfl rfl rfl (fun h => ?_) (fun h => ?_) <;> (simp only [cmpP] at h))) | (refine is_indexAddr rfl ?_; refine wl_ev rfl (c_ix rfl rfl rfl) ?_)) <;> (simp only [nrm, ↓reduceIte, Nat.reduceAdd])) | ((first | (refine is_store rfl ?_; first | (refine wl_rw rfl (fun K hK => c_st H rfl rfl rfl (h := (fun w1 hf H1 => hK _ _ ?_)))) | (refine wl_rw rfl (fun K hK => c_stc H rfl rfl (h := (fun w1 hf H1 => hK _ _ ?_)))))); (clear hK K); (clear H; have H := H1; clear H1; (try dsimp only at H); (try clear hf)); (simp only [nrm, ↓reduceIte, Nat.reduceAdd])))
          go_roundw
          case rel => exact ⟨i + 1, by omega, by go_num, by rw [Hf.out]; go_num, H⟩
          case measure => simp [intOf]; omega
      · have HC : Hid (cntF s.liv i = cntF s.liv s.liv.length) := hid (by rw [show i = s.liv.length by have := Hlv.out; omega])
        generalize cntF s.liv i = C at *
        go_wp2_with (first | ((first | (refine is_load rfl ?_; refine wl_ev rfl (by first | exact c_ld H rfl rfl | exact c_ld0 H rfl rfl | exact c_ldz H rfl rfl | exact c_ldr H rfl rfl) ?_) | (refine is_cmp rfl rfl ?_; first | (refine wl_ev rfl (by first | exact ev_cmpT rfl rfl rfl rfl | exact ev_cmpF rfl rfl rfl rfl) ?_) | (refine wl_cmp rfl rfl rfl rfl rfl (fun h => ?_) (fun h => ?_) <;> (simp only [cmpP] at h))) | (refine is_indexAddr rfl ?_; refine wl_ev rfl (c_ix rfl rfl rfl) ?_)) <;> (simp only [nrm, ↓reduceIte, Nat.reduceAdd])) | ((first | (refine is_store rfl ?_; first | (refine wl_rw rfl (fun K hK => c_st H rfl rfl rfl (h := (fun w1 hf H1 => hK _ _ ?_)))) | (refine wl_rw rfl (fun K hK => c_stc H rfl rfl (h := (fun w1 hf H1 => hK _ _ ?_)))))); (clear hK K); (clear H; have H := H1; clear H1; (try dsimp only at H); (try clear hf)); (simp only [nrm, ↓reduceIte, Nat.reduceAdd])))
        (refine Calls.mono (is33_any (Hcl.out _ H).2 HJ.out.wf wi) ?_; rintro e w1 ⟨rfl, hF⟩; have H1 := H.step hF (by simp); clear H; have H := H1; clear H1)
        rw [Hw.out]
        go_wp2_with (first | ((first | (refine is_load rfl ?_; refine wl_ev rfl (by first | exact c_ld H rfl rfl | exact c_ld0 H rfl rfl | exact c_ldz H rfl rfl | exact c_ldr H rfl rfl) ?_) | (refine is_cmp rfl rfl ?_; first | (refine wl_ev rfl (by first | exact ev_cmpT rfl rfl rfl rfl | exact ev_cmpF rfl rfl rfl rfl) ?_) | (refine wl_cmp rfl rfl rfl rfl rfl (fun h => ?_) (fun h => ?_) <;> (simp only [cmpP] at h))) | (refine is_indexAddr rfl ?_; refine wl_ev rfl (c_ix rfl rfl rfl) ?_)) <;> (simp only [nrm, ↓reduceIte, Nat.reduceAdd])) | ((first | (refine is_store rfl ?_; first | (refine wl_rw rfl (fun K hK => c_st H rfl rfl rfl (h := (fun w1 hf H1 => hK _ _ ?_)))) | (refine wl_rw rfl (fun K hK => c_stc H rfl rfl (h := (fun w1 hf H1 => hK _ _ ?_)))))); (clear hK K); (clear H; have H := H1; clear H1; (try dsimp only at H); (try clear hf)); (simp only [nrm, ↓reduceIte, Nat.reduceAdd])))
        go_ret
        exact ⟨by rw [Ht.out]; rfl, by rw [Ht.out]; exact Hcl.out _ H⟩

end Go.Proofs.Ythlhjjokodmihaa
