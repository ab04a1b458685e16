/-
  What the document's pool needs holds in every state: plain facts.
-/
import Derived.Test.YthlhjjokodmihaaRs3
namespace Go.Proofs.Ythlhjjokodmihaa
open Go.RowKit
set_option linter.unusedSimpArgs false
set_option linter.unusedVariables false
theorem release_still {s : PS} {p : Nat} (h : held s p = true) : release s p = s := by unfold release; rw [h]; split <;> rfl
theorem PJ_take {s : PS} (J : PJ s) (w : Int) : PJ (take s w).2 := by
  have hw := J.wf
  have hw' := PW_take hw w
  unfold take at hw' ⊢
  split at hw'
  · rename_i h; rw [if_pos h]; exact J
  rename_i hW
  rw [if_neg hW]
  split at hw'
  · rename_i h; rw [if_pos h]; exact J
  rename_i hR
  rw [if_neg hR]
  simp only at hw' ⊢
  split at hw'
  · rename_i hc
    rw [if_pos hc]
    obtain ⟨t, ht, h1⟩ := choose_ready hw hc
    obtain ⟨v, rfl, hv⟩ := isW_true (by simpa using hW)
    rw [ht, Int.toNat_natCast, Int.toNat_natCast] at hw' ⊢
    have htl := get_lt h1
    have hvl := get_lt hv
    rw [hw.liv] at hvl
    have hheld : ∀ u, held { s with sta := s.sta.set t 2, tas := s.tas.set v t } u = held s u := fun u => held_congr hw hw' rfl (fun c _ => by
      show s.sta[c]? = some 3 ↔ (s.sta.set t 2)[c]? = some 3
      by_cases e : t = c
      · subst e; rw [h1, set_eq htl]; simp
      · rw [set_ne e])
    refine ⟨hw', fun u t' hx => ?_, fun u u' t' hx hx' => ?_, fun u hx => ?_, fun u x hx hx0 => ?_⟩
    · rcases setAt hx with ⟨rfl, e⟩ | ⟨_, h⟩
      · obtain rfl : t' = t := by omega
        exact set_eq htl
      · have := J.run u t' h
        show (s.sta.set t 2)[t']? = some 2
        by_cases e : t = t'
        · subst e; exact set_eq htl
        · rw [set_ne e]; exact this
    · rcases setAt hx with ⟨rfl, e⟩ | ⟨_, h⟩ <;> rcases setAt hx' with ⟨rfl, e'⟩ | ⟨_, h'⟩
      · rfl
      · obtain rfl : t' = t := by omega
        have := J.run u' t' h'
        rw [h1] at this; cases this
      · obtain rfl : t' = t := by omega
        have := J.run u t' h
        rw [h1] at this; cases this
      · exact J.one u u' t' h h'
    · rcases setAt hx with ⟨_, h⟩ | ⟨_, h⟩
      · omega
      · exact J.rdy u h
    · rw [hheld]
      rcases setAt hx with ⟨rfl, _⟩ | ⟨_, h⟩
      · exact J.kid t 1 h1 (by decide)
      · exact J.kid u x h hx0
  · rename_i hc; rw [if_neg hc]; exact J
theorem PJ_join {s : PS} (J : PJ s) (w : Int) (hw' : PW (join s w).2) : PJ (join s w).2 := by
  unfold join at hw' ⊢
  split at hw'
  · rename_i h; rw [if_pos h]; exact J
  rename_i h1
  rw [if_neg h1]
  split at hw'
  · rename_i h; rw [if_pos h]; exact J
  rename_i h2
  rw [if_neg h2]
  simp only at hw' ⊢
  have hmono : ∀ v : Nat, s.liv[v]? = some true → (s.liv.set w.toNat true)[v]? = some true := fun v hv => by
    by_cases e : w.toNat = v
    · rw [e]; exact set_eq (get_lt hv)
    · rw [set_ne e]; exact hv
  exact ⟨hw', J.run, J.one, fun t h => by
    obtain ⟨v, h3, h4⟩ := J.rdy t h
    exact ⟨v, h3, hmono v h4⟩, fun t x h hx => J.kid t x h hx⟩
theorem PJ_release {s : PS} (J : PJ s) {t : Nat} (ht : t < s.par.length) : PJ (release s t) := by
  have hw' := PW_release J.wf ht
  rcases release_cases J.wf ht with ⟨h1, h2⟩ | ⟨h1, h2, v, h3, h4⟩
  · rw [h1]; exact J
  rw [h4] at hw' ⊢
  have hsl := get_lt h1
  have hll : t < s.loc.length := by rw [J.wf.loc]; exact ht
  have hheld : ∀ u : Nat, held { s with sta := s.sta.set t 1, loc := s.loc.set t (v : Int) } u = held s u := fun u => held_congr J.wf hw' rfl (fun c _ => by
    show s.sta[c]? = some 3 ↔ (s.sta.set t 1)[c]? = some 3
    by_cases e : t = c
    · subst e; rw [h1, set_eq hsl]; simp
    · rw [set_ne e])
  refine ⟨hw', fun u x h => ?_, J.one, fun u h => ?_, fun u x h h0 => ?_⟩
  · have := J.run u x h
    show (s.sta.set t 1)[x]? = some 2
    rw [set_ne (fun e => by subst e; rw [h1] at this; cases this)]
    exact this
  · rcases setAt h with ⟨rfl, _⟩ | ⟨hne, h⟩
    · exact ⟨v, set_eq hll, h3⟩
    · obtain ⟨z, b2, b3⟩ := J.rdy u h
      exact ⟨z, by show (s.loc.set t (v : Int))[u]? = some (z : Int); rw [set_ne hne]; exact b2, b3⟩
  · rw [hheld]
    rcases setAt h with ⟨rfl, _⟩ | ⟨_, h⟩
    · exact h2
    · exact J.kid u x h h0
theorem PJ_ended {s : PS} (J : PJ s) {v t : Nat} {x : Int} (hx0 : x ≠ 0) (hx1 : x ≠ 1) (hv : s.tas[v]? = some (t : Int)) : PJ { s with sta := s.sta.set t x, tas := s.tas.set v (-1) } := by
  have hw' := PW_ended J.wf v t x
  have h2 := J.run v t hv
  have htl := get_lt h2
  have ht : t < s.par.length := by rw [← J.wf.sta]; exact htl
  obtain ⟨p, hp⟩ : ∃ p, s.par[t]? = some p := ⟨_, List.getElem?_eq_getElem ht⟩
  have hheld : ∀ u : Nat, p ≠ u → held { s with sta := s.sta.set t x, tas := s.tas.set v (-1) } u = held s u := fun u hu => held_congr J.wf hw' rfl (fun c hc => by
    show s.sta[c]? = some 3 ↔ (s.sta.set t x)[c]? = some 3
    rw [set_ne]
    intro e; subst e; rw [hp] at hc; injection hc with hc; exact hu hc)
  have hpt : p ≠ t := by
    rcases J.wf.par' t p hp with h | ⟨q, h, h3, _⟩ <;> omega
  refine ⟨hw', fun w u hx => ?_, fun w w' u hx hx' => ?_, fun u hx => ?_, fun u y hx hy0 => ?_⟩
  · rcases setAt hx with ⟨_, h⟩ | ⟨hne, h⟩
    · omega
    · have := J.run w u h
      show (s.sta.set t x)[u]? = some 2
      rw [set_ne (fun e => by subst e; exact hne (J.one v w t hv h))]
      exact this
  · rcases setAt hx with ⟨_, h⟩ | ⟨_, h⟩
    · omega
    · rcases setAt hx' with ⟨_, h'⟩ | ⟨_, h'⟩
      · omega
      · exact J.one w w' u h h'
  · rcases setAt hx with ⟨_, h⟩ | ⟨hne, h⟩
    · exact absurd h.symm hx1
    · exact J.rdy u h
  · rcases setAt hx with ⟨rfl, _⟩ | ⟨_, h⟩
    · rw [hheld t hpt]; exact J.kid t 2 h2 (by decide)
    · have hh := J.kid u y h hy0
      rw [hheld u (fun e => by subst e; have := held_no J.wf hh hp; rw [h2] at this; cases this)]
      exact hh
theorem PJ_end {s : PS} (J : PJ s) (w x : Int) (hx0 : x ≠ 0) (hx1 : x ≠ 1) : PJ (endW s w x).2 := by
  rcases end_cases J.wf w x with ⟨_, h⟩ | ⟨v, _, _, ⟨_, h⟩ | ⟨t, p, hv, ht, hp, h⟩⟩
  · rw [h]; exact J
  · rw [h]; exact J
  · rw [h]
    simp only
    split
    · rename_i h0
      refine PJ_release (PJ_ended J hx0 hx1 hv) ?_
      rcases J.wf.par' t p hp with rfl | ⟨q, rfl, _, hq⟩
      · omega
      · rw [Int.toNat_natCast]; exact hq
    · exact PJ_ended J hx0 hx1 hv
theorem PJ_lose {s : PS} (J : PJ s) (w : Int) (hw' : PW (lose s w).2) : PJ (lose s w).2 := by
  have hw := J.wf
  unfold lose at hw' ⊢
  split at hw'
  · rename_i h; rw [if_pos h]; exact J
  rename_i hW
  rw [if_neg hW]
  split at hw'
  · rename_i h; rw [if_pos h]; exact J
  rename_i hC
  rw [if_neg hC]
  simp only at hw' ⊢
  obtain ⟨v, rfl, hv⟩ := isW_true (by simpa using hW)
  have hvl := get_lt hv
  rw [Int.toNat_natCast] at hw' hC ⊢
  have hlive : ∃ u : Nat, (s.liv.set v false)[u]? = some true := by
    have hc : (s.liv.set v false).contains true = true := by simpa using hC
    rw [List.contains_iff_mem] at hc
    exact List.mem_iff_getElem?.1 hc
  have hto := nextW_true hlive (w := v) (by rw [List.length_set]; exact hvl)
  generalize nextW (s.liv.set v false) v = tw at hw' hto ⊢
  have hoth : ∀ u : Nat, u ≠ v → s.liv[u]? = some true → (s.liv.set v false)[u]? = some true := fun u hu h => by rw [set_ne (fun e => hu e.symm)]; exact h
  obtain ⟨x, hx⟩ : ∃ x, s.tas[v]? = some x := ⟨_, List.getElem?_eq_getElem (by rw [← hw.liv]; exact hvl)⟩
  have hr := runW_at hx
  rw [hr] at hw' ⊢
  have hrdy : ∀ u : Nat, s.sta[u]? = some 1 → ∃ z : Nat, (moved s v tw)[u]? = some (z : Int) ∧ (s.liv.set v false)[z]? = some true := fun u hu => by
    obtain ⟨z, h1, h2⟩ := J.rdy u hu
    rw [moved_get (get_lt h1)]
    by_cases e : z = v
    · subst e
      rw [if_pos ((mem_readyW hw).2 ⟨hu, h1⟩)]
      exact ⟨tw, rfl, hto⟩
    · rw [if_neg (fun h => by have := ((mem_readyW hw).1 h).2; rw [h1] at this; injection this with this; omega)]
      exact ⟨z, h1, hoth z e h2⟩
  rcases hw.tas' v x hx with rfl | ⟨t, rfl, ht⟩
  · rw [if_neg (by decide)] at hw' ⊢
    exact ⟨hw', J.run, J.one, hrdy, fun u x h hx => J.kid u x h hx⟩
  · rw [if_pos (by omega), Int.toNat_natCast] at hw' ⊢
    have h2 := J.run v t hx
    have htl := get_lt h2
    have hml : t < (moved s v tw).length := by rw [moved_len, hw.loc]; exact ht
    have hheld : ∀ u : Nat, held { s with liv := s.liv.set v false, sta := s.sta.set t 1, loc := (moved s v tw).set t (tw : Int), tas := s.tas.set v (-1) } u = held s u := fun u => held_congr hw hw' rfl (fun c _ => by
      show s.sta[c]? = some 3 ↔ (s.sta.set t 1)[c]? = some 3
      by_cases e : t = c
      · subst e; rw [h2, set_eq htl]; simp
      · rw [set_ne e])
    refine ⟨hw', fun u t' hx' => ?_, fun u u' t' h1 h1' => ?_, fun u h1 => ?_, fun u x hx hx0 => ?_⟩
    · rcases setAt hx' with ⟨_, h⟩ | ⟨hne, h⟩
      · omega
      · have := J.run u t' h
        show (s.sta.set t 1)[t']? = some 2
        rw [set_ne (fun e => by subst e; exact hne (J.one v u t hx h))]
        exact this
    · rcases setAt h1 with ⟨_, h⟩ | ⟨_, h⟩
      · omega
      · rcases setAt h1' with ⟨_, h'⟩ | ⟨_, h'⟩
        · omega
        · exact J.one u u' t' h h'
    · rcases setAt h1 with ⟨rfl, _⟩ | ⟨hne, h⟩
      · exact ⟨tw, set_eq hml, hto⟩
      · obtain ⟨z, h3, h4⟩ := hrdy u h
        exact ⟨z, by show ((moved s v tw).set t (tw : Int))[u]? = some (z : Int); rw [set_ne hne]; exact h3, h4⟩
    · rw [hheld]
      rcases setAt hx with ⟨rfl, _⟩ | ⟨_, h⟩
      · exact J.kid t 2 h2 (by decide)
      · exact J.kid u x h hx0
/-! The beginning. -/
/-- What the document finds inconsistent. -/
def badD (par : List Int) (fin bro : List Bool) (i : Nat) : Bool := fin[i]?.getD false && bro[i]?.getD false || ((fin[i]?.getD false || bro[i]?.getD false) && heldD par fin i)
def consD (par : List Int) (fin bro : List Bool) : Bool := !(List.range par.length).any (badD par fin bro)
def resumeD (par own : List Int) (k : Int) (fin bro : List Bool) : Int := if checkP par own k ≠ 0 then checkP par own k else if fin.length ≠ par.length ∨ bro.length ≠ par.length then 2 else if consD par fin bro = false then 190 else 0
theorem badPar_no {par : List Int} (h : badPar par = false) {t : Nat} {p : Int} (hp : par[t]? = some p) : p = -1 ∨ ∃ q : Nat, p = q ∧ t < q ∧ q < par.length := by
  have hlt := (List.getElem?_eq_some_iff.1 hp).1
  have hbad : badP par t = false := by
    have := List.any_eq_false.1 h t (List.mem_range.2 hlt)
    simpa using this
  unfold badP at hbad
  rw [hp, Option.getD_some] at hbad
  by_cases e : p = -1
  · exact .inl e
  · simp [e] at hbad
    exact .inr ⟨p.toNat, by omega, by omega, by omega⟩
theorem consD_cons {par : List Int} {fin bro : List Bool} (hp : badPar par = false) : consD par fin bro = consP par fin bro := by
  unfold consD consP
  congr 1
  rw [Bool.eq_iff_iff, List.any_eq_true, List.any_eq_true]
  constructor
  · rintro ⟨i, hi, h⟩
    unfold badD at h
    rw [Bool.or_eq_true] at h
    rcases h with h | h
    · exact ⟨i, hi, by unfold badC; rw [h]; rfl⟩
    · rw [Bool.and_eq_true] at h
      obtain ⟨h1, h2⟩ := h
      unfold heldD at h2
      obtain ⟨c, hc, h3⟩ := List.any_eq_true.1 h2
      rw [Bool.and_eq_true, beq_iff_eq] at h3
      refine ⟨c, hc, ?_⟩
      unfold badC
      rw [h3.1, Int.toNat_natCast, h1, h3.2, decide_eq_true (by omega)]
      simp
  · rintro ⟨c, hc, h⟩
    unfold badC at h
    rw [Bool.or_eq_true] at h
    rcases h with h | h
    · exact ⟨c, hc, by unfold badD; rw [h]; rfl⟩
    · rw [Bool.and_eq_true, Bool.and_eq_true, decide_eq_true_eq] at h
      obtain ⟨⟨h0, h1⟩, h2⟩ := h
      have hcl := List.mem_range.1 hc
      obtain ⟨p, hpc⟩ : ∃ p, par[c]? = some p := ⟨_, List.getElem?_eq_getElem hcl⟩
      rw [hpc, Option.getD_some] at h0 h1
      rcases badPar_no hp hpc with e | ⟨q, rfl, _, hq⟩
      · omega
      · rw [Int.toNat_natCast] at h1
        refine ⟨q, List.mem_range.2 hq, ?_⟩
        unfold badD
        rw [h1]
        have : heldD par fin q = true := by
          unfold heldD
          exact List.any_eq_true.2 ⟨c, hc, by rw [hpc, h2]; simp⟩
        rw [this]; simp
theorem resumeD_E {par own : List Int} {k : Int} {fin bro : List Bool} : resumeD par own k fin bro = resumeE par own k fin bro := by
  unfold resumeD resumeE
  by_cases hc : checkP par own k = 0
  · rw [consD_cons (checkP_ok hc).2.1]
  · rw [if_pos hc, if_pos hc]
theorem resumeE_ok {par own : List Int} {k : Int} {fin bro : List Bool} (h : resumeE par own k fin bro = 0) : checkP par own k = 0 ∧ fin.length = par.length ∧ bro.length = par.length ∧ consP par fin bro = true := by
  unfold resumeE at h
  split at h
  · rename_i h1; exact absurd h h1
  rename_i h1
  split at h
  · cases h
  rename_i h2
  split at h
  · cases h
  rename_i h3
  exact ⟨by omega, by omega, by omega, by simpa using h3⟩
theorem mark_at {par own : List Int} {k : Nat} {fin bro : List Bool} {t : Nat} {x : Int} (h : (st0 par own k fin bro).sta[t]? = some x) : t < par.length ∧ x = mark fin bro t := by
  have ht : t < par.length := by have := get_lt h; simpa [st0] using this
  refine ⟨ht, ?_⟩
  have h : ((List.range par.length).map (mark fin bro))[t]? = some x := h
  rw [List.getElem?_map, List.getElem?_range ht] at h
  injection h with h
  exact h.symm
theorem PJ_st0 {par own : List Int} {k : Int} {fin bro : List Bool} (h : resumeE par own k fin bro = 0) : PJ (st0 par own k.toNat fin bro) := by
  obtain ⟨hc, hf, hb, hcs⟩ := resumeE_ok h
  have hw := st0_wf fin bro hc
  have htn : ∀ (w t : Nat), (st0 par own k.toNat fin bro).tas[w]? = some (t : Int) → False := fun w t h => by
    have h : (List.replicate k.toNat (-1 : Int))[w]? = some (t : Int) := h
    rw [List.getElem?_replicate] at h
    split at h
    · injection h with h; omega
    · cases h
  refine ⟨hw, fun v t h => (htn v t h).elim, fun u v t h => (htn u t h).elim, fun t h => ?_, fun t x h h0 => ?_⟩
  · obtain ⟨_, e⟩ := mark_at h
    unfold mark at e
    split at e
    · cases e
    · split at e <;> cases e
  · obtain ⟨ht, e⟩ := mark_at h
    have hd : (fin[t]?.getD false || bro[t]?.getD false) = true := by
      unfold mark at e
      split at e
      · rename_i h1; rw [h1]; rfl
      · split at e
        · rename_i h1; rw [h1]; simp
        · exact absurd e h0
    cases hh : held (st0 par own k.toNat fin bro) t with
    | false => rfl
    | true =>
      obtain ⟨c, hcl, hp, h3⟩ := (held_iff hw).1 hh
      have hcl : c < par.length := hcl
      have hp : par[c]? = some (t : Int) := hp
      have hfc : fin[c]?.getD false = false := by
        cases e2 : fin[c]?.getD false with
        | false => rfl
        | true =>
          exfalso
          apply h3
          show ((List.range par.length).map (mark fin bro))[c]? = some 3
          rw [List.getElem?_map, List.getElem?_range hcl]
          simp [mark, e2]
      have hbc : badC par fin bro c = true := by
        unfold badC
        rw [hp, Option.getD_some, Int.toNat_natCast, hd, hfc, decide_eq_true (by omega)]
        simp
      unfold consP at hcs
      rw [any_yes hcl hbc] at hcs
      cases hcs
theorem relF_len (s : PS) (i : Nat) : (relF s i).tas = s.tas ∧ (relF s i).own = s.own ∧ (relF s i).liv = s.liv := by
  induction i with
  | zero => exact ⟨rfl, rfl, rfl⟩
  | succ i ih => rw [relF_succ]; have := release_par (relF s i) i; exact ⟨by rw [this.2.2.1]; exact ih.1, by rw [this.2.1]; exact ih.2.1, by rw [this.2.2.2]; exact ih.2.2⟩
theorem PJ_relF {s : PS} (J : PJ s) : ∀ i, i ≤ s.par.length → PJ (relF s i)
  | 0, _ => J
  | i + 1, h => by rw [relF_succ]; exact PJ_release (PJ_relF J i (by omega)) (by rw [relF_par]; omega)
theorem PJ_resume {par own : List Int} {k : Int} {fin bro : List Bool} (h : resumeE par own k fin bro = 0) : PJ (resumeS par own k fin bro) := PJ_relF (PJ_st0 h) _ (Nat.le_refl _)
end Go.Proofs.Ythlhjjokodmihaa
