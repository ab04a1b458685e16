/-
  What a pool keeps: the beginning; rounds come to an end.
-/
import Derived.Test.YthlhjjokodmihaaPe2
namespace Go.Proofs.Ythlhjjokodmihaa
open Go.RowKit
set_option linter.unusedSimpArgs false
set_option linter.unusedVariables false
theorem PW_release {s : PS} (hw : PW s) {t : Nat} (ht : t < s.par.length) : PW (release s t) := by
  rcases release_cases hw ht with ⟨h, _⟩ | ⟨_, _, v, _, h⟩
  · rw [h]; exact hw
  · rw [h]; exact hw.upd (List.length_set ..) (List.length_set ..) rfl rfl hw.tas' hw.live
theorem PW_take {s : PS} (hw : PW s) (w : Int) : PW (take s w).2 := by
  unfold take
  split
  · exact hw
  split
  · exact hw
  simp only
  split
  · rename_i hc
    refine hw.upd (List.length_set ..) rfl (List.length_set ..) rfl (set_tas hw.tas' _ _ ?_) hw.live
    rcases choose_range s w with h | ⟨q, h, hq⟩
    · exact .inl h
    · exact .inr ⟨q, h, hq⟩
  · exact hw
theorem PW_ended {s : PS} (hw : PW s) (v t : Nat) (x : Int) : PW { s with sta := s.sta.set t x, tas := s.tas.set v (-1) } :=
  hw.upd (List.length_set ..) rfl (List.length_set ..) rfl (set_tas hw.tas' v (-1) (.inl rfl)) hw.live
theorem end_cases {s : PS} (hw : PW s) (w : Int) (x : Int) : (isW s w = false ∧ endW s w x = ((-1, 330), s)) ∨ ∃ v : Nat, w = v ∧ s.liv[v]? = some true ∧ ((s.tas[v]? = some (-1) ∧ endW s w x = ((-1, 333), s)) ∨ ∃ (t : Nat) (p : Int), s.tas[v]? = some (t : Int) ∧ t < s.par.length ∧ s.par[t]? = some p ∧
    endW s w x = (((t : Int), 0), if 0 ≤ p then release { s with sta := s.sta.set t x, tas := s.tas.set v (-1) } p.toNat else { s with sta := s.sta.set t x, tas := s.tas.set v (-1) })) := by
  rcases bool_cases (isW s w) with hW | hW
  · obtain ⟨v, rfl, hv⟩ := isW_true hW
    refine .inr ⟨v, rfl, hv, ?_⟩
    obtain ⟨y, hy⟩ : ∃ y, s.tas[v]? = some y := ⟨_, List.getElem?_eq_getElem (by rw [← hw.liv]; exact get_lt hv)⟩
    have hr := runW_at hy
    rcases hw.tas' v y hy with rfl | ⟨t, rfl, ht⟩
    · exact .inl ⟨hy, by unfold endW; rw [hW, hr, if_neg (by decide), if_pos (by decide)]⟩
    · obtain ⟨p, hp⟩ : ∃ p, s.par[t]? = some p := ⟨_, List.getElem?_eq_getElem ht⟩
      have hE : ended s v x = { s with sta := s.sta.set t x, tas := s.tas.set v (-1) } := by unfold ended; rw [hr, Int.toNat_natCast, Int.toNat_natCast]
      refine .inr ⟨t, p, hy, ht, hp, ?_⟩
      unfold endW
      rw [hW, hr, if_neg (by decide), if_neg (by omega), Int.toNat_natCast, hp, hE]
      rfl
  · exact .inl ⟨hW, by unfold endW; rw [hW, if_pos rfl]⟩
theorem PW_end {s : PS} (hw : PW s) (w x : Int) : PW (endW s w x).2 := by
  rcases end_cases hw w x with ⟨_, h⟩ | ⟨v, _, _, ⟨_, h⟩ | ⟨t, p, _, ht, hp, h⟩⟩
  · rw [h]; exact hw
  · rw [h]; exact hw
  · rw [h]
    simp only
    split
    · rename_i h0
      refine PW_release (PW_ended hw v t x) ?_
      rcases hw.par' t p hp with rfl | ⟨q, rfl, _, hq⟩
      · omega
      · rw [Int.toNat_natCast]; exact hq
    · exact PW_ended hw v t x
theorem PI_endW {s : PS} (hw : PW s) (I : PI s) (w : Int) : PI (endW s w 3).2 := PI_end hw I w (fun v t _ => PW_ended hw v t 3) (PW_end hw w 3)
theorem PI_takeW {s : PS} (hw : PW s) (I : PI s) (w : Int) : PI (take s w).2 := PI_take hw I w (PW_take hw w)
/-- The beginning. -/
theorem PI_new {par own : List Int} {k : Nat} (hc : checkP par own k = 0) : PW (newS par own k) ∧ PI (newS par own k) ∧ (newS par own k).par = par ∧ (newS par own k).tas.length = k := by
  unfold newS resumeS
  rw [Int.toNat_natCast]
  have hw0 := st0_wf (List.replicate par.length false) (List.replicate par.length false) hc
  rw [Int.toNat_natCast] at hw0
  have hz : ∀ t : Nat, t < par.length → ((List.range par.length).map (mark (List.replicate par.length false) (List.replicate par.length false)))[t]? = some 0 := fun t ht => by
    rw [List.getElem?_map, List.getElem?_range ht]
    simp [mark, List.getElem?_replicate, ht]
  generalize hs0 : st0 par own k (List.replicate par.length false) (List.replicate par.length false) = s0 at hw0
  have hp0 : s0.par = par := by rw [← hs0]; rfl
  have ht0 : s0.tas = List.replicate k (-1) := by rw [← hs0]; rfl
  have hsta : ∀ t : Nat, t < par.length → s0.sta[t]? = some 0 := fun t ht => by rw [← hs0]; exact hz t ht
  have key : ∀ i, i ≤ par.length → PW (relF s0 i) ∧ (relF s0 i).par = par ∧ (relF s0 i).tas = List.replicate k (-1) ∧ (∀ (t : Nat) (x : Int), (relF s0 i).sta[t]? = some x → x = 0 ∨ x = 1) ∧ (∀ t : Nat, i ≤ t → t < par.length → (relF s0 i).sta[t]? = some 0) ∧
      (∀ t : Nat, t < i → (relF s0 i).sta[t]? = some 0 → held (relF s0 i) t = true) ∧ (∀ t : Nat, (relF s0 i).sta[t]? = some 1 → held (relF s0 i) t = false ∧ ∃ v : Nat, (relF s0 i).loc[t]? = some (v : Int) ∧ (relF s0 i).liv[v]? = some true) := by
    intro i
    induction i with
    | zero =>
      intro _
      refine ⟨hw0, hp0, ht0, fun t x hx => ?_, fun t _ ht => hsta t ht, fun t ht => by omega, fun t hx => ?_⟩
      · have hx : s0.sta[t]? = some x := hx
        have := get_lt hx
        rw [hw0.sta, hp0] at this
        rw [hsta t this] at hx; injection hx with hx; exact .inl hx.symm
      · have hx : s0.sta[t]? = some 1 := hx
        have := get_lt hx
        rw [hw0.sta, hp0] at this
        rw [hsta t this] at hx; cases hx
    | succ i ih =>
      intro hi
      obtain ⟨a1, a2, a3, a4, a5, a6, a7⟩ := ih (by omega)
      rw [relF_succ]
      have hlt : i < (relF s0 i).par.length := by rw [a2]; omega
      have hw1 := PW_release a1 hlt
      have hx := a5 i (Nat.le_refl _) (by omega)
      rcases release_cases a1 hlt with ⟨h1, h2⟩ | ⟨h1, h2, v, h3, h4⟩
      · rw [h1]
        refine ⟨a1, a2, a3, a4, fun t h => a5 t (by omega), fun t ht h => ?_, a7⟩
        by_cases e : t = i
        · subst e; exact h2.resolve_left (fun h => h hx)
        · exact a6 t (by omega) h
      · rw [h4] at hw1 ⊢
        have hsl := get_lt hx
        have hll : i < (relF s0 i).loc.length := by rw [a1.loc]; exact hlt
        have hheld : ∀ u : Nat, held { (relF s0 i) with sta := (relF s0 i).sta.set i 1, loc := (relF s0 i).loc.set i (v : Int) } u = held (relF s0 i) u := fun u => held_congr a1 hw1 rfl (fun c _ => by
          show (relF s0 i).sta[c]? = some 3 ↔ ((relF s0 i).sta.set i 1)[c]? = some 3
          by_cases e : i = c
          · subst e; rw [hx, set_eq hsl]; simp
          · rw [set_ne e])
        refine ⟨hw1, a2, a3, fun t x h => ?_, fun t ht h => ?_, fun t ht h => ?_, fun t h => ?_⟩
        · rcases setAt h with ⟨_, rfl⟩ | ⟨_, h⟩
          · exact .inr rfl
          · exact a4 t x h
        · show ((relF s0 i).sta.set i 1)[t]? = some 0
          rw [set_ne (by omega)]; exact a5 t (by omega) h
        · rw [hheld]
          rcases setAt h with ⟨_, h⟩ | ⟨e, h⟩
          · omega
          · exact a6 t (by omega) h
        · rw [hheld]
          rcases setAt h with ⟨rfl, _⟩ | ⟨hne, h⟩
          · exact ⟨h2, v, set_eq hll, h3⟩
          · obtain ⟨b1, z, b2, b3⟩ := a7 t h
            exact ⟨b1, z, by show ((relF s0 i).loc.set i (v : Int))[t]? = some (z : Int); rw [set_ne hne]; exact b2, b3⟩
  obtain ⟨a1, a2, a3, a4, a5, a6, a7⟩ := key par.length (Nat.le_refl _)
  have htn : ∀ (w t : Nat), (relF s0 par.length).tas[w]? = some (t : Int) → False := fun w t h => by
    rw [a3, List.getElem?_replicate] at h
    split at h
    · injection h with h; omega
    · cases h
  refine ⟨a1, ⟨fun t x h => by rcases a4 t x h with rfl | rfl <;> omega, fun t h => a6 t (by have := get_lt h; rw [a1.sta, a2] at this; exact this) h, fun t x h hx => ?_, fun w t h => (htn w t h).elim, fun w _ t h => (htn w t h).elim, fun t h => ?_, fun t h => (a7 t h).2⟩, a2, by rw [a3, List.length_replicate]⟩
  · rcases a4 t x h with rfl | rfl
    · exact absurd rfl hx
    · exact (a7 t h).1
  · rcases a4 t 2 h with h | h <;> omega
/-! How many tasks are left -/
theorem filt_set (p : Int → Bool) : ∀ (l : List Int) (t : Nat) (x y : Int), l[t]? = some x → ((l.set t y).filter p).length + (if p x then 1 else 0) = (l.filter p).length + (if p y then 1 else 0)
  | [], t, x, y, h => by simp at h
  | z :: l, 0, x, y, h => by
    simp at h; subst h
    simp only [List.set_cons_zero, List.filter_cons]
    cases p z <;> cases p y <;> simp
  | z :: l, t + 1, x, y, h => by
    have ih := filt_set p l t x y (by simpa using h)
    simp only [List.set_cons_succ, List.filter_cons]
    cases p z
    · simpa using ih
    · simp only [if_true, List.length_cons]; omega
theorem left_same {s s' : PS} {t : Nat} {x y : Int} (h : s.sta[t]? = some x) (hx : x ≠ 3) (hy : y ≠ 3) (hs : s'.sta = s.sta.set t y) : leftW s' = leftW s := by
  have := filt_set (fun x => x != 3) s.sta t x y h
  unfold leftW
  rw [hs]
  simp [hx, hy] at this
  exact this
theorem left_less {s s' : PS} {t : Nat} {x : Int} (h : s.sta[t]? = some x) (hx : x ≠ 3) (hs : s'.sta = s.sta.set t 3) : leftW s' + 1 = leftW s := by
  have := filt_set (fun x => x != 3) s.sta t x 3 h
  unfold leftW
  rw [hs]
  simp [hx] at this
  exact this
theorem left_release {s : PS} (hw : PW s) {t : Nat} (ht : t < s.par.length) : leftW (release s t) = leftW s ∧ (release s t).tas = s.tas ∧ (release s t).liv = s.liv := by
  rcases release_cases hw ht with ⟨h, _⟩ | ⟨h1, _, v, _, h⟩
  · rw [h]; exact ⟨rfl, rfl, rfl⟩
  · rw [h]; exact ⟨left_same h1 (by decide) (show (1 : Int) ≠ 3 by decide) rfl, rfl, rfl⟩
theorem left_pos {s : PS} (hw : PW s) (h : leftW s ≠ 0) : ∃ t : Nat, t < s.par.length ∧ s.sta[t]? ≠ some 3 := by
  unfold leftW at h
  cases e : s.sta.filter (fun x => x != 3) with
  | nil => rw [e] at h; exact absurd rfl h
  | cons x l =>
    have hm : x ∈ s.sta.filter (fun x => x != 3) := by rw [e]; exact .head _
    obtain ⟨h1, h2⟩ := List.mem_filter.1 hm
    obtain ⟨t, ht⟩ := List.mem_iff_getElem?.1 h1
    refine ⟨t, by have := get_lt ht; rw [hw.sta] at this; exact this, ?_⟩
    rw [ht]
    intro e
    injection e with e
    subst e
    simp at h2
theorem left_zero_le (s : PS) (hw : PW s) : leftW s ≤ s.par.length := by
  unfold leftW
  exact Nat.le_trans (List.length_filter_le _ _) (by rw [hw.sta]; exact Nat.le_refl _)
/-- One worker takes and finishes. -/
def stepW (s : PS) (w : Int) : PS := (endW (take s w).2 w 3).2
theorem PW_step {s : PS} (hw : PW s) (w : Int) : PW (stepW s w) := PW_end (PW_take hw w) w 3
theorem PI_step {s : PS} (hw : PW s) (I : PI s) (w : Int) : PI (stepW s w) := PI_endW (PW_take hw w) (PI_takeW hw I w) w
/-- A running task ends. -/
theorem end_less {s : PS} (hw : PW s) (I : PI s) {v t : Nat} (hv : s.tas[v]? = some (t : Int)) : leftW (endW s v 3).2 + 1 = leftW s := by
  have h2 := I.run v t hv
  rcases end_cases hw v 3 with ⟨h, _⟩ | ⟨v', e, _, ⟨h, _⟩ | ⟨t', p, h, ht, hp, hE⟩⟩
  · have : isW s v = true := by unfold isW; rw [decide_eq_true (by omega), Int.toNat_natCast, h2.2]; rfl
    rw [h] at this; cases this
  · obtain rfl : v = v' := by omega
    rw [hv] at h; injection h with h; omega
  · obtain rfl : v = v' := by omega
    rw [hv] at h; injection h with h
    obtain rfl : t = t' := by omega
    rw [hE]
    simp only
    have hl := left_less (s' := { s with sta := s.sta.set t 3, tas := s.tas.set v (-1) }) h2.1 (by decide) rfl
    split
    · rename_i h0
      rw [(left_release (PW_ended hw v t 3) (t := p.toNat) (by
        rcases hw.par' t p hp with rfl | ⟨q, rfl, _, hq⟩
        · omega
        · rw [Int.toNat_natCast]; exact hq)).1]
      exact hl
    · exact hl
theorem step_cases {s : PS} (hw : PW s) (I : PI s) (v : Nat) : leftW (stepW s v) + 1 = leftW s ∨ (stepW s v = s ∧ (s.liv[v]? = some true → s.tas[v]? = some (-1) ∧ choose s v < 0)) := by
  unfold stepW
  rcases bool_cases (isW s v) with hW | hW
  · obtain ⟨v', e, hv⟩ := isW_true hW
    obtain rfl : v = v' := by omega
    obtain ⟨y, hy⟩ : ∃ y, s.tas[v]? = some y := ⟨_, List.getElem?_eq_getElem (by rw [← hw.liv]; exact get_lt hv)⟩
    have hr := runW_at hy
    rcases hw.tas' v y hy with rfl | ⟨t, rfl, ht⟩
    · by_cases hc : 0 ≤ choose s v
      · obtain ⟨t, htc, h1⟩ := choose_ready hw hc
        have hT : take s v = (((t : Int), 0), { s with sta := s.sta.set t 2, tas := s.tas.set v t }) := by
          unfold take; rw [hW, hr, if_neg (by decide), if_neg (by decide), if_pos hc, htc, Int.toNat_natCast, Int.toNat_natCast]
        have hw1 := PW_take hw v
        have I1 := PI_takeW hw I v
        rw [hT] at hw1 I1 ⊢
        refine .inl ?_
        have := end_less hw1 I1 (v := v) (t := t) (set_eq (get_lt hy))
        rw [this]
        exact left_same h1 (by decide) (show (2 : Int) ≠ 3 by decide) rfl
      · have hT : take s v = ((choose s v, 0), s) := by unfold take; rw [hW, hr, if_neg (by decide), if_neg (by decide), if_neg hc]
        rw [hT]
        refine .inr ⟨?_, fun _ => ⟨hy, by omega⟩⟩
        unfold endW
        rw [hW, hr, if_neg (by decide), if_pos (by decide)]
    · have hT : take s v = ((-1, 332), s) := by unfold take; rw [hW, hr, if_neg (by decide), if_pos (by omega)]
      rw [hT]
      exact .inl (end_less hw I hy)
  · have hT : take s v = ((-1, 330), s) := by unfold take; rw [hW, if_pos rfl]
    rw [hT]
    refine .inr ⟨by unfold endW; rw [hW, if_pos rfl], fun h => ?_⟩
    have : isW s v = true := by unfold isW; rw [decide_eq_true (by omega), Int.toNat_natCast, h]; rfl
    rw [hW] at this; cases this
def roundF (s : PS) (j : Nat) : PS := (List.range j).foldl (fun (s : PS) (w : Nat) => stepW s w) s
theorem roundF_succ (s : PS) (j : Nat) : roundF s (j + 1) = stepW (roundF s j) j := by unfold roundF; rw [List.range_succ, List.foldl_append]; rfl
theorem round_keep {s : PS} (hw : PW s) (I : PI s) : ∀ j, PW (roundF s j) ∧ PI (roundF s j)
  | 0 => ⟨hw, I⟩
  | j + 1 => by
    obtain ⟨a, b⟩ := round_keep hw I j
    rw [roundF_succ]
    exact ⟨PW_step a _, PI_step a b _⟩
/-- A round in which tasks are left finishes one. -/
theorem round_less {s : PS} (hw : PW s) (I : PI s) (h : leftW s ≠ 0) : leftW (roundF s s.tas.length) < leftW s := by
  have key : ∀ j, leftW (roundF s j) < leftW s ∨ (roundF s j = s ∧ ∀ u : Nat, u < j → s.liv[u]? = some true → s.tas[u]? = some (-1) ∧ choose s u < 0) := by
    intro j
    induction j with
    | zero => exact .inr ⟨rfl, fun u hu => by omega⟩
    | succ j ih =>
      rw [roundF_succ]
      obtain ⟨a, b⟩ := round_keep hw I j
      rcases ih with ih | ⟨ih1, ih2⟩
      · rcases step_cases a b j with h1 | ⟨h1, _⟩
        · exact .inl (by omega)
        · rw [h1]; exact .inl ih
      · rw [ih1]
        rcases step_cases hw I j with h1 | ⟨h1, h2⟩
        · exact .inl (by omega)
        · refine .inr ⟨h1, fun u hu hl => ?_⟩
          by_cases e : u = j
          · subst e; exact h2 hl
          · exact ih2 u (by omega) hl
  rcases key s.tas.length with h1 | ⟨_, h2⟩
  · exact h1
  · exfalso
    rcases progress hw I (left_pos hw h) with ⟨t, ht⟩ | ⟨t, ht⟩
    · obtain ⟨v, h3, h4⟩ := I.rdy t ht
      have hv : v < s.tas.length := by rw [← hw.liv]; exact get_lt h4
      have := (h2 v hv h4).2
      have := choose_any_ready hw (w := v) hv ht h3
      omega
    · obtain ⟨w, h3⟩ := I.run2 t ht
      have := (h2 w (get_lt h3) (I.run w t h3).2).1
      rw [h3] at this; injection this with this; omega
end Go.Proofs.Ythlhjjokodmihaa
