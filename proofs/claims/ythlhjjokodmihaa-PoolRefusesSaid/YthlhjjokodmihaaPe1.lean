/-
  What a pool keeps as long as no task fails: plain facts.
-/
import Derived.Test.YthlhjjokodmihaaPl7
namespace Go.Proofs.Ythlhjjokodmihaa
open Go.RowKit
set_option linter.unusedSimpArgs false
set_option linter.unusedVariables false
theorem held_iff {s : PS} (hw : PW s) {t : Nat} : held s t = true ↔ ∃ c, c < s.par.length ∧ s.par[c]? = some (t : Int) ∧ s.sta[c]? ≠ some 3 := by
  unfold held
  rw [List.any_eq_true]
  constructor
  · rintro ⟨c, hc, h⟩
    have hc := List.mem_range.1 hc
    obtain ⟨p, hp⟩ : ∃ p, s.par[c]? = some p := ⟨_, List.getElem?_eq_getElem hc⟩
    obtain ⟨y, hy⟩ : ∃ y, s.sta[c]? = some y := ⟨_, List.getElem?_eq_getElem (by rw [hw.sta]; exact hc)⟩
    rw [hp, hy] at h
    simp at h
    exact ⟨c, hc, by rw [hp, h.1], by rw [hy]; simp [h.2]⟩
  · rintro ⟨c, hc, hp, hy⟩
    obtain ⟨y, hy'⟩ : ∃ y, s.sta[c]? = some y := ⟨_, List.getElem?_eq_getElem (by rw [hw.sta]; exact hc)⟩
    refine ⟨c, List.mem_range.2 hc, ?_⟩
    rw [hy'] at hy
    rw [hp, hy']
    simp at hy ⊢
    exact hy
theorem held_no {s : PS} (hw : PW s) {t c : Nat} (h : held s t = false) (hp : s.par[c]? = some (t : Int)) : s.sta[c]? = some 3 := by
  apply Classical.byContradiction
  intro hn
  have : held s t = true := (held_iff hw).2 ⟨c, (List.getElem?_eq_some_iff.1 hp).1, hp, hn⟩
  rw [h] at this; cases this
theorem held_congr {s s' : PS} (hw : PW s) (hw' : PW s') (hp : s'.par = s.par) {t : Nat} (h : ∀ c : Nat, s.par[c]? = some (t : Int) → (s.sta[c]? = some 3 ↔ s'.sta[c]? = some 3)) : held s' t = held s t := by
  rw [Bool.eq_iff_iff, held_iff hw, held_iff hw', hp]
  constructor
  · rintro ⟨c, h1, h2, h3⟩; exact ⟨c, h1, h2, fun e => h3 ((h c h2).1 e)⟩
  · rintro ⟨c, h1, h2, h3⟩; exact ⟨c, h1, h2, fun e => h3 ((h c h2).2 e)⟩
theorem mem_readyW {s : PS} (hw : PW s) {t : Nat} {v : Int} : t ∈ readyW s v ↔ s.sta[t]? = some 1 ∧ s.loc[t]? = some v := by
  unfold readyW
  rw [List.mem_filter, List.mem_range]
  constructor
  · rintro ⟨ht, h⟩
    obtain ⟨x, hx⟩ : ∃ x, s.sta[t]? = some x := ⟨_, List.getElem?_eq_getElem (by rw [hw.sta]; exact ht)⟩
    obtain ⟨y, hy⟩ : ∃ y, s.loc[t]? = some y := ⟨_, List.getElem?_eq_getElem (by rw [hw.loc]; exact ht)⟩
    rw [hx, hy] at h
    simp at h
    rw [hx, hy, h.1, h.2]; exact ⟨rfl, rfl⟩
  · rintro ⟨h1, h2⟩
    have := (List.getElem?_eq_some_iff.1 h1).1
    rw [hw.sta] at this
    exact ⟨this, by rw [h1, h2]; simp⟩
theorem chooseF_mem (s : PS) : ∀ k, 0 < (chooseF s k).2 → ∃ (v t : Nat), (chooseF s k).1 = t ∧ t ∈ readyW s v
  | 0, h => by simp [chooseF] at h
  | k + 1, h => by
    rw [chooseF] at h ⊢
    split
    · rename_i hlt
      obtain ⟨x, hx⟩ : ∃ x, (readyW s k).getLast? = some x := by
        cases e : (readyW s k).getLast? with
        | some x => exact ⟨x, rfl⟩
        | none => rw [List.getLast?_eq_none_iff] at e; rw [e] at hlt; simp at hlt
      exact ⟨k, x, by rw [hx]; rfl, List.mem_of_getLast? hx⟩
    · rename_i hlt
      rw [if_neg hlt] at h
      exact chooseF_mem s k h
theorem chooseF_zero (s : PS) : ∀ k, (chooseF s k).2 = 0 → (chooseF s k).1 = -1
  | 0, h => rfl
  | k + 1, h => by
    rw [chooseF] at h ⊢
    split
    · rename_i hlt; rw [if_pos hlt] at h; simp only at h; omega
    · rename_i hlt; rw [if_neg hlt] at h; exact chooseF_zero s k h
theorem chooseF_ge (s : PS) : ∀ k (v : Nat), v < k → (readyW s v).length ≤ (chooseF s k).2
  | 0, v, h => by omega
  | k + 1, v, h => by
    rw [chooseF]
    by_cases e : v = k
    · subst e
      split
      · exact Nat.le_refl _
      · omega
    · have := chooseF_ge s k v (by omega)
      split
      · rename_i hlt; simp only; omega
      · exact this
theorem choose_ready {s : PS} (hw : PW s) {w : Int} (h : 0 ≤ choose s w) : ∃ t : Nat, choose s w = t ∧ s.sta[t]? = some 1 := by
  unfold choose at h ⊢
  split
  · rename_i t l e
    exact ⟨t, rfl, ((mem_readyW hw).1 (show t ∈ readyW s w by rw [e]; exact .head _)).1⟩
  · rename_i e
    rw [e] at h
    simp only at h
    have hpos : 0 < (chooseF s s.tas.length).2 := by
      apply Classical.byContradiction
      intro hn
      have := chooseF_zero s s.tas.length (by omega)
      omega
    obtain ⟨v, t, h1, h2⟩ := chooseF_mem s _ hpos
    exact ⟨t, h1, ((mem_readyW hw).1 h2).1⟩
theorem choose_any_ready {s : PS} (hw : PW s) {w : Int} {t v : Nat} (hv : v < s.tas.length) (h1 : s.sta[t]? = some 1) (h2 : s.loc[t]? = some (v : Int)) : 0 ≤ choose s w := by
  unfold choose
  split
  · omega
  · have hm : t ∈ readyW s v := (mem_readyW hw).2 ⟨h1, h2⟩
    have hl := List.length_pos_of_mem hm
    have := chooseF_ge s _ v hv
    obtain ⟨v', t', h3, _⟩ := chooseF_mem s s.tas.length (by omega)
    rw [h3]; omega
/-- What a pool keeps in which no task has failed. -/
structure PI (s : PS) : Prop where
  st : ∀ (t : Nat) (x : Int), s.sta[t]? = some x → x = 0 ∨ x = 1 ∨ x = 2 ∨ x = 3
  wait : ∀ t : Nat, s.sta[t]? = some 0 → held s t = true
  free : ∀ (t : Nat) (x : Int), s.sta[t]? = some x → x ≠ 0 → held s t = false
  run : ∀ w t : Nat, s.tas[w]? = some (t : Int) → s.sta[t]? = some 2 ∧ s.liv[w]? = some true
  uniq : ∀ w w' t : Nat, s.tas[w]? = some (t : Int) → s.tas[w']? = some (t : Int) → w = w'
  run2 : ∀ t : Nat, s.sta[t]? = some 2 → ∃ w : Nat, s.tas[w]? = some (t : Int)
  rdy : ∀ t : Nat, s.sta[t]? = some 1 → ∃ v : Nat, s.loc[t]? = some (v : Int) ∧ s.liv[v]? = some true
theorem get_lt {α : Type} {l : List α} {i : Nat} {x : α} (h : l[i]? = some x) : i < l.length := (List.getElem?_eq_some_iff.1 h).1
theorem setAt {α : Type} {l : List α} {i j : Nat} {x y : α} (h : (l.set i x)[j]? = some y) : (i = j ∧ y = x) ∨ (i ≠ j ∧ l[j]? = some y) := by
  rw [List.getElem?_set] at h
  split at h
  · rename_i e
    split at h
    · injection h with h; exact .inl ⟨e, h.symm⟩
    · cases h
  · rename_i e; exact .inr ⟨e, h⟩
theorem set_ne {α : Type} {l : List α} {i j : Nat} {x : α} (h : i ≠ j) : (l.set i x)[j]? = l[j]? := List.getElem?_set_ne h
theorem set_eq {α : Type} {l : List α} {i : Nat} {x : α} (h : i < l.length) : (l.set i x)[i]? = some x := List.getElem?_set_self h
/-- A pool in which every task can still be done, or has been. -/
theorem progress {s : PS} (hw : PW s) (I : PI s) (h : ∃ t : Nat, t < s.par.length ∧ s.sta[t]? ≠ some 3) : (∃ t : Nat, s.sta[t]? = some 1) ∨ ∃ t : Nat, s.sta[t]? = some 2 := by
  obtain ⟨t, ht, hn⟩ := h
  induction t using Nat.strongRecOn with
  | _ t ih =>
    obtain ⟨x, hx⟩ : ∃ x, s.sta[t]? = some x := ⟨_, List.getElem?_eq_getElem (by rw [hw.sta]; exact ht)⟩
    rcases I.st t x hx with rfl | rfl | rfl | rfl
    · obtain ⟨c, hc, hp, hy⟩ := (held_iff hw).1 (I.wait t hx)
      rcases hw.par' c t hp with h1 | ⟨q, h1, h2, h3⟩
      · omega
      · exact ih c (by omega) hc hy
    · exact .inl ⟨t, hx⟩
    · exact .inr ⟨t, hx⟩
    · exact absurd hx hn
theorem PI_take {s : PS} (hw : PW s) (I : PI s) (w : Int) (hw' : PW (take s w).2) : PI (take s w).2 := by
  unfold take at hw' ⊢
  split at hw'
  · rename_i h; rw [if_pos h]; exact I
  rename_i hW
  rw [if_neg hW]
  split at hw'
  · rename_i h; rw [if_pos h]; exact I
  rename_i hR
  rw [if_neg hR]
  simp only at hw' ⊢
  split at hw'
  · rename_i hc
    rw [if_pos hc]
    obtain ⟨t, ht, h1⟩ := choose_ready hw hc
    obtain ⟨v, rfl, hv⟩ := isW_true (by simpa using hW)
    rw [ht, Int.toNat_natCast, Int.toNat_natCast] at hw' ⊢
    have htl := get_lt h1
    have hvl := get_lt hv
    rw [hw.liv] at hvl
    have hvf : ∀ u : Nat, s.tas[v]? = some (u : Int) → False := fun u hu => hR (by rw [runW_at hu]; omega)
    have hheld : ∀ u, held { s with sta := s.sta.set t 2, tas := s.tas.set v t } u = held s u := fun u => held_congr hw hw' rfl (fun c _ => by
      show s.sta[c]? = some 3 ↔ (s.sta.set t 2)[c]? = some 3
      by_cases e : t = c
      · subst e; rw [h1, set_eq htl]; simp
      · rw [set_ne e])
    refine ⟨fun u x hx => ?_, fun u hx => ?_, fun u x hx hx0 => ?_, fun u t' hx => ?_, fun u u' t' hx hx' => ?_, fun u hx => ?_, fun u hx => ?_⟩
    · rcases setAt hx with ⟨_, rfl⟩ | ⟨_, h⟩
      · omega
      · exact I.st u x h
    · rw [hheld]
      rcases setAt hx with ⟨_, h⟩ | ⟨_, h⟩
      · omega
      · exact I.wait u h
    · rw [hheld]
      rcases setAt hx with ⟨rfl, _⟩ | ⟨_, h⟩
      · exact I.free t 1 h1 (by decide)
      · exact I.free u x h hx0
    · rcases setAt hx with ⟨rfl, e⟩ | ⟨_, h⟩
      · obtain rfl : t' = t := by omega
        exact ⟨set_eq htl, hv⟩
      · have := I.run u t' h
        refine ⟨?_, this.2⟩
        show (s.sta.set t 2)[t']? = some 2
        by_cases e : t = t'
        · subst e; exact set_eq htl
        · rw [set_ne e]; exact this.1
    · rcases setAt hx with ⟨rfl, e⟩ | ⟨_, h⟩ <;> rcases setAt hx' with ⟨rfl, e'⟩ | ⟨_, h'⟩
      · rfl
      · obtain rfl : t' = t := by omega
        have := (I.run u' t' h').1
        rw [h1] at this; cases this
      · obtain rfl : t' = t := by omega
        have := (I.run u t' h).1
        rw [h1] at this; cases this
      · exact I.uniq u u' t' h h'
    · rcases setAt hx with ⟨rfl, _⟩ | ⟨_, h⟩
      · exact ⟨v, set_eq hvl⟩
      · obtain ⟨u', hu'⟩ := I.run2 u h
        refine ⟨u', ?_⟩
        show (s.tas.set v t)[u']? = some (u : Int)
        rw [set_ne (fun e => by subst e; exact hvf u hu')]
        exact hu'
    · rcases setAt hx with ⟨_, h⟩ | ⟨_, h⟩
      · omega
      · exact I.rdy u h
  · rename_i hc; rw [if_neg hc]; exact I
theorem PI_join {s : PS} (hw : PW s) (I : PI s) (w : Int) (hw' : PW (join s w).2) : PI (join s w).2 := by
  unfold join at hw' ⊢
  split at hw'
  · rename_i h; rw [if_pos h]; exact I
  rename_i h1
  rw [if_neg h1]
  split at hw'
  · rename_i h; rw [if_pos h]; exact I
  rename_i h2
  rw [if_neg h2]
  simp only at hw' ⊢
  have hmono : ∀ v : Nat, s.liv[v]? = some true → (s.liv.set w.toNat true)[v]? = some true := fun v hv => by
    by_cases e : w.toNat = v
    · rw [e]; exact set_eq (get_lt hv)
    · rw [set_ne e]; exact hv
  have hheld : ∀ u, held { s with liv := s.liv.set w.toNat true } u = held s u := fun u => rfl
  exact ⟨I.st, fun t h => I.wait t h, fun t x h hx => I.free t x h hx, fun u t h => ⟨(I.run u t h).1, hmono u (I.run u t h).2⟩, I.uniq, I.run2, fun t h => by
    obtain ⟨v, h3, h4⟩ := I.rdy t h
    exact ⟨v, h3, hmono v h4⟩⟩
end Go.Proofs.Ythlhjjokodmihaa
