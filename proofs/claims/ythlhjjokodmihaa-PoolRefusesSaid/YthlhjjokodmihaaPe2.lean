/-
  What a pool keeps: a task's end, a worker's loss, the beginning.
-/
import Derived.Test.YthlhjjokodmihaaPe1
namespace Go.Proofs.Ythlhjjokodmihaa
open Go.RowKit
set_option linter.unusedSimpArgs false
set_option linter.unusedVariables false
theorem nextW_true {liv : List Bool} {w : Nat} (h : ∃ v : Nat, liv[v]? = some true) (hw : w < liv.length) : liv[nextW liv w]? = some true := by
  obtain ⟨h1, h2, _⟩ := dist_lt h w hw
  unfold liveAt at h2
  rw [nextW_dist]
  cases e : liv[(w + dist liv w) % liv.length]? with
  | none => rw [e] at h2; cases h2
  | some x => rw [e] at h2; simp at h2; rw [h2]
theorem release_cases {s : PS} (hw : PW s) {t : Nat} (ht : t < s.par.length) : (release s t = s ∧ (s.sta[t]? ≠ some 0 ∨ held s t = true)) ∨ (s.sta[t]? = some 0 ∧ held s t = false ∧ ∃ v : Nat, s.liv[v]? = some true ∧ release s t = { s with sta := s.sta.set t 1, loc := s.loc.set t (v : Int) }) := by
  obtain ⟨x, hx⟩ : ∃ x, s.sta[t]? = some x := ⟨_, List.getElem?_eq_getElem (by rw [hw.sta]; exact ht)⟩
  by_cases h0 : x = 0
  · subst h0
    rcases bool_cases (held s t) with hh | hh
    · exact .inl ⟨release_held hx hh, .inr hh⟩
    · obtain ⟨o, ho⟩ : ∃ o, s.own[t]? = some o := ⟨_, List.getElem?_eq_getElem (by rw [hw.own]; exact ht)⟩
      obtain ⟨q, rfl, hq⟩ := hw.own' t o ho
      exact .inr ⟨hx, hh, nextW s.liv q, nextW_true hw.live (by rw [hw.liv]; exact hq), release_free hx hh ho⟩
  · exact .inl ⟨release_busy hx h0, .inl (by rw [hx]; simp [h0])⟩
theorem PI_ended {s : PS} (hw : PW s) (I : PI s) {v t : Nat} {p : Int} (hv : s.tas[v]? = some (t : Int)) (hp : s.par[t]? = some p)
    (hw1 : PW { s with sta := s.sta.set t 3, tas := s.tas.set v (-1) }) : 
    (∀ (u : Nat) (x : Int), (s.sta.set t 3)[u]? = some x → x = 0 ∨ x = 1 ∨ x = 2 ∨ x = 3) ∧ (∀ u : Nat, (s.sta.set t 3)[u]? = some 0 → p ≠ u → held { s with sta := s.sta.set t 3, tas := s.tas.set v (-1) } u = true) ∧
    (∀ (u : Nat) (x : Int), (s.sta.set t 3)[u]? = some x → x ≠ 0 → held { s with sta := s.sta.set t 3, tas := s.tas.set v (-1) } u = false) ∧ (∀ w u : Nat, (s.tas.set v (-1))[w]? = some (u : Int) → (s.sta.set t 3)[u]? = some 2 ∧ s.liv[w]? = some true) ∧
    (∀ w w' u : Nat, (s.tas.set v (-1))[w]? = some (u : Int) → (s.tas.set v (-1))[w']? = some (u : Int) → w = w') ∧ (∀ u : Nat, (s.sta.set t 3)[u]? = some 2 → ∃ w : Nat, (s.tas.set v (-1))[w]? = some (u : Int)) ∧
    (∀ u : Nat, (s.sta.set t 3)[u]? = some 1 → ∃ x : Nat, s.loc[u]? = some (x : Int) ∧ s.liv[x]? = some true) ∧ (∀ q : Nat, p = q → s.sta[q]? = some 0 ∧ q ≠ t) := by
  have h2 := (I.run v t hv).1
  have htl := get_lt h2
  have hvl := get_lt hv
  have hheld : ∀ u : Nat, p ≠ u → held { s with sta := s.sta.set t 3, tas := s.tas.set v (-1) } u = held s u := fun u hu => held_congr hw hw1 rfl (fun c hc => by
    show s.sta[c]? = some 3 ↔ (s.sta.set t 3)[c]? = some 3
    rw [set_ne]
    intro e; subst e; rw [hp] at hc; injection hc with hc; exact hu hc)
  have hpt : p ≠ t := by
    rcases hw.par' t p hp with h | ⟨q, h, h3, _⟩ <;> omega
  have hq : ∀ q : Nat, p = q → s.sta[q]? = some 0 ∧ q ≠ t := fun q hq => by
    subst hq
    refine ⟨?_, by omega⟩
    have hql : q < s.par.length := by
      rcases hw.par' t _ hp with h | ⟨q', h, _, h4⟩ <;> omega
    obtain ⟨x, hx⟩ : ∃ x, s.sta[q]? = some x := ⟨_, List.getElem?_eq_getElem (by rw [hw.sta]; exact hql)⟩
    by_cases h0 : x = 0
    · rw [hx, h0]
    · have := held_no hw (I.free q x hx h0) hp
      rw [h2] at this; cases this
  refine ⟨fun u x hx => ?_, fun u hx hu => ?_, fun u x hx hx0 => ?_, fun w u hx => ?_, fun w w' u hx hx' => ?_, fun u hx => ?_, fun u hx => ?_, hq⟩
  · rcases setAt hx with ⟨_, rfl⟩ | ⟨_, h⟩
    · omega
    · exact I.st u x h
  · rcases setAt hx with ⟨_, h⟩ | ⟨_, h⟩
    · omega
    · rw [hheld u hu]; exact I.wait u h
  · rcases setAt hx with ⟨rfl, _⟩ | ⟨_, h⟩
    · rw [hheld t hpt]; exact I.free t 2 h2 (by decide)
    · rw [hheld u (fun e => by have := (hq u e).1; rw [h] at this; injection this with this; exact hx0 this)]
      exact I.free u x h hx0
  · rcases setAt hx with ⟨_, h⟩ | ⟨hne, h⟩
    · omega
    · have := I.run w u h
      refine ⟨?_, this.2⟩
      rw [set_ne (fun e => by subst e; exact hne (I.uniq v w t hv h))]
      exact this.1
  · rcases setAt hx with ⟨_, h⟩ | ⟨_, h⟩
    · omega
    · rcases setAt hx' with ⟨_, h'⟩ | ⟨_, h'⟩
      · omega
      · exact I.uniq w w' u h h'
  · rcases setAt hx with ⟨_, h⟩ | ⟨hne, h⟩
    · omega
    · obtain ⟨w, hw'⟩ := I.run2 u h
      refine ⟨w, ?_⟩
      rw [set_ne (fun e => by subst e; rw [hv] at hw'; injection hw' with hw'; exact hne (by omega))]
      exact hw'
  · rcases setAt hx with ⟨_, h⟩ | ⟨_, h⟩
    · omega
    · exact I.rdy u h
/-- The end of a task. -/
theorem PI_end {s : PS} (hw : PW s) (I : PI s) (w : Int) (hw1 : ∀ v t : Nat, s.tas[v]? = some (t : Int) → PW { s with sta := s.sta.set t 3, tas := s.tas.set v (-1) }) (hw' : PW (endW s w 3).2) : PI (endW s w 3).2 := by
  unfold endW at hw' ⊢
  split at hw'
  · rename_i h; rw [if_pos h]; exact I
  rename_i hW
  rw [if_neg hW]
  split at hw'
  · rename_i h; rw [if_pos h]; exact I
  rename_i hR
  rw [if_neg hR]
  simp only at hw' ⊢
  obtain ⟨v, rfl, hv⟩ := isW_true (by simpa using hW)
  have hvl := get_lt hv
  rw [hw.liv] at hvl
  obtain ⟨x, hx⟩ : ∃ x, s.tas[v]? = some x := ⟨_, List.getElem?_eq_getElem hvl⟩
  have hr := runW_at hx
  rw [hr] at hR
  rcases hw.tas' v x hx with h | ⟨t, rfl, ht⟩
  · omega
  obtain ⟨p, hp⟩ : ∃ p, s.par[t]? = some p := ⟨_, List.getElem?_eq_getElem ht⟩
  have hE : ended s v 3 = { s with sta := s.sta.set t 3, tas := s.tas.set v (-1) } := by unfold ended; rw [hr, Int.toNat_natCast, Int.toNat_natCast]
  have hwf1 := hw1 v t hx
  rw [hr, Int.toNat_natCast, hp, hE] at hw' ⊢
  simp only [Option.getD_some] at hw' ⊢
  obtain ⟨a1, a2, a3, a4, a5, a6, a7, a8⟩ := PI_ended hw I hx hp hwf1
  rcases hw.par' t p hp with rfl | ⟨q, rfl, hq1, hq2⟩
  · rw [if_neg (by decide)]
    exact ⟨a1, fun u h => a2 u h (by omega), a3, a4, a5, a6, a7⟩
  · rw [if_pos (by omega), Int.toNat_natCast] at hw' ⊢
    obtain ⟨b1, b2⟩ := a8 q rfl
    have c1 : (s.sta.set t 3)[q]? = some 0 := by rw [set_ne (fun e => b2 e.symm)]; exact b1
    rcases release_cases hwf1 (t := q) hq2 with ⟨h1, h2⟩ | ⟨h1, h2, z, h3, h4⟩
    · rw [h1]
      have hh := h2.resolve_left (fun h => h c1)
      refine ⟨a1, fun u h => ?_, a3, a4, a5, a6, a7⟩
      by_cases e : u = q
      · subst e; exact hh
      · exact a2 u h (by omega)
    · rw [h4] at hw' ⊢
      have hql := get_lt c1
      have hll : q < s.loc.length := by rw [hw.loc]; exact hq2
      have hheld : ∀ u : Nat, held { s with sta := (s.sta.set t 3).set q 1, loc := s.loc.set q (z : Int), tas := s.tas.set v (-1) } u = held { s with sta := s.sta.set t 3, tas := s.tas.set v (-1) } u := fun u => held_congr hwf1 hw' rfl (fun c _ => by
        show (s.sta.set t 3)[c]? = some 3 ↔ ((s.sta.set t 3).set q 1)[c]? = some 3
        by_cases e : q = c
        · subst e; rw [c1, set_eq hql]; simp
        · rw [set_ne e])
      refine ⟨fun u x hx => ?_, fun u hx => ?_, fun u x hx hx0 => ?_, fun w u hx => ?_, a5, fun u hx => ?_, fun u hx => ?_⟩
      · rcases setAt hx with ⟨_, rfl⟩ | ⟨_, h⟩
        · omega
        · exact a1 u x h
      · rw [hheld]
        rcases setAt hx with ⟨_, h⟩ | ⟨e, h⟩
        · omega
        · exact a2 u h (by omega)
      · rw [hheld]
        rcases setAt hx with ⟨rfl, _⟩ | ⟨_, h⟩
        · exact h2
        · exact a3 u x h hx0
      · have := a4 w u hx
        refine ⟨?_, this.2⟩
        show ((s.sta.set t 3).set q 1)[u]? = some 2
        rw [set_ne (fun e => by subst e; rw [c1] at this; cases this.1)]
        exact this.1
      · rcases setAt hx with ⟨_, h⟩ | ⟨_, h⟩
        · omega
        · exact a6 u h
      · rcases setAt hx with ⟨rfl, _⟩ | ⟨hne, h⟩
        · exact ⟨z, set_eq hll, h3⟩
        · obtain ⟨x, hx1, hx2⟩ := a7 u h
          exact ⟨x, by show (s.loc.set q (z : Int))[u]? = some (x : Int); rw [set_ne hne]; exact hx1, hx2⟩
theorem foldl_setI {x : Int} : ∀ (l : List Nat) (m : List Int) (u : Nat), u < m.length → (l.foldl (fun m t => m.set t x) m)[u]? = if u ∈ l then some x else m[u]?
  | [], m, u, _ => by simp
  | t :: l, m, u, hu => by
    rw [List.foldl_cons, foldl_setI l (m.set t x) u (by rw [List.length_set]; exact hu)]
    by_cases h : u ∈ l
    · rw [if_pos h, if_pos (List.mem_cons_of_mem _ h)]
    · rw [if_neg h]
      by_cases e : t = u
      · subst e; rw [set_eq hu, if_pos List.mem_cons_self]
      · rw [set_ne e, if_neg (by simp only [List.mem_cons, not_or]; exact ⟨fun h => e h.symm, h⟩)]
theorem moved_get {s : PS} {w : Int} {tw u : Nat} (hu : u < s.loc.length) : (moved s w tw)[u]? = if u ∈ readyW s w then some (tw : Int) else s.loc[u]? := foldl_setI _ _ u hu
theorem moved_len (s : PS) (w : Int) (tw : Nat) : (moved s w tw).length = s.loc.length := by rw [← movedF_all]; exact movedF_len s w tw _
/-- The loss of a worker. -/
theorem PI_lose {s : PS} (hw : PW s) (I : PI s) (w : Int) (hw' : PW (lose s w).2) : PI (lose s w).2 := by
  unfold lose at hw' ⊢
  split at hw'
  · rename_i h; rw [if_pos h]; exact I
  rename_i hW
  rw [if_neg hW]
  split at hw'
  · rename_i h; rw [if_pos h]; exact I
  rename_i hC
  rw [if_neg hC]
  simp only at hw' ⊢
  obtain ⟨v, rfl, hv⟩ := isW_true (by simpa using hW)
  have hvl := get_lt hv
  rw [Int.toNat_natCast] at hw' hC ⊢
  have hlive : ∃ u : Nat, (s.liv.set v false)[u]? = some true := by
    have hc : (s.liv.set v false).contains true = true := by simpa using hC
    rw [List.contains_iff_mem] at hc
    exact List.mem_iff_getElem?.1 hc
  have hto := nextW_true hlive (w := v) (by rw [List.length_set]; exact hvl)
  generalize nextW (s.liv.set v false) v = tw at hw' hto ⊢
  have hoth : ∀ u : Nat, u ≠ v → s.liv[u]? = some true → (s.liv.set v false)[u]? = some true := fun u hu h => by rw [set_ne (fun e => hu e.symm)]; exact h
  obtain ⟨x, hx⟩ : ∃ x, s.tas[v]? = some x := ⟨_, List.getElem?_eq_getElem (by rw [← hw.liv]; exact hvl)⟩
  have hr := runW_at hx
  rw [hr] at hw' ⊢
  have hrdy : ∀ u : Nat, s.sta[u]? = some 1 → ∃ z : Nat, (moved s v tw)[u]? = some (z : Int) ∧ (s.liv.set v false)[z]? = some true := fun u hu => by
    obtain ⟨z, h1, h2⟩ := I.rdy u hu
    rw [moved_get (get_lt h1)]
    by_cases e : z = v
    · subst e
      rw [if_pos ((mem_readyW hw).2 ⟨hu, h1⟩)]
      exact ⟨tw, rfl, hto⟩
    · rw [if_neg (fun h => by have := ((mem_readyW hw).1 h).2; rw [h1] at this; injection this with this; omega)]
      exact ⟨z, h1, hoth z e h2⟩
  rcases hw.tas' v x hx with rfl | ⟨t, rfl, ht⟩
  · rw [if_neg (by decide)] at hw' ⊢
    refine ⟨I.st, fun u h => I.wait u h, fun u x h hx => I.free u x h hx, fun u t h => ⟨(I.run u t h).1, hoth u (fun e => by subst e; rw [hx] at h; injection h with h; omega) (I.run u t h).2⟩, I.uniq, I.run2, hrdy⟩
  · rw [if_pos (by omega), Int.toNat_natCast] at hw' ⊢
    have h2 := (I.run v t hx).1
    have htl := get_lt h2
    have hml : t < (moved s v tw).length := by rw [moved_len, hw.loc]; exact ht
    have hheld : ∀ u : Nat, held { s with liv := s.liv.set v false, sta := s.sta.set t 1, loc := (moved s v tw).set t (tw : Int), tas := s.tas.set v (-1) } u = held s u := fun u => held_congr hw hw' rfl (fun c _ => by
      show s.sta[c]? = some 3 ↔ (s.sta.set t 1)[c]? = some 3
      by_cases e : t = c
      · subst e; rw [h2, set_eq htl]; simp
      · rw [set_ne e])
    refine ⟨fun u x hx => ?_, fun u hx => ?_, fun u x hx hx0 => ?_, fun u t' hx' => ?_, fun u u' t' h1 h1' => ?_, fun u h1 => ?_, fun u h1 => ?_⟩
    · rcases setAt hx with ⟨_, rfl⟩ | ⟨_, h⟩
      · omega
      · exact I.st u x h
    · rw [hheld]
      rcases setAt hx with ⟨_, h⟩ | ⟨_, h⟩
      · omega
      · exact I.wait u h
    · rw [hheld]
      rcases setAt hx with ⟨rfl, _⟩ | ⟨_, h⟩
      · exact I.free t 2 h2 (by decide)
      · exact I.free u x h hx0
    · rcases setAt hx' with ⟨_, h⟩ | ⟨hne, h⟩
      · omega
      · have := I.run u t' h
        refine ⟨?_, hoth u (fun e => hne e.symm) this.2⟩
        show (s.sta.set t 1)[t']? = some 2
        rw [set_ne (fun e => by subst e; exact hne (I.uniq v u t hx h))]
        exact this.1
    · rcases setAt h1 with ⟨_, h⟩ | ⟨_, h⟩
      · omega
      · rcases setAt h1' with ⟨_, h'⟩ | ⟨_, h'⟩
        · omega
        · exact I.uniq u u' t' h h'
    · rcases setAt h1 with ⟨_, h⟩ | ⟨hne, h⟩
      · omega
      · obtain ⟨z, hz⟩ := I.run2 u h
        refine ⟨z, ?_⟩
        show (s.tas.set v (-1))[z]? = some (u : Int)
        rw [set_ne (fun e => by subst e; rw [hx] at hz; injection hz with hz; exact hne (by omega))]
        exact hz
    · rcases setAt h1 with ⟨rfl, _⟩ | ⟨hne, h⟩
      · exact ⟨tw, set_eq hml, hto⟩
      · obtain ⟨z, h3, h4⟩ := hrdy u h
        exact ⟨z, by show ((moved s v tw).set t (tw : Int))[u]? = some (z : Int); rw [set_ne hne]; exact h3, h4⟩
end Go.Proofs.Ythlhjjokodmihaa
