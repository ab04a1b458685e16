/-
  What the document's pool shows in the beginning: plain facts.
-/
import Derived.Test.YthlhjjokodmihaaRt1
namespace Go.Proofs.Ythlhjjokodmihaa
open Go.RowKit
set_option linter.unusedSimpArgs false
set_option linter.unusedVariables false
def freeD (par : List Int) (fin bro : List Bool) (t : Nat) : Bool := !heldD par fin t && !(fin[t]?.getD false) && !(bro[t]?.getD false)
def atI (par own : List Int) (fin bro : List Bool) (i : Nat) : List Int := (List.range par.length).map fun t => if t < i ∧ freeD par fin bro t = true then own[t]?.getD 0 else -1
@[simp] theorem atI_len (par own : List Int) (fin bro : List Bool) (i : Nat) : (atI par own fin bro i).length = par.length := by simp [atI]
theorem atI_zero (par own : List Int) (fin bro : List Bool) : atI par own fin bro 0 = List.replicate par.length (-1) := by
  apply List.ext_getElem?
  intro j
  unfold atI
  by_cases hj : j < par.length
  · rw [List.getElem?_map, List.getElem?_range hj, List.getElem?_replicate, if_pos hj]; simp
  · rw [List.getElem?_eq_none (by simp; omega), List.getElem?_eq_none (by simp; omega)]
theorem atI_yes {par own : List Int} {fin bro : List Bool} {i : Nat} {o : Int} (hi : i < par.length) (ho : own[i]? = some o) (h : freeD par fin bro i = true) : (atI par own fin bro i).set i o = atI par own fin bro (i + 1) := by
  apply List.ext_getElem?
  intro j
  rw [List.getElem?_set, atI_len]
  unfold atI
  by_cases hj : j < par.length
  · rw [List.getElem?_map, List.getElem?_map, List.getElem?_range hj]
    by_cases e : i = j
    · subst e; rw [if_pos rfl, if_pos hi]; simp [h, ho]
    · rw [if_neg e]
      simp only [Option.map_some]
      congr 2
      rw [eq_iff_iff]
      exact ⟨fun a => ⟨by omega, a.2⟩, fun a => ⟨by omega, a.2⟩⟩
  · rw [if_neg (by omega), List.getElem?_eq_none (by simp; omega), List.getElem?_eq_none (by simp; omega)]
theorem atI_no {par own : List Int} {fin bro : List Bool} {i : Nat} (h : freeD par fin bro i = false) : atI par own fin bro (i + 1) = atI par own fin bro i := by
  unfold atI
  refine List.map_congr_left fun j _ => ?_
  by_cases e : j = i
  · subst e; rw [if_neg (fun a => by rw [h] at a; cases a.2), if_neg (fun a => by omega)]
  · by_cases e2 : j < i
    · congr 1
      rw [eq_iff_iff]
      exact ⟨fun a => ⟨by omega, a.2⟩, fun a => ⟨by omega, a.2⟩⟩
    · rw [if_neg (fun a => by omega), if_neg (fun a => by omega)]
theorem mark_three {fin bro : List Bool} {t : Nat} : (mark fin bro t == 3) = fin[t]?.getD false := by
  unfold mark
  cases fin[t]?.getD false
  · cases bro[t]?.getD false <;> rfl
  · rfl
theorem mark_zero {fin bro : List Bool} {t : Nat} : mark fin bro t = 0 ↔ fin[t]?.getD false = false ∧ bro[t]?.getD false = false := by
  unfold mark
  cases fin[t]?.getD false
  · cases bro[t]?.getD false <;> simp
  · simp
theorem doneW_st0 {par own : List Int} {k : Nat} {fin bro : List Bool} (hf : fin.length = par.length) : doneW (st0 par own k fin bro) = fin := by
  apply List.ext_getElem?
  intro j
  unfold doneW
  show (((List.range par.length).map (mark fin bro)).map fun x => x == 3)[j]? = fin[j]?
  by_cases hj : j < par.length
  · rw [List.getElem?_map, List.getElem?_map, List.getElem?_range hj]
    simp only [Option.map_some, mark_three]
    rw [List.getElem?_eq_getElem (by omega)]; rfl
  · rw [List.getElem?_eq_none (by simp; omega), List.getElem?_eq_none (by omega)]
theorem failW_st0 {par own : List Int} {k : Nat} {fin bro : List Bool} (hb : bro.length = par.length) (hc : consP par fin bro = true) : failW (st0 par own k fin bro) = bro := by
  apply List.ext_getElem?
  intro j
  unfold failW
  show (((List.range par.length).map (mark fin bro)).map fun x => x == 4)[j]? = bro[j]?
  by_cases hj : j < par.length
  · rw [List.getElem?_map, List.getElem?_map, List.getElem?_range hj]
    simp only [Option.map_some]
    have hb2 : bro[j]? = some (bro[j]?.getD false) := by rw [List.getElem?_eq_getElem (by omega)]; rfl
    rw [hb2]
    congr 1
    have hn : badC par fin bro j = false := by
      cases e : badC par fin bro j with
      | false => rfl
      | true => unfold consP at hc; rw [any_yes hj e] at hc; cases hc
    unfold badC at hn
    rw [Bool.or_eq_false_iff] at hn
    have h1 := hn.1
    unfold mark
    cases e1 : fin[j]?.getD false
    · cases e2 : bro[j]?.getD false <;> rfl
    · rw [e1] at h1
      rw [show bro[j]?.getD false = false by simpa using h1]; rfl
  · rw [List.getElem?_eq_none (by simp; omega), List.getElem?_eq_none (by omega)]
theorem st0_held {par own : List Int} {k : Int} {fin bro : List Bool} (h : resumeE par own k fin bro = 0) (t : Nat) : held (st0 par own k.toNat fin bro) t = heldD par fin t := by
  obtain ⟨hc, hf, hb, hcs⟩ := resumeE_ok h
  rw [← heldD_view (st0_wf fin bro hc), doneW_st0 hf]; rfl
theorem next_all {k q : Nat} (h : q < k) : nextW (List.replicate k true) q = q := nextW_live (by rw [List.length_replicate]; exact h) (by rw [List.getElem?_replicate, if_pos h])
/-- The rows of states and places behind the releases of i tasks. -/
theorem relF_rows {par own : List Int} {k : Int} {fin bro : List Bool} (h : resumeE par own k fin bro = 0) : ∀ i, i ≤ par.length → ∀ t, t < par.length →
    (relF (st0 par own k.toNat fin bro) i).sta[t]? = some (if t < i ∧ freeD par fin bro t = true then 1 else mark fin bro t) ∧ (relF (st0 par own k.toNat fin bro) i).loc[t]? = some (if t < i ∧ freeD par fin bro t = true then own[t]?.getD 0 else 0) ∧ held (relF (st0 par own k.toNat fin bro) i) t = heldD par fin t
  | 0, _, t, ht => by
    refine ⟨?_, ?_, st0_held h t⟩
    · show ((List.range par.length).map (mark fin bro))[t]? = _
      rw [List.getElem?_map, List.getElem?_range ht, if_neg (by omega)]; rfl
    · show (List.replicate par.length (0 : Int))[t]? = _
      rw [List.getElem?_replicate, if_pos ht, if_neg (by omega)]
  | i + 1, hi, t, ht => by
    have ih := relF_rows h i (by omega)
    have J := PJ_relF (PJ_st0 h) i (by show i ≤ par.length; omega)
    have hrl := relF_len (st0 par own k.toNat fin bro) i
    have hlt : i < (relF (st0 par own k.toNat fin bro) i).par.length := by rw [relF_par]; show i < par.length; omega
    obtain ⟨a1, a2, a3⟩ := ih i (by omega)
    rw [if_neg (by omega)] at a1 a2
    obtain ⟨hc, hf, hb, hcs⟩ := resumeE_ok h
    obtain ⟨c1, c2, ⟨c3, c4⟩, c5, c6⟩ := checkP_ok hc
    rw [relF_succ]
    by_cases hm : mark fin bro i = 0
    · rcases bool_cases (heldD par fin i) with hh | hh
      · have hfr : freeD par fin bro i = false := by unfold freeD; rw [hh]; rfl
        rw [release_still (by rw [a3]; exact hh)]
        obtain ⟨b1, b2, b3⟩ := ih t ht
        have e : (t < i + 1 ∧ freeD par fin bro t = true) ↔ (t < i ∧ freeD par fin bro t = true) := ⟨fun a => ⟨by
          by_cases e : t = i
          · subst e; rw [hfr] at a; cases a.2
          · omega, a.2⟩, fun a => ⟨by omega, a.2⟩⟩
        simp only [e]
        exact ⟨b1, b2, b3⟩
      · obtain ⟨o, ho⟩ : ∃ o, own[i]? = some o := ⟨_, List.getElem?_eq_getElem (by omega)⟩
        have ho2 : (relF (st0 par own k.toNat fin bro) i).own[i]? = some o := by rw [hrl.2.1]; exact ho
        obtain ⟨q, rfl, hq⟩ := J.wf.own' i o ho2
        have hfr : freeD par fin bro i = true := by unfold freeD; rw [hh, (mark_zero.1 hm).1, (mark_zero.1 hm).2]; rfl
        rw [hm] at a1
        have hq2 : q < k.toNat := by
          rw [hrl.1] at hq
          have : (List.replicate k.toNat (-1 : Int)).length = k.toNat := List.length_replicate
          have hq : q < (List.replicate k.toNat (-1 : Int)).length := hq
          omega
        have hrel := release_free a1 (by rw [a3]; exact hh) ho2
        have hwf := PJ_release J hlt
        rw [hrl.2.2, show (st0 par own k.toNat fin bro).liv = List.replicate k.toNat true from rfl, next_all hq2] at hrel
        rw [hrel] at hwf ⊢
        obtain ⟨b1, b2, b3⟩ := ih t ht
        refine ⟨?_, ?_, ?_⟩
        · show ((relF (st0 par own k.toNat fin bro) i).sta.set i 1)[t]? = _
          by_cases e : i = t
          · subst e; rw [set_eq (get_lt a1), if_pos ⟨by omega, hfr⟩]
          · rw [set_ne e, b1]
            congr 1
            have e2 : (t < i + 1 ∧ freeD par fin bro t = true) ↔ (t < i ∧ freeD par fin bro t = true) := ⟨fun a => ⟨by omega, a.2⟩, fun a => ⟨by omega, a.2⟩⟩
            simp only [e2]
        · show ((relF (st0 par own k.toNat fin bro) i).loc.set i (q : Int))[t]? = _
          by_cases e : i = t
          · subst e; rw [set_eq (get_lt a2), if_pos ⟨by omega, hfr⟩, ho]; rfl
          · rw [set_ne e, b2]
            congr 1
            have e2 : (t < i + 1 ∧ freeD par fin bro t = true) ↔ (t < i ∧ freeD par fin bro t = true) := ⟨fun a => ⟨by omega, a.2⟩, fun a => ⟨by omega, a.2⟩⟩
            simp only [e2]
        · rw [← b3]
          exact held_congr J.wf hwf.wf rfl (fun c _ => by
            show (relF (st0 par own k.toNat fin bro) i).sta[c]? = some 3 ↔ ((relF (st0 par own k.toNat fin bro) i).sta.set i 1)[c]? = some 3
            by_cases e : i = c
            · subst e; rw [a1, set_eq (get_lt a1)]; simp
            · rw [set_ne e])
    · have hfr : freeD par fin bro i = false := by
        cases e : freeD par fin bro i with
        | false => rfl
        | true =>
          exfalso
          unfold freeD at e
          rw [Bool.and_eq_true, Bool.and_eq_true] at e
          exact hm (mark_zero.2 ⟨by simpa using e.1.2, by simpa using e.2⟩)
      rw [release_busy a1 hm]
      obtain ⟨b1, b2, b3⟩ := ih t ht
      have e : (t < i + 1 ∧ freeD par fin bro t = true) ↔ (t < i ∧ freeD par fin bro t = true) := ⟨fun a => ⟨by
        by_cases e : t = i
        · subst e; rw [hfr] at a; cases a.2
        · omega, a.2⟩, fun a => ⟨by omega, a.2⟩⟩
      simp only [e]
      exact ⟨b1, b2, b3⟩
/-- The beginning, as the document shows it. -/
theorem resume_view {par own : List Int} {k : Int} {fin bro : List Bool} (h : resumeE par own k fin bro = 0) : (resumeS par own k fin bro).par = par ∧ (resumeS par own k fin bro).own = own ∧ (resumeS par own k fin bro).tas = List.replicate k.toNat (-1) ∧ (resumeS par own k fin bro).liv = List.replicate k.toNat true ∧
    doneW (resumeS par own k fin bro) = fin ∧ failW (resumeS par own k fin bro) = bro ∧ atW (resumeS par own k fin bro) = atI par own fin bro par.length := by
  obtain ⟨hc, hf, hb, hcs⟩ := resumeE_ok h
  have hr := relF_rows h par.length (Nat.le_refl _)
  have hl := relF_len (st0 par own k.toNat fin bro) par.length
  have hp : (resumeS par own k fin bro).par = par := relF_par _ _
  have J := PJ_resume h
  have hst : ∀ t, t < par.length → (resumeS par own k fin bro).sta[t]? = some (if freeD par fin bro t = true then 1 else mark fin bro t) := fun t ht => by
    have := (hr t ht).1
    have e : (t < par.length ∧ freeD par fin bro t = true) ↔ freeD par fin bro t = true := ⟨fun a => a.2, fun a => ⟨ht, a⟩⟩
    simp only [e] at this
    exact this
  have hlo : ∀ t, t < par.length → (resumeS par own k fin bro).loc[t]? = some (if freeD par fin bro t = true then own[t]?.getD 0 else 0) := fun t ht => by
    have := (hr t ht).2.1
    have e : (t < par.length ∧ freeD par fin bro t = true) ↔ freeD par fin bro t = true := ⟨fun a => a.2, fun a => ⟨ht, a⟩⟩
    simp only [e] at this
    exact this
  have hmk : ∀ t, freeD par fin bro t = true → mark fin bro t = 0 := fun t e => by
    unfold freeD at e
    rw [Bool.and_eq_true, Bool.and_eq_true] at e
    exact mark_zero.2 ⟨by simpa using e.1.2, by simpa using e.2⟩
  have hm1 : ∀ t, mark fin bro t ≠ 1 := fun t e => by
    unfold mark at e
    split at e
    · cases e
    · split at e <;> cases e
  refine ⟨hp, hl.2.1, hl.1, hl.2.2, ?_, ?_, ?_⟩
  · refine Eq.trans ?_ (doneW_st0 (par := par) (own := own) (k := k.toNat) (bro := bro) hf)
    apply List.ext_getElem?
    intro j
    unfold doneW
    rw [List.getElem?_map, List.getElem?_map]
    by_cases hj : j < par.length
    · rw [hst j hj, show (st0 par own k.toNat fin bro).sta[j]? = some (mark fin bro j) from by show ((List.range par.length).map (mark fin bro))[j]? = _; rw [List.getElem?_map, List.getElem?_range hj]; rfl]
      simp only [Option.map_some]
      split
      · rename_i e; rw [hmk j e]; rfl
      · rfl
    · rw [List.getElem?_eq_none (by rw [J.wf.sta, hp]; omega), List.getElem?_eq_none (by show ((List.range par.length).map (mark fin bro)).length ≤ j; simp; omega)]
  · refine Eq.trans ?_ (failW_st0 (par := par) (own := own) (k := k.toNat) (fin := fin) hb hcs)
    apply List.ext_getElem?
    intro j
    unfold failW
    rw [List.getElem?_map, List.getElem?_map]
    by_cases hj : j < par.length
    · rw [hst j hj, show (st0 par own k.toNat fin bro).sta[j]? = some (mark fin bro j) from by show ((List.range par.length).map (mark fin bro))[j]? = _; rw [List.getElem?_map, List.getElem?_range hj]; rfl]
      simp only [Option.map_some]
      split
      · rename_i e; rw [hmk j e]; rfl
      · rfl
    · rw [List.getElem?_eq_none (by rw [J.wf.sta, hp]; omega), List.getElem?_eq_none (by show ((List.range par.length).map (mark fin bro)).length ≤ j; simp; omega)]
  · unfold atW atI
    rw [hp]
    refine List.map_congr_left fun t ht => ?_
    have ht := List.mem_range.1 ht
    rw [atX_of (hst t ht) (hlo t ht)]
    by_cases e : freeD par fin bro t = true
    · rw [if_pos e, if_pos e, if_pos rfl, if_pos ⟨ht, e⟩]
    · rw [if_neg e, if_neg e, if_neg (hm1 t), if_neg (fun a => e a.2)]
end Go.Proofs.Ythlhjjokodmihaa
