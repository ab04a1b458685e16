/-
  The pool's check, consistent and Clone.
-/
import Derived.Test.YthlhjjokodmihaaPl4
namespace Go.Proofs.Ythlhjjokodmihaa
open Go.RowKit
set_option linter.unusedSimpArgs false
set_option linter.unusedVariables false
def badP (par : List Int) (t : Nat) : Bool := par[t]?.getD 0 != -1 && (decide (par[t]?.getD 0 ≤ (t : Int)) || decide ((par.length : Int) ≤ par[t]?.getD 0))
def badPar (par : List Int) : Bool := (List.range par.length).any (badP par)
def badO (own : List Int) (k : Int) (t : Nat) : Bool := decide (own[t]?.getD 0 < 0) || decide (k ≤ own[t]?.getD 0)
def badOwn (own : List Int) (k : Int) : Bool := (List.range own.length).any (badO own k)
def checkP (par own : List Int) (k : Int) : Int := if 200 < par.length then 6 else if badPar par then 190 else if k < 1 ∨ 8 < k then 331 else if own.length ≠ par.length then 2 else if badOwn own k then 3 else 0
theorem any_yes {n i : Nat} {p : Nat → Bool} (hi : i < n) (h : p i = true) : (List.range n).any p = true := List.any_eq_true.2 ⟨i, List.mem_range.2 hi, h⟩
theorem any_no {n : Nat} {p : Nat → Bool} (h : ∀ i, i < n → p i = false) : (List.range n).any p = false := by
  rw [List.any_eq_false]; intro i hi; rw [h i (List.mem_range.1 hi)]; decide
/-- A slice of numbers, as a range that is read. -/
theorem Rd.rng {w : World} {p : Option Addr} {n c : Nat} {cs : List Value} (h : Rd w (.slice p n c) n cs) (hc : cs ≠ []) : ∃ b off, p = some ⟨b, off, none⟩ ∧ b < w.heap.size ∧ ∀ (j : Nat) u, cs[j]? = some u → w.cell? ⟨b, off + j, none⟩ = some u := by
  obtain ⟨b, off, c', he, hb, hcell⟩ := h.addr hc
  injection he with e1 _ _
  exact ⟨b, off, e1, hb, hcell⟩
theorem ints_ne {l : List Int} {i : Nat} (h : i < l.length) : ints l ≠ [] := fun e => by have := congrArg List.length e; rw [ints_len, List.length_nil] at this; omega
theorem boolsV_ne {l : List Bool} {i : Nat} (h : i < l.length) : boolsV l ≠ [] := fun e => by have := congrArg List.length e; rw [boolsV_len, List.length_nil] at this; omega
set_option maxHeartbeats 4000000 in
set_option maxRecDepth 100000 in
theorem check_any {w : World} {p q : Option Addr} {c d : Nat} (par own : List Int) (k : Int) (hp : Rd w (.slice p par.length c) par.length (ints par)) (hq : Rd w (.slice q own.length d) own.length (ints own)) (hol : own.length ≤ 1000000) :
    Calls Try.prog 43 #[.slice p par.length c, .slice q own.length d, .int .i64 k] w fun e w' => e = .returned (.int .i64 (checkP par own k)) ∧ Fr [] w w' := by
  have Hp0 := hid hp
  have Hq0 := hid hq
  clear hp hq
  have H := Hp.start [] w
  by_cases h2 : 200 < par.length
  · have Hc : Hid (checkP par own k = 6) := hid (by unfold checkP; rw [if_pos h2])
    go_enter Try.func43, Try.ntmps43
    go_wp2_with (first | ((first | (refine is_load rfl ?_; refine wl_ev rfl (by first | exact c_ld H rfl rfl | exact c_ld0 H rfl rfl | exact c_ldz H rfl rfl | exact c_ldr H rfl rfl) ?_) | (refine is_cmp rfl rfl ?_; first | (refine wl_ev rfl (by first | exact c_seq rfl rfl | exact ev_cmpT rfl rfl rfl rfl | exact ev_cmpF rfl rfl rfl rfl | exact c_peq rfl rfl | exact c_pne rfl rfl | exact ev_strEq rfl rfl rfl | exact ev_strNe rfl rfl rfl) ?_) | (refine wl_cmp rfl rfl rfl rfl rfl (fun h => ?_) (fun h => ?_) <;> (simp only [cmpP] at h))) | (refine is_indexAddr rfl ?_; refine wl_ev rfl (c_ix rfl rfl rfl) ?_)) <;> (simp only [nrm, ↓reduceIte, Nat.reduceAdd]))  )
    go_ret
    exact ⟨by rw [Hc.out]; rfl, H.fr⟩
  go_enter Try.func43, Try.ntmps43
  go_wp2_with (first | ((first | (refine is_load rfl ?_; refine wl_ev rfl (by first | exact c_ld H rfl rfl | exact c_ld0 H rfl rfl | exact c_ldz H rfl rfl | exact c_ldr H rfl rfl) ?_) | (refine is_cmp rfl rfl ?_; first | (refine wl_ev rfl (by first | exact c_seq rfl rfl | exact ev_cmpT rfl rfl rfl rfl | exact ev_cmpF rfl rfl rfl rfl | exact c_peq rfl rfl | exact c_pne rfl rfl | exact ev_strEq rfl rfl rfl | exact ev_strNe rfl rfl rfl) ?_) | (refine wl_cmp rfl rfl rfl rfl rfl (fun h => ?_) (fun h => ?_) <;> (simp only [cmpP] at h))) | (refine is_indexAddr rfl ?_; refine wl_ev rfl (c_ix rfl rfl rfl) ?_)) <;> (simp only [nrm, ↓reduceIte, Nat.reduceAdd]))  )
  go_loopw [16] (fun s16 wr => ∃ i : Nat, i ≤ par.length ∧ s16 = .int .i64 i ∧ Hid (∀ j, j < i → badP par j = false) ∧ Hp [] w wr []) (fun v _ => par.length - (intOf v).toNat)
  case atStart => exact ⟨0, Nat.zero_le _, rfl, hid (fun c hc => by omega), H⟩
  case round =>
    clear H
    obtain ⟨i, hi, rfl, hall, H⟩ := hrel
    by_cases hin : i < par.length
    · obtain ⟨x, hx⟩ : ∃ x, par[i]? = some x := ⟨_, List.getElem?_eq_getElem hin⟩
      have hxv := ints_at hx
      obtain ⟨b0, off, rfl, hb0, hcell⟩ := Hp0.out.rng (ints_ne hin)
      have H1 := H.pushRng (b := b0) (off := off) hb0 (by simp) hcell
      clear H hcell
      have H := H1
      clear H1
      by_cases hx1 : x = -1
      · subst hx1
        have Hb := hid (show badP par i = false by unfold badP; rw [hx]; rfl)
        clear hx
        go_wp2_with (first | ((first | (refine is_load rfl ?_; refine wl_ev rfl (by first | exact c_ld H rfl rfl | exact c_ld0 H rfl rfl | exact c_ldz H rfl rfl | exact c_ldr H rfl rfl) ?_) | (refine is_cmp rfl rfl ?_; first | (refine wl_ev rfl (by first | exact c_seq rfl rfl | exact ev_cmpT rfl rfl rfl rfl | exact ev_cmpF rfl rfl rfl rfl | exact c_peq rfl rfl | exact c_pne rfl rfl | exact ev_strEq rfl rfl rfl | exact ev_strNe rfl rfl rfl) ?_) | (refine wl_cmp rfl rfl rfl rfl rfl (fun h => ?_) (fun h => ?_) <;> (simp only [cmpP] at h))) | (refine is_indexAddr rfl ?_; refine wl_ev rfl (c_ix rfl rfl rfl) ?_)) <;> (simp only [nrm, ↓reduceIte, Nat.reduceAdd]))  )
        go_roundw
        case rel => exact ⟨i + 1, by omega, by go_num, hid (upto_step (P := fun j => badP par j = false) hall.out Hb.out), H.sub (by repeat first | exact List.Sublist.refl _ | exact List.nil_sublist _ | apply List.Sublist.cons_cons | apply List.Sublist.cons)⟩
        case measure => simp [intOf]; omega
      · by_cases hg : (i : Int) < x ∧ x < par.length
        · obtain ⟨hg1, hg2⟩ := hg
          have Hb := hid (show badP par i = false by unfold badP; rw [hx, Option.getD_some, decide_eq_false (by omega), decide_eq_false (by omega)]; simp)
          clear hx
          go_wp2_with (first | ((first | (refine is_load rfl ?_; refine wl_ev rfl (by first | exact c_ld H rfl rfl | exact c_ld0 H rfl rfl | exact c_ldz H rfl rfl | exact c_ldr H rfl rfl) ?_) | (refine is_cmp rfl rfl ?_; first | (refine wl_ev rfl (by first | exact c_seq rfl rfl | exact ev_cmpT rfl rfl rfl rfl | exact ev_cmpF rfl rfl rfl rfl | exact c_peq rfl rfl | exact c_pne rfl rfl | exact ev_strEq rfl rfl rfl | exact ev_strNe rfl rfl rfl) ?_) | (refine wl_cmp rfl rfl rfl rfl rfl (fun h => ?_) (fun h => ?_) <;> (simp only [cmpP] at h))) | (refine is_indexAddr rfl ?_; refine wl_ev rfl (c_ix rfl rfl rfl) ?_)) <;> (simp only [nrm, ↓reduceIte, Nat.reduceAdd]))  )
          go_roundw
          case rel => exact ⟨i + 1, by omega, by go_num, hid (upto_step (P := fun j => badP par j = false) hall.out Hb.out), H.sub (by repeat first | exact List.Sublist.refl _ | exact List.nil_sublist _ | apply List.Sublist.cons_cons | apply List.Sublist.cons)⟩
          case measure => simp [intOf]; omega
        · have Hb := hid (show badP par i = true by
            unfold badP; rw [hx, Option.getD_some]
            by_cases h3 : x ≤ (i : Int)
            · rw [decide_eq_true h3]; simp [hx1]
            · rw [decide_eq_true (show (par.length : Int) ≤ x by omega)]; simp [hx1])
          have Hc : Hid (checkP par own k = 190) := hid (by unfold checkP badPar; rw [if_neg h2, if_pos (any_yes hin Hb.out)])
          clear hx
          by_cases h3 : x ≤ (i : Int)
          · clear hg
            go_wp2_with (first | ((first | (refine is_load rfl ?_; refine wl_ev rfl (by first | exact c_ld H rfl rfl | exact c_ld0 H rfl rfl | exact c_ldz H rfl rfl | exact c_ldr H rfl rfl) ?_) | (refine is_cmp rfl rfl ?_; first | (refine wl_ev rfl (by first | exact c_seq rfl rfl | exact ev_cmpT rfl rfl rfl rfl | exact ev_cmpF rfl rfl rfl rfl | exact c_peq rfl rfl | exact c_pne rfl rfl | exact ev_strEq rfl rfl rfl | exact ev_strNe rfl rfl rfl) ?_) | (refine wl_cmp rfl rfl rfl rfl rfl (fun h => ?_) (fun h => ?_) <;> (simp only [cmpP] at h))) | (refine is_indexAddr rfl ?_; refine wl_ev rfl (c_ix rfl rfl rfl) ?_)) <;> (simp only [nrm, ↓reduceIte, Nat.reduceAdd]))  )
            go_ret
            exact ⟨by rw [Hc.out]; rfl, H.fr⟩
          · have h4 : (par.length : Int) ≤ x := by omega
            clear hg
            go_wp2_with (first | ((first | (refine is_load rfl ?_; refine wl_ev rfl (by first | exact c_ld H rfl rfl | exact c_ld0 H rfl rfl | exact c_ldz H rfl rfl | exact c_ldr H rfl rfl) ?_) | (refine is_cmp rfl rfl ?_; first | (refine wl_ev rfl (by first | exact c_seq rfl rfl | exact ev_cmpT rfl rfl rfl rfl | exact ev_cmpF rfl rfl rfl rfl | exact c_peq rfl rfl | exact c_pne rfl rfl | exact ev_strEq rfl rfl rfl | exact ev_strNe rfl rfl rfl) ?_) | (refine wl_cmp rfl rfl rfl rfl rfl (fun h => ?_) (fun h => ?_) <;> (simp only [cmpP] at h))) | (refine is_indexAddr rfl ?_; refine wl_ev rfl (c_ix rfl rfl rfl) ?_)) <;> (simp only [nrm, ↓reduceIte, Nat.reduceAdd]))  )
            go_ret
            exact ⟨by rw [Hc.out]; rfl, H.fr⟩
    · have Hbp : Hid (badPar par = false) := hid (any_no (fun j hj => hall.out j (by omega)))
      clear hall
      by_cases hk : k < 1 ∨ 8 < k
      · have Hc : Hid (checkP par own k = 331) := hid (by unfold checkP; rw [if_neg h2, Hbp.out, if_neg (by decide), if_pos hk])
        by_cases hk1 : k < 1
        · clear hk
          go_wp2_with (first | ((first | (refine is_load rfl ?_; refine wl_ev rfl (by first | exact c_ld H rfl rfl | exact c_ld0 H rfl rfl | exact c_ldz H rfl rfl | exact c_ldr H rfl rfl) ?_) | (refine is_cmp rfl rfl ?_; first | (refine wl_ev rfl (by first | exact c_seq rfl rfl | exact ev_cmpT rfl rfl rfl rfl | exact ev_cmpF rfl rfl rfl rfl | exact c_peq rfl rfl | exact c_pne rfl rfl | exact ev_strEq rfl rfl rfl | exact ev_strNe rfl rfl rfl) ?_) | (refine wl_cmp rfl rfl rfl rfl rfl (fun h => ?_) (fun h => ?_) <;> (simp only [cmpP] at h))) | (refine is_indexAddr rfl ?_; refine wl_ev rfl (c_ix rfl rfl rfl) ?_)) <;> (simp only [nrm, ↓reduceIte, Nat.reduceAdd]))  )
          go_ret
          exact ⟨by rw [Hc.out]; rfl, H.fr⟩
        · have hk8 : 8 < k := by omega
          clear hk
          go_wp2_with (first | ((first | (refine is_load rfl ?_; refine wl_ev rfl (by first | exact c_ld H rfl rfl | exact c_ld0 H rfl rfl | exact c_ldz H rfl rfl | exact c_ldr H rfl rfl) ?_) | (refine is_cmp rfl rfl ?_; first | (refine wl_ev rfl (by first | exact c_seq rfl rfl | exact ev_cmpT rfl rfl rfl rfl | exact ev_cmpF rfl rfl rfl rfl | exact c_peq rfl rfl | exact c_pne rfl rfl | exact ev_strEq rfl rfl rfl | exact ev_strNe rfl rfl rfl) ?_) | (refine wl_cmp rfl rfl rfl rfl rfl (fun h => ?_) (fun h => ?_) <;> (simp only [cmpP] at h))) | (refine is_indexAddr rfl ?_; refine wl_ev rfl (c_ix rfl rfl rfl) ?_)) <;> (simp only [nrm, ↓reduceIte, Nat.reduceAdd]))  )
          go_ret
          exact ⟨by rw [Hc.out]; rfl, H.fr⟩
      have hk1 : 1 ≤ k := by omega
      have hk8 : k ≤ 8 := by omega
      by_cases hol2 : own.length = par.length
      · have Hcc : Hid (checkP par own k = if badOwn own k then 3 else 0) := hid (by unfold checkP; rw [if_neg h2, Hbp.out, if_neg (by decide), if_neg hk, if_neg (by omega)])
        have hl1 : own.length ≤ par.length := by omega
        have hl2 : par.length ≤ own.length := by omega
        clear hk hol2
        go_wp2_with (first | ((first | (refine is_load rfl ?_; refine wl_ev rfl (by first | exact c_ld H rfl rfl | exact c_ld0 H rfl rfl | exact c_ldz H rfl rfl | exact c_ldr H rfl rfl) ?_) | (refine is_cmp rfl rfl ?_; first | (refine wl_ev rfl (by first | exact c_seq rfl rfl | exact ev_cmpT rfl rfl rfl rfl | exact ev_cmpF rfl rfl rfl rfl | exact c_peq rfl rfl | exact c_pne rfl rfl | exact ev_strEq rfl rfl rfl | exact ev_strNe rfl rfl rfl) ?_) | (refine wl_cmp rfl rfl rfl rfl rfl (fun h => ?_) (fun h => ?_) <;> (simp only [cmpP] at h))) | (refine is_indexAddr rfl ?_; refine wl_ev rfl (c_ix rfl rfl rfl) ?_)) <;> (simp only [nrm, ↓reduceIte, Nat.reduceAdd]))  )
        go_loopw [48] (fun s48 wr => ∃ i : Nat, i ≤ own.length ∧ s48 = .int .i64 i ∧ Hid (∀ j, j < i → badO own k j = false) ∧ Hp [] w wr []) (fun v _ => own.length - (intOf v).toNat)
        case atStart => exact ⟨0, Nat.zero_le _, rfl, hid (fun c hc => by omega), H⟩
        case round =>
          clear H
          obtain ⟨i, hi, rfl, hall, H⟩ := hrel
          by_cases hin : i < own.length
          · obtain ⟨x, hx⟩ : ∃ x, own[i]? = some x := ⟨_, List.getElem?_eq_getElem hin⟩
            have hxv := ints_at hx
            obtain ⟨b0, off, rfl, hb0, hcell⟩ := Hq0.out.rng (ints_ne hin)
            have H1 := H.pushRng (b := b0) (off := off) hb0 (by simp) hcell
            clear H hcell
            have H := H1
            clear H1
            by_cases hx0 : x < 0
            · have Hb := hid (show badO own k i = true by unfold badO; rw [hx, Option.getD_some, decide_eq_true hx0]; rfl)
              have Hc : Hid (checkP par own k = 3) := hid (by rw [Hcc.out]; unfold badOwn; rw [if_pos (any_yes hin Hb.out)])
              clear hx
              go_wp2_with (first | ((first | (refine is_load rfl ?_; refine wl_ev rfl (by first | exact c_ld H rfl rfl | exact c_ld0 H rfl rfl | exact c_ldz H rfl rfl | exact c_ldr H rfl rfl) ?_) | (refine is_cmp rfl rfl ?_; first | (refine wl_ev rfl (by first | exact c_seq rfl rfl | exact ev_cmpT rfl rfl rfl rfl | exact ev_cmpF rfl rfl rfl rfl | exact c_peq rfl rfl | exact c_pne rfl rfl | exact ev_strEq rfl rfl rfl | exact ev_strNe rfl rfl rfl) ?_) | (refine wl_cmp rfl rfl rfl rfl rfl (fun h => ?_) (fun h => ?_) <;> (simp only [cmpP] at h))) | (refine is_indexAddr rfl ?_; refine wl_ev rfl (c_ix rfl rfl rfl) ?_)) <;> (simp only [nrm, ↓reduceIte, Nat.reduceAdd]))  )
              go_ret
              exact ⟨by rw [Hc.out]; rfl, H.fr⟩
            · by_cases hxk : k ≤ x
              · have Hb := hid (show badO own k i = true by unfold badO; rw [hx, Option.getD_some, decide_eq_true hxk]; simp)
                have Hc : Hid (checkP par own k = 3) := hid (by rw [Hcc.out]; unfold badOwn; rw [if_pos (any_yes hin Hb.out)])
                clear hx
                go_wp2_with (first | ((first | (refine is_load rfl ?_; refine wl_ev rfl (by first | exact c_ld H rfl rfl | exact c_ld0 H rfl rfl | exact c_ldz H rfl rfl | exact c_ldr H rfl rfl) ?_) | (refine is_cmp rfl rfl ?_; first | (refine wl_ev rfl (by first | exact c_seq rfl rfl | exact ev_cmpT rfl rfl rfl rfl | exact ev_cmpF rfl rfl rfl rfl | exact c_peq rfl rfl | exact c_pne rfl rfl | exact ev_strEq rfl rfl rfl | exact ev_strNe rfl rfl rfl) ?_) | (refine wl_cmp rfl rfl rfl rfl rfl (fun h => ?_) (fun h => ?_) <;> (simp only [cmpP] at h))) | (refine is_indexAddr rfl ?_; refine wl_ev rfl (c_ix rfl rfl rfl) ?_)) <;> (simp only [nrm, ↓reduceIte, Nat.reduceAdd]))  )
                go_ret
                exact ⟨by rw [Hc.out]; rfl, H.fr⟩
              · have Hb := hid (show badO own k i = false by unfold badO; rw [hx, Option.getD_some, decide_eq_false hx0, decide_eq_false hxk]; rfl)
                clear hx
                go_wp2_with (first | ((first | (refine is_load rfl ?_; refine wl_ev rfl (by first | exact c_ld H rfl rfl | exact c_ld0 H rfl rfl | exact c_ldz H rfl rfl | exact c_ldr H rfl rfl) ?_) | (refine is_cmp rfl rfl ?_; first | (refine wl_ev rfl (by first | exact c_seq rfl rfl | exact ev_cmpT rfl rfl rfl rfl | exact ev_cmpF rfl rfl rfl rfl | exact c_peq rfl rfl | exact c_pne rfl rfl | exact ev_strEq rfl rfl rfl | exact ev_strNe rfl rfl rfl) ?_) | (refine wl_cmp rfl rfl rfl rfl rfl (fun h => ?_) (fun h => ?_) <;> (simp only [cmpP] at h))) | (refine is_indexAddr rfl ?_; refine wl_ev rfl (c_ix rfl rfl rfl) ?_)) <;> (simp only [nrm, ↓reduceIte, Nat.reduceAdd]))  )
                go_roundw
                case rel => exact ⟨i + 1, by omega, by go_num, hid (upto_step (P := fun j => badO own k j = false) hall.out Hb.out), H.sub (by repeat first | exact List.Sublist.refl _ | exact List.nil_sublist _ | apply List.Sublist.cons_cons | apply List.Sublist.cons)⟩
                case measure => simp [intOf]; omega
          · have Hc : Hid (checkP par own k = 0) := hid (by rw [Hcc.out]; unfold badOwn; rw [any_no (fun j hj => hall.out j (by omega))]; rfl)
            clear hall
            go_wp2_with (first | ((first | (refine is_load rfl ?_; refine wl_ev rfl (by first | exact c_ld H rfl rfl | exact c_ld0 H rfl rfl | exact c_ldz H rfl rfl | exact c_ldr H rfl rfl) ?_) | (refine is_cmp rfl rfl ?_; first | (refine wl_ev rfl (by first | exact c_seq rfl rfl | exact ev_cmpT rfl rfl rfl rfl | exact ev_cmpF rfl rfl rfl rfl | exact c_peq rfl rfl | exact c_pne rfl rfl | exact ev_strEq rfl rfl rfl | exact ev_strNe rfl rfl rfl) ?_) | (refine wl_cmp rfl rfl rfl rfl rfl (fun h => ?_) (fun h => ?_) <;> (simp only [cmpP] at h))) | (refine is_indexAddr rfl ?_; refine wl_ev rfl (c_ix rfl rfl rfl) ?_)) <;> (simp only [nrm, ↓reduceIte, Nat.reduceAdd]))  )
            go_ret
            exact ⟨by rw [Hc.out]; rfl, H.fr⟩
      · have Hc : Hid (checkP par own k = 2) := hid (by unfold checkP; rw [if_neg h2, Hbp.out, if_neg (by decide), if_neg hk, if_pos hol2])
        clear hk
        go_wp2_with (first | ((first | (refine is_load rfl ?_; refine wl_ev rfl (by first | exact c_ld H rfl rfl | exact c_ld0 H rfl rfl | exact c_ldz H rfl rfl | exact c_ldr H rfl rfl) ?_) | (refine is_cmp rfl rfl ?_; first | (refine wl_ev rfl (by first | exact c_seq rfl rfl | exact ev_cmpT rfl rfl rfl rfl | exact ev_cmpF rfl rfl rfl rfl | exact c_peq rfl rfl | exact c_pne rfl rfl | exact ev_strEq rfl rfl rfl | exact ev_strNe rfl rfl rfl) ?_) | (refine wl_cmp rfl rfl rfl rfl rfl (fun h => ?_) (fun h => ?_) <;> (simp only [cmpP] at h))) | (refine is_indexAddr rfl ?_; refine wl_ev rfl (c_ix rfl rfl rfl) ?_)) <;> (simp only [nrm, ↓reduceIte, Nat.reduceAdd]))  )
        go_ret
        exact ⟨by rw [Hc.out]; rfl, H.fr⟩
/-- What makes a task's marks inconsistent. -/
def badC (par : List Int) (fin bro : List Bool) (t : Nat) : Bool :=
  fin[t]?.getD false && bro[t]?.getD false || (decide (0 ≤ par[t]?.getD 0) && (fin[(par[t]?.getD 0).toNat]?.getD false || bro[(par[t]?.getD 0).toNat]?.getD false) && !fin[t]?.getD false)
def consP (par : List Int) (fin bro : List Bool) : Bool := !(List.range par.length).any (badC par fin bro)
set_option maxHeartbeats 4000000 in
set_option maxRecDepth 100000 in
theorem consistent_any {w : World} {p q r : Option Addr} {c d e : Nat} (par : List Int) (fin bro : List Bool) (hp : Rd w (.slice p par.length c) par.length (ints par)) (hq : Rd w (.slice q par.length d) par.length (boolsV fin)) (hr : Rd w (.slice r par.length e) par.length (boolsV bro))
    (hf : fin.length = par.length) (hb : bro.length = par.length) (hn : par.length ≤ 200) (hpar : badPar par = false) :
    Calls Try.prog 44 #[.slice p par.length c, .slice q par.length d, .slice r par.length e] w fun e w' => e = .returned (.bool (consP par fin bro)) ∧ Fr [] w w' := by
  have Hp0 := hid hp
  have Hq0 := hid hq
  have Hr0 := hid hr
  have Hpar := hid hpar
  have Hf := hid hf
  have Hb := hid hb
  clear hp hq hr hpar hf hb
  have H := Hp.start [] w
  go_enter Try.func44, Try.ntmps44
  go_wp2_with (first | ((first | (refine is_load rfl ?_; refine wl_ev rfl (by first | exact c_ld H rfl rfl | exact c_ld0 H rfl rfl | exact c_ldz H rfl rfl | exact c_ldr H rfl rfl) ?_) | (refine is_cmp rfl rfl ?_; first | (refine wl_ev rfl (by first | exact c_seq rfl rfl | exact ev_cmpT rfl rfl rfl rfl | exact ev_cmpF rfl rfl rfl rfl | exact c_peq rfl rfl | exact c_pne rfl rfl | exact ev_strEq rfl rfl rfl | exact ev_strNe rfl rfl rfl) ?_) | (refine wl_cmp rfl rfl rfl rfl rfl (fun h => ?_) (fun h => ?_) <;> (simp only [cmpP] at h))) | (refine is_indexAddr rfl ?_; refine wl_ev rfl (c_ix rfl rfl rfl) ?_)) <;> (simp only [nrm, ↓reduceIte, Nat.reduceAdd]))  )
  go_loopw [11] (fun s11 wr => ∃ i : Nat, i ≤ par.length ∧ s11 = .int .i64 i ∧ Hid (∀ j, j < i → badC par fin bro j = false) ∧ Hp [] w wr []) (fun v _ => par.length - (intOf v).toNat)
  case atStart => exact ⟨0, Nat.zero_le _, rfl, hid (fun c hc => by omega), H⟩
  case round =>
    clear H
    obtain ⟨i, hi, rfl, hall, H⟩ := hrel
    by_cases hin : i < par.length
    · obtain ⟨x, hx⟩ : ∃ x, par[i]? = some x := ⟨_, List.getElem?_eq_getElem hin⟩
      obtain ⟨fi, hfi⟩ : ∃ x, fin[i]? = some x := ⟨_, List.getElem?_eq_getElem (by rw [Hf.out]; exact hin)⟩
      obtain ⟨bi, hbi⟩ : ∃ x, bro[i]? = some x := ⟨_, List.getElem?_eq_getElem (by rw [Hb.out]; exact hin)⟩
      have hxv := ints_at hx
      have hfv := boolsV_at hfi
      have hbv := boolsV_at hbi
      obtain ⟨b0, off0, rfl, hb0, hcell0⟩ := Hp0.out.rng (ints_ne hin)
      obtain ⟨b1, off1, rfl, hb1, hcell1⟩ := Hq0.out.rng (boolsV_ne (i := i) (by rw [Hf.out]; exact hin))
      obtain ⟨b2, off2, rfl, hb2, hcell2⟩ := Hr0.out.rng (boolsV_ne (i := i) (by rw [Hb.out]; exact hin))
      have H1 := ((H.pushRng (b := b0) (off := off0) hb0 (by simp) hcell0).pushRng (b := b1) (off := off1) hb1 (by simp) hcell1).pushRng (b := b2) (off := off2) hb2 (by simp) hcell2
      clear H hcell0 hcell1 hcell2
      have H := H1
      clear H1
      have hrng : x = -1 ∨ ∃ q : Nat, x = q ∧ q < par.length := by
        have hbad : badP par i = false := by
          have := List.any_eq_false.1 Hpar.out i (List.mem_range.2 hin)
          simpa using this
        unfold badP at hbad
        rw [hx, Option.getD_some] at hbad
        by_cases h1 : x = -1
        · exact .inl h1
        · simp [h1] at hbad
          exact .inr ⟨x.toNat, by omega, by omega⟩
      have hBdef : badC par fin bro i = (fi && bi || (decide (0 ≤ x) && (fin[x.toNat]?.getD false || bro[x.toNat]?.getD false) && !fi)) := by
        unfold badC; rw [hx, hfi, hbi]; rfl
      have Hyes : Hid (badC par fin bro i = true → consP par fin bro = false) := hid (fun h => by unfold consP; rw [any_yes hin h]; rfl)
      have HB := hid hBdef
      clear hx hfi hbi hBdef
      rcases hrng with rfl | ⟨q, rfl, hq⟩
      · rcases bool_cases fi with rfl | rfl
        · rcases bool_cases bi with rfl | rfl
          · have Hc := hid (Hyes.out (by rw [HB.out]; rfl))
            go_wp2_with (first | ((first | (refine is_load rfl ?_; refine wl_ev rfl (by first | exact c_ld H rfl rfl | exact c_ld0 H rfl rfl | exact c_ldz H rfl rfl | exact c_ldr H rfl rfl) ?_) | (refine is_cmp rfl rfl ?_; first | (refine wl_ev rfl (by first | exact c_seq rfl rfl | exact ev_cmpT rfl rfl rfl rfl | exact ev_cmpF rfl rfl rfl rfl | exact c_peq rfl rfl | exact c_pne rfl rfl | exact ev_strEq rfl rfl rfl | exact ev_strNe rfl rfl rfl) ?_) | (refine wl_cmp rfl rfl rfl rfl rfl (fun h => ?_) (fun h => ?_) <;> (simp only [cmpP] at h))) | (refine is_indexAddr rfl ?_; refine wl_ev rfl (c_ix rfl rfl rfl) ?_)) <;> (simp only [nrm, ↓reduceIte, Nat.reduceAdd]))  )
            go_ret
            exact ⟨by rw [Hc.out]; rfl, H.fr⟩
          · have Hn : Hid (badC par fin bro i = false) := hid (by rw [HB.out]; rfl)
            go_wp2_with (first | ((first | (refine is_load rfl ?_; refine wl_ev rfl (by first | exact c_ld H rfl rfl | exact c_ld0 H rfl rfl | exact c_ldz H rfl rfl | exact c_ldr H rfl rfl) ?_) | (refine is_cmp rfl rfl ?_; first | (refine wl_ev rfl (by first | exact c_seq rfl rfl | exact ev_cmpT rfl rfl rfl rfl | exact ev_cmpF rfl rfl rfl rfl | exact c_peq rfl rfl | exact c_pne rfl rfl | exact ev_strEq rfl rfl rfl | exact ev_strNe rfl rfl rfl) ?_) | (refine wl_cmp rfl rfl rfl rfl rfl (fun h => ?_) (fun h => ?_) <;> (simp only [cmpP] at h))) | (refine is_indexAddr rfl ?_; refine wl_ev rfl (c_ix rfl rfl rfl) ?_)) <;> (simp only [nrm, ↓reduceIte, Nat.reduceAdd]))  )
            go_roundw
            case rel => exact ⟨i + 1, by omega, by go_num, hid (upto_step (P := fun j => badC par fin bro j = false) hall.out Hn.out), H.sub (by repeat first | exact List.Sublist.refl _ | exact List.nil_sublist _ | apply List.Sublist.cons_cons | apply List.Sublist.cons)⟩
            case measure => simp [intOf]; omega
        · have Hn : Hid (badC par fin bro i = false) := hid (by rw [HB.out]; rfl)
          go_wp2_with (first | ((first | (refine is_load rfl ?_; refine wl_ev rfl (by first | exact c_ld H rfl rfl | exact c_ld0 H rfl rfl | exact c_ldz H rfl rfl | exact c_ldr H rfl rfl) ?_) | (refine is_cmp rfl rfl ?_; first | (refine wl_ev rfl (by first | exact c_seq rfl rfl | exact ev_cmpT rfl rfl rfl rfl | exact ev_cmpF rfl rfl rfl rfl | exact c_peq rfl rfl | exact c_pne rfl rfl | exact ev_strEq rfl rfl rfl | exact ev_strNe rfl rfl rfl) ?_) | (refine wl_cmp rfl rfl rfl rfl rfl (fun h => ?_) (fun h => ?_) <;> (simp only [cmpP] at h))) | (refine is_indexAddr rfl ?_; refine wl_ev rfl (c_ix rfl rfl rfl) ?_)) <;> (simp only [nrm, ↓reduceIte, Nat.reduceAdd]))  )
          go_roundw
          case rel => exact ⟨i + 1, by omega, by go_num, hid (upto_step (P := fun j => badC par fin bro j = false) hall.out Hn.out), H.sub (by repeat first | exact List.Sublist.refl _ | exact List.nil_sublist _ | apply List.Sublist.cons_cons | apply List.Sublist.cons)⟩
          case measure => simp [intOf]; omega
      · obtain ⟨fq, hfq⟩ : ∃ x, fin[q]? = some x := ⟨_, List.getElem?_eq_getElem (by rw [Hf.out]; exact hq)⟩
        obtain ⟨bq, hbq⟩ : ∃ x, bro[q]? = some x := ⟨_, List.getElem?_eq_getElem (by rw [Hb.out]; exact hq)⟩
        have hfqv := boolsV_at hfq
        have hbqv := boolsV_at hbq
        have HB2 : Hid (badC par fin bro i = (fi && bi || ((fq || bq) && !fi))) := hid (by rw [HB.out, decide_eq_true (by omega), Int.toNat_natCast, hfq, hbq]; simp)
        clear HB hfq hbq
        rcases bool_cases fi with rfl | rfl
        · rcases bool_cases bi with rfl | rfl
          · have Hc := hid (Hyes.out (by rw [HB2.out]; rfl))
            go_wp2_with (first | ((first | (refine is_load rfl ?_; refine wl_ev rfl (by first | exact c_ld H rfl rfl | exact c_ld0 H rfl rfl | exact c_ldz H rfl rfl | exact c_ldr H rfl rfl) ?_) | (refine is_cmp rfl rfl ?_; first | (refine wl_ev rfl (by first | exact c_seq rfl rfl | exact ev_cmpT rfl rfl rfl rfl | exact ev_cmpF rfl rfl rfl rfl | exact c_peq rfl rfl | exact c_pne rfl rfl | exact ev_strEq rfl rfl rfl | exact ev_strNe rfl rfl rfl) ?_) | (refine wl_cmp rfl rfl rfl rfl rfl (fun h => ?_) (fun h => ?_) <;> (simp only [cmpP] at h))) | (refine is_indexAddr rfl ?_; refine wl_ev rfl (c_ix rfl rfl rfl) ?_)) <;> (simp only [nrm, ↓reduceIte, Nat.reduceAdd]))  )
            go_ret
            exact ⟨by rw [Hc.out]; rfl, H.fr⟩
          · have Hn : Hid (badC par fin bro i = false) := hid (by rw [HB2.out]; simp)
            rcases bool_cases fq with rfl | rfl <;> rcases bool_cases bq with rfl | rfl
            all_goals
              go_wp2_with (first | ((first | (refine is_load rfl ?_; refine wl_ev rfl (by first | exact c_ld H rfl rfl | exact c_ld0 H rfl rfl | exact c_ldz H rfl rfl | exact c_ldr H rfl rfl) ?_) | (refine is_cmp rfl rfl ?_; first | (refine wl_ev rfl (by first | exact c_seq rfl rfl | exact ev_cmpT rfl rfl rfl rfl | exact ev_cmpF rfl rfl rfl rfl | exact c_peq rfl rfl | exact c_pne rfl rfl | exact ev_strEq rfl rfl rfl | exact ev_strNe rfl rfl rfl) ?_) | (refine wl_cmp rfl rfl rfl rfl rfl (fun h => ?_) (fun h => ?_) <;> (simp only [cmpP] at h))) | (refine is_indexAddr rfl ?_; refine wl_ev rfl (c_ix rfl rfl rfl) ?_)) <;> (simp only [nrm, ↓reduceIte, Nat.reduceAdd]))  )
              go_roundw
              case rel => exact ⟨i + 1, by omega, by go_num, hid (upto_step (P := fun j => badC par fin bro j = false) hall.out Hn.out), H.sub (by repeat first | exact List.Sublist.refl _ | exact List.nil_sublist _ | apply List.Sublist.cons_cons | apply List.Sublist.cons)⟩
              case measure => simp [intOf]; omega
        · rcases bool_cases (fq || bq) with hfb | hfb
          · have Hc := hid (Hyes.out (by rw [HB2.out, hfb]; simp))
            rcases bool_cases fq with rfl | rfl <;> rcases bool_cases bq with rfl | rfl
            all_goals first
              | cases hfb; done
              | (clear hfb
                 go_wp2_with (first | ((first | (refine is_load rfl ?_; refine wl_ev rfl (by first | exact c_ld H rfl rfl | exact c_ld0 H rfl rfl | exact c_ldz H rfl rfl | exact c_ldr H rfl rfl) ?_) | (refine is_cmp rfl rfl ?_; first | (refine wl_ev rfl (by first | exact c_seq rfl rfl | exact ev_cmpT rfl rfl rfl rfl | exact ev_cmpF rfl rfl rfl rfl | exact c_peq rfl rfl | exact c_pne rfl rfl | exact ev_strEq rfl rfl rfl | exact ev_strNe rfl rfl rfl) ?_) | (refine wl_cmp rfl rfl rfl rfl rfl (fun h => ?_) (fun h => ?_) <;> (simp only [cmpP] at h))) | (refine is_indexAddr rfl ?_; refine wl_ev rfl (c_ix rfl rfl rfl) ?_)) <;> (simp only [nrm, ↓reduceIte, Nat.reduceAdd]))  )
                 go_ret
                 exact ⟨by rw [Hc.out]; rfl, H.fr⟩)
          · have Hn : Hid (badC par fin bro i = false) := hid (by rw [HB2.out, hfb]; simp)
            rw [Bool.or_eq_false_iff] at hfb
            obtain ⟨rfl, rfl⟩ := hfb
            go_wp2_with (first | ((first | (refine is_load rfl ?_; refine wl_ev rfl (by first | exact c_ld H rfl rfl | exact c_ld0 H rfl rfl | exact c_ldz H rfl rfl | exact c_ldr H rfl rfl) ?_) | (refine is_cmp rfl rfl ?_; first | (refine wl_ev rfl (by first | exact c_seq rfl rfl | exact ev_cmpT rfl rfl rfl rfl | exact ev_cmpF rfl rfl rfl rfl | exact c_peq rfl rfl | exact c_pne rfl rfl | exact ev_strEq rfl rfl rfl | exact ev_strNe rfl rfl rfl) ?_) | (refine wl_cmp rfl rfl rfl rfl rfl (fun h => ?_) (fun h => ?_) <;> (simp only [cmpP] at h))) | (refine is_indexAddr rfl ?_; refine wl_ev rfl (c_ix rfl rfl rfl) ?_)) <;> (simp only [nrm, ↓reduceIte, Nat.reduceAdd]))  )
            go_roundw
            case rel => exact ⟨i + 1, by omega, by go_num, hid (upto_step (P := fun j => badC par fin bro j = false) hall.out Hn.out), H.sub (by repeat first | exact List.Sublist.refl _ | exact List.nil_sublist _ | apply List.Sublist.cons_cons | apply List.Sublist.cons)⟩
            case measure => simp [intOf]; omega
    · have Hc : Hid (consP par fin bro = true) := hid (by unfold consP; rw [any_no (fun j hj => hall.out j (by omega))]; rfl)
      clear hall
      go_wp2_with (first | ((first | (refine is_load rfl ?_; refine wl_ev rfl (by first | exact c_ld H rfl rfl | exact c_ld0 H rfl rfl | exact c_ldz H rfl rfl | exact c_ldr H rfl rfl) ?_) | (refine is_cmp rfl rfl ?_; first | (refine wl_ev rfl (by first | exact c_seq rfl rfl | exact ev_cmpT rfl rfl rfl rfl | exact ev_cmpF rfl rfl rfl rfl | exact c_peq rfl rfl | exact c_pne rfl rfl | exact ev_strEq rfl rfl rfl | exact ev_strNe rfl rfl rfl) ?_) | (refine wl_cmp rfl rfl rfl rfl rfl (fun h => ?_) (fun h => ?_) <;> (simp only [cmpP] at h))) | (refine is_indexAddr rfl ?_; refine wl_ev rfl (c_ix rfl rfl rfl) ?_)) <;> (simp only [nrm, ↓reduceIte, Nat.reduceAdd]))  )
      go_ret
      exact ⟨by rw [Hc.out]; rfl, H.fr⟩
set_option maxHeartbeats 4000000 in
set_option maxRecDepth 100000 in
theorem clone_any {w : World} {p : Option Addr} {c : Nat} (l : List Int) (hp : Rd w (.slice p l.length c) l.length (ints l)) (hpn : p = none → c = 0) (hl : l.length ≤ 1000000) :
    Calls Try.prog 45 #[.slice p l.length c] w fun e w' => ∃ v, e = .returned v ∧ Fr [] w w' ∧ w'.ownsRow w.heap.size 3 1 v l.length (ints l) := by
  have Hp0 := hid hp
  have H := (Hp.start [] w).newRow 0 (e := 3) (sz := 1)
  cases p with
  | none =>
    have h0 : l = [] := by
      rcases hp with ⟨h, _⟩ | ⟨ad, c', h, _⟩
      · exact List.eq_nil_of_length_eq_zero h
      · cases h
    subst h0
    obtain rfl := hpn rfl
    clear hp hpn
    go_enter Try.func45, Try.ntmps45
    go_wp2_with (first | ((first | (refine is_cmp rfl rfl ?_; first | (refine wl_ev rfl (by first | exact c_seq rfl rfl | exact ev_cmpT rfl rfl rfl rfl | exact ev_cmpF rfl rfl rfl rfl | exact c_peq rfl rfl | exact c_pne rfl rfl | exact ev_strEq rfl rfl rfl | exact ev_strNe rfl rfl rfl) ?_) | (refine wl_cmp rfl rfl rfl rfl rfl (fun h => ?_) (fun h => ?_) <;> (simp only [cmpP] at h)))     ) <;> (simp only [nrm, ↓reduceIte, Nat.reduceAdd])) | ((first | (refine is_buildSlice rfl ?_; first | (refine wl_rw rfl (fun K hK => c_s1t H rfl rfl rfl (h := (fun g w1 hg hf H1 => hK _ _ ?_)))) | (refine wl_rw rfl (fun K hK => c_s1c H rfl rfl (h := (fun g w1 hg hf H1 => hK _ _ ?_)))))   ); (clear hK K); (clear H; have H := H1; clear H1; (try dsimp only at H); (try clear hf)); (simp only [nrm, ↓reduceIte, Nat.reduceAdd])))
    go_ret
    exact ⟨_, rfl, H.fr, (H.rowo 0).owns (fun x hx => (H.home 0 x hx).resolve_left (by simp))⟩
  | some ad =>
    clear hp hpn
    by_cases h0 : l.length < 1
    · have h1 : l = [] := List.eq_nil_of_length_eq_zero (by omega)
      subst h1
      go_enter Try.func45, Try.ntmps45
      go_wp2_with (first | ((first | (refine is_cmp rfl rfl ?_; first | (refine wl_ev rfl (by first | exact c_seq rfl rfl | exact ev_cmpT rfl rfl rfl rfl | exact ev_cmpF rfl rfl rfl rfl | exact c_peq rfl rfl | exact c_pne rfl rfl | exact ev_strEq rfl rfl rfl | exact ev_strNe rfl rfl rfl) ?_) | (refine wl_cmp rfl rfl rfl rfl rfl (fun h => ?_) (fun h => ?_) <;> (simp only [cmpP] at h)))     ) <;> (simp only [nrm, ↓reduceIte, Nat.reduceAdd])) | ((first | (refine is_buildSlice rfl ?_; first | (refine wl_rw rfl (fun K hK => c_s1t H rfl rfl rfl (h := (fun g w1 hg hf H1 => hK _ _ ?_)))) | (refine wl_rw rfl (fun K hK => c_s1c H rfl rfl (h := (fun g w1 hg hf H1 => hK _ _ ?_)))))   ); (clear hK K); (clear H; have H := H1; clear H1; (try dsimp only at H); (try clear hf)); (simp only [nrm, ↓reduceIte, Nat.reduceAdd])) | (refine is_buildSlice rfl ?_; refine wl_rw rfl (fun K hK => c_sN H rfl (by repeat first | exact .nil _ | apply Parts.tmp (by rfl) (by rfl) | apply Parts.con (by rfl)) rfl (by intro c hc; simp only [List.mem_cons, List.not_mem_nil, or_false] at hc; (try (rcases hc with rfl | rfl | rfl | rfl | rfl | rfl | rfl | rfl <;> rfl))) (by decide) (by decide) (fun g w1 hg hf H1 => hK _ _ ?_)); (clear hK K); (clear H; have H := H1; clear H1; (try dsimp only at H); (try clear hf)); (simp only [nrm, ↓reduceIte, Nat.reduceAdd])) | (refine is_blt (b := .append) rfl ?_; refine wl_rw rfl (fun K hK => c_apz H rfl rfl rfl (by omega) (fun w1 hf H1 => hK _ _ ?_)); (clear hK K); (clear H; have H := H1; clear H1; (try dsimp only at H); (try clear hf)); (simp only [nrm, ↓reduceIte, Nat.reduceAdd])))
      go_ret
      exact ⟨_, rfl, H.fr, ⟨rfl, .inr ⟨g, 0, #[], rfl, hg.1, H.at g, by omega, by unfold maxLen; omega, rfl, rfl⟩⟩⟩
    · go_enter Try.func45, Try.ntmps45
      go_wp2_with (first | ((first | (refine is_cmp rfl rfl ?_; first | (refine wl_ev rfl (by first | exact c_seq rfl rfl | exact ev_cmpT rfl rfl rfl rfl | exact ev_cmpF rfl rfl rfl rfl | exact c_peq rfl rfl | exact c_pne rfl rfl | exact ev_strEq rfl rfl rfl | exact ev_strNe rfl rfl rfl) ?_) | (refine wl_cmp rfl rfl rfl rfl rfl (fun h => ?_) (fun h => ?_) <;> (simp only [cmpP] at h)))     ) <;> (simp only [nrm, ↓reduceIte, Nat.reduceAdd])) | ((first | (refine is_buildSlice rfl ?_; first | (refine wl_rw rfl (fun K hK => c_s1t H rfl rfl rfl (h := (fun g w1 hg hf H1 => hK _ _ ?_)))) | (refine wl_rw rfl (fun K hK => c_s1c H rfl rfl (h := (fun g w1 hg hf H1 => hK _ _ ?_)))))   ); (clear hK K); (clear H; have H := H1; clear H1; (try dsimp only at H); (try clear hf)); (simp only [nrm, ↓reduceIte, Nat.reduceAdd])) | (refine is_buildSlice rfl ?_; refine wl_rw rfl (fun K hK => c_sN H rfl (by repeat first | exact .nil _ | apply Parts.tmp (by rfl) (by rfl) | apply Parts.con (by rfl)) rfl (by intro c hc; simp only [List.mem_cons, List.not_mem_nil, or_false] at hc; (try (rcases hc with rfl | rfl | rfl | rfl | rfl | rfl | rfl | rfl <;> rfl))) (by decide) (by decide) (fun g w1 hg hf H1 => hK _ _ ?_)); (clear hK K); (clear H; have H := H1; clear H1; (try dsimp only at H); (try clear hf)); (simp only [nrm, ↓reduceIte, Nat.reduceAdd])) | (refine is_blt (b := .append) rfl ?_; go_loud (refine wl_rw rfl (fun K hK => c_apo H rfl rfl rfl List.prefix_rfl rfl rfl (Nat.zero_le _) (Hp0.out.fr H.fr (by simp)) (by rw [ints_len, Nat.mul_one]) (ints_one _) (by omega) (by omega) (by first | omega | (unfold maxLen; omega)) (fun g w1 cap pad hg hc hcm hpl hf H1 => hK _ _ ?_))); (clear hK K); (clear H; have H := H1; clear H1; (try dsimp only at H); (try clear hf)); (simp only [nrm, ↓reduceIte, Nat.reduceAdd])))
      go_ret
      have hgw : w.heap.size ≤ g := by
        rcases hg with rfl | h
        · exact ((H.ok _ (.head _)).2.resolve_left (by simp))
        · exact h.1
      exact ⟨_, rfl, H.fr, ⟨by rw [ints_len, Nat.mul_one], .inr ⟨g, cap, _, rfl, hgw, H.at g, by omega, hcm, by simpa using hpl, by show List.take (l.length * 1) (ints l ++ pad) = ints l; rw [Nat.mul_one, List.take_append_of_le_length (by rw [ints_len]; exact Nat.le_refl _), List.take_of_length_le (by rw [ints_len]; exact Nat.le_refl _)]⟩⟩⟩
end Go.Proofs.Ythlhjjokodmihaa
