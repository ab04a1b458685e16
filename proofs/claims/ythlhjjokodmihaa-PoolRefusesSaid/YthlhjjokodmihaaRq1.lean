/-
  The document's pool: its state in plain Lean, how it lies in memory; Forest, Free.
-/
import Derived.Test.YthlhjjokodmihaaPl7
namespace Go.Proofs.Ythlhjjokodmihaa
open Go.RowKit
set_option linter.unusedSimpArgs false
set_option linter.unusedVariables false
set_option maxHeartbeats 4000000 in
set_option maxRecDepth 100000 in
theorem rforest_any {w : World} {p : Option Addr} {c : Nat} (par : List Int) (hp : Rd w (.slice p par.length c) par.length (ints par)) (hn : par.length ≤ 1000) :
    Calls Try.prog 47 #[.slice p par.length c] w fun e w' => e = .returned (.bool (!badPar par)) ∧ Fr [] w w' := by
  have Hp0 := hid hp
  clear hp
  have H := Hp.start [] w
  go_enter Try.func47, Try.ntmps47
  go_wp2_with (first | ((first | (refine is_load rfl ?_; refine wl_ev rfl (by first | exact c_ld H rfl rfl | exact c_ld0 H rfl rfl | exact c_ldz H rfl rfl | exact c_ldr H rfl rfl) ?_) | (refine is_cmp rfl rfl ?_; first | (refine wl_ev rfl (by first | exact ev_cmpT rfl rfl rfl rfl | exact ev_cmpF rfl rfl rfl rfl) ?_) | (refine wl_cmp rfl rfl rfl rfl rfl (fun h => ?_) (fun h => ?_) <;> (simp only [cmpP] at h))) | (refine is_indexAddr rfl ?_; refine wl_ev rfl (c_ix rfl rfl rfl) ?_)) <;> (simp only [nrm, ↓reduceIte, Nat.reduceAdd]))  )
  go_loopw [3] (fun s3 wr => ∃ i : Nat, i ≤ par.length ∧ s3 = .int .i64 i ∧ Hid (∀ j, j < i → badP par j = false) ∧ Hp [] w wr []) (fun v _ => par.length - (intOf v).toNat)
  case atStart => exact ⟨0, Nat.zero_le _, rfl, hid (fun c hc => by omega), H⟩
  case round =>
    clear H
    obtain ⟨i, hi, rfl, hall, H⟩ := hrel
    by_cases hin : i < par.length
    · obtain ⟨x, hx⟩ : ∃ x, par[i]? = some x := ⟨_, List.getElem?_eq_getElem hin⟩
      have hxv := ints_at hx
      obtain ⟨b0, off, rfl, hb0, hcell⟩ := Hp0.out.rng (ints_ne hin)
      have H1 := H.pushRng (b := b0) (off := off) hb0 (by simp) hcell
      clear H hcell
      have H := H1
      clear H1
      by_cases hx1 : x = -1
      · subst hx1
        have Hb := hid (show badP par i = false by unfold badP; rw [hx]; rfl)
        clear hx
        go_wp2_with (first | ((first | (refine is_load rfl ?_; refine wl_ev rfl (by first | exact c_ld H rfl rfl | exact c_ld0 H rfl rfl | exact c_ldz H rfl rfl | exact c_ldr H rfl rfl) ?_) | (refine is_cmp rfl rfl ?_; first | (refine wl_ev rfl (by first | exact ev_cmpT rfl rfl rfl rfl | exact ev_cmpF rfl rfl rfl rfl) ?_) | (refine wl_cmp rfl rfl rfl rfl rfl (fun h => ?_) (fun h => ?_) <;> (simp only [cmpP] at h))) | (refine is_indexAddr rfl ?_; refine wl_ev rfl (c_ix rfl rfl rfl) ?_)) <;> (simp only [nrm, ↓reduceIte, Nat.reduceAdd]))  )
        go_roundw
        case rel => exact ⟨i + 1, by omega, by go_num, hid (upto_step (P := fun j => badP par j = false) hall.out Hb.out), H.sub (by repeat first | exact List.Sublist.refl _ | exact List.nil_sublist _ | apply List.Sublist.cons_cons | apply List.Sublist.cons)⟩
        case measure => simp [intOf]; omega
      · by_cases hg : (i : Int) < x ∧ x < par.length
        · obtain ⟨hg1, hg2⟩ := hg
          have Hb := hid (show badP par i = false by unfold badP; rw [hx, Option.getD_some, decide_eq_false (by omega), decide_eq_false (by omega)]; simp)
          clear hx
          go_wp2_with (first | ((first | (refine is_load rfl ?_; refine wl_ev rfl (by first | exact c_ld H rfl rfl | exact c_ld0 H rfl rfl | exact c_ldz H rfl rfl | exact c_ldr H rfl rfl) ?_) | (refine is_cmp rfl rfl ?_; first | (refine wl_ev rfl (by first | exact ev_cmpT rfl rfl rfl rfl | exact ev_cmpF rfl rfl rfl rfl) ?_) | (refine wl_cmp rfl rfl rfl rfl rfl (fun h => ?_) (fun h => ?_) <;> (simp only [cmpP] at h))) | (refine is_indexAddr rfl ?_; refine wl_ev rfl (c_ix rfl rfl rfl) ?_)) <;> (simp only [nrm, ↓reduceIte, Nat.reduceAdd]))  )
          go_roundw
          case rel => exact ⟨i + 1, by omega, by go_num, hid (upto_step (P := fun j => badP par j = false) hall.out Hb.out), H.sub (by repeat first | exact List.Sublist.refl _ | exact List.nil_sublist _ | apply List.Sublist.cons_cons | apply List.Sublist.cons)⟩
          case measure => simp [intOf]; omega
        · have Hb := hid (show badP par i = true by
            unfold badP; rw [hx, Option.getD_some]
            by_cases h3 : x ≤ (i : Int)
            · rw [decide_eq_true h3]; simp [hx1]
            · rw [decide_eq_true (show (par.length : Int) ≤ x by omega)]; simp [hx1])
          have Hc : Hid (badPar par = true) := hid (any_yes hin Hb.out)
          clear hx
          by_cases h3 : x ≤ (i : Int)
          · clear hg
            go_wp2_with (first | ((first | (refine is_load rfl ?_; refine wl_ev rfl (by first | exact c_ld H rfl rfl | exact c_ld0 H rfl rfl | exact c_ldz H rfl rfl | exact c_ldr H rfl rfl) ?_) | (refine is_cmp rfl rfl ?_; first | (refine wl_ev rfl (by first | exact ev_cmpT rfl rfl rfl rfl | exact ev_cmpF rfl rfl rfl rfl) ?_) | (refine wl_cmp rfl rfl rfl rfl rfl (fun h => ?_) (fun h => ?_) <;> (simp only [cmpP] at h))) | (refine is_indexAddr rfl ?_; refine wl_ev rfl (c_ix rfl rfl rfl) ?_)) <;> (simp only [nrm, ↓reduceIte, Nat.reduceAdd]))  )
            go_ret
            exact ⟨by rw [Hc.out]; rfl, H.fr⟩
          · have h4 : (par.length : Int) ≤ x := by omega
            clear hg
            go_wp2_with (first | ((first | (refine is_load rfl ?_; refine wl_ev rfl (by first | exact c_ld H rfl rfl | exact c_ld0 H rfl rfl | exact c_ldz H rfl rfl | exact c_ldr H rfl rfl) ?_) | (refine is_cmp rfl rfl ?_; first | (refine wl_ev rfl (by first | exact ev_cmpT rfl rfl rfl rfl | exact ev_cmpF rfl rfl rfl rfl) ?_) | (refine wl_cmp rfl rfl rfl rfl rfl (fun h => ?_) (fun h => ?_) <;> (simp only [cmpP] at h))) | (refine is_indexAddr rfl ?_; refine wl_ev rfl (c_ix rfl rfl rfl) ?_)) <;> (simp only [nrm, ↓reduceIte, Nat.reduceAdd]))  )
            go_ret
            exact ⟨by rw [Hc.out]; rfl, H.fr⟩
    · have Hc : Hid (badPar par = false) := hid (any_no (fun j hj => hall.out j (by omega)))
      clear hall
      go_wp2_with (first | ((first | (refine is_load rfl ?_; refine wl_ev rfl (by first | exact c_ld H rfl rfl | exact c_ld0 H rfl rfl | exact c_ldz H rfl rfl | exact c_ldr H rfl rfl) ?_) | (refine is_cmp rfl rfl ?_; first | (refine wl_ev rfl (by first | exact ev_cmpT rfl rfl rfl rfl | exact ev_cmpF rfl rfl rfl rfl) ?_) | (refine wl_cmp rfl rfl rfl rfl rfl (fun h => ?_) (fun h => ?_) <;> (simp only [cmpP] at h))) | (refine is_indexAddr rfl ?_; refine wl_ev rfl (c_ix rfl rfl rfl) ?_)) <;> (simp only [nrm, ↓reduceIte, Nat.reduceAdd]))  )
      go_ret
      exact ⟨by rw [Hc.out]; rfl, H.fr⟩
/-- A child of t is not done (the document's view). -/
def heldD (par : List Int) (don : List Bool) (t : Nat) : Bool := (List.range par.length).any fun c => par[c]?.getD 0 == (t : Int) && !(don[c]?.getD false)
theorem heldD_yes {par : List Int} {don : List Bool} {t i : Nat} (hi : i < par.length) (hp : par[i]? = some (t : Int)) (hd : don[i]? = some false) : heldD par don t = true := any_yes hi (by simp [hp, hd])
theorem heldD_no {par : List Int} {don : List Bool} {t : Nat} (hl : don.length = par.length) (h : ∀ i, i < par.length → par[i]? = some (t : Int) → don[i]? = some true) : heldD par don t = false := any_no (fun i hi => by
  obtain ⟨x, hx⟩ : ∃ x, par[i]? = some x := ⟨_, List.getElem?_eq_getElem hi⟩
  by_cases e : x = t
  · subst e; rw [hx, h i hi hx]; simp
  · rw [hx]; simp [e])
set_option maxHeartbeats 4000000 in
set_option maxRecDepth 100000 in
/-- Free, over what it reads: the block's first and fourth field. -/
theorem free33_any {w : World} {b : Nat} {p q : Option Addr} {c d n : Nat} {v1 v2 v4 v5 v6 : Value} (par : List Int) (don : List Bool) (hpl : par.length = n) (hdl : don.length = n) (hn : n ≤ 1000) (hb : b < w.heap.size) (hcell : ∀ (j : Nat) u, [.slice p n c, v1, v2, .slice q n d, v4, v5, v6][j]? = some u → w.cell? ⟨b, 0 + j, none⟩ = some u)
    (hp : Rd w (.slice p n c) n (ints par)) (hq : Rd w (.slice q n d) n (boolsV don)) (t : Nat) :
    Calls Try.prog 48 #[.pointer (some ⟨b, 0, none⟩), .int .i64 t] w fun e w' => e = .returned (.bool (!heldD par don t)) ∧ Fr [] w w' := by
  have Hp0 := hid hp
  have Hq0 := hid hq
  have Hpl := hid hpl
  have Hdl := hid hdl
  have H := (Hp.start [] w).pushRng (b := b) (off := 0) hb (by simp) hcell
  have Hbl := hid hcell
  clear hp hq hpl hdl hcell
  go_enter Try.func48, Try.ntmps48
  go_wp2_with (first | ((first | (refine is_load rfl ?_; refine wl_ev rfl (by first | exact c_ld H rfl rfl | exact c_ld0 H rfl rfl | exact c_ldz H rfl rfl | exact c_ldr H rfl rfl) ?_) | (refine is_cmp rfl rfl ?_; first | (refine wl_ev rfl (by first | exact ev_cmpT rfl rfl rfl rfl | exact ev_cmpF rfl rfl rfl rfl) ?_) | (refine wl_cmp rfl rfl rfl rfl rfl (fun h => ?_) (fun h => ?_) <;> (simp only [cmpP] at h))) | (refine is_indexAddr rfl ?_; refine wl_ev rfl (c_ix rfl rfl rfl) ?_)) <;> (simp only [nrm, ↓reduceIte, Nat.reduceAdd]))  )
  go_loopw [5] (fun s5 wr => ∃ i : Nat, i ≤ n ∧ s5 = .int .i64 i ∧ Hid (∀ j, j < i → par[j]? = some (t : Int) → don[j]? = some true) ∧ Hp [] w wr [.rng b 0 [.slice p n c, v1, v2, .slice q n d, v4, v5, v6]]) (fun v _ => n - (intOf v).toNat)
  case atStart => exact ⟨0, Nat.zero_le _, rfl, hid (fun c hc => by omega), H⟩
  case round =>
    clear H
    obtain ⟨i, hi, rfl, hall, H⟩ := hrel
    by_cases hin : i < n
    · obtain ⟨x, hx⟩ : ∃ x, par[i]? = some x := ⟨_, List.getElem?_eq_getElem (by rw [Hpl.out]; exact hin)⟩
      obtain ⟨y, hy⟩ : ∃ y, don[i]? = some y := ⟨_, List.getElem?_eq_getElem (by rw [Hdl.out]; exact hin)⟩
      have hxv := ints_at hx
      have hyv := boolsV_at hy
      have Hx := hid hx
      have Hy := hid hy
      clear hx hy
      obtain ⟨b1, off1, rfl, hb1, hcell1⟩ := Hp0.out.rng (ints_ne (i := i) (by rw [Hpl.out]; exact hin))
      obtain ⟨b2, off2, rfl, hb2, hcell2⟩ := Hq0.out.rng (boolsV_ne (i := i) (by rw [Hdl.out]; exact hin))
      have H1 := (H.pushRng (b := b1) (off := off1) hb1 (by simp) hcell1).pushRng (b := b2) (off := off2) hb2 (by simp) hcell2
      clear H hcell1 hcell2
      have H := H1
      clear H1
      by_cases hxt : x = t
      · subst hxt
        cases y
        · have Hh := hid (heldD_yes (by rw [Hpl.out]; exact hin) Hx.out Hy.out)
          go_wp2_with (first | ((first | (refine is_load rfl ?_; refine wl_ev rfl (by first | exact c_ld H rfl rfl | exact c_ld0 H rfl rfl | exact c_ldz H rfl rfl | exact c_ldr H rfl rfl) ?_) | (refine is_cmp rfl rfl ?_; first | (refine wl_ev rfl (by first | exact ev_cmpT rfl rfl rfl rfl | exact ev_cmpF rfl rfl rfl rfl) ?_) | (refine wl_cmp rfl rfl rfl rfl rfl (fun h => ?_) (fun h => ?_) <;> (simp only [cmpP] at h))) | (refine is_indexAddr rfl ?_; refine wl_ev rfl (c_ix rfl rfl rfl) ?_)) <;> (simp only [nrm, ↓reduceIte, Nat.reduceAdd]))  )
          go_ret
          exact ⟨by rw [Hh.out]; rfl, H.fr⟩
        · go_wp2_with (first | ((first | (refine is_load rfl ?_; refine wl_ev rfl (by first | exact c_ld H rfl rfl | exact c_ld0 H rfl rfl | exact c_ldz H rfl rfl | exact c_ldr H rfl rfl) ?_) | (refine is_cmp rfl rfl ?_; first | (refine wl_ev rfl (by first | exact ev_cmpT rfl rfl rfl rfl | exact ev_cmpF rfl rfl rfl rfl) ?_) | (refine wl_cmp rfl rfl rfl rfl rfl (fun h => ?_) (fun h => ?_) <;> (simp only [cmpP] at h))) | (refine is_indexAddr rfl ?_; refine wl_ev rfl (c_ix rfl rfl rfl) ?_)) <;> (simp only [nrm, ↓reduceIte, Nat.reduceAdd]))  )
          go_roundw
          case rel => exact ⟨i + 1, by omega, by go_num, hid (upto_step (P := fun j => par[j]? = some (t : Int) → don[j]? = some true) hall.out (fun _ => Hy.out)), H.sub (by repeat first | exact List.Sublist.refl _ | exact List.nil_sublist _ | apply List.Sublist.cons_cons | apply List.Sublist.cons)⟩
          case measure => simp [intOf]; omega
      · go_wp2_with (first | ((first | (refine is_load rfl ?_; refine wl_ev rfl (by first | exact c_ld H rfl rfl | exact c_ld0 H rfl rfl | exact c_ldz H rfl rfl | exact c_ldr H rfl rfl) ?_) | (refine is_cmp rfl rfl ?_; first | (refine wl_ev rfl (by first | exact ev_cmpT rfl rfl rfl rfl | exact ev_cmpF rfl rfl rfl rfl) ?_) | (refine wl_cmp rfl rfl rfl rfl rfl (fun h => ?_) (fun h => ?_) <;> (simp only [cmpP] at h))) | (refine is_indexAddr rfl ?_; refine wl_ev rfl (c_ix rfl rfl rfl) ?_)) <;> (simp only [nrm, ↓reduceIte, Nat.reduceAdd]))  )
        go_roundw
        case rel => exact ⟨i + 1, by omega, by go_num, hid (upto_step (P := fun j => par[j]? = some (t : Int) → don[j]? = some true) hall.out (fun h => by rw [Hx.out] at h; injection h with h; exact absurd h hxt)), H.sub (by repeat first | exact List.Sublist.refl _ | exact List.nil_sublist _ | apply List.Sublist.cons_cons | apply List.Sublist.cons)⟩
        case measure => simp [intOf]; omega
    · have Hh := hid (heldD_no (par := par) (don := don) (t := t) (by rw [Hpl.out, Hdl.out]) (fun j hj => hall.out j (by rw [Hpl.out] at hj; omega)))
      clear hall
      go_wp2_with (first | ((first | (refine is_load rfl ?_; refine wl_ev rfl (by first | exact c_ld H rfl rfl | exact c_ld0 H rfl rfl | exact c_ldz H rfl rfl | exact c_ldr H rfl rfl) ?_) | (refine is_cmp rfl rfl ?_; first | (refine wl_ev rfl (by first | exact ev_cmpT rfl rfl rfl rfl | exact ev_cmpF rfl rfl rfl rfl) ?_) | (refine wl_cmp rfl rfl rfl rfl rfl (fun h => ?_) (fun h => ?_) <;> (simp only [cmpP] at h))) | (refine is_indexAddr rfl ?_; refine wl_ev rfl (c_ix rfl rfl rfl) ?_)) <;> (simp only [nrm, ↓reduceIte, Nat.reduceAdd]))  )
      go_ret
      exact ⟨by rw [Hh.out]; rfl, H.fr⟩
end Go.Proofs.Ythlhjjokodmihaa
