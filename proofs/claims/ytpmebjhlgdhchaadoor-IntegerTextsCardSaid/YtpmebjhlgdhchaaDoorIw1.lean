/-
  The integers: trim, the document's trim, the comparisons of magnitudes.
-/
import Derived.Test.YtpmebjhlgdhchaaDoorIn5
import Derived.Test.YtpmebjhlgdhchaaDoorTy
namespace Go.Proofs.YtpmebjhlgdhchaaDoor
open Go.RowKit
set_option linter.unusedSimpArgs false
set_option linter.unusedVariables false
set_option maxHeartbeats 4000000
set_option maxRecDepth 100000
theorem LR.len {w : World} {p : Option Addr} {c : Nat} {l : List Nat} (h : LR w p c l) : l.length ≤ 9223372036854775807 := by
  have h1 := h.cap; have h2 := h.max; unfold maxLen at h2; omega
theorem LR.clen {w : World} {p : Option Addr} {c : Nat} {l : List Nat} (h : LR w p c l) : l.length ≤ c ∧ c ≤ 9223372036854775807 := by
  have h1 := h.cap; have h2 := h.max; unfold maxLen at h2; omega
theorem trim_down {l : List Nat} (h : Lim l) {m : Nat} (hm : (digs (val l)).length ≤ m + 1) (hx : l[m]? = some 0) : (digs (val l)).length ≤ m := by
  apply Classical.byContradiction
  intro hn
  have e : (digs (val l)).length = m + 1 := by omega
  have h1 := digs_take h
  rw [e] at h1
  have h2 := digs_last (val l)
  rw [e, Nat.add_sub_cancel] at h2
  refine h2 0 ?_ rfl
  rw [← h1, List.getElem?_take, if_pos (by omega)]
  exact hx
theorem trim_here {l : List Nat} (h : Lim l) {m x : Nat} (hm : (digs (val l)).length ≤ m + 1) (hx : l[m]? = some x) (h0 : x ≠ 0) : (digs (val l)).length = m + 1 := by
  apply Classical.byContradiction
  intro hn
  exact h0 (digs_drop h (by omega) hx)
theorem trim_any {w : World} {p : Option Addr} {n c : Nat} (l : List Nat) (hl : l.length = n) (h : LR w p c l) :
    Calls Tryd.prog 49 #[.slice p n c] w fun e w' => e = .returned (.slice p (digs (val l)).length c) ∧ Fr [] w w' := by
  subst hl
  obtain ⟨hlc, hc⟩ := h.clen
  have Hh := hid h
  clear h
  have hd := digs_len_le Hh.out.lim
  obtain ⟨k, hk⟩ : ∃ k, (digs (val l)).length = k := ⟨_, rfl⟩
  rw [hk] at hd ⊢
  have Hk := hid hk
  clear hk
  have H := Hp.start [] w
  go_enter Tryd.func49, Tryd.ntmps49
  go_wp2_with (first | refine x_q H ?_ | refine x_cm (fun h => ?_) (fun h => ?_) | (revert H; first | (refine x_g ?_; intro g w1 hg hf H) | (refine x_s ?_; intro w1 hf H); (try clear hf)))
  go_loopw [3] (fun s3 wr => ∃ m : Nat, m ≤ l.length ∧ k ≤ m ∧ s3 = .int .i64 m ∧ Hp [] w wr []) (fun v _ => (intOf v).toNat)
  case atStart => exact ⟨l.length, Nat.le_refl _, hd, rfl, H⟩
  case round =>
    clear H
    obtain ⟨m, hm, hkm, rfl, H⟩ := hrel
    by_cases h0 : m = 0
    · have e : k = m := by omega
      subst e
      have h0' : k ≤ 0 := by omega
      clear h0
      go_wp2_with (first | refine x_q H ?_ | refine x_cm (fun h => ?_) (fun h => ?_) | (revert H; first | (refine x_g ?_; intro g w1 hg hf H) | (refine x_s ?_; intro w1 hf H); (try clear hf)))
      go_ret
      exact ⟨by simp, H.fr⟩
    · obtain ⟨j, rfl⟩ : ∃ j, m = j + 1 := ⟨m - 1, by omega⟩
      obtain ⟨x, hx⟩ : ∃ x, l[j]? = some x := ⟨_, List.getElem?_eq_getElem (by omega)⟩
      have hxv := limbs_at hx
      have Hx := hid hx
      clear hx h0
      obtain ⟨b0, off, rfl, hb0, hcell⟩ := Hh.out.rd.rng (limbs_ne (i := j) (by omega))
      have H1 := H.pushRng (b := b0) (off := off) hb0 (by simp) hcell
      clear H hcell
      have H := H1
      clear H1
      have hxv2 : (limbs l)[(((j + 1 : Nat) : Int) - 1).toNat]? = some (.int .u32 (x : Int)) := by rw [show (((j + 1 : Nat) : Int) - 1).toNat = j by omega]; exact hxv
      by_cases hx0 : x = 0
      · have hx0' : (x : Int) ≤ 0 := by omega
        subst hx0
        have hdn : k ≤ j := by have := trim_down Hh.out.lim (m := j) (by rw [Hk.out]; exact hkm) Hx.out; rw [Hk.out] at this; exact this
        go_wp2_with (first | refine x_q H ?_ | refine x_cm (fun h => ?_) (fun h => ?_) | (revert H; first | (refine x_g ?_; intro g w1 hg hf H) | (refine x_s ?_; intro w1 hf H); (try clear hf)))
        go_roundw
        case rel => exact ⟨j, by omega, hdn, by go_num, H.sub (by repeat first | exact List.Sublist.refl _ | exact List.nil_sublist _ | apply List.Sublist.cons_cons | apply List.Sublist.cons)⟩
        case measure => (simp [intOf]; try omega)
      · have hxp : 0 < (x : Int) := by omega
        have e := trim_here Hh.out.lim (m := j) (by rw [Hk.out]; exact hkm) Hx.out hx0
        rw [Hk.out] at e
        subst e
        clear hx0
        go_wp2_with (first | refine x_q H ?_ | refine x_cm (fun h => ?_) (fun h => ?_) | (revert H; first | (refine x_g ?_; intro g w1 hg hf H) | (refine x_s ?_; intro w1 hf H); (try clear hf)))
        go_ret
        exact ⟨by simp, H.fr⟩
theorem LR.of_row {w : World} {e : TypeId} {v : Value} {n : Nat} {l : List Nat} {S : List Nat} (h : RowAt e 1 v n (limbs l) S w) (lm : Lim l) : ∃ p c, v = .slice p l.length c ∧ l.length = n ∧ LR w p c l := by
  obtain ⟨h0, h⟩ := h
  rw [limbs_len, Nat.mul_one] at h0
  subst h0
  rcases h with ⟨_, h1, rfl⟩ | ⟨g, cap, pad, _, rfl, h2, h3, h4, h5⟩
  · have : l = [] := List.eq_nil_of_length_eq_zero h1
    subst this
    exact ⟨none, 0, rfl, rfl, ⟨fun _ => rfl, Nat.zero_le _, by unfold maxLen; omega, lm, .inl ⟨rfl, rfl, _, _, rfl⟩⟩⟩
  · refine ⟨_, cap, rfl, rfl, ⟨fun h => (by cases h), h2, h3, lm, .inr ⟨_, cap, rfl, fun j u hj => ?_⟩⟩⟩
    rw [add_mk, cell_of_row w g _ _ _ _ h5, Nat.zero_add]
    simpa using pre_at (pad := pad) hj
theorem LR.of_blk {w : World} {g c : Nat} {l : List Nat} {pad : List Value} {e : TypeId} (h : w.heap[g]? = some (.cells (limbs l ++ pad).toArray e (0, 0))) (lm : Lim l) (hc : l.length ≤ c) (hm : c ≤ maxLen) : LR w (some ⟨g, 0, none⟩) c l :=
  ⟨fun h => (by cases h), hc, hm, lm, .inr ⟨_, c, rfl, fun j u hj => by
    rw [add_mk, cell_of_row w g _ _ _ _ h, Nat.zero_add]
    simpa using pre_at (pad := pad) hj⟩⟩
theorem rtrim_any {w : World} {p : Option Addr} {n c : Nat} (l : List Nat) (hl : l.length = n) (hn : n ≤ 1000000) (h : LR w p c l) :
    Calls Tryd.prog 59 #[.slice p n c] w fun e w' => ∃ p' c', e = .returned (.slice p' (digs (val l)).length c') ∧ Fr [] w w' ∧ LR w' p' c' (digs (val l)) := by
  subst hl
  obtain ⟨hlc, hc⟩ := h.clen
  have Hh := hid h
  clear h
  have hd := digs_len_le Hh.out.lim
  obtain ⟨k, hk⟩ : ∃ k, (digs (val l)).length = k := ⟨_, rfl⟩
  rw [hk] at hd ⊢
  have Hk := hid hk
  clear hk
  have H := (Hp.start [] w).newRow 0 (e := 54) (sz := 1)
  go_enter Tryd.func59, Tryd.ntmps59
  go_wp2_with (first | refine x_q H ?_ | refine x_cm (fun h => ?_) (fun h => ?_) | (revert H; first | (refine x_g ?_; intro g w1 hg hf H) | (refine x_s ?_; intro w1 hf H); (try clear hf)))
  go_loopw [3] (fun s3 wr => ∃ m : Nat, m ≤ l.length ∧ k ≤ m ∧ s3 = .int .i64 m ∧ Hp [] w wr [.obj 0 [] (RowAt 54 1 (.slice none 0 0) 0 [] [])]) (fun v _ => (intOf v).toNat)
  case atStart => exact ⟨l.length, Nat.le_refl _, hd, rfl, H⟩
  case round =>
    clear H
    obtain ⟨m, hm, hkm, rfl, H⟩ := hrel
    by_cases h0 : k = m
    · have Hend : Hid (k = m) := hid h0
      have hkl : k ≤ l.length := by omega
      by_cases hm0 : m = 0
      · have hm0' : m ≤ 0 := by omega
        clear h0 hm0
        go_wp2_with (first | refine x_q H ?_ | refine x_cm (fun h => ?_) (fun h => ?_) | (revert H; first | (refine x_g ?_; intro g w1 hg hf H) | (refine x_s ?_; intro w1 hf H); (try clear hf)))
        go_loopw [4, 5] (fun s4 s5 wr => ∃ (i : Nat) (pv : Value) (S : List Nat), i ≤ k ∧ s5 = .int .i64 i ∧ s4 = pv ∧ Hp [] w wr [.obj 0 S (RowAt 54 1 pv i (limbs (l.take i)) S)]) (fun _ v _ => k - (intOf v).toNat)
        case atStart => exact ⟨0, _, _, Nat.zero_le _, rfl, rfl, H⟩
        case round =>
          clear H
          obtain ⟨i, pv, S, hi, rfl, hpv, H⟩ := hrel
          obtain ⟨p5, c5, he, _⟩ := (H.rowo 0).form
          subst he
          subst hpv
          have hen := Hend.out
          by_cases hin : i < k
          · obtain ⟨x, hx⟩ : ∃ x, l[i]? = some x := ⟨_, List.getElem?_eq_getElem (by omega)⟩
            have hxv := limbs_at hx
            have Htk : Hid (limbs (l.take i) ++ [.int .u32 (x : Int)] = limbs (l.take (i + 1))) := hid (by rw [List.take_add_one, hx]; simp [limbs])
            clear hx
            obtain ⟨b1, off1, he1, hb1, hcell1⟩ := Hh.out.rd.rng (limbs_ne (i := i) (by omega))
            have H1 := H.pushRng (b := b1) (off := off1) hb1 (by simp) hcell1
            clear H hcell1
            have H := H1
            clear H1
            (try subst he1)
            (try cases he1)
            have him : i < m := by omega
            clear hen
            go_wp2_with (first | refine x_q H ?_ | refine x_cm (fun h => ?_) (fun h => ?_) | (refine is_blt (b := .append) rfl ?_; go_loud (refine wl_rw rfl (fun K hK => c_aprS H rfl rfl rfl 0 (H.rd (b := g) (off := 0) (vs := [.int .u32 (x : Int)]) List.prefix_rfl) rfl (by intro u hu; simp only [List.mem_singleton] at hu; subst hu; rfl) (by omega) (by unfold maxLen; omega) (fun p1 c1 w1 S' hf H1 => hK _ _ ?_))); (clear hK K); (clear H; have H := H1; clear H1; (try dsimp only at H); (try clear hf)); (simp only [nrm, ↓reduceIte, Nat.reduceAdd])) | (revert H; first | (refine x_g ?_; intro g w1 hg hf H) | (refine x_s ?_; intro w1 hf H); (try clear hf)))
            rw [Htk.out] at H
            go_roundw
            case rel => exact ⟨i + 1, _, S', by omega, by go_num, rfl, H.sub (by repeat first | exact List.Sublist.refl _ | exact List.nil_sublist _ | apply List.Sublist.cons_cons | apply List.Sublist.cons)⟩
            case measure => (simp [intOf]; try omega)
          · have e : i = k := by omega
            subst e
            have e2 : l.take i = digs (val l) := by rw [← Hk.out]; exact digs_take Hh.out.lim
            rw [e2] at H
            have him : m ≤ i := by omega
            clear e2 hen
            go_wp2_with (first | refine x_q H ?_ | refine x_cm (fun h => ?_) (fun h => ?_) | (revert H; first | (refine x_g ?_; intro g w1 hg hf H) | (refine x_s ?_; intro w1 hf H); (try clear hf)))
            go_ret
            obtain ⟨p6, c6, e6, e7, hL⟩ := LR.of_row (H.rowo 0) (digs_lim _)
            injection e6 with e61 e62 e63
            subst e61 e63
            exact ⟨_, _, rfl, H.fr, hL⟩
      · obtain ⟨j, rfl⟩ : ∃ j, m = j + 1 := ⟨m - 1, by omega⟩
        obtain ⟨x, hx⟩ : ∃ x, l[j]? = some x := ⟨_, List.getElem?_eq_getElem (by omega)⟩
        have hx0 : x ≠ 0 := by
          have h1 := digs_take Hh.out.lim
          rw [Hk.out] at h1
          have h2 := digs_last (val l) x
          rw [Hk.out, h0, Nat.add_sub_cancel] at h2
          refine h2 ?_
          rw [← h1, h0, List.getElem?_take, if_pos (by omega)]
          exact hx
        have hxv := limbs_at hx
        clear hx h0 hm0
        have hxp : 0 < (x : Int) := by omega
        obtain ⟨b0, off, rfl, hb0, hcell⟩ := Hh.out.rd.rng (limbs_ne (i := j) (by omega))
        have H1 := H.pushRng (b := b0) (off := off) hb0 (by simp) hcell
        clear H hcell
        have H := H1
        clear H1
        have hxv2 : (limbs l)[(((j + 1 : Nat) : Int) - 1).toNat]? = some (.int .u32 (x : Int)) := by rw [show (((j + 1 : Nat) : Int) - 1).toNat = j by omega]; exact hxv
        clear hx0
        go_wp2_with (first | refine x_q H ?_ | refine x_cm (fun h => ?_) (fun h => ?_) | (revert H; first | (refine x_g ?_; intro g w1 hg hf H) | (refine x_s ?_; intro w1 hf H); (try clear hf)))
        have H1 := H.sub (l' := [.obj 0 [] (RowAt 54 1 (.slice none 0 0) 0 [] [])]) (by repeat first | exact List.Sublist.refl _ | exact List.nil_sublist _ | apply List.Sublist.cons_cons | apply List.Sublist.cons)
        clear H
        have H := H1
        clear H1
        go_loopw [4, 5] (fun s4 s5 wr => ∃ (i : Nat) (pv : Value) (S : List Nat), i ≤ k ∧ s5 = .int .i64 i ∧ s4 = pv ∧ Hp [] w wr [.obj 0 S (RowAt 54 1 pv i (limbs (l.take i)) S)]) (fun _ v _ => k - (intOf v).toNat)
        case atStart => exact ⟨0, _, _, Nat.zero_le _, rfl, rfl, H⟩
        case round =>
          clear H
          obtain ⟨i, pv, S, hi, rfl, hpv, H⟩ := hrel
          obtain ⟨p5, c5, he, _⟩ := (H.rowo 0).form
          subst he
          subst hpv
          have hen := Hend.out
          by_cases hin : i < k
          · obtain ⟨x, hx⟩ : ∃ x, l[i]? = some x := ⟨_, List.getElem?_eq_getElem (by omega)⟩
            have hxv := limbs_at hx
            have Htk : Hid (limbs (l.take i) ++ [.int .u32 (x : Int)] = limbs (l.take (i + 1))) := hid (by rw [List.take_add_one, hx]; simp [limbs])
            clear hx
            obtain ⟨b1, off1, he1, hb1, hcell1⟩ := Hh.out.rd.rng (limbs_ne (i := i) (by omega))
            have H1 := H.pushRng (b := b1) (off := off1) hb1 (by simp) hcell1
            clear H hcell1
            have H := H1
            clear H1
            (try subst he1)
            (try cases he1)
            have him : i < (j + 1) := by omega
            clear hen
            go_wp2_with (first | refine x_q H ?_ | refine x_cm (fun h => ?_) (fun h => ?_) | (refine is_blt (b := .append) rfl ?_; go_loud (refine wl_rw rfl (fun K hK => c_aprS H rfl rfl rfl 0 (H.rd (b := g) (off := 0) (vs := [.int .u32 (x : Int)]) List.prefix_rfl) rfl (by intro u hu; simp only [List.mem_singleton] at hu; subst hu; rfl) (by omega) (by unfold maxLen; omega) (fun p1 c1 w1 S' hf H1 => hK _ _ ?_))); (clear hK K); (clear H; have H := H1; clear H1; (try dsimp only at H); (try clear hf)); (simp only [nrm, ↓reduceIte, Nat.reduceAdd])) | (revert H; first | (refine x_g ?_; intro g w1 hg hf H) | (refine x_s ?_; intro w1 hf H); (try clear hf)))
            rw [Htk.out] at H
            go_roundw
            case rel => exact ⟨i + 1, _, S', by omega, by go_num, rfl, H.sub (by repeat first | exact List.Sublist.refl _ | exact List.nil_sublist _ | apply List.Sublist.cons_cons | apply List.Sublist.cons)⟩
            case measure => (simp [intOf]; try omega)
          · have e : i = k := by omega
            subst e
            have e2 : l.take i = digs (val l) := by rw [← Hk.out]; exact digs_take Hh.out.lim
            rw [e2] at H
            have him : (j + 1) ≤ i := by omega
            clear e2 hen
            go_wp2_with (first | refine x_q H ?_ | refine x_cm (fun h => ?_) (fun h => ?_) | (revert H; first | (refine x_g ?_; intro g w1 hg hf H) | (refine x_s ?_; intro w1 hf H); (try clear hf)))
            go_ret
            obtain ⟨p6, c6, e6, e7, hL⟩ := LR.of_row (H.rowo 0) (digs_lim _)
            injection e6 with e61 e62 e63
            subst e61 e63
            exact ⟨_, _, rfl, H.fr, hL⟩
    · obtain ⟨j, rfl⟩ : ∃ j, m = j + 1 := ⟨m - 1, by omega⟩
      obtain ⟨x, hx⟩ : ∃ x, l[j]? = some x := ⟨_, List.getElem?_eq_getElem (by omega)⟩
      have hx0 : x = 0 := digs_drop Hh.out.lim (i := j) (by rw [Hk.out]; omega) hx
      subst hx0
      have hxv := limbs_at hx
      clear hx
      obtain ⟨b0, off, rfl, hb0, hcell⟩ := Hh.out.rd.rng (limbs_ne (i := j) (by omega))
      have H1 := H.pushRng (b := b0) (off := off) hb0 (by simp) hcell
      clear H hcell
      have H := H1
      clear H1
      have hxv2 : (limbs l)[(((j + 1 : Nat) : Int) - 1).toNat]? = some (.int .u32 ((0 : Nat) : Int)) := by rw [show (((j + 1 : Nat) : Int) - 1).toNat = j by omega]; exact hxv
      have hkj : k ≤ j := by omega
      clear h0
      go_wp2_with (first | refine x_q H ?_ | refine x_cm (fun h => ?_) (fun h => ?_) | (revert H; first | (refine x_g ?_; intro g w1 hg hf H) | (refine x_s ?_; intro w1 hf H); (try clear hf)))
      go_roundw
      case rel => exact ⟨j, by omega, hkj, by go_num, H.sub (by repeat first | exact List.Sublist.refl _ | exact List.nil_sublist _ | apply List.Sublist.cons_cons | apply List.Sublist.cons)⟩
      case measure => (simp [intOf]; try omega)
end Go.Proofs.YtpmebjhlgdhchaaDoor
