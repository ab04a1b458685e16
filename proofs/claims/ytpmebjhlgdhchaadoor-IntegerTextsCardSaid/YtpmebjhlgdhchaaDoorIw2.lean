/-
  The integers: the comparisons of magnitudes.
-/
import Derived.Test.YtpmebjhlgdhchaaDoorIw1
namespace Go.Proofs.YtpmebjhlgdhchaaDoor
open Go.RowKit
set_option linter.unusedSimpArgs false
set_option linter.unusedVariables false
set_option maxHeartbeats 4000000
set_option maxRecDepth 100000
def cmpZ (x y : Int) : Int := if x < y then -1 else if y < x then 1 else 0
theorem nanI (w : World) (x : Int) : Calls Tryd.prog 99 #[.int .i64 x] w fun e w' => e = .returned (.bool false) ∧ Fr [] w w' := by
  have H := Hp.start [] w
  go_enter Tryd.func99, Tryd.ntmps99
  go_wp2_with (first | refine x_q H ?_ | refine x_cm (fun h => ?_) (fun h => ?_) | (revert H; first | (refine x_g ?_; intro g w1 hg hf H) | (refine x_s ?_; intro w1 hf H); (try clear hf)))
  go_ret
  exact ⟨rfl, H.fr⟩
theorem cmpI (w : World) (x y : Int) : Calls Tryd.prog 85 #[.int .i64 x, .int .i64 y] w fun e w' => e = .returned (.int .i64 (cmpZ x y)) ∧ Fr [] w w' := by
  have H := Hp.start [] w
  have hz : cmpZ x y = if x < y then -1 else if y < x then 1 else 0 := rfl
  by_cases h1 : x < y
  · have Hz : Hid (cmpZ x y = -1) := hid (by rw [hz, if_pos h1])
    clear hz
    go_enter Tryd.func85, Tryd.ntmps85
    go_wp2_with (first | refine x_q H ?_ | refine x_cm (fun h => ?_) (fun h => ?_) | (revert H; first | (refine x_g ?_; intro g w1 hg hf H) | (refine x_s ?_; intro w1 hf H); (try clear hf)))
    (refine x_c H (nanI _ x) ?_; clear H; rintro e w1 ⟨rfl, hF⟩ H)
    go_wp2_with (first | refine x_q H ?_ | refine x_cm (fun h => ?_) (fun h => ?_) | (revert H; first | (refine x_g ?_; intro g w1 hg hf H) | (refine x_s ?_; intro w1 hf H); (try clear hf)))
    (refine x_c H (nanI _ y) ?_; clear H; rintro e w1 ⟨rfl, hF⟩ H)
    go_wp2_with (first | refine x_q H ?_ | refine x_cm (fun h => ?_) (fun h => ?_) | (revert H; first | (refine x_g ?_; intro g w1 hg hf H) | (refine x_s ?_; intro w1 hf H); (try clear hf)))
    go_ret
    exact ⟨by rw [Hz.out]; rfl, H.fr⟩
  · by_cases h2 : y < x
    · have Hz : Hid (cmpZ x y = 1) := hid (by rw [hz, if_neg h1, if_pos h2])
      clear hz
      go_enter Tryd.func85, Tryd.ntmps85
      go_wp2_with (first | refine x_q H ?_ | refine x_cm (fun h => ?_) (fun h => ?_) | (revert H; first | (refine x_g ?_; intro g w1 hg hf H) | (refine x_s ?_; intro w1 hf H); (try clear hf)))
      (refine x_c H (nanI _ x) ?_; clear H; rintro e w1 ⟨rfl, hF⟩ H)
      go_wp2_with (first | refine x_q H ?_ | refine x_cm (fun h => ?_) (fun h => ?_) | (revert H; first | (refine x_g ?_; intro g w1 hg hf H) | (refine x_s ?_; intro w1 hf H); (try clear hf)))
      (refine x_c H (nanI _ y) ?_; clear H; rintro e w1 ⟨rfl, hF⟩ H)
      go_wp2_with (first | refine x_q H ?_ | refine x_cm (fun h => ?_) (fun h => ?_) | (revert H; first | (refine x_g ?_; intro g w1 hg hf H) | (refine x_s ?_; intro w1 hf H); (try clear hf)))
      go_ret
      exact ⟨by rw [Hz.out]; rfl, H.fr⟩
    · have Hz : Hid (cmpZ x y = 0) := hid (by rw [hz, if_neg h1, if_neg h2])
      clear hz
      go_enter Tryd.func85, Tryd.ntmps85
      go_wp2_with (first | refine x_q H ?_ | refine x_cm (fun h => ?_) (fun h => ?_) | (revert H; first | (refine x_g ?_; intro g w1 hg hf H) | (refine x_s ?_; intro w1 hf H); (try clear hf)))
      (refine x_c H (nanI _ x) ?_; clear H; rintro e w1 ⟨rfl, hF⟩ H)
      go_wp2_with (first | refine x_q H ?_ | refine x_cm (fun h => ?_) (fun h => ?_) | (revert H; first | (refine x_g ?_; intro g w1 hg hf H) | (refine x_s ?_; intro w1 hf H); (try clear hf)))
      (refine x_c H (nanI _ y) ?_; clear H; rintro e w1 ⟨rfl, hF⟩ H)
      go_wp2_with (first | refine x_q H ?_ | refine x_cm (fun h => ?_) (fun h => ?_) | (revert H; first | (refine x_g ?_; intro g w1 hg hf H) | (refine x_s ?_; intro w1 hf H); (try clear hf)))
      go_ret
      exact ⟨by rw [Hz.out]; rfl, H.fr⟩
theorem nanU (w : World) (x : Int) : Calls Tryd.prog 100 #[.int .u32 x] w fun e w' => e = .returned (.bool false) ∧ Fr [] w w' := by
  have H := Hp.start [] w
  go_enter Tryd.func100, Tryd.ntmps100
  go_wp2_with (first | refine x_q H ?_ | refine x_cm (fun h => ?_) (fun h => ?_) | (revert H; first | (refine x_g ?_; intro g w1 hg hf H) | (refine x_s ?_; intro w1 hf H); (try clear hf)))
  go_ret
  exact ⟨rfl, H.fr⟩
theorem cmpU (w : World) (x y : Int) : Calls Tryd.prog 86 #[.int .u32 x, .int .u32 y] w fun e w' => e = .returned (.int .i64 (cmpZ x y)) ∧ Fr [] w w' := by
  have H := Hp.start [] w
  have hz : cmpZ x y = if x < y then -1 else if y < x then 1 else 0 := rfl
  by_cases h1 : x < y
  · have Hz : Hid (cmpZ x y = -1) := hid (by rw [hz, if_pos h1])
    clear hz
    go_enter Tryd.func86, Tryd.ntmps86
    go_wp2_with (first | refine x_q H ?_ | refine x_cm (fun h => ?_) (fun h => ?_) | (revert H; first | (refine x_g ?_; intro g w1 hg hf H) | (refine x_s ?_; intro w1 hf H); (try clear hf)))
    (refine x_c H (nanU _ x) ?_; clear H; rintro e w1 ⟨rfl, hF⟩ H)
    go_wp2_with (first | refine x_q H ?_ | refine x_cm (fun h => ?_) (fun h => ?_) | (revert H; first | (refine x_g ?_; intro g w1 hg hf H) | (refine x_s ?_; intro w1 hf H); (try clear hf)))
    (refine x_c H (nanU _ y) ?_; clear H; rintro e w1 ⟨rfl, hF⟩ H)
    go_wp2_with (first | refine x_q H ?_ | refine x_cm (fun h => ?_) (fun h => ?_) | (revert H; first | (refine x_g ?_; intro g w1 hg hf H) | (refine x_s ?_; intro w1 hf H); (try clear hf)))
    go_ret
    exact ⟨by rw [Hz.out]; rfl, H.fr⟩
  · by_cases h2 : y < x
    · have Hz : Hid (cmpZ x y = 1) := hid (by rw [hz, if_neg h1, if_pos h2])
      clear hz
      go_enter Tryd.func86, Tryd.ntmps86
      go_wp2_with (first | refine x_q H ?_ | refine x_cm (fun h => ?_) (fun h => ?_) | (revert H; first | (refine x_g ?_; intro g w1 hg hf H) | (refine x_s ?_; intro w1 hf H); (try clear hf)))
      (refine x_c H (nanU _ x) ?_; clear H; rintro e w1 ⟨rfl, hF⟩ H)
      go_wp2_with (first | refine x_q H ?_ | refine x_cm (fun h => ?_) (fun h => ?_) | (revert H; first | (refine x_g ?_; intro g w1 hg hf H) | (refine x_s ?_; intro w1 hf H); (try clear hf)))
      (refine x_c H (nanU _ y) ?_; clear H; rintro e w1 ⟨rfl, hF⟩ H)
      go_wp2_with (first | refine x_q H ?_ | refine x_cm (fun h => ?_) (fun h => ?_) | (revert H; first | (refine x_g ?_; intro g w1 hg hf H) | (refine x_s ?_; intro w1 hf H); (try clear hf)))
      go_ret
      exact ⟨by rw [Hz.out]; rfl, H.fr⟩
    · have Hz : Hid (cmpZ x y = 0) := hid (by rw [hz, if_neg h1, if_neg h2])
      clear hz
      go_enter Tryd.func86, Tryd.ntmps86
      go_wp2_with (first | refine x_q H ?_ | refine x_cm (fun h => ?_) (fun h => ?_) | (revert H; first | (refine x_g ?_; intro g w1 hg hf H) | (refine x_s ?_; intro w1 hf H); (try clear hf)))
      (refine x_c H (nanU _ x) ?_; clear H; rintro e w1 ⟨rfl, hF⟩ H)
      go_wp2_with (first | refine x_q H ?_ | refine x_cm (fun h => ?_) (fun h => ?_) | (revert H; first | (refine x_g ?_; intro g w1 hg hf H) | (refine x_s ?_; intro w1 hf H); (try clear hf)))
      (refine x_c H (nanU _ y) ?_; clear H; rintro e w1 ⟨rfl, hF⟩ H)
      go_wp2_with (first | refine x_q H ?_ | refine x_cm (fun h => ?_) (fun h => ?_) | (revert H; first | (refine x_g ?_; intro g w1 hg hf H) | (refine x_s ?_; intro w1 hf H); (try clear hf)))
      go_ret
      exact ⟨by rw [Hz.out]; rfl, H.fr⟩
theorem cmpZ_lt {x y : Int} (h : x < y) : cmpZ x y = -1 := by unfold cmpZ; rw [if_pos h]
theorem cmpZ_gt {x y : Int} (h : y < x) : cmpZ x y = 1 := by unfold cmpZ; rw [if_neg (by omega), if_pos h]
theorem cmpZ_eq (x : Int) : cmpZ x x = 0 := by unfold cmpZ; rw [if_neg (by omega), if_neg (by omega)]
theorem cmpZ_len {a b : Nat} (h : (digs a).length ≠ (digs b).length) : cmpZ ((digs a).length : Nat) ((digs b).length : Nat) = cmpZ a b := by
  rcases Nat.lt_or_ge (digs a).length (digs b).length with h1 | h1
  · rw [cmpZ_lt (by omega), cmpZ_lt (by have := digs_len_lt h1; omega)]
  · have h2 : (digs b).length < (digs a).length := by omega
    rw [cmpZ_gt (by omega), cmpZ_gt (by have := digs_len_lt h2; omega)]
theorem cmpZ_at {a b : List Nat} (ha : Lim a) (hb : Lim b) (hl : a.length = b.length) {i x y : Nat} (hx : a[i]? = some x) (hy : b[i]? = some y) (hd : a.drop (i + 1) = b.drop (i + 1)) (hne : x ≠ y) : cmpZ x y = cmpZ (val a) (val b) := by
  rcases Nat.lt_or_ge x y with h | h
  · rw [cmpZ_lt (by omega), cmpZ_lt (by have := cmp_at ha hb hl hx hy hd h; omega)]
  · rw [cmpZ_gt (by omega), cmpZ_gt (by have := cmp_at hb ha hl.symm hy hx hd.symm (by omega); omega)]
theorem drop_same {a b : List Nat} {i x : Nat} (hx : a[i]? = some x) (hy : b[i]? = some x) (hd : a.drop (i + 1) = b.drop (i + 1)) : a.drop i = b.drop i := by
  obtain ⟨h1, e1⟩ := List.getElem?_eq_some_iff.1 hx
  obtain ⟨h2, e2⟩ := List.getElem?_eq_some_iff.1 hy
  rw [List.drop_eq_getElem_cons h1, List.drop_eq_getElem_cons h2, hd, e1, e2]
theorem compare_any {w : World} {p q : Option Addr} {n m c d : Nat} (a b : Nat) (hn : (digs a).length = n) (hm : (digs b).length = m) (h : LR w p c (digs a)) (k : LR w q d (digs b)) :
    Calls Tryd.prog 58 #[.slice p n c, .slice q m d] w fun e w' => e = .returned (.int .i64 (cmpZ a b)) ∧ Fr [] w w' := by
  obtain ⟨hlc, hc⟩ := h.clen
  obtain ⟨hlc2, hc2⟩ := k.clen
  rw [hn] at hlc
  rw [hm] at hlc2
  have Hh := hid h
  have Hk := hid k
  have Hn := hid hn
  have Hm := hid hm
  clear h k hn hm
  have H := Hp.start [] w
  by_cases hnm : n = m
  · have Hnm := hid hnm
    have hnm1 : n ≤ m := by omega
    have hnm2 : m ≤ n := by omega
    clear hnm
    go_enter Tryd.func58, Tryd.ntmps58
    go_wp2_with (first | refine x_q H ?_ | refine x_cm (fun h => ?_) (fun h => ?_) | (revert H; first | (refine x_g ?_; intro g w1 hg hf H) | (refine x_s ?_; intro w1 hf H); (try clear hf)))
    go_loopw [5] (fun s5 wr => ∃ i : Nat, i ≤ n ∧ s5 = .int .i64 ((i : Int) - 1) ∧ Hid ((digs a).drop i = (digs b).drop i) ∧ Hp [] w wr []) (fun v _ => (intOf v + 1).toNat)
    case atStart => exact ⟨n, Nat.le_refl _, rfl, hid (by rw [List.drop_eq_nil_of_le (by rw [Hn.out]; exact Nat.le_refl _), List.drop_eq_nil_of_le (by rw [Hm.out]; omega)]), H⟩
    case round =>
      clear H
      obtain ⟨i, hi, rfl, hd, H⟩ := hrel
      by_cases h0 : i = 0
      · have Hz : Hid (cmpZ a b = 0) := hid (by
          have := hd.out
          rw [h0, List.drop_zero, List.drop_zero] at this
          rw [digs_inj this, cmpZ_eq])
        have h0' : (i : Int) - 1 < 0 := by omega
        clear h0
        go_wp2_with (first | refine x_q H ?_ | refine x_cm (fun h => ?_) (fun h => ?_) | (revert H; first | (refine x_g ?_; intro g w1 hg hf H) | (refine x_s ?_; intro w1 hf H); (try clear hf)))
        go_ret
        exact ⟨by rw [Hz.out]; rfl, H.fr⟩
      · obtain ⟨j, rfl⟩ : ∃ j, i = j + 1 := ⟨i - 1, by omega⟩
        obtain ⟨x, hx⟩ : ∃ x, (digs a)[j]? = some x := ⟨_, List.getElem?_eq_getElem (by rw [Hn.out]; omega)⟩
        obtain ⟨y, hy⟩ : ∃ y, (digs b)[j]? = some y := ⟨_, List.getElem?_eq_getElem (by rw [Hm.out]; omega)⟩
        have hxv := limbs_at hx
        have hyv := limbs_at hy
        have Hx := hid hx
        have Hy := hid hy
        clear hx hy h0
        have r1 := Hh.out.rd
        have r2 := Hk.out.rd
        rw [Hn.out] at r1
        rw [Hm.out] at r2
        obtain ⟨b0, off, rfl, hb0, hcell⟩ := r1.rng (limbs_ne (i := j) (by rw [Hn.out]; omega))
        obtain ⟨b1, off1, rfl, hb1, hcell1⟩ := r2.rng (limbs_ne (i := j) (by rw [Hm.out]; omega))
        have H1 := (H.pushRng (b := b0) (off := off) hb0 (by simp) hcell).pushRng (b := b1) (off := off1) hb1 (by simp) hcell1
        clear H hcell hcell1 r1 r2
        have H := H1
        clear H1
        have e1 : (((j + 1 : Nat) : Int) - 1) = (j : Int) := by omega
        rw [e1]
        clear e1
        have hjm : j < m := by omega
        by_cases hxy : x = y
        · subst hxy
          have Hd := hid (drop_same Hx.out Hy.out hd.out)
          go_wp2_with (first | refine x_q H ?_ | refine x_cm (fun h => ?_) (fun h => ?_) | (revert H; first | (refine x_g ?_; intro g w1 hg hf H) | (refine x_s ?_; intro w1 hf H); (try clear hf)))
          (revert H; refine w_p 9 (.st 0 (.st 1 (.st 2 (.st 3 (.st 4 (.st 5 (.st 6 (.st 7 (.st 8 .done))))))))) ?_; intro w1 H)
          iterate 9 refine p_q ?_
          (refine pl_done ?_)
          all_goals
            go_wp2_with (first | refine x_q H ?_ | refine x_cm (fun h => ?_) (fun h => ?_) | (revert H; first | (refine x_g ?_; intro g w1 hg hf H) | (refine x_s ?_; intro w1 hf H); (try clear hf)))
            go_roundw
            case rel => exact ⟨j, by omega, by go_num, Hd, H.sub (by repeat first | exact List.Sublist.refl _ | exact List.nil_sublist _ | apply List.Sublist.cons_cons | apply List.Sublist.cons)⟩
            case measure => (simp [intOf]; try omega)
        · have Hz := hid (cmpZ_at (digs_lim a) (digs_lim b) (by rw [Hn.out, Hm.out, Hnm.out]) Hx.out Hy.out hd.out hxy)
          have hxy1 : ¬ (x : Int) = (y : Int) := by omega
          go_wp2_with (first | refine x_q H ?_ | refine x_cm (fun h => ?_) (fun h => ?_) | (revert H; first | (refine x_g ?_; intro g w1 hg hf H) | (refine x_s ?_; intro w1 hf H); (try clear hf)))
          (revert H; refine w_p 9 (.st 0 (.st 1 (.st 2 (.st 3 (.st 4 (.st 5 (.st 6 (.st 7 (.st 8 .done))))))))) ?_; intro w1 H)
          iterate 9 refine p_q ?_
          (refine pl_done ?_)
          all_goals
            go_wp2_with (first | refine x_q H ?_ | refine x_cm (fun h => ?_) (fun h => ?_) | (revert H; first | (refine x_g ?_; intro g w1 hg hf H) | (refine x_s ?_; intro w1 hf H); (try clear hf)))
            (revert H; refine w_p 10 (.st 0 (.st 1 (.st 2 (.st 3 (.st 4 (.st 5 (.st 6 (.st 7 (.ld 8 (.st 9 .done)))))))))) ?_; intro w1 H)
            iterate 8 refine p_q ?_
            ((refine pl_rw rfl rfl (fun K hK => rw_call rfl Tryd.func86 (by kernel_rfl) rfl (cmpU _ x y) (fun e w1 hpost => ?_))); obtain ⟨rfl, hF⟩ := hpost; refine ⟨_, rfl, ?_⟩; have H1 := H.step hF (by simp); refine hK _ _ (fun hne => by first | exact absurd rfl hne | exact H1.sub (by repeat first | exact List.Sublist.refl _ | exact List.nil_sublist _ | apply List.Sublist.cons_cons | apply List.Sublist.cons)) ?_; clear hK K; (clear H; have H := H1; clear H1); (simp only [nrm, ↓reduceIte, Nat.reduceAdd]))
            refine p_q ?_
            (refine pl_done ?_)
            all_goals
              go_wp2_with (first | refine x_q H ?_ | refine x_cm (fun h => ?_) (fun h => ?_) | (revert H; first | (refine x_g ?_; intro g w1 hg hf H) | (refine x_s ?_; intro w1 hf H); (try clear hf)))
              go_ret
              exact ⟨by rw [Hz.out, val_digs, val_digs]; rfl, H.fr⟩
  · have hnm1 : ¬ (n : Int) = (m : Int) := by omega
    have Hz := hid (cmpZ_len (a := a) (b := b) (by rw [Hn.out, Hm.out]; exact hnm))
    rw [Hn.out, Hm.out] at Hz
    clear hnm
    go_enter Tryd.func58, Tryd.ntmps58
    go_wp2_with (first | refine x_q H ?_ | refine x_cm (fun h => ?_) (fun h => ?_) | (revert H; first | (refine x_g ?_; intro g w1 hg hf H) | (refine x_s ?_; intro w1 hf H); (try clear hf)))
    (refine x_c H (cmpI _ n m) ?_; clear H; rintro e w1 ⟨rfl, hF⟩ H)
    go_wp2_with (first | refine x_q H ?_ | refine x_cm (fun h => ?_) (fun h => ?_) | (revert H; first | (refine x_g ?_; intro g w1 hg hf H) | (refine x_s ?_; intro w1 hf H); (try clear hf)))
    go_ret
    exact ⟨by rw [← Hz.out]; rfl, H.fr⟩
theorem cmpMag_any {w : World} {p q : Option Addr} {n m c d : Nat} (a b : Nat) (hn : (digs a).length = n) (hm : (digs b).length = m) (h : LR w p c (digs a)) (k : LR w q d (digs b)) :
    Calls Tryd.prog 61 #[.slice p n c, .slice q m d] w fun e w' => e = .returned (.int .i64 (cmpZ a b)) ∧ Fr [] w w' := by
  obtain ⟨hlc, hc⟩ := h.clen
  obtain ⟨hlc2, hc2⟩ := k.clen
  rw [hn] at hlc
  rw [hm] at hlc2
  have Hh := hid h
  have Hk := hid k
  have Hn := hid hn
  have Hm := hid hm
  clear h k hn hm
  have H := Hp.start [] w
  by_cases hnm : n = m
  · have Hnm := hid hnm
    have hnm1 : n ≤ m := by omega
    have hnm2 : m ≤ n := by omega
    clear hnm
    go_enter Tryd.func61, Tryd.ntmps61
    go_wp2_with (first | refine x_q H ?_ | refine x_cm (fun h => ?_) (fun h => ?_) | (revert H; first | (refine x_g ?_; intro g w1 hg hf H) | (refine x_s ?_; intro w1 hf H); (try clear hf)))
    go_loopw [5] (fun s5 wr => ∃ i : Nat, i ≤ n ∧ s5 = .int .i64 ((i : Int) - 1) ∧ Hid ((digs a).drop i = (digs b).drop i) ∧ Hp [] w wr []) (fun v _ => (intOf v + 1).toNat)
    case atStart => exact ⟨n, Nat.le_refl _, rfl, hid (by rw [List.drop_eq_nil_of_le (by rw [Hn.out]; exact Nat.le_refl _), List.drop_eq_nil_of_le (by rw [Hm.out]; omega)]), H⟩
    case round =>
      clear H
      obtain ⟨i, hi, rfl, hd, H⟩ := hrel
      by_cases h0 : i = 0
      · have Hz : Hid (cmpZ a b = 0) := hid (by
          have := hd.out
          rw [h0, List.drop_zero, List.drop_zero] at this
          rw [digs_inj this, cmpZ_eq])
        have h0' : (i : Int) - 1 < 0 := by omega
        clear h0
        go_wp2_with (first | refine x_q H ?_ | refine x_cm (fun h => ?_) (fun h => ?_) | (revert H; first | (refine x_g ?_; intro g w1 hg hf H) | (refine x_s ?_; intro w1 hf H); (try clear hf)))
        go_ret
        exact ⟨by rw [Hz.out]; rfl, H.fr⟩
      · obtain ⟨j, rfl⟩ : ∃ j, i = j + 1 := ⟨i - 1, by omega⟩
        obtain ⟨x, hx⟩ : ∃ x, (digs a)[j]? = some x := ⟨_, List.getElem?_eq_getElem (by rw [Hn.out]; omega)⟩
        obtain ⟨y, hy⟩ : ∃ y, (digs b)[j]? = some y := ⟨_, List.getElem?_eq_getElem (by rw [Hm.out]; omega)⟩
        have hxv := limbs_at hx
        have hyv := limbs_at hy
        have Hx := hid hx
        have Hy := hid hy
        clear hx hy h0
        have r1 := Hh.out.rd
        have r2 := Hk.out.rd
        rw [Hn.out] at r1
        rw [Hm.out] at r2
        obtain ⟨b0, off, rfl, hb0, hcell⟩ := r1.rng (limbs_ne (i := j) (by rw [Hn.out]; omega))
        obtain ⟨b1, off1, rfl, hb1, hcell1⟩ := r2.rng (limbs_ne (i := j) (by rw [Hm.out]; omega))
        have H1 := (H.pushRng (b := b0) (off := off) hb0 (by simp) hcell).pushRng (b := b1) (off := off1) hb1 (by simp) hcell1
        clear H hcell hcell1 r1 r2
        have H := H1
        clear H1
        have e1 : (((j + 1 : Nat) : Int) - 1) = (j : Int) := by omega
        rw [e1]
        clear e1
        have hjm : j < m := by omega
        by_cases hxy : x = y
        · subst hxy
          have Hd := hid (drop_same Hx.out Hy.out hd.out)
          go_wp2_with (first | refine x_q H ?_ | refine x_cm (fun h => ?_) (fun h => ?_) | (revert H; first | (refine x_g ?_; intro g w1 hg hf H) | (refine x_s ?_; intro w1 hf H); (try clear hf)))
          (revert H; refine w_p 9 (.st 0 (.st 1 (.st 2 (.st 3 (.st 4 (.st 5 (.st 6 (.st 7 (.st 8 .done))))))))) ?_; intro w1 H)
          iterate 9 refine p_q ?_
          (refine pl_done ?_)
          all_goals
            go_wp2_with (first | refine x_q H ?_ | refine x_cm (fun h => ?_) (fun h => ?_) | (revert H; first | (refine x_g ?_; intro g w1 hg hf H) | (refine x_s ?_; intro w1 hf H); (try clear hf)))
            go_roundw
            case rel => exact ⟨j, by omega, by go_num, Hd, H.sub (by repeat first | exact List.Sublist.refl _ | exact List.nil_sublist _ | apply List.Sublist.cons_cons | apply List.Sublist.cons)⟩
            case measure => (simp [intOf]; try omega)
        · have Hz := hid (cmpZ_at (digs_lim a) (digs_lim b) (by rw [Hn.out, Hm.out, Hnm.out]) Hx.out Hy.out hd.out hxy)
          rcases Nat.lt_or_ge x y with hlt | hge
          · have hlt2 : (x : Int) < (y : Int) := by omega
            have Hz2 : Hid (cmpZ a b = -1) := hid (by rw [← cmpZ_lt hlt2, Hz.out, val_digs, val_digs])
            clear hxy
            go_wp2_with (first | refine x_q H ?_ | refine x_cm (fun h => ?_) (fun h => ?_) | (revert H; first | (refine x_g ?_; intro g w1 hg hf H) | (refine x_s ?_; intro w1 hf H); (try clear hf)))
            (revert H; refine w_p 9 (.st 0 (.st 1 (.st 2 (.st 3 (.st 4 (.st 5 (.st 6 (.st 7 (.st 8 .done))))))))) ?_; intro w1 H)
            iterate 9 refine p_q ?_
            (refine pl_done ?_)
            all_goals
              go_wp2_with (first | refine x_q H ?_ | refine x_cm (fun h => ?_) (fun h => ?_) | (revert H; first | (refine x_g ?_; intro g w1 hg hf H) | (refine x_s ?_; intro w1 hf H); (try clear hf)))
              (revert H; refine w_p 9 (.st 0 (.st 1 (.st 2 (.st 3 (.st 4 (.st 5 (.st 6 (.st 7 (.st 8 .done))))))))) ?_; intro w1 H)
              iterate 9 refine p_q ?_
              (refine pl_done ?_)
              all_goals
                go_wp2_with (first | refine x_q H ?_ | refine x_cm (fun h => ?_) (fun h => ?_) | (revert H; first | (refine x_g ?_; intro g w1 hg hf H) | (refine x_s ?_; intro w1 hf H); (try clear hf)))
                go_ret
                exact ⟨by rw [Hz2.out]; rfl, H.fr⟩
          · have hlt2 : (y : Int) < (x : Int) := by omega
            have Hz2 : Hid (cmpZ a b = 1) := hid (by rw [← cmpZ_gt hlt2, Hz.out, val_digs, val_digs])
            clear hxy hge
            go_wp2_with (first | refine x_q H ?_ | refine x_cm (fun h => ?_) (fun h => ?_) | (revert H; first | (refine x_g ?_; intro g w1 hg hf H) | (refine x_s ?_; intro w1 hf H); (try clear hf)))
            (revert H; refine w_p 9 (.st 0 (.st 1 (.st 2 (.st 3 (.st 4 (.st 5 (.st 6 (.st 7 (.st 8 .done))))))))) ?_; intro w1 H)
            iterate 9 refine p_q ?_
            (refine pl_done ?_)
            all_goals
              go_wp2_with (first | refine x_q H ?_ | refine x_cm (fun h => ?_) (fun h => ?_) | (revert H; first | (refine x_g ?_; intro g w1 hg hf H) | (refine x_s ?_; intro w1 hf H); (try clear hf)))
              (revert H; refine w_p 9 (.st 0 (.st 1 (.st 2 (.st 3 (.st 4 (.st 5 (.st 6 (.st 7 (.st 8 .done))))))))) ?_; intro w1 H)
              iterate 9 refine p_q ?_
              (refine pl_done ?_)
              all_goals
                go_wp2_with (first | refine x_q H ?_ | refine x_cm (fun h => ?_) (fun h => ?_) | (revert H; first | (refine x_g ?_; intro g w1 hg hf H) | (refine x_s ?_; intro w1 hf H); (try clear hf)))
                go_ret
                exact ⟨by rw [Hz2.out]; rfl, H.fr⟩
  · rcases Nat.lt_or_ge n m with hlt | hge
    · have Hz2 : Hid (cmpZ a b = -1) := hid (by
        have := cmpZ_len (a := a) (b := b) (by rw [Hn.out, Hm.out]; exact hnm)
        rw [← this, Hn.out, Hm.out, cmpZ_lt (by omega)])
      clear hnm
      go_enter Tryd.func61, Tryd.ntmps61
      go_wp2_with (first | refine x_q H ?_ | refine x_cm (fun h => ?_) (fun h => ?_) | (revert H; first | (refine x_g ?_; intro g w1 hg hf H) | (refine x_s ?_; intro w1 hf H); (try clear hf)))
      go_ret
      exact ⟨by rw [Hz2.out]; rfl, H.fr⟩
    · have hgt : m < n := by omega
      have Hz2 : Hid (cmpZ a b = 1) := hid (by
        have := cmpZ_len (a := a) (b := b) (by rw [Hn.out, Hm.out]; exact hnm)
        rw [← this, Hn.out, Hm.out, cmpZ_gt (by omega)])
      clear hnm hge
      go_enter Tryd.func61, Tryd.ntmps61
      go_wp2_with (first | refine x_q H ?_ | refine x_cm (fun h => ?_) (fun h => ?_) | (revert H; first | (refine x_g ?_; intro g w1 hg hf H) | (refine x_s ?_; intro w1 hf H); (try clear hf)))
      go_ret
      exact ⟨by rw [Hz2.out]; rfl, H.fr⟩
end Go.Proofs.YtpmebjhlgdhchaaDoor
