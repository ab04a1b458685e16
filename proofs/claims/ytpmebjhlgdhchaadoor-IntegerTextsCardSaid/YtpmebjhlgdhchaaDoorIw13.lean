/-
  The integers: sparsekit's Limbs and Big (whether two integers are the same).
-/
import Derived.Test.YtpmebjhlgdhchaaDoorIw12
import Derived.Deep.DeepCutAuto
import Derived.Deep.CutBlock
namespace Go.Proofs.YtpmebjhlgdhchaaDoor
open Go.RowKit
set_option linter.unusedSimpArgs false
set_option linter.unusedVariables false
set_option maxHeartbeats 4000000
set_option maxRecDepth 100000
theorem take_same {l m : List Nat} {i x : Nat} (h : l.take i = m.take i) (hl : l[i]? = some x) (hm : m[i]? = some x) : l.take (i + 1) = m.take (i + 1) := by
  rw [List.take_add_one, List.take_add_one, h, hl, hm]
theorem limbs_any {w : World} {p q : Option Addr} {n m c d : Nat} (la lb : List Nat) (hn : la.length = n) (hm : lb.length = m) (h : LR w p c la) (k : LR w q d lb) :
    Calls Tryd.prog 54 #[.slice p n c, .slice q m d] w fun e w' => e = .returned (.bool (decide (la = lb))) ∧ Fr [] w w' := by
  subst hn hm
  obtain ⟨hlc, hc⟩ := h.clen
  obtain ⟨hlc2, hc2⟩ := k.clen
  have Hh := hid h
  have Hk := hid k
  clear h k
  have H := Hp.start [] w
  by_cases hnm : la.length = lb.length
  · have Hnm := hid hnm
    have hnm1 : la.length ≤ lb.length := by omega
    have hnm2 : lb.length ≤ la.length := by omega
    clear hnm
    go_enter Tryd.func54, Tryd.ntmps54
    go_wp2_with (first | refine x_q H ?_ | refine x_cm (fun h => ?_) (fun h => ?_) | (revert H; first | (refine x_g ?_; intro g w1 hg hf H) | (refine x_s ?_; intro w1 hf H); (try clear hf)))
    go_loopw [5] (fun s5 wr => ∃ i : Nat, i ≤ la.length ∧ s5 = .int .i64 (i : Int) ∧ Hid (la.take i = lb.take i) ∧ Hp [] w wr []) (fun v _ => la.length - (intOf v).toNat)
    case atStart => exact ⟨0, Nat.zero_le _, rfl, hid rfl, H⟩
    case round =>
      clear H
      obtain ⟨i, hi, rfl, hd, H⟩ := hrel
      by_cases h0 : i < la.length
      · obtain ⟨x, hx⟩ : ∃ x, la[i]? = some x := ⟨_, List.getElem?_eq_getElem h0⟩
        obtain ⟨y, hy⟩ : ∃ y, lb[i]? = some y := ⟨_, List.getElem?_eq_getElem (by omega)⟩
        have hxv := limbs_at hx
        have hyv := limbs_at hy
        have Hx := hid hx
        have Hy := hid hy
        clear hx hy
        obtain ⟨b0, off, rfl, hb0, hcell⟩ := Hh.out.rd.rng (limbs_ne (i := i) h0)
        obtain ⟨b1, off1, rfl, hb1, hcell1⟩ := Hk.out.rd.rng (limbs_ne (i := i) (by omega))
        have H1 := (H.pushRng (b := b0) (off := off) hb0 (by simp) hcell).pushRng (b := b1) (off := off1) hb1 (by simp) hcell1
        clear H hcell hcell1
        have H := H1
        clear H1
        have hjm : i < lb.length := by omega
        by_cases hxy : x = y
        · subst hxy
          have Hd := hid (take_same hd.out Hx.out Hy.out)
          go_wp2_with (first | refine x_q H ?_ | refine x_cm (fun h => ?_) (fun h => ?_) | (revert H; first | (refine x_g ?_; intro g w1 hg hf H) | (refine x_s ?_; intro w1 hf H); (try clear hf)))
          (revert H; refine w_p 9 (.st 0 (.st 1 (.st 2 (.st 3 (.st 4 (.st 5 (.st 6 (.st 7 (.st 8 .done))))))))) ?_; intro w1 H)
          iterate 9 refine p_q ?_
          (refine pl_done ?_)
          all_goals
            go_wp2_with (first | refine x_q H ?_ | refine x_cm (fun h => ?_) (fun h => ?_) | (revert H; first | (refine x_g ?_; intro g w1 hg hf H) | (refine x_s ?_; intro w1 hf H); (try clear hf)))
            go_roundw
            case rel => exact ⟨i + 1, by omega, by go_num, Hd, H.sub (by repeat first | exact List.Sublist.refl _ | exact List.nil_sublist _ | apply List.Sublist.cons_cons | apply List.Sublist.cons)⟩
            case measure => (simp [intOf]; try omega)
        · have Hz := hid (show la ≠ lb from fun e => hxy (by
            have h1 := Hx.out
            rw [e, Hy.out] at h1
            injection h1 with h1
            exact h1.symm))
          have hxy1 : ¬ (x : Int) = (y : Int) := by omega
          go_wp2_with (first | refine x_q H ?_ | refine x_cm (fun h => ?_) (fun h => ?_) | (revert H; first | (refine x_g ?_; intro g w1 hg hf H) | (refine x_s ?_; intro w1 hf H); (try clear hf)))
          (revert H; refine w_p 9 (.st 0 (.st 1 (.st 2 (.st 3 (.st 4 (.st 5 (.st 6 (.st 7 (.st 8 .done))))))))) ?_; intro w1 H)
          iterate 9 refine p_q ?_
          (refine pl_done ?_)
          all_goals
            go_wp2_with (first | refine x_q H ?_ | refine x_cm (fun h => ?_) (fun h => ?_) | (revert H; first | (refine x_g ?_; intro g w1 hg hf H) | (refine x_s ?_; intro w1 hf H); (try clear hf)))
            go_ret
            exact ⟨by rw [decide_eq_false Hz.out]; rfl, H.fr⟩
      · have Hz : Hid (la = lb) := hid (by
          have := hd.out
          rwa [List.take_of_length_le (by omega), List.take_of_length_le (by omega)] at this)
        go_wp2_with (first | refine x_q H ?_ | refine x_cm (fun h => ?_) (fun h => ?_) | (revert H; first | (refine x_g ?_; intro g w1 hg hf H) | (refine x_s ?_; intro w1 hf H); (try clear hf)))
        go_ret
        exact ⟨by rw [decide_eq_true Hz.out]; rfl, H.fr⟩
  · have hnm1 : ¬ (la.length : Int) = (lb.length : Int) := by omega
    have Hz : Hid (la ≠ lb) := hid (fun e => hnm (by rw [e]))
    clear hnm
    go_enter Tryd.func54, Tryd.ntmps54
    go_wp2_with (first | refine x_q H ?_ | refine x_cm (fun h => ?_) (fun h => ?_) | (revert H; first | (refine x_g ?_; intro g w1 hg hf H) | (refine x_s ?_; intro w1 hf H); (try clear hf)))
    go_ret
    exact ⟨by rw [decide_eq_false Hz.out]; rfl, H.fr⟩
theorem same_any {w : World} {p q : Option Addr} {n m c d : Nat} (na nb : Bool) (la lb : List Nat) (hn : la.length = n) (hm : lb.length = m) (h : LR w p c la) (k : LR w q d lb) :
    Calls Tryd.prog 12 #[.agg #[.bool na, .slice p n c], .agg #[.bool nb, .slice q m d]] w fun e w' => e = .returned (.bool (decide (na = nb ∧ la = lb))) ∧ Fr [] w w' := by
  have Hh := hid h
  have Hk := hid k
  have Hn := hid hn
  have Hm := hid hm
  clear h k hn hm
  have H := Hp.start [] w
  cases na <;> cases nb
  · have Hd : Hid (decide (la = lb) = decide (True ∧ la = lb)) := hid (by simp)
    go_enter Tryd.func12, Tryd.ntmps12
    go_wp2_with (first | refine x_q H ?_ | refine x_cm (fun h => ?_) (fun h => ?_) | (revert H; first | (refine x_g ?_; intro g w1 hg hf H) | (refine x_s ?_; intro w1 hf H); (try clear hf)))
    (refine x_c H (limbs_any la lb Hn.out Hm.out (Hh.out.fr H.fr) (Hk.out.fr H.fr)) ?_; clear H; rintro e w1 ⟨rfl, hF⟩ H)
    go_wp2_with (first | refine x_q H ?_ | refine x_cm (fun h => ?_) (fun h => ?_) | (revert H; first | (refine x_g ?_; intro g w1 hg hf H) | (refine x_s ?_; intro w1 hf H); (try clear hf)))
    go_ret
    exact ⟨by rw [← Hd.out]; rfl, H.fr⟩
  · have Hd : Hid (decide (false = true ∧ la = lb) = false) := hid (by simp)
    go_enter Tryd.func12, Tryd.ntmps12
    go_wp2_with (first | refine x_q H ?_ | refine x_cm (fun h => ?_) (fun h => ?_) | (revert H; first | (refine x_g ?_; intro g w1 hg hf H) | (refine x_s ?_; intro w1 hf H); (try clear hf)))
    go_ret
    exact ⟨by rw [Hd.out]; rfl, H.fr⟩
  · have Hd : Hid (decide (true = false ∧ la = lb) = false) := hid (by simp)
    go_enter Tryd.func12, Tryd.ntmps12
    go_wp2_with (first | refine x_q H ?_ | refine x_cm (fun h => ?_) (fun h => ?_) | (revert H; first | (refine x_g ?_; intro g w1 hg hf H) | (refine x_s ?_; intro w1 hf H); (try clear hf)))
    go_ret
    exact ⟨by rw [Hd.out]; rfl, H.fr⟩
  · have Hd : Hid (decide (la = lb) = decide (True ∧ la = lb)) := hid (by simp)
    go_enter Tryd.func12, Tryd.ntmps12
    go_wp2_with (first | refine x_q H ?_ | refine x_cm (fun h => ?_) (fun h => ?_) | (revert H; first | (refine x_g ?_; intro g w1 hg hf H) | (refine x_s ?_; intro w1 hf H); (try clear hf)))
    (refine x_c H (limbs_any la lb Hn.out Hm.out (Hh.out.fr H.fr) (Hk.out.fr H.fr)) ?_; clear H; rintro e w1 ⟨rfl, hF⟩ H)
    go_wp2_with (first | refine x_q H ?_ | refine x_cm (fun h => ?_) (fun h => ?_) | (revert H; first | (refine x_g ?_; intro g w1 hg hf H) | (refine x_s ?_; intro w1 hf H); (try clear hf)))
    go_ret
    exact ⟨by rw [← Hd.out]; rfl, H.fr⟩
/-- Two integers as the functions leave them: the same exactly if they are equal. -/
theorem same_z (x y : Int) : decide (decide (x < 0) = decide (y < 0) ∧ digs x.natAbs = digs y.natAbs) = decide (x = y) := by
  rw [decide_eq_decide]
  constructor
  · rintro ⟨h1, h2⟩
    have h3 := digs_inj h2
    rw [decide_eq_decide] at h1
    omega
  · rintro rfl
    exact ⟨rfl, rfl⟩
end Go.Proofs.YtpmebjhlgdhchaaDoor
