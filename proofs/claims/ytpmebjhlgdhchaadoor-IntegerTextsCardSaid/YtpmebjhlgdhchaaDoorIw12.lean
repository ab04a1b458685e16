/-
  The integers: Sign and Cmp, the program's and the document's; Slim.
-/
import Derived.Test.YtpmebjhlgdhchaaDoorIw11
import Derived.Deep.DeepCutAuto
import Derived.Deep.CutBlock
namespace Go.Proofs.YtpmebjhlgdhchaaDoor
open Go.RowKit
set_option linter.unusedSimpArgs false
set_option linter.unusedVariables false
set_option maxHeartbeats 4000000
set_option maxRecDepth 100000
theorem digs_two {a b : List Nat} (ha : Lim a) (hb : Lim b) {x : Nat} (hx : x ≤ val a + val b) : (digs x).length ≤ a.length + b.length + 1 := by
  apply digs_len_of
  have h1 := val_lt ha
  have h2 := val_lt hb
  have h3 : 4294967296 ^ a.length ≤ 4294967296 ^ (a.length + b.length) := Nat.pow_le_pow_right (by decide) (by omega)
  have h4 : 4294967296 ^ b.length ≤ 4294967296 ^ (a.length + b.length) := Nat.pow_le_pow_right (by decide) (by omega)
  rw [Nat.pow_succ]
  omega
theorem digs_zero_len {a : Nat} (h : (digs a).length ≤ 0) : a = 0 := digs_nil.1 (List.eq_nil_of_length_eq_zero (by omega))
theorem digs_len_pos {a : Nat} (h : a ≠ 0) : 0 < (digs a).length := by
  apply Classical.byContradiction
  intro hn
  exact h (digs_zero_len (by omega))
theorem sign_zero' {n : Bool} {l : List Nat} (h : (digs (val l)).length ≤ 0) : Int.sign (zv n l) = 0 := by
  have := digs_zero_len h
  unfold zv; rw [this]; cases n <;> rfl
theorem sign_pos' {l : List Nat} (h : 0 < (digs (val l)).length) : Int.sign (zv false l) = 1 := by
  have : val l ≠ 0 := fun e => by rw [e, digs_zero] at h; simp at h
  unfold zv; exact Int.sign_eq_one_of_pos (by simp; omega)
theorem sign_neg' {l : List Nat} (h : 0 < (digs (val l)).length) : Int.sign (zv true l) = -1 := by
  have : val l ≠ 0 := fun e => by rw [e, digs_zero] at h; simp at h
  unfold zv; exact Int.sign_eq_neg_one_of_neg (by simp; omega)
theorem sign_any {w : World} {p : Option Addr} {n c : Nat} (neg : Bool) (l : List Nat) (hl : l.length = n) (hn : n ≤ 1000000) (h : LR w p c l) :
    Calls Tryd.prog 24 #[.agg #[.bool neg, .slice p n c]] w fun e w' => e = .returned (.int .i64 (Int.sign (zv neg l))) ∧ Fr [] w w' := by
  have Hh := hid h
  subst hl
  have hle := digs_len_le h.lim
  have H := Hp.start [] w
  clear h
  rcases Nat.lt_or_ge 0 (digs (val l)).length with h0 | h0
  · cases neg
    · have Hs := hid (sign_pos' h0)
      go_enter Tryd.func24, Tryd.ntmps24
      go_wp2_with (first | refine x_q H ?_ | refine x_cm (fun h => ?_) (fun h => ?_) | (revert H; first | (refine x_g ?_; intro g w1 hg hf H) | (refine x_s ?_; intro w1 hf H); (try clear hf)))
      (refine x_c H (trim_any l rfl (Hh.out.fr H.fr)) ?_; clear H; rintro e w1 ⟨rfl, hF⟩ H)
      go_wp2_with (first | refine x_q H ?_ | refine x_cm (fun h => ?_) (fun h => ?_) | (revert H; first | (refine x_g ?_; intro g w1 hg hf H) | (refine x_s ?_; intro w1 hf H); (try clear hf)))
      go_ret
      exact ⟨by rw [Hs.out]; rfl, H.fr⟩
    · have Hs := hid (sign_neg' h0)
      go_enter Tryd.func24, Tryd.ntmps24
      go_wp2_with (first | refine x_q H ?_ | refine x_cm (fun h => ?_) (fun h => ?_) | (revert H; first | (refine x_g ?_; intro g w1 hg hf H) | (refine x_s ?_; intro w1 hf H); (try clear hf)))
      (refine x_c H (trim_any l rfl (Hh.out.fr H.fr)) ?_; clear H; rintro e w1 ⟨rfl, hF⟩ H)
      go_wp2_with (first | refine x_q H ?_ | refine x_cm (fun h => ?_) (fun h => ?_) | (revert H; first | (refine x_g ?_; intro g w1 hg hf H) | (refine x_s ?_; intro w1 hf H); (try clear hf)))
      go_ret
      exact ⟨by rw [Hs.out]; rfl, H.fr⟩
  · have Hs := hid (sign_zero' (n := neg) h0)
    go_enter Tryd.func24, Tryd.ntmps24
    go_wp2_with (first | refine x_q H ?_ | refine x_cm (fun h => ?_) (fun h => ?_) | (revert H; first | (refine x_g ?_; intro g w1 hg hf H) | (refine x_s ?_; intro w1 hf H); (try clear hf)))
    (refine x_c H (trim_any l rfl (Hh.out.fr H.fr)) ?_; clear H; rintro e w1 ⟨rfl, hF⟩ H)
    go_wp2_with (first | refine x_q H ?_ | refine x_cm (fun h => ?_) (fun h => ?_) | (revert H; first | (refine x_g ?_; intro g w1 hg hf H) | (refine x_s ?_; intro w1 hf H); (try clear hf)))
    go_ret
    exact ⟨by rw [Hs.out]; rfl, H.fr⟩
theorem rsign_any {w : World} {p : Option Addr} {n c : Nat} (neg : Bool) (l : List Nat) (hl : l.length = n) (hn : n ≤ 1000000) (h : LR w p c l) :
    Calls Tryd.prog 15 #[.agg #[.bool neg, .slice p n c]] w fun e w' => e = .returned (.int .i64 (Int.sign (zv neg l))) ∧ Fr [] w w' := by
  have Hh := hid h
  subst hl
  have hle := digs_len_le h.lim
  have H := Hp.start [] w
  have HA : Hid ((zv neg l).natAbs = val l) := hid (zv_abs neg l)
  clear h
  rcases Nat.lt_or_ge 0 (digs (val l)).length with h0 | h0
  · cases neg
    · have Hs := hid (sign_pos' h0)
      have Hb : Hid (decide (zv false l < 0) = false) := hid (decide_eq_false (by rw [zv_neg_iff]; simp))
      go_enter Tryd.func15, Tryd.ntmps15
      go_wp2_with (first | refine x_q H ?_ | refine x_cm (fun h => ?_) (fun h => ?_) | (revert H; first | (refine x_g ?_; intro g w1 hg hf H) | (refine x_s ?_; intro w1 hf H); (try clear hf)))
      refine Calls.mono (rnorm_any false l rfl hn (Hh.out.fr H.fr)) ?_
      rintro e w1 ⟨p3, c3, rfl, hF, hL⟩
      rw [HA.out, Hb.out]
      have H1 := H.step hF (by simp)
      clear H hF hL
      have H := H1
      clear H1
      go_wp2_with (first | refine x_q H ?_ | refine x_cm (fun h => ?_) (fun h => ?_) | (revert H; refine x_s2 ?_; intro w1 hf H hk; have hk2 := hid hk; clear hk; (try clear hf)) | (revert H; first | (refine x_g ?_; intro g w1 hg hf H) | (refine x_s ?_; intro w1 hf H); (try clear hf)))
      go_ret
      exact ⟨by rw [Hs.out]; rfl, H.fr⟩
    · have Hs := hid (sign_neg' h0)
      have Hb : Hid (decide (zv true l < 0) = true) := hid (decide_eq_true (by rw [zv_neg_iff]; exact ⟨rfl, fun e => by rw [e, digs_zero] at h0; simp at h0⟩))
      go_enter Tryd.func15, Tryd.ntmps15
      go_wp2_with (first | refine x_q H ?_ | refine x_cm (fun h => ?_) (fun h => ?_) | (revert H; first | (refine x_g ?_; intro g w1 hg hf H) | (refine x_s ?_; intro w1 hf H); (try clear hf)))
      refine Calls.mono (rnorm_any true l rfl hn (Hh.out.fr H.fr)) ?_
      rintro e w1 ⟨p3, c3, rfl, hF, hL⟩
      rw [HA.out, Hb.out]
      have H1 := H.step hF (by simp)
      clear H hF hL
      have H := H1
      clear H1
      go_wp2_with (first | refine x_q H ?_ | refine x_cm (fun h => ?_) (fun h => ?_) | (revert H; refine x_s2 ?_; intro w1 hf H hk; have hk2 := hid hk; clear hk; (try clear hf)) | (revert H; first | (refine x_g ?_; intro g w1 hg hf H) | (refine x_s ?_; intro w1 hf H); (try clear hf)))
      go_ret
      exact ⟨by rw [Hs.out]; rfl, H.fr⟩
  · have Hs := hid (sign_zero' (n := neg) h0)
    go_enter Tryd.func15, Tryd.ntmps15
    go_wp2_with (first | refine x_q H ?_ | refine x_cm (fun h => ?_) (fun h => ?_) | (revert H; first | (refine x_g ?_; intro g w1 hg hf H) | (refine x_s ?_; intro w1 hf H); (try clear hf)))
    refine Calls.mono (rnorm_any neg l rfl hn (Hh.out.fr H.fr)) ?_
    rintro e w1 ⟨p3, c3, rfl, hF, hL⟩
    rw [HA.out]
    have H1 := H.step hF (by simp)
    clear H hF hL
    have H := H1
    clear H1
    go_wp2_with (first | refine x_q H ?_ | refine x_cm (fun h => ?_) (fun h => ?_) | (revert H; refine x_s2 ?_; intro w1 hf H hk; have hk2 := hid hk; clear hk; (try clear hf)) | (revert H; first | (refine x_g ?_; intro g w1 hg hf H) | (refine x_s ?_; intro w1 hf H); (try clear hf)))
    go_ret
    exact ⟨by rw [Hs.out]; rfl, H.fr⟩
theorem sign_le (z : Int) : -1 ≤ Int.sign z ∧ Int.sign z ≤ 1 := by
  rcases Int.lt_trichotomy z 0 with h | h | h
  · rw [Int.sign_eq_neg_one_of_neg h]; decide
  · rw [h]; decide
  · rw [Int.sign_eq_one_of_pos h]; decide
theorem cmp_signs {x y : Int} (h : Int.sign x ≠ Int.sign y) : cmpZ x y = cmpZ (Int.sign x) (Int.sign y) := by
  rcases Int.lt_trichotomy x 0 with h1 | h1 | h1 <;> rcases Int.lt_trichotomy y 0 with h2 | h2 | h2 <;> first
    | (exfalso; apply h; first | rw [Int.sign_eq_neg_one_of_neg h1, Int.sign_eq_neg_one_of_neg h2] | rw [h1, h2] | rw [Int.sign_eq_one_of_pos h1, Int.sign_eq_one_of_pos h2]; done)
    | (first | rw [Int.sign_eq_neg_one_of_neg h1] | rw [h1] | rw [Int.sign_eq_one_of_pos h1]
       first | rw [Int.sign_eq_neg_one_of_neg h2] | rw [h2] | rw [Int.sign_eq_one_of_pos h2]
       first | exact cmpZ_lt (by omega) | exact cmpZ_gt (by omega))
theorem cmp_same {na nb : Bool} {la lb : List Nat} (h : Int.sign (zv na la) = Int.sign (zv nb lb)) : Int.sign (zv na la) * cmpZ (val la) (val lb) = cmpZ (zv na la) (zv nb lb) := by
  rcases Int.lt_trichotomy (zv na la) 0 with h1 | h1 | h1
  · rw [Int.sign_eq_neg_one_of_neg h1] at h ⊢
    have h2 : zv nb lb < 0 := Int.sign_eq_neg_one_iff_neg.1 h.symm
    unfold zv at *
    cases na <;> cases nb <;> simp at * <;> unfold cmpZ <;> (repeat' split) <;> omega
  · rw [h1] at h ⊢
    have h2 : zv nb lb = 0 := Int.sign_eq_zero_iff_zero.1 h.symm
    rw [h2]
    show 0 * _ = cmpZ 0 0
    rw [cmpZ_eq, Int.zero_mul]
  · rw [Int.sign_eq_one_of_pos h1] at h ⊢
    have h2 : 0 < zv nb lb := Int.sign_eq_one_iff_pos.1 h.symm
    unfold zv at *
    cases na <;> cases nb <;> simp at * <;> unfold cmpZ <;> (repeat' split) <;> omega
theorem cmpZ_le (x y : Int) : -1 ≤ cmpZ x y ∧ cmpZ x y ≤ 1 := by unfold cmpZ; (repeat' split) <;> omega
theorem sign_cases (x : Int) : Int.sign x = -1 ∨ Int.sign x = 0 ∨ Int.sign x = 1 := by have := sign_le x; omega
theorem cmp_any {w : World} {p q : Option Addr} {n m c d : Nat} (na nb : Bool) (la lb : List Nat) (hn : la.length = n) (hm : lb.length = m) (hn0 : n ≤ 1000000) (hm0 : m ≤ 1000000) (h : LR w p c la) (k : LR w q d lb) :
    Calls Tryd.prog 22 #[.agg #[.bool na, .slice p n c], .agg #[.bool nb, .slice q m d]] w fun e w' => e = .returned (.int .i64 (cmpZ (zv na la) (zv nb lb))) ∧ Fr [] w w' := by
  subst hn hm
  have Hh := hid h
  have Hk := hid k
  have H := Hp.start [] w
  clear h k
  go_enter Tryd.func22, Tryd.ntmps22
  go_upto_region 1 with (first | refine x_q H ?_ | refine x_cm (fun h => ?_) (fun h => ?_) | (revert H; first | (refine x_g ?_; intro g w1 hg hf H) | (refine x_s ?_; intro w1 hf H); (try clear hf)))
  go_cut [2, 3, 5, 6] (fun s2 s3 s5 s6 wx => ∃ g1 g2 : Nat, s2 = .pointer (some ⟨g1, 0, none⟩) ∧ s3 = .pointer (some ⟨g2, 0, none⟩) ∧ s5 = .int .i64 (Int.sign (zv na la)) ∧ s6 = .int .i64 (Int.sign (zv nb lb)) ∧ Hp [] w wx [.blk g2 [.bool nb, .slice q lb.length d] 24, .blk g1 [.bool na, .slice p la.length c] 24])
  case first =>
    (revert H; refine w_p 6 (.st 0 (.st 2 (.ld 1 (.ld 3 (.st 4 (.st 5 .done)))))) ?_; intro w1 H)
    iterate 2 refine p_q ?_
    ((refine p_c H rfl rfl Tryd.func24 (sign_any na la rfl hn0 (Hh.out.fr H.fr)) ?_; clear H; rintro e w1 ⟨rfl, hF⟩ H; refine p_r ?_); skip)
    ((refine p_c H rfl rfl Tryd.func24 (sign_any nb lb rfl hm0 (Hk.out.fr H.fr)) ?_; clear H; rintro e w1 ⟨rfl, hF⟩ H; refine p_r ?_); skip)
    iterate 2 refine p_q ?_
    (refine pl_done ?_)
    all_goals
      go_wp2_with (first | refine x_q H ?_ | refine x_cm (fun h => ?_) (fun h => ?_) | (revert H; first | (refine x_g ?_; intro g w1 hg hf H) | (refine x_s ?_; intro w1 hf H); (try clear hf)))
      go_meet
      case rel => exact ⟨_, _, rfl, rfl, rfl, rfl, H⟩
  case rest =>
    clear H
    obtain ⟨g1, g2, rfl, rfl, rfl, rfl, H⟩ := hcut
    have hs1 := sign_le (zv na la)
    have hs2 := sign_le (zv nb lb)
    rcases Int.lt_trichotomy (Int.sign (zv na la)) (Int.sign (zv nb lb)) with hlt | heq | hgt
    · have Hs : Hid (cmpZ (zv na la) (zv nb lb) = -1) := hid (by rw [cmp_signs (by omega), cmpZ_lt hlt])
      go_wp2_with (first | refine x_q H ?_ | refine x_cm (fun h => ?_) (fun h => ?_) | (revert H; first | (refine x_g ?_; intro g w1 hg hf H) | (refine x_s ?_; intro w1 hf H); (try clear hf)))
      go_ret
      exact ⟨by rw [Hs.out]; rfl, H.fr⟩
    · have Hs := hid (cmp_same heq)
      have hle1 : Int.sign (zv na la) ≤ Int.sign (zv nb lb) := by omega
      have hle2 : Int.sign (zv nb lb) ≤ Int.sign (zv na la) := by omega
      have hz := cmpZ_le (val la) (val lb)
      have hi : inr IntKind.i64 (Int.sign (zv na la) * cmpZ (val la) (val lb)) := by
        rw [Hs.out]
        have := cmpZ_le (zv na la) (zv nb lb)
        show (-9223372036854775808 : Int) ≤ _ ∧ _ ≤ (9223372036854775807 : Int)
        omega
      clear heq
      go_wp2_with (first | refine x_q H ?_ | refine x_cm (fun h => ?_) (fun h => ?_) | (revert H; first | (refine x_g ?_; intro g w1 hg hf H) | (refine x_s ?_; intro w1 hf H); (try clear hf)))
      (revert H; refine w_p 10 (.st 0 (.st 1 (.st 2 (.st 4 (.st 5 (.ld 3 (.ld 6 (.ld 7 (.st 8 (.st 9 .done)))))))))) ?_; intro w1 H)
      iterate 5 refine p_q ?_
      ((refine p_c H rfl rfl Tryd.func49 (trim_any la rfl (Hh.out.fr H.fr)) ?_; clear H; rintro e w1 ⟨rfl, hF⟩ H; refine p_r ?_); skip)
      ((refine p_c H rfl rfl Tryd.func49 (trim_any lb rfl (Hk.out.fr H.fr)) ?_; clear H; rintro e w1 ⟨rfl, hF⟩ H; refine p_r ?_); skip)
      ((refine p_c H rfl rfl Tryd.func58 (compare_any (val la) (val lb) rfl rfl (Hh.out.trim.fr H.fr) (Hk.out.trim.fr H.fr)) ?_; clear H; rintro e w1 ⟨rfl, hF⟩ H; refine p_r ?_); skip)
      iterate 2 refine p_q ?_
      (refine pl_done ?_)
      all_goals
        go_wp2_with (first | refine x_q H ?_ | refine x_cm (fun h => ?_) (fun h => ?_) | (revert H; first | (refine x_g ?_; intro g w1 hg hf H) | (refine x_s ?_; intro w1 hf H); (try clear hf)))
        go_ret
        exact ⟨by rw [← Hs.out]; rfl, H.fr⟩
    · have Hs : Hid (cmpZ (zv na la) (zv nb lb) = 1) := hid (by rw [cmp_signs (by omega), cmpZ_gt hgt])
      go_wp2_with (first | refine x_q H ?_ | refine x_cm (fun h => ?_) (fun h => ?_) | (revert H; first | (refine x_g ?_; intro g w1 hg hf H) | (refine x_s ?_; intro w1 hf H); (try clear hf)))
      go_ret
      exact ⟨by rw [Hs.out]; rfl, H.fr⟩
theorem rcmp_any {w : World} {p q : Option Addr} {n m c d : Nat} (na nb : Bool) (la lb : List Nat) (hn : la.length = n) (hm : lb.length = m) (hn0 : n ≤ 400000) (hm0 : m ≤ 400000) (h : LR w p c la) (k : LR w q d lb) :
    Calls Tryd.prog 23 #[.agg #[.bool na, .slice p n c], .agg #[.bool nb, .slice q m d]] w fun e w' => e = .returned (.int .i64 (cmpZ (zv na la) (zv nb lb))) ∧ Fr [] w w' := by
  have Hh := hid h
  have Hk := hid k
  have Hn := hid hn
  have Hm := hid hm
  have H := Hp.start [] w
  have HS : Hid (Int.sign (zv na la - zv nb lb) = cmpZ (zv na la) (zv nb lb)) := hid (by
    rcases Int.lt_trichotomy (zv na la) (zv nb lb) with h | h | h
    · rw [cmpZ_lt h]; exact Int.sign_eq_neg_one_of_neg (by omega)
    · rw [h, cmpZ_eq, Int.sub_self]; rfl
    · rw [cmpZ_gt h]; exact Int.sign_eq_one_of_pos (by omega))
  clear h k hn hm
  go_enter Tryd.func23, Tryd.ntmps23
  go_wp2_with (first | refine x_q H ?_ | refine x_cm (fun h => ?_) (fun h => ?_) | (revert H; first | (refine x_g ?_; intro g w1 hg hf H) | (refine x_s ?_; intro w1 hf H); (try clear hf)))
  refine Calls.mono (rsub_any na nb la lb Hn.out Hm.out hn0 hm0 (Hh.out.fr H.fr) (Hk.out.fr H.fr)) ?_
  rintro e w1 ⟨p3, c3, rfl, hF, hL⟩
  have hlen : (digs (zv na la - zv nb lb).natAbs).length ≤ 1000000 := by
    have := digs_two (a := la) (b := lb) Hh.out.lim Hk.out.lim (x := (zv na la - zv nb lb).natAbs) (by have := zv_abs na la; have := zv_abs nb lb; omega)
    have := Hn.out
    have := Hm.out
    omega
  have HL := hid hL
  have H1 := H.step hF (by simp)
  clear H hF hL
  have H := H1
  clear H1
  go_wp2_with (first | refine x_q H ?_ | refine x_cm (fun h => ?_) (fun h => ?_) | (revert H; first | (refine x_g ?_; intro g w1 hg hf H) | (refine x_s ?_; intro w1 hf H); (try clear hf)))
  (refine x_c H (rsign_any _ _ rfl hlen HL.out) ?_; clear H; rintro e w1 ⟨rfl, hF⟩ H)
  rw [zv_canon, HS.out]
  go_wp2_with (first | refine x_q H ?_ | refine x_cm (fun h => ?_) (fun h => ?_) | (revert H; first | (refine x_g ?_; intro g w1 hg hf H) | (refine x_s ?_; intro w1 hf H); (try clear hf)))
  go_ret
  exact ⟨rfl, H.fr⟩
theorem slim_any {w : World} {p : Option Addr} {n c : Nat} (neg : Bool) {z : Int} (hn : n ≤ 9223372036854775807) :
    Calls Tryd.prog 8 #[.agg #[.bool neg, .slice p n c], .int .i64 z] w fun e w' => e = .returned (.bool (decide ((n : Int) ≤ z))) ∧ Fr [] w w' := by
  have H := Hp.start [] w
  by_cases h0 : (n : Int) ≤ z
  · have Hd := hid (decide_eq_true h0)
    go_enter Tryd.func8, Tryd.ntmps8
    go_wp2_with (first | refine x_q H ?_ | refine x_cm (fun h => ?_) (fun h => ?_) | (revert H; first | (refine x_g ?_; intro g w1 hg hf H) | (refine x_s ?_; intro w1 hf H); (try clear hf)))
    go_ret
    exact ⟨by rw [Hd.out]; rfl, H.fr⟩
  · have Hd := hid (decide_eq_false h0)
    go_enter Tryd.func8, Tryd.ntmps8
    go_wp2_with (first | refine x_q H ?_ | refine x_cm (fun h => ?_) (fun h => ?_) | (revert H; first | (refine x_g ?_; intro g w1 hg hf H) | (refine x_s ?_; intro w1 hf H); (try clear hf)))
    go_ret
    exact ⟨by rw [Hd.out]; rfl, H.fr⟩
end Go.Proofs.YtpmebjhlgdhchaaDoor
