/-
  The document's integers: BitLen, TrailingZeros, Shift, Sqrt, on numbers.
-/
import Derived.Test.YtpmebjhlgdhchaaDoorIz7
import Derived.Test.YtpmebjhlgdhchaaDoorIw42
import Derived.Test.YtpmebjhlgdhchaaDoorIw36
import Derived.Test.YtpmebjhlgdhchaaDoorIz5
namespace Go.Proofs.YtpmebjhlgdhchaaDoor
open Go.RowKit
set_option linter.unusedSimpArgs false
set_option linter.unusedVariables false
set_option maxHeartbeats 8000000
set_option maxRecDepth 100000

theorem rtrim_v {w : World} {p : Option Addr} {n c A : Nat} (l : List Nat) (hl : l.length = n) (hn : n ≤ 1000000) (hA : Hid (val l = A)) (h : LR w p c l) :
    Calls Tryd.prog 59 #[.slice p n c] w fun e w' => ∃ p' c', e = .returned (.slice p' (digs A).length c') ∧ Fr [] w w' ∧ LR w' p' c' (digs A) := by
  have h1 := rtrim_any l hl hn h
  rwa [hA.out] at h1
theorem rtrim_m {w : World} {p : Option Addr} {n c : Nat} {m : List Nat} (l : List Nat) (hl : l.length = n) (hn : n ≤ 1000000) (hm : Hid (digs (val l) = m)) (h : LR w p c l) :
    Calls Tryd.prog 59 #[.slice p n c] w fun e w' => ∃ p' c', e = .returned (.slice p' m.length c') ∧ Fr [] w w' ∧ LR w' p' c' m := by
  have h1 := rtrim_any l hl hn h
  rwa [hm.out] at h1
theorem rBitLen_ar {w : World} {u : Value} {x : Int} {n : Nat} (h : Av w u x n) (hn : n ≤ 200000) :
    Calls Tryd.prog 40 #[u] w fun e w' => e = .returned (.int .i64 (bl x.natAbs : Int)) ∧ Fr [] w w' := by
  obtain ⟨neg, l, p, c, rfl, hL, rfl, hln⟩ := h
  rw [zv_abs]
  have Hh := hid hL
  have hlen := digs_len_le hL.lim
  obtain ⟨A, hA⟩ : ∃ A, val l = A := ⟨_, rfl⟩
  rw [hA] at hlen ⊢
  have HA := hid hA
  have H := Hp.start [] w
  clear hL hA
  go_enter Tryd.func40, Tryd.ntmps40
  go_wp2_with (first | refine x_q H ?_ | refine x_cm (fun h => ?_) (fun h => ?_) | (revert H; (first | (refine x_g ?_; intro g w1 hg hf H) | (refine x_s ?_; intro w1 hf H)); (first | replace hf := hf.kp | clear hf)))
  (refine x_c H (rtrim_v l rfl (by omega) HA (Hh.out.fr H.fr)) ?_; clear H; rintro e w1 ⟨p7, c7, rfl, hF, hL⟩ H; replace hF := hF.kp; skip)
  have Hf0 := hid H.fr
  clear H hF Hh HA
  have H := Hp.start [] w1
  by_cases h0 : (digs A).length ≤ 0
  · have HB : Hid (bl A = 0) := hid (by rw [digs_zero_len h0]; rfl)
    clear hL
    go_wp2_with (first | refine x_q H ?_ | refine x_cm (fun h => ?_) (fun h => ?_) | (revert H; (first | (refine x_g ?_; intro g w1 hg hf H) | (refine x_s ?_; intro w1 hf H)); (first | replace hf := hf.kp | clear hf)))
    go_ret
    exact ⟨by rw [HB.out]; rfl, Hf0.out.trans H.fr⟩
  · obtain ⟨k, hk⟩ : ∃ k, (digs A).length = k + 1 := ⟨(digs A).length - 1, by omega⟩
    obtain ⟨x, hx⟩ : ∃ x, (digs A)[k]? = some x := ⟨_, List.getElem?_eq_getElem (by omega)⟩
    have hxv := limbs_at hx
    have hxB := hL.lim.at hx
    have HB : Hid (bl A = 32 * k + bl x) := hid (by
      have h2 := bl_digs hk (digs_lim A) hx (digs_last A x (by rw [hk]; exact hx))
      rwa [val_digs] at h2)
    have hb32 := bl_32 hxB
    obtain ⟨b0, off, rfl, hb0, hcell⟩ := hL.rd.rng (limbs_ne (i := k) (by omega))
    have H1 := H.pushRng (b := b0) (off := off) hb0 (by simp) hcell
    clear H hcell
    have H := H1
    clear H1 hx h0 hL
    generalize (digs A).length = m at *
    rw [show k = ((m : Int) - 1).toNat by omega] at hxv
    have hm1 : (m : Int) = (k : Int) + 1 := by omega
    have Hm := hid hm1
    have hm2 : 1 ≤ m := by omega
    clear hm1 hk
    go_wp2_with (first | refine x_q H ?_ | refine x_cm (fun h => ?_) (fun h => ?_) | (revert H; (first | (refine x_g ?_; intro g w1 hg hf H) | (refine x_s ?_; intro w1 hf H)); (first | replace hf := hf.kp | clear hf)))
    (refine x_c H (len32_any _ hxB) ?_; clear H; rintro e w1 ⟨rfl, hF⟩ H; replace hF := hF.kp; skip)
    go_wp2_with (first | refine x_q H ?_ | refine x_cm (fun h => ?_) (fun h => ?_) | (revert H; (first | (refine x_g ?_; intro g w1 hg hf H) | (refine x_s ?_; intro w1 hf H)); (first | replace hf := hf.kp | clear hf)))
    go_ret
    exact ⟨by rw [HB.out]; have := Hm.out; go_num, Hf0.out.trans H.fr⟩
theorem rTrailing_ar {w : World} {u : Value} {x : Int} {n : Nat} (h : Av w u x n) (hn : n ≤ 200000) (hT : TabAt 0 Lib.deBruijn32tab w) :
    Calls Tryd.prog 42 #[u] w fun e w' => e = .returned (.int .i64 (tz x.natAbs : Int)) ∧ Fr [] w w' := by
  obtain ⟨neg, l, p, c, rfl, hL, rfl, hln⟩ := h
  rw [zv_abs]
  have Hh := hid hL
  have hlen := digs_len_le hL.lim
  obtain ⟨m, hm⟩ : ∃ m, digs (val l) = m := ⟨_, rfl⟩
  have Hd : tz (val l) = tz (val m) := by rw [← hm, val_digs]
  rw [hm] at hlen
  rw [Hd]
  have HM := hid hm
  have HT0 := hid hT
  have H := Hp.start [] w
  clear hL hT hm Hd
  go_enter Tryd.func42, Tryd.ntmps42
  go_wp2_with (first | refine x_q H ?_ | refine x_cm (fun h => ?_) (fun h => ?_) | (revert H; (first | (refine x_g ?_; intro g w1 hg hf H) | (refine x_s ?_; intro w1 hf H)); (first | replace hf := hf.kp | clear hf)))
  (refine x_c H (rtrim_m l rfl (by omega) HM (Hh.out.fr H.fr)) ?_; clear H; rintro e w1 ⟨p7, c7, rfl, hF, hL⟩ H; replace hF := hF.kp; skip)
  have Hf0 := hid H.fr
  have HT := hid (TabAt.fr HT0.out H.fr)
  clear H hF Hh HT0
  have H := Hp.start [] w1
  have hlm : m.length ≤ 200000 := by omega
  clear hlen hln HM
  have Hh := hid hL
  clear hL
  go_wp2_with (first | refine x_q H ?_ | refine x_cm (fun h => ?_) (fun h => ?_) | (revert H; (first | (refine x_g ?_; intro g w1 hg hf H) | (refine x_s ?_; intro w1 hf H)); (first | replace hf := hf.kp | clear hf)))
  go_loopw [4] (fun s8 wr => ∃ i : Nat, i ≤ m.length ∧ s8 = .int .i64 (i : Int) ∧ Hid (∀ j, j < i → m[j]? = some 0) ∧ Hp [] w1 wr []) (fun v _ => m.length - (intOf v).toNat)
  case atStart => exact ⟨0, Nat.zero_le _, rfl, hid (fun j hj => absurd hj (Nat.not_lt_zero _)), H⟩
  case round =>
    clear H
    obtain ⟨i, hi, rfl, Hz, H⟩ := hrel
    by_cases hin : i < m.length
    · obtain ⟨x, hx⟩ : ∃ x, m[i]? = some x := ⟨_, List.getElem?_eq_getElem hin⟩
      have hxv := limbs_at hx
      have hxB := Hh.out.lim.at hx
      have Hx := hid hx
      obtain ⟨b0, off, rfl, hb0, hcell⟩ := Hh.out.rd.rng (limbs_ne (i := i) hin)
      have H1 := H.pushRng (b := b0) (off := off) hb0 (by simp) hcell
      clear H hcell
      have H := H1
      clear H1
      clear hx
      by_cases h0 : x = 0
      · have Hx0 := hid h0
        have hx0 : (x : Int) = 0 := by omega
        clear h0
        rw [hx0] at hxv
        clear hx0
        go_wp2_with (first | refine x_q H ?_ | refine x_cm (fun h => ?_) (fun h => ?_) | (revert H; (first | (refine x_g ?_; intro g w1 hg hf H) | (refine x_s ?_; intro w1 hf H)); (first | replace hf := hf.kp | clear hf)))
        go_roundw
        case rel => exact ⟨i + 1, by omega, by go_num, hid (upto_step Hz.out (by have := Hx.out; rw [Hx0.out] at this; exact this)), H.sub (by repeat first | exact List.Sublist.refl _ | exact List.nil_sublist _ | apply List.Sublist.cons_cons | apply List.Sublist.cons)⟩
        case measure => (simp [intOf]; try omega)
      · have hx0 : 0 < x := Nat.pos_of_ne_zero h0
        have Hx0 := hid h0
        have HR : Hid (tz (val m) = 32 * i + tz x) := hid (tz_digs Hx.out h0 Hh.out.lim Hz.out)
        clear h0
        go_wp2_with (first | refine x_q H ?_ | refine x_cm (fun h => ?_) (fun h => ?_) | (revert H; (first | (refine x_g ?_; intro g w1 hg hf H) | (refine x_s ?_; intro w1 hf H)); (first | replace hf := hf.kp | clear hf)))
        (refine x_c H (tz32_any _ x Hx0.out hxB (TabAt.fr HT.out H.fr)) ?_; clear H; rintro e w1 ⟨rfl, hF⟩ H; replace hF := hF.kp; skip)
        have ht : tz x ≤ 64 := by
          have h1 := ctz_tz 32 x hx0 (by omega)
          obtain ⟨_, _, h2⟩ := Lib.ctzFrom_spec 32 x hx0 (by omega)
          omega
        go_wp2_with (first | refine x_q H ?_ | refine x_cm (fun h => ?_) (fun h => ?_) | (revert H; (first | (refine x_g ?_; intro g w1 hg hf H) | (refine x_s ?_; intro w1 hf H)); (first | replace hf := hf.kp | clear hf)))
        go_ret
        exact ⟨by rw [HR.out]; go_num, Hf0.out.trans H.fr⟩
    · have e : val m = 0 := by
        apply zeros_tail
        intro k x hk
        have h1 := (List.getElem?_eq_some_iff.1 hk).1
        have h2 := Hz.out k (by omega)
        rw [hk] at h2
        exact Option.some.inj h2
      have He := hid e
      clear e
      go_wp2_with (first | refine x_q H ?_ | refine x_cm (fun h => ?_) (fun h => ?_) | (revert H; (first | (refine x_g ?_; intro g w1 hg hf H) | (refine x_s ?_; intro w1 hf H)); (first | replace hf := hf.kp | clear hf)))
      go_ret
      exact ⟨by rw [He.out, tz_zero]; rfl, Hf0.out.trans H.fr⟩
end Go.Proofs.YtpmebjhlgdhchaaDoor
/-
  The document's integers: Shift on numbers.
-/
namespace Go.Proofs.YtpmebjhlgdhchaaDoor
open Go.RowKit
set_option linter.unusedSimpArgs false
set_option linter.unusedVariables false
set_option maxHeartbeats 8000000
set_option maxRecDepth 100000

theorem rshiftUp_ar {w : World} {u : Value} {x : Int} {n : Nat} (k : Nat) (h : Av w u x n) (hn : n ≤ 100000) (hk : k ≤ 1048576) :
    Calls Tryd.prog 43 #[u, .int .i64 (k : Int)] w fun e w' => ∃ v1, e = .returned v1 ∧ Fr [] w w' ∧ Bv w' v1 (x * 2 ^ k) (n + k + 1) := by
  obtain ⟨b1, p1, m1, c1, rfl⟩ := h.form
  have HA1 := hid h
  clear h
  have H := Hp.start [] w
  go_enter Tryd.func43, Tryd.ntmps43
  go_wp2_with (first | refine x_q H ?_ | refine x_cm (fun h => ?_) (fun h => ?_) | (revert H; (first | (refine x_g ?_; intro g w1 hg hf H) | (refine x_s ?_; intro w1 hf H)); (first | replace hf := hf.kp | clear hf)))
  (refine x_c H (rnorm_ar (av HA1) (by omega)) ?_; clear H; rintro e w1 ⟨v3, rfl, hF, hB⟩ H; replace hF := hF.kp; skip)
  obtain ⟨b3, p3, m3, c3, rfl⟩ := hB.form
  obtain ⟨hL3, hl3, hb3, hmn3⟩ := hB.parts
  have HE : Hid (sg b3 (x.natAbs * 2 ^ k) = x * 2 ^ k) := hid (by rw [sg_pow, ← hb3, sg_canon])
  have HL3 := hid hL3
  have Hl3 := hid hl3
  clear hL3 hl3 hb3 hB
  go_wp2_with (first | refine x_q H ?_ | refine x_cm (fun h => ?_) (fun h => ?_) | (revert H; refine x_s2 ?_; intro w1 hf H hk; clear hf; change Kp _ _ at hk) | (revert H; (first | (refine x_g ?_; intro g w1 hg hf H) | (refine x_s ?_; intro w1 hf H)); (first | replace hf := hf.kp | clear hf)))
  (revert H; refine w_pF 7 (.st 0 (.st 1 (.st 2 (.st 3 (.st 4 (.ld 5 (.ld 6 (.ld 7 .done)))))))) ?_; intro w1 hf H; (first | replace hf := hf.kp | clear hf))
  iterate 5 refine p_q ?_
  ((refine p_c H rfl rfl Tryd.func71 (shl_any (digs x.natAbs) k Hl3.out (by omega) (by omega) (lr HL3)) ?_; clear H; rintro e w1 ⟨p5, c5, o, rfl, hF, hL, hol, hvo⟩ H; refine p_r ?_; replace hF := hF.kp); have HL5 := hid hL; have Hol := hid hol; have Hvo := hid hvo; clear hL hol hvo)
  ((refine p_c H rfl rfl Tryd.func57 (make1_bv b3 o Hol.out (by omega) (lr HL5) (n + k + 1) (by omega)) ?_; clear H; rintro e w1 ⟨v6, rfl, hF, hB⟩ H; refine p_r ?_; replace hF := hF.kp); rw [Hvo.out, val_digs, HE.out] at hB; obtain ⟨b6, p6, m6, c6, rfl⟩ := hB.form; have HB6 := hid hB; clear hB)
  (revert H; refine p_s2 ?_; intro w1 hf H hk; clear hf; change Kp _ _ at hk)
  (refine pl_done ?_)
  all_goals
    go_wp2_with (first | refine x_q H ?_ | refine x_cm (fun h => ?_) (fun h => ?_) | (revert H; (first | (refine x_g ?_; intro g w1 hg hf H) | (refine x_s ?_; intro w1 hf H)); (first | replace hf := hf.kp | clear hf)))
    refine c_post H rfl rfl rfl ?_
    exact ⟨_, rfl, H.fr, bv HB6⟩
theorem rshiftDown_ar {w : World} {u : Value} {x : Int} {n : Nat} (k : Nat) (h : Av w u x n) (hn : n ≤ 100000) (hk0 : 0 < k) (hk : k ≤ 1048576) :
    Calls Tryd.prog 43 #[u, .int .i64 (-(k : Int))] w fun e w' => ∃ v1, e = .returned v1 ∧ Fr [] w w' ∧ Bv w' v1 (x / 2 ^ k) n := by
  obtain ⟨b1, p1, m1, c1, rfl⟩ := h.form
  have HA1 := hid h
  have hdx := hid (dl_div (y := 2 ^ k) h.dl)
  clear h
  have h2 := hid (show (2 : Nat) ^ k ≠ 0 from Nat.pos_iff_ne_zero.1 (Nat.two_pow_pos k))
  have H := Hp.start [] w
  go_enter Tryd.func43, Tryd.ntmps43
  go_wp2_with (first | refine x_q H ?_ | refine x_cm (fun h => ?_) (fun h => ?_) | (revert H; (first | (refine x_g ?_; intro g w1 hg hf H) | (refine x_s ?_; intro w1 hf H)); (first | replace hf := hf.kp | clear hf)))
  (refine x_c H (rnorm_ar (av HA1) (by omega)) ?_; clear H; rintro e w1 ⟨v3, rfl, hF, hB⟩ H; replace hF := hF.kp; skip)
  obtain ⟨b3, p3, m3, c3, rfl⟩ := hB.form
  obtain ⟨hL3, hl3, hb3, hmn3⟩ := hB.parts
  have HX : Hid (x = sg b3 x.natAbs) := hid (by rw [← hb3, sg_canon])
  have HL3 := hid hL3
  have Hl3 := hid hl3
  clear hL3 hl3 hb3 hB
  obtain ⟨A, hA⟩ : ∃ A, x.natAbs = A := ⟨_, rfl⟩
  rw [hA] at HL3 Hl3 HX
  clear hA
  go_wp2_with (first | refine x_q H ?_ | refine x_cm (fun h => ?_) (fun h => ?_) | (revert H; refine x_s2 ?_; intro w1 hf H hk; clear hf; change Kp _ _ at hk) | (revert H; (first | (refine x_g ?_; intro g w1 hg hf H) | (refine x_s ?_; intro w1 hf H)); (first | replace hf := hf.kp | clear hf)))
  (refine x_c H (rshr_any (digs A) k Hl3.out (by omega) (by omega) (lr HL3)) ?_; clear H; rintro e w1 ⟨p5, c5, o, rfl, hF, hL, hol, hvo⟩ H; replace hF := hF.kp; have HL5 := hid hL; have Hvo := hid hvo; clear hL hvo)
  rw [val_digs] at Hvo ⊢
  have HS : Hid (x / 2 ^ k = sg b3 A / 2 ^ k) := hid (by rw [← HX.out])
  clear HX HL3 Hl3
  cases b3
  · have HE : Hid (sg false (A / 2 ^ k) = x / 2 ^ k) := hid (by rw [HS.out, ← pow_cast]; exact (dm_plain (na := false) (nb := false) (A := A) h2.out (.inl rfl)).1.symm)
    generalize decide (A % 2 ^ k ≠ 0) = lost
    go_wp2_with (first | refine x_q H ?_ | refine x_cm (fun h => ?_) (fun h => ?_) | (revert H; (first | (refine x_g ?_; intro g w1 hg hf H) | (refine x_s ?_; intro w1 hf H)); (first | replace hf := hf.kp | clear hf)))
    (refine x_c H (make1_bv false o rfl (by omega) (lr HL5) n (by omega)) ?_; clear H; rintro e w1 ⟨v7, rfl, hF, hB⟩ H; replace hF := hF.kp; rw [Hvo.out, HE.out] at hB; obtain ⟨b7, p7, m7, c7, rfl⟩ := hB.form; have HB7 := hid hB; clear hB)
    go_wp2_with (first | refine x_q H ?_ | refine x_cm (fun h => ?_) (fun h => ?_) | (revert H; refine x_s2 ?_; intro w1 hf H hk; clear hf; change Kp _ _ at hk) | (revert H; (first | (refine x_g ?_; intro g w1 hg hf H) | (refine x_s ?_; intro w1 hf H)); (first | replace hf := hf.kp | clear hf)))
    refine c_post H rfl rfl rfl ?_
    exact ⟨_, rfl, H.fr, bv HB7⟩
  · by_cases hr : A % 2 ^ k = 0
    · rw [show decide (A % 2 ^ k ≠ 0) = false by simp [hr]]
      have HE : Hid (sg true (A / 2 ^ k) = x / 2 ^ k) := hid (by rw [HS.out, ← pow_cast]; exact (dm_plain (na := true) (nb := false) (A := A) h2.out (.inr hr)).1.symm)
      clear hr
      go_wp2_with (first | refine x_q H ?_ | refine x_cm (fun h => ?_) (fun h => ?_) | (revert H; (first | (refine x_g ?_; intro g w1 hg hf H) | (refine x_s ?_; intro w1 hf H)); (first | replace hf := hf.kp | clear hf)))
      (refine x_c H (make1_bv true o rfl (by omega) (lr HL5) n (by omega)) ?_; clear H; rintro e w1 ⟨v7, rfl, hF, hB⟩ H; replace hF := hF.kp; rw [Hvo.out, HE.out] at hB; obtain ⟨b7, p7, m7, c7, rfl⟩ := hB.form; have HB7 := hid hB; clear hB)
      go_wp2_with (first | refine x_q H ?_ | refine x_cm (fun h => ?_) (fun h => ?_) | (revert H; refine x_s2 ?_; intro w1 hf H hk; clear hf; change Kp _ _ at hk) | (revert H; (first | (refine x_g ?_; intro g w1 hg hf H) | (refine x_s ?_; intro w1 hf H)); (first | replace hf := hf.kp | clear hf)))
      refine c_post H rfl rfl rfl ?_
      exact ⟨_, rfl, H.fr, bv HB7⟩
    · rw [show decide (A % 2 ^ k ≠ 0) = true by simp [hr]]
      have HE : Hid (sg true (A / 2 ^ k) - 1 = x / 2 ^ k) := hid (by
        have e : sg true (A / 2 ^ k) - 1 = sg true (A / 2 ^ k + 1) := by unfold sg; simp only [if_true]; omega
        rw [e, HS.out, ← pow_cast]; exact (dm_down (nb := false) (A := A) h2.out hr).1.symm)
      clear hr
      go_wp2_with (first | refine x_q H ?_ | refine x_cm (fun h => ?_) (fun h => ?_) | (revert H; (first | (refine x_g ?_; intro g w1 hg hf H) | (refine x_s ?_; intro w1 hf H)); (first | replace hf := hf.kp | clear hf)))
      (refine x_c H (make1_bv true o rfl (by omega) (lr HL5) n (by omega)) ?_; clear H; rintro e w1 ⟨v7, rfl, hF, hB⟩ H; replace hF := hF.kp; rw [Hvo.out] at hB; obtain ⟨b7, p7, m7, c7, rfl⟩ := hB.form; have HB7 := hid hB; clear hB)
      go_wp2_with (first | refine x_q H ?_ | refine x_cm (fun h => ?_) (fun h => ?_) | (revert H; refine x_s2 ?_; intro w1 hf H hk; clear hf; change Kp _ _ at hk) | (revert H; (first | (refine x_g ?_; intro g w1 hg hf H) | (refine x_s ?_; intro w1 hf H)); (first | replace hf := hf.kp | clear hf)))
      (revert H; refine w_pF 3 (.st 0 (.ld 1 (.ld 2 (.ld 3 .done)))) ?_; intro w1 hf H; (first | replace hf := hf.kp | clear hf))
      refine p_q ?_
      ((refine p_c H rfl rfl Tryd.func26 (rfromInt_ar _ 1 (by simp [inr])) ?_; clear H; rintro e w1 ⟨v8, rfl, hF, hB⟩ H; refine p_r ?_; replace hF := hF.kp); have HB8 := hid hB; clear hB)
      ((refine p_c H rfl rfl Tryd.func34 (rsub_ar (bv HB7).ar (bv HB8).ar (by omega) (by omega)) ?_; clear H; rintro e w1 ⟨v9, rfl, hF, hB⟩ H; refine p_r ?_; replace hF := hF.kp); rw [HE.out] at hB; obtain ⟨b9, p9, m9, c9, rfl⟩ := hB.form; have HB9 := hid hB; clear hB)
      (revert H; refine p_s2 ?_; intro w1 hf H hk; clear hf; change Kp _ _ at hk)
      (refine pl_done ?_)
      all_goals
        go_wp2_with (first | refine x_q H ?_ | refine x_cm (fun h => ?_) (fun h => ?_) | (revert H; refine x_s2 ?_; intro w1 hf H hk; clear hf; change Kp _ _ at hk) | (revert H; (first | (refine x_g ?_; intro g w1 hg hf H) | (refine x_s ?_; intro w1 hf H)); (first | replace hf := hf.kp | clear hf)))
        refine c_post H rfl rfl rfl ?_
        exact ⟨_, rfl, H.fr, ⟨(bv HB9).1, hdx.out⟩⟩
theorem rhalf_ar {w : World} {u : Value} {x : Int} {n : Nat} (h : Av w u x n) (hn : n ≤ 100000) :
    Calls Tryd.prog 43 #[u, .int .i64 (-1)] w fun e w' => ∃ v1, e = .returned v1 ∧ Fr [] w w' ∧ Bv w' v1 (x / 2) n := by
  have h1 := rshiftDown_ar 1 h hn (by decide) (by decide)
  rw [Int.pow_one] at h1
  exact h1
end Go.Proofs.YtpmebjhlgdhchaaDoor
/-
  The document's integers: Sqrt on numbers.
-/
namespace Go.Proofs.YtpmebjhlgdhchaaDoor
open Go.RowKit
set_option linter.unusedSimpArgs false
set_option linter.unusedVariables false
set_option maxHeartbeats 16000000
set_option maxRecDepth 100000

theorem rcmp_lt {w : World} {u v : Value} {x y : Int} {n m : Nat} (h : Av w u x n) (k : Av w v y m) (hn : n ≤ 200000) (hm : m ≤ 200000) (hx : x < y) :
    Calls Tryd.prog 23 #[u, v] w fun e w' => ∃ s : Int, e = .returned (.int .i64 s) ∧ s < 0 ∧ Fr [] w w' :=
  Calls.mono (rcmp_ar h k hn hm) (fun e w' hb => ⟨_, hb.1, by rw [cmpZ_lt hx]; decide, hb.2⟩)
theorem rcmp_ge {w : World} {u v : Value} {x y : Int} {n m : Nat} (h : Av w u x n) (k : Av w v y m) (hn : n ≤ 200000) (hm : m ≤ 200000) (hx : y ≤ x) :
    Calls Tryd.prog 23 #[u, v] w fun e w' => ∃ s : Int, e = .returned (.int .i64 s) ∧ 0 ≤ s ∧ Fr [] w w' :=
  Calls.mono (rcmp_ar h k hn hm) (fun e w' hb => ⟨_, hb.1, by unfold cmpZ; (repeat' split) <;> omega, hb.2⟩)
theorem newton_next {a X : Nat} : (((X : Int) + (a : Int) / (X : Int)) / 2) = (((X + a / X) / 2 : Nat) : Int) := by
  rw [Int.natCast_ediv, Int.natCast_add, Int.natCast_ediv]; rfl
theorem rBitLen_is {w : World} {u : Value} {x : Int} {n B : Nat} (h : Av w u x n) (hn : n ≤ 200000) (hB : bl x.natAbs = B) :
    Calls Tryd.prog 40 #[u] w fun e w' => e = .returned (.int .i64 (B : Int)) ∧ Fr [] w w' := by
  subst hB; exact rBitLen_ar h hn
theorem rshiftUp_is {w : World} {u : Value} {x z : Int} {n : Nat} (k : Nat) (hz : z = (k : Int)) (h : Av w u x n) (hn : n ≤ 100000) (hk : k ≤ 1048576) :
    Calls Tryd.prog 43 #[u, .int .i64 z] w fun e w' => ∃ v1, e = .returned v1 ∧ Fr [] w w' ∧ Bv w' v1 (x * 2 ^ k) (n + k + 1) := by
  subst hz; exact rshiftUp_ar k h hn hk
theorem root_pos {a r : Nat} (h : IsRoot a r) (ha : 0 < a) : 0 < r := by
  rcases Nat.eq_zero_or_pos r with e | e
  · subst e; have := h.2; omega
  · exact e
theorem one_pow (k : Nat) : (1 : Int) * 2 ^ k = ((2 ^ k : Nat) : Int) := by rw [Int.one_mul, Int.natCast_pow]; rfl
theorem rsqrt_ar {w : World} {u : Value} {x : Int} {n : Nat} (r : Nat) (h : Av w u x n) (hn : n ≤ 1000) (hx : 0 ≤ x) (hr : IsRoot x.natAbs r) :
    Calls Tryd.prog 44 #[u] w fun e w' => ∃ v1, e = .returned v1 ∧ Fr [] w w' ∧ Bv w' v1 (r : Int) (16 * n + 4) := by
  obtain ⟨b1, p1, m1, c1, rfl⟩ := h.form
  have HA1 := hid h
  have hdx := hid h.dl
  clear h
  obtain ⟨A, hA⟩ : ∃ A : Nat, x = (A : Int) := Int.eq_ofNat_of_zero_le hx
  subst hA
  rw [Int.natAbs_natCast] at hr
  have HR := hid hr
  have H := Hp.start [] w
  clear hr hx
  by_cases h0 : A = 0
  · subst h0
    have HZ : Hid (r = 0) := hid (by have h1 := HR.out.1; rcases Nat.mul_eq_zero.1 (show r * r = 0 by omega) with h | h <;> exact h)
    go_enter Tryd.func44, Tryd.ntmps44
    go_wp2_with (first | refine x_q H ?_ | refine x_cm (fun h => ?_) (fun h => ?_) | (revert H; (first | (refine x_g ?_; intro g w1 hg hf H) | (refine x_s ?_; intro w1 hf H)); (first | replace hf := hf.kp | clear hf)))
    (refine x_c H (rsign_is0 (av HA1) (by omega) rfl) ?_; clear H; rintro e w1 ⟨rfl, hF⟩ H; replace hF := hF.kp; skip)
    go_wp2_with (first | refine x_q H ?_ | refine x_cm (fun h => ?_) (fun h => ?_) | (revert H; refine x_s2 ?_; intro w1 hf H hk; clear hf; change Kp _ _ at hk) | (revert H; (first | (refine x_g ?_; intro g w1 hg hf H) | (refine x_s ?_; intro w1 hf H)); (first | replace hf := hf.kp | clear hf)))
    refine c_post H rfl rfl rfl ?_
    rw [HZ.out]
    exact ⟨_, rfl, H.fr, (bv_zero _).mono (Nat.zero_le _)⟩
  · have HB0 : Hid (bl A ≤ 32 * n) := hid (by have h1 := bl_bound hdx.out; rwa [Int.natAbs_natCast] at h1)
    have HRS := hid (root_start HR.out)
    have HAp : Hid (0 < A) := hid (Nat.pos_of_ne_zero h0)
    have hpos := hid (show (0 : Int) < (A : Int) by omega)
    clear h0
    obtain ⟨B, hB⟩ : ∃ B, bl A = B := ⟨_, rfl⟩
    rw [hB] at HB0 HRS
    have HBe := hid hB
    have hB2 : B ≤ 32 * n := HB0.out
    clear hB
    go_enter Tryd.func44, Tryd.ntmps44
    go_wp2_with (first | refine x_q H ?_ | refine x_cm (fun h => ?_) (fun h => ?_) | (revert H; (first | (refine x_g ?_; intro g w1 hg hf H) | (refine x_s ?_; intro w1 hf H)); (first | replace hf := hf.kp | clear hf)))
    (refine x_c H (rsign_pos (av HA1) (by omega) hpos.out) ?_; clear H; rintro e w1 ⟨s, rfl, hs, hF⟩ H; replace hF := hF.kp; skip)
    go_wp2_with (first | refine x_q H ?_ | refine x_cm (fun h => ?_) (fun h => ?_) | (revert H; (first | (refine x_g ?_; intro g w1 hg hf H) | (refine x_s ?_; intro w1 hf H)); (first | replace hf := hf.kp | clear hf)))
    go_cut [1, 2, 3] (fun s1 s2 s3 wx => ∃ (g1 g2 g3 : Nat) (b4 : Bool) (p4 : Option Addr) (m4 c4 : Nat), s1 = .pointer (some ⟨g1, 0, none⟩) ∧ s2 = .pointer (some ⟨g2, 0, none⟩) ∧ s3 = .pointer (some ⟨g3, 0, none⟩) ∧ Hid (Bv wx (.agg #[.bool b4, .slice p4 m4 c4]) ((2 ^ ((B + 1) / 2) : Nat) : Int) (16 * n + 4)) ∧ Hp [] w wx [.blk g3 [.bool b4, .slice p4 m4 c4] 24, .blk g2 [.bool false, .slice none 0 0] 24, .blk g1 [.bool b1, .slice p1 m1 c1] 24])
    case first =>
      (revert H; refine w_pF 7 (.st 1 (.ld2 0 (.ld2 2 (.st 3 (.st 4 (.ld2 5 (.ld 6 (.ld 7 .done)) 6 (.ld 5 (.ld 7 .done))))) 6 (.ld 2 (.st 3 (.st 4 (.ld 5 (.ld 7 .done)))))) 6 (.ld 0 (.ld 2 (.st 3 (.st 4 (.ld 5 (.ld 7 .done)))))))) ?_; intro w1 hf H; (first | replace hf := hf.kp | clear hf))
      refine p_q ?_
      (refine pl_ld2 ?_ ?_)
      ((refine p_c H rfl rfl Tryd.func26 (rfromInt_ar _ 1 (by simp [inr])) ?_; clear H; rintro e w1 ⟨v3, rfl, hF, hB⟩ H; refine p_r ?_; replace hF := hF.kp); have HB3 := hid hB; clear hB)
      (refine pl_ld2 ?_ ?_)
      ((refine p_c H rfl rfl Tryd.func40 (rBitLen_is (av HA1) (by omega) HBe.out) ?_; clear H; rintro e w1 ⟨rfl, hF⟩ H; refine p_r ?_; replace hF := hF.kp); skip)
      iterate 2 refine p_q ?_
      (refine pl_ld2 ?_ ?_)
      ((refine p_c H rfl rfl Tryd.func43 (rshiftUp_is ((B + 1) / 2) (by omega) (bv HB3).ar (by omega) (by omega)) ?_; clear H; rintro e w1 ⟨v4, rfl, hF, hB⟩ H; refine p_r ?_; replace hF := hF.kp); rw [one_pow] at hB; replace hB := hB.mono (show 2 + (B + 1) / 2 + 1 ≤ 16 * n + 4 by omega); obtain ⟨b4, p4, m4, c4, rfl⟩ := hB.form; have HB4 := hid hB; clear hB)
      (revert H; refine p_g ?_; intro g w1 hg hf H; (first | replace hf := hf.kp | clear hf))
      (revert H; refine p_s2 ?_; intro w1 hf H hk; clear hf; change Kp _ _ at hk)
      (refine pl_done ?_)
      rotate_left
      (revert H; refine p_g ?_; intro g w1 hg hf H; (first | replace hf := hf.kp | clear hf))
      ((refine p_c H rfl rfl Tryd.func43 (rshiftUp_is ((B + 1) / 2) (by omega) (bv HB3).ar (by omega) (by omega)) ?_; clear H; rintro e w1 ⟨v4, rfl, hF, hB⟩ H; refine p_r ?_; replace hF := hF.kp); rw [one_pow] at hB; replace hB := hB.mono (show 2 + (B + 1) / 2 + 1 ≤ 16 * n + 4 by omega); obtain ⟨b4, p4, m4, c4, rfl⟩ := hB.form; have HB4 := hid hB; clear hB)
      (revert H; refine p_s2 ?_; intro w1 hf H hk; clear hf; change Kp _ _ at hk)
      (refine pl_done ?_)
      rotate_left
      (revert H; refine p_g ?_; intro g w1 hg hf H; (first | replace hf := hf.kp | clear hf))
      ((refine p_c H rfl rfl Tryd.func40 (rBitLen_is (av HA1) (by omega) HBe.out) ?_; clear H; rintro e w1 ⟨rfl, hF⟩ H; refine p_r ?_; replace hF := hF.kp); skip)
      iterate 2 refine p_q ?_
      ((refine p_c H rfl rfl Tryd.func43 (rshiftUp_is ((B + 1) / 2) (by omega) (bv HB3).ar (by omega) (by omega)) ?_; clear H; rintro e w1 ⟨v4, rfl, hF, hB⟩ H; refine p_r ?_; replace hF := hF.kp); rw [one_pow] at hB; replace hB := hB.mono (show 2 + (B + 1) / 2 + 1 ≤ 16 * n + 4 by omega); obtain ⟨b4, p4, m4, c4, rfl⟩ := hB.form; have HB4 := hid hB; clear hB)
      (revert H; refine p_s2 ?_; intro w1 hf H hk; clear hf; change Kp _ _ at hk)
      (refine pl_done ?_)
      rotate_left
      (revert H; refine p_g ?_; intro g w1 hg hf H; (first | replace hf := hf.kp | clear hf))
      ((refine p_c H rfl rfl Tryd.func26 (rfromInt_ar _ 1 (by simp [inr])) ?_; clear H; rintro e w1 ⟨v3, rfl, hF, hB⟩ H; refine p_r ?_; replace hF := hF.kp); have HB3 := hid hB; clear hB)
      ((refine p_c H rfl rfl Tryd.func40 (rBitLen_is (av HA1) (by omega) HBe.out) ?_; clear H; rintro e w1 ⟨rfl, hF⟩ H; refine p_r ?_; replace hF := hF.kp); skip)
      iterate 2 refine p_q ?_
      ((refine p_c H rfl rfl Tryd.func43 (rshiftUp_is ((B + 1) / 2) (by omega) (bv HB3).ar (by omega) (by omega)) ?_; clear H; rintro e w1 ⟨v4, rfl, hF, hB⟩ H; refine p_r ?_; replace hF := hF.kp); rw [one_pow] at hB; replace hB := hB.mono (show 2 + (B + 1) / 2 + 1 ≤ 16 * n + 4 by omega); obtain ⟨b4, p4, m4, c4, rfl⟩ := hB.form; have HB4 := hid hB; clear hB)
      (revert H; refine p_s2 ?_; intro w1 hf H hk; clear hf; change Kp _ _ at hk)
      (refine pl_done ?_)
      rotate_left
      all_goals
        go_wp2_with (first | refine x_q H ?_ | refine x_cm (fun h => ?_) (fun h => ?_) | (revert H; (first | (refine x_g ?_; intro g w1 hg hf H) | (refine x_s ?_; intro w1 hf H)); (first | replace hf := hf.kp | clear hf)))
        go_meet
        case rel => exact ⟨_, _, _, _, _, _, _, rfl, rfl, rfl, hid (bv HB4), H⟩
    case rest =>
      clear H
      obtain ⟨g1, g2, g3, b4, p4, m4, c4, rfl, rfl, rfl, HB4, H⟩ := hcut
      go_wp2_with (first | refine x_q H ?_ | refine x_cm (fun h => ?_) (fun h => ?_) | (revert H; (first | (refine x_g ?_; intro g w1 hg hf H) | (refine x_s ?_; intro w1 hf H)); (first | replace hf := hf.kp | clear hf)))
      go_loopg [17] (2 ^ ((B + 1) / 2)) (fun kk s17 wr => ∃ (b5 : Bool) (p5 : Option Addr) (m5 c5 : Nat), Hid (Bv wr (.agg #[.bool b5, .slice p5 m5 c5]) (kk : Int) (16 * n + 4)) ∧ Hid (r ≤ kk) ∧ Hid (0 < kk) ∧ Hp [] w wr [.blk g3 [.bool b5, .slice p5 m5 c5] 24, .blk g2 [.bool false, .slice none 0 0] 24, .blk g1 [.bool b1, .slice p1 m1 c1] 24])
      case atStart => exact ⟨_, _, _, _, HB4, HRS, hid (Nat.two_pow_pos _), H⟩
      case round =>
        clear H HB4
        obtain ⟨b5, p5, m5, c5, HB5, Hr, Hk0, H⟩ := hrel
        have hne := hid (show (gk : Int) ≠ 0 by have := Hk0.out; omega)
        have hge := hid (newton_ge Hk0.out HR.out.1)
        go_wp2_with (first | refine x_q H ?_ | refine x_cm (fun h => ?_) (fun h => ?_) | (revert H; (first | (refine x_g ?_; intro g w1 hg hf H) | (refine x_s ?_; intro w1 hf H)); (first | replace hf := hf.kp | clear hf)))
        (refine x_c H (rdivMod_ar (HA1.out.fr H.fr) (bv HB5).ar (by omega) (by omega) hne.out) ?_; clear H; rintro e w1 ⟨v6, v7, rfl, hF, hB, hB'⟩ H; replace hF := hF.kp; obtain ⟨b6, p6, m6, c6, rfl⟩ := hB.form; have HB6 := hid hB; clear hB; have hB := hB'; clear hB'; obtain ⟨b7, p7, m7, c7, rfl⟩ := hB.form; have HB7 := hid hB; clear hB)
        go_wp2_with (first | refine x_q H ?_ | refine x_cm (fun h => ?_) (fun h => ?_) | (revert H; refine x_s2 ?_; intro w1 hf H hk; clear hf; change Kp _ _ at hk) | (revert H; (first | (refine x_g ?_; intro g w1 hg hf H) | (refine x_s ?_; intro w1 hf H)); (first | replace hf := hf.kp | clear hf)))
        (refine x_c H (radd_ar (bv HB5).ar (bv HB6).ar (by omega) (by omega)) ?_; clear H; rintro e w1 ⟨v8, rfl, hF, hB⟩ H; replace hF := hF.kp; have HB8 := hid hB; clear hB)
        go_wp2_with (first | refine x_q H ?_ | refine x_cm (fun h => ?_) (fun h => ?_) | (revert H; (first | (refine x_g ?_; intro g w1 hg hf H) | (refine x_s ?_; intro w1 hf H)); (first | replace hf := hf.kp | clear hf)))
        (refine x_c H (rhalf_ar (bv HB8).ar (by omega)) ?_; clear H; rintro e w1 ⟨v9, rfl, hF, hB⟩ H; replace hF := hF.kp; rw [newton_next] at hB; obtain ⟨b9, p9, m9, c9, rfl⟩ := hB.form; have HB9 := hid hB; clear hB)
        clear HB6 HB7 HB8
        obtain ⟨Y, hY⟩ : ∃ Y, (gk + A / gk) / 2 = Y := ⟨_, rfl⟩
        rw [hY] at HB9 hge
        go_wp2_with (first | refine x_q H ?_ | refine x_cm (fun h => ?_) (fun h => ?_) | (revert H; refine x_s2 ?_; intro w1 hf H hk; clear hf; change Kp _ _ at hk) | (revert H; (first | (refine x_g ?_; intro g w1 hg hf H) | (refine x_s ?_; intro w1 hf H)); (first | replace hf := hf.kp | clear hf)))
        by_cases hc : gk ≤ Y
        · have HE : Hid ((gk : Int) = (r : Int)) := hid (by
            have h1 := newton_stop Hk0.out (by rw [hY]; exact hc)
            have h2 := root_le HR.out h1
            have h3 := Hr.out
            omega)
          have hci := hid (show (gk : Int) ≤ (Y : Int) by omega)
          clear hc hY
          (refine x_c H (rcmp_ge (bv HB9).ar (bv HB5).ar (by omega) (by omega) hci.out) ?_; clear H; rintro e w1 ⟨s, rfl, hs, hF⟩ H; replace hF := hF.kp; skip)
          go_wp2_with (first | refine x_q H ?_ | refine x_cm (fun h => ?_) (fun h => ?_) | (revert H; refine x_s2 ?_; intro w1 hf H hk; clear hf; change Kp _ _ at hk) | (revert H; (first | (refine x_g ?_; intro g w1 hg hf H) | (refine x_s ?_; intro w1 hf H)); (first | replace hf := hf.kp | clear hf)))
          refine c_post H rfl rfl rfl ?_
          rw [HE.out] at HB5
          exact ⟨_, rfl, H.fr, bv HB5⟩
        · have hci := hid (show (Y : Int) < (gk : Int) by omega)
          have hlt := hid (show Y < gk by omega)
          clear hc hY
          (refine x_c H (rcmp_lt (bv HB9).ar (bv HB5).ar (by omega) (by omega) hci.out) ?_; clear H; rintro e w1 ⟨s, rfl, hs, hF⟩ H; replace hF := hF.kp; skip)
          go_wp2_with (first | refine x_q H ?_ | refine x_cm (fun h => ?_) (fun h => ?_) | (revert H; refine x_s2 ?_; intro w1 hf H hk; clear hf; change Kp _ _ at hk) | (revert H; (first | (refine x_g ?_; intro g w1 hg hf H) | (refine x_s ?_; intro w1 hf H)); (first | replace hf := hf.kp | clear hf)))
          go_roundg Y
          case measure => exact hlt.out
          case rel => exact ⟨_, _, _, _, hid ⟨(bv HB9).1, Nat.le_trans (digs_mono (by rw [Int.natAbs_natCast, Int.natAbs_natCast]; exact Nat.le_of_lt hlt.out)) HB5.out.2⟩, hge, hid (by have h1 := hge.out; have h2 := root_pos HR.out HAp.out; omega), by (refine Hp.arr H ?_; repeat (first | exact Pm.nil _ | (apply Pm.cons; · (repeat first | exact Rm.here _ | apply Rm.there))))⟩
end Go.Proofs.YtpmebjhlgdhchaaDoor
