import Derived.Test.YthbeeeclgbpopaaGreatDoorYEa2
import Derived.Test.YthbeeeclgbpopaaGreatDoorYIw41
import Derived.Deep.DeepCutAuto
namespace Go.Proofs.YthbeeeclgbpopaaGreatDoor
open Go.RowKit
set_option linter.unusedSimpArgs false
set_option linter.unusedVariables false
set_option maxHeartbeats 4000000
set_option maxRecDepth 100000

theorem sg_form (x : Int) : x = sg (decide (x < 0)) x.natAbs := (sg_canon x).symm
theorem trunc_dm {na nb : Bool} {A B : Nat} (hB : B ≠ 0) : sg na A = sg (!(na == nb)) (A / B) * sg nb B + sg na (A % B) := by
 rw [sg_mul]
 have h1 := Nat.div_add_mod A B
 rw [Nat.mul_comm] at h1
 generalize A / B * B = X at *
 generalize A % B = R at *
 unfold sg
 cases na <;> cases nb <;> simp <;> omega
theorem fix_pos {na nb : Bool} {A B : Nat} (hB : B ≠ 0) (hr : 0 ≤ sg na (A % B)) : sg na A / sg nb B = sg (!(na == nb)) (A / B) ∧ sg na A % sg nb B = sg na (A % B) := by
 refine dm_unique (trunc_dm hB) hr ?_
 rw [sg_abs]
 have := Nat.mod_lt A (Nat.pos_of_ne_zero hB)
 unfold sg
 cases na <;> simp <;> omega
theorem fix_neg {na nb : Bool} {A B : Nat} (hB : B ≠ 0) (hr : sg na (A % B) < 0) : sg na A / sg nb B = (if nb = true then sg (!(na == nb)) (A / B) + 1 else sg (!(na == nb)) (A / B) - 1) ∧ sg na A % sg nb B = sg na (A % B) + (B : Int) := by
 have h1 := trunc_dm (na := na) (nb := nb) (A := A) hB
 have h2 := Nat.mod_lt A (Nat.pos_of_ne_zero hB)
 have h3 : -(B : Int) < sg na (A % B) := by unfold sg; cases na <;> simp <;> omega
 refine dm_unique ?_ (by omega) (by rw [sg_abs]; omega)
 rw [h1]
 cases nb
 ·have e : sg false B = (B : Int) := rfl
  simp only [e, Bool.false_eq_true, if_false, Int.sub_mul, Int.one_mul]
  omega
 ·have e : sg true B = -(B : Int) := rfl
  simp only [e, if_true, Int.add_mul, Int.one_mul]
  omega
theorem make1_bv {w : World} {p : Option Addr} {n c : Nat} (neg : Bool) (l : List Nat) (hl : l.length = n) (hn : n ≤ 200000) (h : LR w p c l) (k : Nat) (hk : n ≤ k) :
  Calls Tryz.prog 131 #[.bool neg, .slice p n c] w fun e w' => ∃ v', e = .returned v' ∧ Fr [] w w' ∧ Bv w' v' (sg neg (val l)) k := by
 refine Calls.mono (make1_any neg l hl (by omega) h) (fun e w' hb => hb.bv ?_)
 unfold dl
 rw [zv_abs]
 have := digs_len_le h.lim
 omega
theorem Bv.parts {w : World} {b : Bool} {p : Option Addr} {m c n : Nat} {z : Int} (h : Bv w (.agg #[.bool b, .slice p m c]) z n) : LR w p c (digs z.natAbs) ∧ (digs z.natAbs).length = m ∧ decide (z < 0) = b ∧ m ≤ n := by
 obtain ⟨⟨p', c', he, hl⟩, hn⟩ := h
 simp at he
 obtain ⟨e1, e2, e3, e4⟩ := he
 subst e2 e3 e4
 exact ⟨hl, rfl, e1.symm, hn⟩
theorem rsign_ge {w : World} {u : Value} {x : Int} {n : Nat} (h : Av w u x n) (hn : n ≤ 200000) (hx : 0 ≤ x) :
  Calls Tryz.prog 75 #[u] w fun e w' => ∃ s : Int, e = .returned (.int .i64 s) ∧ 0 ≤ s ∧ Fr [] w w' :=
 Calls.mono (rsign_ar h hn) (fun e w' hb => ⟨_, hb.1, sign_nonneg' hx, hb.2⟩)
theorem rsign_lt {w : World} {u : Value} {x : Int} {n : Nat} (h : Av w u x n) (hn : n ≤ 200000) (hx : x < 0) :
  Calls Tryz.prog 75 #[u] w fun e w' => ∃ s : Int, e = .returned (.int .i64 s) ∧ s < 0 ∧ Fr [] w w' :=
 Calls.mono (rsign_ar h hn) (fun e w' hb => ⟨_, hb.1, by
  rcases sign_cases x with e1 | e1 | e1
  ·omega
  ·exact absurd (Int.sign_eq_zero_iff_zero.1 e1) (by omega)
  ·exact absurd (Int.sign_eq_one_iff_pos.1 e1) (by omega), hb.2⟩)
theorem rfromInt_ar (w : World) (z : Int) (hz : inr .i64 z) :
  Calls Tryz.prog 67 #[.int .i64 z] w fun e w' => ∃ v', e = .returned v' ∧ Fr [] w w' ∧ Bv w' v' z 2 := by
 refine Calls.mono (rfromInt_any w z hz) (fun e w' hb => hb.bv (dl_le ?_))
 have h1 : -9223372036854775808 ≤ z ∧ z ≤ 9223372036854775807 := hz
 have h3 : (4294967296 : Nat) ^ 2 = 18446744073709551616 := by decide
 omega
set_option maxHeartbeats 16000000 in
theorem rdivMod_ar {w : World} {u v : Value} {x y : Int} {n m : Nat} (h : Av w u x n) (k : Av w v y m) (hn : n ≤ 100000) (hm : m ≤ 100000) (h0 : y ≠ 0) :
  Calls Tryz.prog 63 #[u, v] w fun e w' => ∃ v1 v2, e = .returned (.tuple #[v1, v2]) ∧ Fr [] w w' ∧ Bv w' v1 (x / y) n ∧ Bv w' v2 (x % y) m := by
 obtain ⟨b1, p1, m1, c1, rfl⟩ := h.form
 obtain ⟨b2, p2, m2, c2, rfl⟩ := k.form
 have HA1 := hid h
 have HA2 := hid k
 have hdx := hid h.dl
 have hdy := hid k.dl
 clear h k
 have H := Hp.start [] w
 go_enter Tryz.func63, Tryz.ntmps63
 go_upto_region 1 with (first | refine x_q H ?_ | refine x_cm (fun h => ?_) (fun h => ?_) | (revert H; (first | (refine x_g ?_; intro g w1 hg hf H) | (refine x_s ?_; intro w1 hf H)); (first | replace hf := hf.kp | clear hf)))
 go_cut [2, 3, 4, 5] (fun s2 s3 s4 s5 wx => ∃ (g1 g2 g3 g4 : Nat) (b3 : Bool) (p3 : Option Addr) (m3 c3 : Nat) (b4 : Bool) (p4 : Option Addr) (m4 c4 : Nat), s2 = .pointer (some ⟨g1, 0, none⟩) ∧ s3 = .pointer (some ⟨g2, 0, none⟩) ∧ s4 = .pointer (some ⟨g3, 0, none⟩) ∧ s5 = .pointer (some ⟨g4, 0, none⟩) ∧ Hid (Bv wx (.agg #[.bool b3, .slice p3 m3 c3]) x n) ∧ Hid (Bv wx (.agg #[.bool b4, .slice p4 m4 c4]) y m) ∧ Hp [] w wx [.blk g4 [.bool false, .slice none 0 0] 50, .blk g3 [.bool false, .slice none 0 0] 50, .blk g2 [.bool b4, .slice p4 m4 c4] 50, .blk g1 [.bool b3, .slice p3 m3 c3] 50])
 case first =>
  (revert H; refine w_pF 4 (.st 0 (.st 2 (.ld 1 (.ld 3 (.ldf 4 (.ld 5 .done)))))) ?_; intro w1 hf H; (first | replace hf := hf.kp | clear hf))
  iterate 2 refine p_q ?_
  ((refine p_c H rfl rfl Tryz.func129 (rnorm_ar (av HA1) (by omega)) ?_; clear H; rintro e w1 ⟨v3, rfl, hF, hB⟩ H; refine p_r ?_; replace hF := hF.kp); obtain ⟨b3, p3, m3, c3, rfl⟩ := hB.form; have HB3 := hid hB; clear hB)
  ((refine p_c H rfl rfl Tryz.func129 (rnorm_ar (av HA2) (by omega)) ?_; clear H; rintro e w1 ⟨v4, rfl, hF, hB⟩ H; refine p_r ?_; replace hF := hF.kp); obtain ⟨b4, p4, m4, c4, rfl⟩ := hB.form; have HB4 := hid hB; clear hB)
  (revert H; refine p_s2f ?_; intro w1 hf H hk; clear hf; change Kp _ _ at hk)
  (revert H; refine pSB ?_; intro w1 H hk)
  (refine pl_done ?_)
  all_goals
   go_wp2_with fail
   go_meet
   case rel => exact ⟨_, _, _, _, _, _, _, _, _, _, _, _, rfl, rfl, rfl, rfl, hid (bv HB3), hid (bv HB4), H⟩
 case rest =>
  clear H HA1 HA2
  obtain ⟨g1, g2, g3, g4, b3, p3, m3, c3, b4, p4, m4, c4, rfl, rfl, rfl, rfl, HB3, HB4, H⟩ := hcut
  obtain ⟨hL3, hl3, hb3, hmn3⟩ := HB3.out.parts
  obtain ⟨hL4, hl4, hb4, hmn4⟩ := HB4.out.parts
  have hB0 : Hid (y.natAbs ≠ 0) := hid (by omega)
  have hx1 : Hid (x = sg b3 x.natAbs) := hid (by rw [← hb3]; exact sg_form x)
  have hy1 : Hid (y = sg b4 y.natAbs) := hid (by rw [← hb4]; exact sg_form y)
  have HL3 := hid hL3
  have HL4 := hid hL4
  have Hl3 := hid hl3
  have Hl4 := hid hl4
  clear hL3 hl3 hb3 hL4 hl4 hb4
  obtain ⟨A, hA⟩ : ∃ A, x.natAbs = A := ⟨_, rfl⟩
  obtain ⟨B, hB⟩ : ∃ B, y.natAbs = B := ⟨_, rfl⟩
  rw [hA] at hx1 HL3 Hl3
  rw [hB] at hy1 HL4 Hl4 hB0
  have HBe := hid hB
  clear hA hB
  have hq1 := digs_mono (Nat.div_le_self A B)
  have hr1 := digs_mono (Nat.le_of_lt (Nat.mod_lt A (Nat.pos_of_ne_zero hB0.out)))
  rw [Hl3.out] at hq1
  rw [Hl4.out] at hr1
  go_wp2_with (refine x_q H ?_)
  (refine x_c H (divMag_any A B Hl3.out Hl4.out (by omega) hB0.out HL3.out HL4.out) ?_; clear H; rintro e w1 ⟨p5, c5, p6, c6, rfl, hF, hL5, hL6⟩ H; replace hF := hF.kp; have HB5 := hid hL5; have HB6 := hid hL6; clear hL5 hL6)
  go_upto_region 3 with (first | refine x_q H ?_ | refine x_cm (fun h => ?_) (fun h => ?_) | (revert H; (first | (refine x_g ?_; intro g w1 hg hf H) | (refine x_s ?_; intro w1 hf H)); (first | replace hf := hf.kp | clear hf)))
  go_cut [8, 9] (fun s8 s9 wx => ∃ (g8 g9 : Nat) (b7 : Bool) (p7 : Option Addr) (m7 c7 : Nat) (b8 : Bool) (p8 : Option Addr) (m8 c8 : Nat), s8 = .pointer (some ⟨g8, 0, none⟩) ∧ s9 = .pointer (some ⟨g9, 0, none⟩) ∧ Hid (Bv wx (.agg #[.bool b7, .slice p7 m7 c7]) (sg (!(b3 == b4)) (A / B)) m3) ∧ Hid (Bv wx (.agg #[.bool b8, .slice p8 m8 c8]) (sg b3 (A % B)) m4) ∧ Hid (Bv wx (.agg #[.bool b4, .slice p4 m4 c4]) y m) ∧ Hp [] w wx [.blk g9 [.bool b8, .slice p8 m8 c8] 50, .blk g8 [.bool b7, .slice p7 m7 c7] 50, .blk g4 [.bool false, .slice none 0 0] 50, .blk g3 [.bool false, .slice none 0 0] 50, .blk g2 [.bool b4, .slice p4 m4 c4] 50, .blk g1 [.bool b3, .slice p3 m3 c3] 50])
  case first =>
   (revert H; refine w_pF 13 (.st 0 (.st 1 (.st 2 (.st 3 (.st 4 (.st 5 (.st 7 (.st 8 (.st 9 (.ld3 6 (.ld3 10 (.ld2 11 (.ld 12 (.ldf 13 (.ld 14 .done))) 12 (.ld 11 (.ldf 13 (.ld 14 .done)))) 11 (.ld2 10 (.ld 12 (.ldf 13 (.ld 14 .done))) 12 (.ld 10 (.ldf 13 (.ld 14 .done)))) 12 (.ld2 10 (.ld 11 (.ldf 13 (.ld 14 .done))) 11 (.ld 10 (.ldf 13 (.ld 14 .done))))) 11 (.ld2 6 (.ld2 10 (.ld 12 (.ldf 13 (.ld 14 .done))) 12 (.ld 10 (.ldf 13 (.ld 14 .done)))) 12 (.ld 6 (.ld 10 (.ldf 13 (.ld 14 .done))))) 12 (.ld2 6 (.ld2 10 (.ld 11 (.ldf 13 (.ld 14 .done))) 11 (.ld 10 (.ldf 13 (.ld 14 .done)))) 11 (.ld 6 (.ld 10 (.ldf 13 (.ld 14 .done))))))))))))))) ?_; intro w1 hf H; (first | replace hf := hf.kp | clear hf))
   iterate 9 refine p_q ?_
   (refine pl_ld3 ?_ ?_ ?_)
   ((refine p_c H rfl rfl Tryz.func131 (make1_bv (!(b3 == b4)) (digs (A / B)) rfl (by omega) (lr HB5) m3 hq1) ?_; clear H; rintro e w1 ⟨v7, rfl, hF, hB⟩ H; refine p_r ?_; replace hF := hF.kp); rw [val_digs] at hB; obtain ⟨b7, p7, m7, c7, rfl⟩ := hB.form; have HB7 := hid hB; clear hB)
   (refine pl_ld3 ?_ ?_ ?_)
   ((refine p_c H rfl rfl Tryz.func131 (make1_bv b3 (digs (A % B)) rfl (by omega) (lr HB6) m4 hr1) ?_; clear H; rintro e w1 ⟨v8, rfl, hF, hB⟩ H; refine p_r ?_; replace hF := hF.kp); rw [val_digs] at hB; obtain ⟨b8, p8, m8, c8, rfl⟩ := hB.form; have HB8 := hid hB; clear hB)
   (refine pl_ld2 ?_ ?_)
   (revert H; refine p_g ?_; intro g w1 hg hf H; (first | replace hf := hf.kp | clear hf))
   (revert H; refine p_g ?_; intro g w1 hg hf H; (first | replace hf := hf.kp | clear hf))
   (revert H; refine p_s2f ?_; intro w1 hf H hk; clear hf; change Kp _ _ at hk)
   (revert H; refine pSB ?_; intro w1 H hk)
   (refine pl_done ?_)
   rotate_left
   (revert H; refine p_g ?_; intro g w1 hg hf H; (first | replace hf := hf.kp | clear hf))
   (revert H; refine p_g ?_; intro g w1 hg hf H; (first | replace hf := hf.kp | clear hf))
   (revert H; refine p_s2f ?_; intro w1 hf H hk; clear hf; change Kp _ _ at hk)
   (revert H; refine pSB ?_; intro w1 H hk)
   (refine pl_done ?_)
   rotate_left
   (revert H; refine p_g ?_; intro g w1 hg hf H; (first | replace hf := hf.kp | clear hf))
   (refine pl_ld2 ?_ ?_)
   ((refine p_c H rfl rfl Tryz.func131 (make1_bv b3 (digs (A % B)) rfl (by omega) (lr HB6) m4 hr1) ?_; clear H; rintro e w1 ⟨v8, rfl, hF, hB⟩ H; refine p_r ?_; replace hF := hF.kp); rw [val_digs] at hB; obtain ⟨b8, p8, m8, c8, rfl⟩ := hB.form; have HB8 := hid hB; clear hB)
   (revert H; refine p_g ?_; intro g w1 hg hf H; (first | replace hf := hf.kp | clear hf))
   (revert H; refine p_s2f ?_; intro w1 hf H hk; clear hf; change Kp _ _ at hk)
   (revert H; refine pSB ?_; intro w1 H hk)
   (refine pl_done ?_)
   rotate_left
   (revert H; refine p_g ?_; intro g w1 hg hf H; (first | replace hf := hf.kp | clear hf))
   ((refine p_c H rfl rfl Tryz.func131 (make1_bv b3 (digs (A % B)) rfl (by omega) (lr HB6) m4 hr1) ?_; clear H; rintro e w1 ⟨v8, rfl, hF, hB⟩ H; refine p_r ?_; replace hF := hF.kp); rw [val_digs] at hB; obtain ⟨b8, p8, m8, c8, rfl⟩ := hB.form; have HB8 := hid hB; clear hB)
   (revert H; refine p_s2f ?_; intro w1 hf H hk; clear hf; change Kp _ _ at hk)
   (revert H; refine pSB ?_; intro w1 H hk)
   (refine pl_done ?_)
   rotate_left
   (revert H; refine p_g ?_; intro g w1 hg hf H; (first | replace hf := hf.kp | clear hf))
   (refine pl_ld2 ?_ ?_)
   ((refine p_c H rfl rfl Tryz.func131 (make1_bv b3 (digs (A % B)) rfl (by omega) (lr HB6) m4 hr1) ?_; clear H; rintro e w1 ⟨v8, rfl, hF, hB⟩ H; refine p_r ?_; replace hF := hF.kp); rw [val_digs] at hB; obtain ⟨b8, p8, m8, c8, rfl⟩ := hB.form; have HB8 := hid hB; clear hB)
   (revert H; refine p_g ?_; intro g w1 hg hf H; (first | replace hf := hf.kp | clear hf))
   (revert H; refine p_s2f ?_; intro w1 hf H hk; clear hf; change Kp _ _ at hk)
   (revert H; refine pSB ?_; intro w1 H hk)
   (refine pl_done ?_)
   rotate_left
   (revert H; refine p_g ?_; intro g w1 hg hf H; (first | replace hf := hf.kp | clear hf))
   ((refine p_c H rfl rfl Tryz.func131 (make1_bv b3 (digs (A % B)) rfl (by omega) (lr HB6) m4 hr1) ?_; clear H; rintro e w1 ⟨v8, rfl, hF, hB⟩ H; refine p_r ?_; replace hF := hF.kp); rw [val_digs] at hB; obtain ⟨b8, p8, m8, c8, rfl⟩ := hB.form; have HB8 := hid hB; clear hB)
   (revert H; refine p_s2f ?_; intro w1 hf H hk; clear hf; change Kp _ _ at hk)
   (revert H; refine pSB ?_; intro w1 H hk)
   (refine pl_done ?_)
   rotate_left
   (revert H; refine p_g ?_; intro g w1 hg hf H; (first | replace hf := hf.kp | clear hf))
   (refine pl_ld2 ?_ ?_)
   ((refine p_c H rfl rfl Tryz.func131 (make1_bv (!(b3 == b4)) (digs (A / B)) rfl (by omega) (lr HB5) m3 hq1) ?_; clear H; rintro e w1 ⟨v7, rfl, hF, hB⟩ H; refine p_r ?_; replace hF := hF.kp); rw [val_digs] at hB; obtain ⟨b7, p7, m7, c7, rfl⟩ := hB.form; have HB7 := hid hB; clear hB)
   (refine pl_ld2 ?_ ?_)
   ((refine p_c H rfl rfl Tryz.func131 (make1_bv b3 (digs (A % B)) rfl (by omega) (lr HB6) m4 hr1) ?_; clear H; rintro e w1 ⟨v8, rfl, hF, hB⟩ H; refine p_r ?_; replace hF := hF.kp); rw [val_digs] at hB; obtain ⟨b8, p8, m8, c8, rfl⟩ := hB.form; have HB8 := hid hB; clear hB)
   (revert H; refine p_g ?_; intro g w1 hg hf H; (first | replace hf := hf.kp | clear hf))
   (revert H; refine p_s2f ?_; intro w1 hf H hk; clear hf; change Kp _ _ at hk)
   (revert H; refine pSB ?_; intro w1 H hk)
   (refine pl_done ?_)
   rotate_left
   (revert H; refine p_g ?_; intro g w1 hg hf H; (first | replace hf := hf.kp | clear hf))
   ((refine p_c H rfl rfl Tryz.func131 (make1_bv b3 (digs (A % B)) rfl (by omega) (lr HB6) m4 hr1) ?_; clear H; rintro e w1 ⟨v8, rfl, hF, hB⟩ H; refine p_r ?_; replace hF := hF.kp); rw [val_digs] at hB; obtain ⟨b8, p8, m8, c8, rfl⟩ := hB.form; have HB8 := hid hB; clear hB)
   (revert H; refine p_s2f ?_; intro w1 hf H hk; clear hf; change Kp _ _ at hk)
   (revert H; refine pSB ?_; intro w1 H hk)
   (refine pl_done ?_)
   rotate_left
   (revert H; refine p_g ?_; intro g w1 hg hf H; (first | replace hf := hf.kp | clear hf))
   ((refine p_c H rfl rfl Tryz.func131 (make1_bv (!(b3 == b4)) (digs (A / B)) rfl (by omega) (lr HB5) m3 hq1) ?_; clear H; rintro e w1 ⟨v7, rfl, hF, hB⟩ H; refine p_r ?_; replace hF := hF.kp); rw [val_digs] at hB; obtain ⟨b7, p7, m7, c7, rfl⟩ := hB.form; have HB7 := hid hB; clear hB)
   ((refine p_c H rfl rfl Tryz.func131 (make1_bv b3 (digs (A % B)) rfl (by omega) (lr HB6) m4 hr1) ?_; clear H; rintro e w1 ⟨v8, rfl, hF, hB⟩ H; refine p_r ?_; replace hF := hF.kp); rw [val_digs] at hB; obtain ⟨b8, p8, m8, c8, rfl⟩ := hB.form; have HB8 := hid hB; clear hB)
   (revert H; refine p_s2f ?_; intro w1 hf H hk; clear hf; change Kp _ _ at hk)
   (revert H; refine pSB ?_; intro w1 H hk)
   (refine pl_done ?_)
   rotate_left
   (revert H; refine p_g ?_; intro g w1 hg hf H; (first | replace hf := hf.kp | clear hf))
   (refine pl_ld2 ?_ ?_)
   ((refine p_c H rfl rfl Tryz.func131 (make1_bv (!(b3 == b4)) (digs (A / B)) rfl (by omega) (lr HB5) m3 hq1) ?_; clear H; rintro e w1 ⟨v7, rfl, hF, hB⟩ H; refine p_r ?_; replace hF := hF.kp); rw [val_digs] at hB; obtain ⟨b7, p7, m7, c7, rfl⟩ := hB.form; have HB7 := hid hB; clear hB)
   (refine pl_ld2 ?_ ?_)
   ((refine p_c H rfl rfl Tryz.func131 (make1_bv b3 (digs (A % B)) rfl (by omega) (lr HB6) m4 hr1) ?_; clear H; rintro e w1 ⟨v8, rfl, hF, hB⟩ H; refine p_r ?_; replace hF := hF.kp); rw [val_digs] at hB; obtain ⟨b8, p8, m8, c8, rfl⟩ := hB.form; have HB8 := hid hB; clear hB)
   (revert H; refine p_g ?_; intro g w1 hg hf H; (first | replace hf := hf.kp | clear hf))
   (revert H; refine p_s2f ?_; intro w1 hf H hk; clear hf; change Kp _ _ at hk)
   (revert H; refine pSB ?_; intro w1 H hk)
   (refine pl_done ?_)
   rotate_left
   (revert H; refine p_g ?_; intro g w1 hg hf H; (first | replace hf := hf.kp | clear hf))
   ((refine p_c H rfl rfl Tryz.func131 (make1_bv b3 (digs (A % B)) rfl (by omega) (lr HB6) m4 hr1) ?_; clear H; rintro e w1 ⟨v8, rfl, hF, hB⟩ H; refine p_r ?_; replace hF := hF.kp); rw [val_digs] at hB; obtain ⟨b8, p8, m8, c8, rfl⟩ := hB.form; have HB8 := hid hB; clear hB)
   (revert H; refine p_s2f ?_; intro w1 hf H hk; clear hf; change Kp _ _ at hk)
   (revert H; refine pSB ?_; intro w1 H hk)
   (refine pl_done ?_)
   rotate_left
   (revert H; refine p_g ?_; intro g w1 hg hf H; (first | replace hf := hf.kp | clear hf))
   ((refine p_c H rfl rfl Tryz.func131 (make1_bv (!(b3 == b4)) (digs (A / B)) rfl (by omega) (lr HB5) m3 hq1) ?_; clear H; rintro e w1 ⟨v7, rfl, hF, hB⟩ H; refine p_r ?_; replace hF := hF.kp); rw [val_digs] at hB; obtain ⟨b7, p7, m7, c7, rfl⟩ := hB.form; have HB7 := hid hB; clear hB)
   ((refine p_c H rfl rfl Tryz.func131 (make1_bv b3 (digs (A % B)) rfl (by omega) (lr HB6) m4 hr1) ?_; clear H; rintro e w1 ⟨v8, rfl, hF, hB⟩ H; refine p_r ?_; replace hF := hF.kp); rw [val_digs] at hB; obtain ⟨b8, p8, m8, c8, rfl⟩ := hB.form; have HB8 := hid hB; clear hB)
   (revert H; refine p_s2f ?_; intro w1 hf H hk; clear hf; change Kp _ _ at hk)
   (revert H; refine pSB ?_; intro w1 H hk)
   (refine pl_done ?_)
   rotate_left
   all_goals
    go_wp2_with fail
    go_meet
    case rel => exact ⟨_, _, _, _, _, _, _, _, _, _, rfl, rfl, hid (bv HB7), hid (bv HB8), hid (bv HB4), by (refine Hp.arr H ?_; repeat (first | exact Pm.nil _ | (apply Pm.cons; · (repeat first | exact Rm.here _ | apply Rm.there))))⟩
  case rest =>
   clear H HB3 HB4 HB5 HB6
   obtain ⟨g8, g9, b7, p7, m7, c7, b8, p8, m8, c8, rfl, rfl, HB7, HB8, HB4, H⟩ := hcut
   go_wp2_with (refine x_q H ?_)
   by_cases hneg : sg b3 (A % B) < 0
   ·have HE1 : Hid (x / y = (if b4 = true then sg (!(b3 == b4)) (A / B) + 1 else sg (!(b3 == b4)) (A / B) - 1)) := hid (by rw [hx1.out, hy1.out]; exact (fix_neg hB0.out hneg).1)
    have HE2 : Hid (x % y = sg b3 (A % B) + (B : Int)) := hid (by rw [hx1.out, hy1.out]; exact (fix_neg hB0.out hneg).2)
    (refine x_c H (rsign_lt (bv HB8).ar (by omega) hneg) ?_; clear H; rintro e w1 ⟨s, rfl, hs, hF⟩ H; replace hF := hF.kp)
    clear hneg
    go_wp2_with (refine x_q H ?_)
    (revert H; refine w_pF 4 (.st 0 (.st 1 (.ld 2 (.ld 3 (.ld 4 .done))))) ?_; intro w1 hf H; (first | replace hf := hf.kp | clear hf))
    iterate 2 refine p_q ?_
    ((refine p_c H rfl rfl Tryz.func132 (rabs_ar (bv HB4).ar (by omega)) ?_; clear H; rintro e w1 ⟨v9, rfl, hF, hB⟩ H; refine p_r ?_; replace hF := hF.kp); have HB9 := hid hB; clear hB)
    ((refine p_c H rfl rfl Tryz.func66 (radd_ar (bv HB8).ar (bv HB9).ar (by omega) (by omega)) ?_; clear H; rintro e w1 ⟨v1, rfl, hF, hB⟩ H; refine p_r ?_; replace hF := hF.kp); rw [HBe.out, ← HE2.out] at hB; obtain ⟨b1, p1, m1, c1, rfl⟩ := hB.form; have HB1 := hid hB; clear hB)
    (revert H; refine pSB ?_; intro w1 H hk)
    (refine pl_done ?_)
    all_goals
     clear HB8 HB9
     cases b4
     ·have HE3 : Hid (sg (!(b3 == false)) (A / B) - 1 = x / y) := hid (by have := HE1.out; rw [if_neg (by decide)] at this; exact this.symm)
      clear HE1
      go_wp2_with (refine x_q H ?_)
      (revert H; refine w_pF 3 (.st 0 (.ld 1 (.ld 2 (.ld 3 .done)))) ?_; intro w1 hf H; (first | replace hf := hf.kp | clear hf))
      refine p_q ?_
      ((refine p_c H rfl rfl Tryz.func67 (rfromInt_ar _ 1 (by simp [inr])) ?_; clear H; rintro e w1 ⟨v2, rfl, hF, hB⟩ H; refine p_r ?_; replace hF := hF.kp); have HB2 := hid hB; clear hB)
      ((refine p_c H rfl rfl Tryz.func128 (rsub_ar (bv HB7).ar (bv HB2).ar (by omega) (by omega)) ?_; clear H; rintro e w1 ⟨v3, rfl, hF, hB⟩ H; refine p_r ?_; replace hF := hF.kp); rw [HE3.out] at hB; obtain ⟨b3, p3, m3, c3, rfl⟩ := hB.form; have HB3 := hid hB; clear hB)
      (revert H; refine pSB ?_; intro w1 H hk)
      (refine pl_done ?_)
      all_goals
       clear HB2 HB4 HB7
       go_wp2_with fail
       (revert H; refine w_pF 3 (.st 0 (.st 1 (.ld 2 (.ld 3 .done)))) ?_ (hs := (List.Sublist.cons_cons _ (List.Sublist.cons_cons _ (List.nil_sublist _)))); intro w1 hf H; (first | replace hf := hf.kp | clear hf))
       iterate 2 refine p_q ?_
       (revert H; refine pSB ?_; intro w1 H hk)
       (revert H; refine pSB ?_; intro w1 H hk)
       (refine pl_done ?_)
       all_goals
        go_wp2_with fail
        refine c_postCC H rfl rfl rfl rfl rfl ?_
        exact ⟨_, _, rfl, H.fr, ⟨(bv HB3).1, dl_div hdx.out⟩, ⟨(bv HB1).1, dl_mod hdy.out h0⟩⟩
     ·have HE3 : Hid (sg (!(b3 == true)) (A / B) + 1 = x / y) := hid (by have := HE1.out; rw [if_pos rfl] at this; exact this.symm)
      clear HE1
      go_wp2_with (refine x_q H ?_)
      (revert H; refine w_pF 3 (.st 0 (.ld 1 (.ld 2 (.ld 3 .done)))) ?_; intro w1 hf H; (first | replace hf := hf.kp | clear hf))
      refine p_q ?_
      ((refine p_c H rfl rfl Tryz.func67 (rfromInt_ar _ 1 (by simp [inr])) ?_; clear H; rintro e w1 ⟨v2, rfl, hF, hB⟩ H; refine p_r ?_; replace hF := hF.kp); have HB2 := hid hB; clear hB)
      ((refine p_c H rfl rfl Tryz.func66 (radd_ar (bv HB7).ar (bv HB2).ar (by omega) (by omega)) ?_; clear H; rintro e w1 ⟨v3, rfl, hF, hB⟩ H; refine p_r ?_; replace hF := hF.kp); rw [HE3.out] at hB; obtain ⟨b3, p3, m3, c3, rfl⟩ := hB.form; have HB3 := hid hB; clear hB)
      (revert H; refine pSB ?_; intro w1 H hk)
      (refine pl_done ?_)
      all_goals
       clear HB2 HB4 HB7
       go_wp2_with fail
       (revert H; refine w_pF 3 (.st 0 (.st 1 (.ld 2 (.ld 3 .done)))) ?_ (hs := (List.Sublist.cons_cons _ (List.Sublist.cons_cons _ (List.nil_sublist _)))); intro w1 hf H; (first | replace hf := hf.kp | clear hf))
       iterate 2 refine p_q ?_
       (revert H; refine pSB ?_; intro w1 H hk)
       (revert H; refine pSB ?_; intro w1 H hk)
       (refine pl_done ?_)
       all_goals
        go_wp2_with fail
        refine c_postCC H rfl rfl rfl rfl rfl ?_
        exact ⟨_, _, rfl, H.fr, ⟨(bv HB3).1, dl_div hdx.out⟩, ⟨(bv HB1).1, dl_mod hdy.out h0⟩⟩
   ·have hge : 0 ≤ sg b3 (A % B) := by omega
    have HE1 : Hid (sg (!(b3 == b4)) (A / B) = x / y) := hid (by rw [hx1.out, hy1.out]; exact (fix_pos hB0.out hge).1.symm)
    have HE2 : Hid (sg b3 (A % B) = x % y) := hid (by rw [hx1.out, hy1.out]; exact (fix_pos hB0.out hge).2.symm)
    (refine x_c H (rsign_ge (bv HB8).ar (by omega) hge) ?_; clear H; rintro e w1 ⟨s, rfl, hs, hF⟩ H; replace hF := hF.kp)
    rw [HE1.out] at HB7
    rw [HE2.out] at HB8
    clear hneg hge
    go_wp2_with (refine x_q H ?_)
    (revert H; refine w_pF 3 (.st 0 (.st 1 (.ld 2 (.ld 3 .done)))) ?_ (hs := (List.Sublist.cons_cons _ (List.Sublist.cons_cons _ (List.nil_sublist _)))); intro w1 hf H; (first | replace hf := hf.kp | clear hf))
    iterate 2 refine p_q ?_
    (revert H; refine pSB ?_; intro w1 H hk)
    (revert H; refine pSB ?_; intro w1 H hk)
    (refine pl_done ?_)
    all_goals
     go_wp2_with fail
     refine c_postCC H rfl rfl rfl rfl rfl ?_
     exact ⟨_, _, rfl, H.fr, ⟨(bv HB7).1, dl_div hdx.out⟩, ⟨(bv HB8).1, dl_mod hdy.out h0⟩⟩
end Go.Proofs.YthbeeeclgbpopaaGreatDoor
