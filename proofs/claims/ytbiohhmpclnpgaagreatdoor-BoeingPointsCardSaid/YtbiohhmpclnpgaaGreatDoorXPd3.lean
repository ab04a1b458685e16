import Derived.Test.YtbiohhmpclnpgaaGreatDoorXEa5
import Derived.Test.YtbiohhmpclnpgaaGreatDoorXEr1
import Derived.Test.YtbiohhmpclnpgaaGreatDoorXPd1
import Derived.Test.YtbiohhmpclnpgaaGreatDoorXDc13
import Derived.Test.YtbiohhmpclnpgaaGreatDoorXEa2
namespace Go.Proofs.YtbiohhmpclnpgaaGreatDoor
open Go.RowKit
set_option linter.unusedSimpArgs false
set_option linter.unusedVariables false
set_option maxHeartbeats 8000000
set_option maxRecDepth 100000
set_option maxHeartbeats 16000000 in
theorem quoF_any {w : World} {va vb : Value} {x e y f : Int} (mode : Int) (ha : Dn w va x e) (hb : Dn w vb y f) (hx : x ≠ 0) (hy : y ≠ 0) (hbx : bl x.natAbs ≤ 30000) (hby : bl y.natAbs ≤ 30000) (he : -30000 ≤ e ∧ e ≤ 30000) (hf : -30000 ≤ f ∧ f ≤ 30000) (hT : La w) :
  Calls Tryz.prog 17 #[va, vb, .int .i64 mode] w fun r w' => r = .returned (.int .u64 (rndF (!(decide (x < 0) == decide (y < 0))) mode x.natAbs y.natAbs (e - f) : Nat)) ∧ Fr [] w w' := by
 have HDA := hid ha
 have HDB := hid hb
 have HT := hid hT
 have HX := hid (sign_zero_iff hx)
 have HY := hid (sign_zero_iff hy)
 have hX := hid hx
 have hY := hid hy
 obtain ⟨m1, e1, b1, p1, n1, c1, rfl, _, _⟩ := ha
 obtain ⟨m2, e2, b2, p2, n2, c2, rfl, _, _⟩ := hb
 clear hT hx hy
 obtain ⟨s1, hs1⟩ : ∃ s, Int.sign x = s := ⟨_, rfl⟩
 obtain ⟨s2, hs2⟩ : ∃ s, Int.sign y = s := ⟨_, rfl⟩
 have HS1 := hid hs1
 have HS2 := hid hs2
 have hn1 : s1 ≠ 0 := by rw [← hs1]; exact HX.out
 have hn2 : s2 ≠ 0 := by rw [← hs2]; exact HY.out
 clear hs1 hs2
 have H := Hp.start [] w
 go_enter Tryz.func17, Tryz.ntmps17
 go_wp2_with (first | refine x_q H ?_ | refine x_cm (fun h => ?_) (fun h => ?_) | refine x_l H ?_ | refine x_e (ev_dyad rfl rfl rfl) ?_ | (revert H; refine xSF ?_; intro w1 H hk) | (revert H; refine x_g ?_; intro g w1 hg hf H; replace hf := hf.kp) | (revert H; refine x_s ?_; intro w1 hf H; clear hf))
 (revert H; refine w_pF 4 (.st 0 (.st 2 (.ld 1 (.ld 3 (.ldf 4 (.ld 5 .done)))))) ?_; intro w1 hf H; (first | replace hf := hf.kp | clear hf))
 iterate 2 refine p_q ?_
 ((refine p_c H rfl rfl Tryz.func55 (normD_any (dn HDA) (by omega) (by omega) (by omega) (HT.out.fr H.fr)) ?_; clear H; rintro e w1 ⟨v3, rfl, hF, hD⟩ H; refine p_r ?_; replace hF := hF.kp); have HD3 := hid hD; obtain ⟨m3, e3, b3, p3, n3, c3, rfl, hN, hB⟩ := hD; have HN3 := hid hN; have HB3 := hid hB; clear hN hB)
 ((refine p_c H rfl rfl Tryz.func55 (normD_any (dn HDB) (by omega) (by omega) (by omega) (HT.out.fr H.fr)) ?_; clear H; rintro e w1 ⟨v4, rfl, hF, hD⟩ H; refine p_r ?_; replace hF := hF.kp); have HD4 := hid hD; obtain ⟨m4, e4, b4, p4, n4, c4, rfl, hN, hB⟩ := hD; have HN4 := hid hN; have HB4 := hid hB; clear hN hB)
 (revert H; refine pSG ?_; intro w1 H hk)
 (revert H; refine pSF ?_; intro w1 H hk)
 (refine pl_done ?_)
 all_goals
  go_wp2_with (first | refine x_q H ?_ | refine x_cm (fun h => ?_) (fun h => ?_) | refine x_l H ?_ | refine x_e (ev_dyad rfl rfl rfl) ?_ | (revert H; refine xSF ?_; intro w1 H hk) | (revert H; refine x_g ?_; intro g w1 hg hf H; replace hf := hf.kp) | (revert H; refine x_s ?_; intro w1 hf H; clear hf))
  (refine x_c H (signD_any (dn HD4) (by omega) (by omega) (by omega) (HT.out.fr H.fr)) ?_; clear H; rintro e w1 ⟨rfl, hF⟩ H; replace hF := hF.kp; rw [HS2.out])
  go_wp2_with (first | refine x_q H ?_ | refine x_cm (fun h => ?_) (fun h => ?_) | refine x_l H ?_ | refine x_e (ev_dyad rfl rfl rfl) ?_ | (revert H; refine xSF ?_; intro w1 H hk) | (revert H; refine x_g ?_; intro g w1 hg hf H; replace hf := hf.kp) | (revert H; refine x_s ?_; intro w1 hf H; clear hf))
  (refine x_c H (signD_any (dn HD3) (by omega) (by omega) (by omega) (HT.out.fr H.fr)) ?_; clear H; rintro e w1 ⟨rfl, hF⟩ H; replace hF := hF.kp; rw [HS1.out])
  go_wp2_with (first | refine x_q H ?_ | refine x_cm (fun h => ?_) (fun h => ?_) | refine x_l H ?_ | refine x_e (ev_dyad rfl rfl rfl) ?_ | (revert H; refine xSF ?_; intro w1 H hk) | (revert H; refine x_g ?_; intro g w1 hg hf H; replace hf := hf.kp) | (revert H; refine x_s ?_; intro w1 hf H; clear hf))
  (refine x_c H (ratio_any (dn HD3) (dn HD4) hX.out hY.out hbx hby (by omega) (by omega)) ?_; clear H; rintro e w1 ⟨v6, rfl, hF, N, D, E, hR, hE⟩ H; replace hF := hF.kp)
  have HE := hid (hE (!(decide (x < 0) == decide (y < 0))) mode)
  have HRL := hid hR
  clear hR hE
  go_wp2_with (first | refine x_q H ?_ | refine x_cm (fun h => ?_) (fun h => ?_) | refine x_l H ?_ | refine x_e (ev_dyad rfl rfl rfl) ?_ | (revert H; refine xSF ?_; intro w1 H hk) | (revert H; refine x_g ?_; intro g w1 hg hf H; replace hf := hf.kp) | (revert H; refine x_s ?_; intro w1 hf H; clear hf))
  (refine x_c H (rounded_any mode (rl HRL) (HT.out.fr H.fr)) ?_; clear H; rintro e w1 ⟨rfl, hF⟩ H; replace hF := hF.kp; rw [HE.out])
  go_wp2_with (first | refine x_q H ?_ | refine x_cm (fun h => ?_) (fun h => ?_) | refine x_l H ?_ | refine x_e (ev_dyad rfl rfl rfl) ?_ | (revert H; refine xSF ?_; intro w1 H hk) | (revert H; refine x_g ?_; intro g w1 hg hf H; replace hf := hf.kp) | (revert H; refine x_s ?_; intro w1 hf H; clear hf))
  go_ret
  exact ⟨rfl, H.fr⟩
end Go.Proofs.YtbiohhmpclnpgaaGreatDoor
namespace Go.Proofs.YtbiohhmpclnpgaaGreatDoor
set_option linter.unusedSimpArgs false
set_option linter.unusedVariables false
def dE (neg : Bool) (ds : List UInt8) (b : Nat) (s2 : List UInt8) : Option (Bool × List UInt8 × Nat × Int) :=
 if ds = [] then none else
 match s2 with
 | [] => some (neg, ds, b, 0)
 | e :: t => if isE e then (dexp t).map (fun x => (neg, ds, b, x)) else none
def dO (o : Option (Bool × List UInt8 × Nat × Int)) (mode : Int) : Nat × Int :=
 match o with
 | none => (0, 7)
 | some (neg, ds, b, x) => if x < -99999 ∨ 99999 < x then (0, 3) else (dval neg mode (num ds) (x - b), 0)
theorem take_all : ∀ u : List UInt8, u.all dig = true → u.takeWhile dig = u
 | [], _ => rfl
 | b :: r, h => by
  rw [List.all_cons, Bool.and_eq_true] at h
  rw [List.takeWhile_cons_of_pos h.1, take_all r h.2]
theorem dig_split {u : List UInt8} : (u ≠ [] ∧ u.all dig = true) ↔ ¬ (u.takeWhile dig = [] ∨ u.dropWhile dig ≠ []) := by
 have h : u.takeWhile dig ++ u.dropWhile dig = u := List.takeWhile_append_dropWhile
 constructor
 ·rintro ⟨h1, h2⟩
  have h3 : u.takeWhile dig = u := take_all u h2
  rintro (h4 | h4)
  ·rw [h3] at h4; exact h1 h4
  ·rw [h3] at h
   have : u.dropWhile dig = [] := List.append_right_eq_self.1 h
   exact h4 this
 ·intro h1
  have h2 : u.takeWhile dig ≠ [] := fun h => h1 (.inl h)
  have h3 : u.dropWhile dig = [] := Classical.byContradiction (fun h => h1 (.inr h))
  rw [h3, List.append_nil] at h
  have h4 : (u.takeWhile dig).all dig = true := List.all_takeWhile
  rw [h] at h2 h4
  exact ⟨h2, h4⟩
def Spec (r : (Bool × List UInt8 × Int) × Int) (v : Nat × Int) (mode : Int) : Prop :=
 (r.2 ≠ 0 ∧ 0 ≤ r.2 ∧ r.2 ≤ 7 ∧ v = (0, r.2)) ∨ (r.2 = 0 ∧ r.1.2.1.all dig = true ∧ r.1.2.1.length ≤ 1024 ∧ -102000 ≤ r.1.2.2 ∧ r.1.2.2 ≤ 100000 ∧ v = (dval r.1.1 mode (num r.1.2.1) r.1.2.2, 0))
theorem rdE_spec (neg : Bool) {ds : List UInt8} {b : Nat} (s2 : List UInt8) (mode : Int) (hd : ds.all dig = true) (hl : ds.length ≤ 1024) (hb : b ≤ 1024) : Spec (rdE neg ds b s2) (dO (dE neg ds b s2) mode) mode := by
 by_cases h0 : ds = []
 ·left
  unfold rdE dE
  rw [if_pos h0, if_pos h0]
  exact ⟨by decide, by decide, by decide, rfl⟩
 ·cases s2 with
  | nil =>
   right
   unfold rdE dE
   rw [if_neg h0, if_neg h0]
   refine ⟨rfl, hd, hl, ?_, ?_, rfl⟩
   ·show -102000 ≤ (0 : Int) - b; omega
   ·show (0 : Int) - b ≤ 100000; omega
  | cons c t =>
   unfold rdE dE
   rw [if_neg h0, if_neg h0]
   simp only []
   by_cases hc : isE c = true
   ·rw [if_pos hc, if_pos hc]
    unfold dexp
    by_cases hp : (dsg t).2.takeWhile dig = [] ∨ (dsg t).2.dropWhile dig ≠ []
    ·left
     rw [if_pos hp, if_neg (fun h => dig_split.1 h hp)]
     exact ⟨by decide, by decide, by decide, rfl⟩
    ·have hs := dig_split.2 hp
     rw [if_neg hp, if_pos hs]
     have e : (dsg t).2.takeWhile dig = (dsg t).2 := take_all _ hs.2
     rw [e]
     by_cases h9 : num (dsg t).2 ≤ 99999
     ·right
      rw [if_pos h9]
      refine ⟨rfl, hd, hl, ?_, ?_, ?_⟩
      ·show -102000 ≤ (if (dsg t).1 = true then -(num (dsg t).2 : Int) else (num (dsg t).2 : Int)) - b
       split <;> omega
      ·show (if (dsg t).1 = true then -(num (dsg t).2 : Int) else (num (dsg t).2 : Int)) - b ≤ 100000
       split <;> omega
      ·show dO (some (neg, ds, b, _)) mode = _
       unfold dO
       simp only []
       rw [if_neg (by split <;> omega)]
     ·left
      rw [if_neg h9]
      refine ⟨by decide, by decide, by decide, ?_⟩
      show dO (some (neg, ds, b, _)) mode = _
      unfold dO
      simp only []
      rw [if_pos (by split <;> omega)]
   ·left
    rw [if_neg hc, if_neg hc]
    exact ⟨by decide, by decide, by decide, rfl⟩
theorem dpz_dO {s : List UInt8} (mode : Int) (hs : s.length ≤ 1024) : dpz 1024 s mode = dO (dE (dsg s).1 (scan false (dsg s).2).1 (scan false (dsg s).2).2.1 (scan false (dsg s).2).2.2) mode := by
 unfold dpz
 rw [if_neg (by omega)]
 rfl
theorem rdS_spec {s : List UInt8} (mode : Int) (hs : s.length ≤ 1024) : Spec (rdS s) (dpz 1024 s mode) mode := by
 rw [dpz_dO mode hs, scan_false]
 have hl := dsg_len s
 have h1 : ((dsg s).2.takeWhile dig).all dig = true := List.all_takeWhile
 have h2 : ((dsg s).2.takeWhile dig).length ≤ (dsg s).2.length := (List.takeWhile_prefix dig).length_le
 have h3 : ((dsg s).2.dropWhile dig).length ≤ (dsg s).2.length := (List.dropWhile_suffix dig).length_le
 have h4 : (dsg s).2.takeWhile dig ++ (dsg s).2.dropWhile dig = (dsg s).2 := List.takeWhile_append_dropWhile
 have h5 := congrArg List.length h4
 rw [List.length_append] at h5
 unfold rdS
 generalize (dsg s).2.takeWhile dig = a at *
 generalize (dsg s).2.dropWhile dig = q at *
 cases q with
 | nil =>
  simp only [List.append_nil]
  exact rdE_spec _ _ _ h1 (by omega) (by omega)
 | cons c t =>
  simp only [List.append_nil]
  by_cases hc : c = 46
  ·rw [if_pos hc, if_pos hc]
   have h6 : (t.takeWhile dig).length ≤ t.length := (List.takeWhile_prefix dig).length_le
   rw [List.length_cons] at h5
   refine rdE_spec _ _ _ ?_ ?_ (by omega)
   ·rw [List.all_append, h1, List.all_takeWhile]; rfl
   ·rw [List.length_append]; omega
  ·rw [if_neg hc, if_neg hc]
   exact rdE_spec _ _ _ h1 (by omega) (by omega)
end Go.Proofs.YtbiohhmpclnpgaaGreatDoor
namespace Go.Proofs.YtbiohhmpclnpgaaGreatDoor
open Go.RowKit
set_option linter.unusedSimpArgs false
set_option linter.unusedVariables false
set_option maxHeartbeats 8000000
set_option maxRecDepth 100000
theorem bl_ten (n : Nat) : bl (10 ^ n) ≤ 4 * n + 1 := bl_le (by
 have h1 : 10 ^ n ≤ 16 ^ n := Nat.pow_le_pow_left (by decide) n
 have h2 : (16 : Nat) ^ n = 2 ^ (4 * n) := by rw [Nat.pow_mul]
 rw [h2] at h1
 exact Nat.lt_of_le_of_lt h1 (Nat.pow_lt_pow_right (by decide) (by omega)))
theorem power_any (w : World) (n : Nat) (hn : n ≤ 5000) :
  Calls Tryz.prog 20 #[.int .i64 (n : Int)] w fun e w' => ∃ v1, e = .returned v1 ∧ Fr [] w w' ∧ Bv w' v1 ((10 ^ n : Nat) : Int) (bl (10 ^ n)) := by
 obtain ⟨P, hP⟩ : ∃ P, 10 ^ n = P := ⟨_, rfl⟩
 have hbP := bl_ten n
 have hP0 : 0 < P := by rw [← hP]; exact ten_pos n
 rw [hP] at hbP ⊢
 have HP := hid hP
 clear hP
 have H := Hp.start [] w
 go_enter Tryz.func20, Tryz.ntmps20
 go_wp2_with (first | refine x_q H ?_ | refine x_cm (fun h => ?_) (fun h => ?_) | refine x_l H ?_ | refine x_e (ev_dyad rfl rfl rfl) ?_ | (revert H; refine xSF ?_; intro w1 H hk) | (revert H; refine x_g ?_; intro g w1 hg hf H; replace hf := hf.kp) | (revert H; refine x_s ?_; intro w1 hf H; clear hf))
 (refine x_c H (fromInt_ar _ 1 (by simp only [inr]; omega)) ?_; clear H; rintro e w1 ⟨v3, rfl, hF, hB⟩ H; replace hF := hF.kp; obtain ⟨b3, p3, m3, c3, rfl⟩ := hB.form; have HB3 := hid hB; clear hB)
 go_wp2_with (first | refine x_q H ?_ | refine x_cm (fun h => ?_) (fun h => ?_) | refine x_l H ?_ | refine x_e (ev_dyad rfl rfl rfl) ?_ | (revert H; refine xSF ?_; intro w1 H hk) | (revert H; refine x_g ?_; intro g w1 hg hf H; replace hf := hf.kp) | (revert H; refine x_s ?_; intro w1 hf H; clear hf))
 (refine x_c H (fromInt_ar _ 10 (by simp only [inr]; omega)) ?_; clear H; rintro e w1 ⟨v4, rfl, hF, hB⟩ H; replace hF := hF.kp; obtain ⟨b4, p4, m4, c4, rfl⟩ := hB.form; have HB4 := hid hB; clear hB)
 go_wp2_with (first | refine x_q H ?_ | refine x_cm (fun h => ?_) (fun h => ?_) | refine x_l H ?_ | refine x_e (ev_dyad rfl rfl rfl) ?_ | (revert H; refine xSF ?_; intro w1 H hk) | (revert H; refine x_g ?_; intro g w1 hg hf H; replace hf := hf.kp) | (revert H; refine x_s ?_; intro w1 hf H; clear hf))
 rename_i g2 wa ha fa wb Fb wc g3 wd hd fd we wf kf xa xb
 go_loopw [0] (fun s0 wr => ∃ (k out ten : Nat) (b3 b4 : Bool) (p3 p4 : Option Addr) (m3 c3 m4 c4 : Nat), s0 = .int .i64 (k : Int) ∧ k ≤ 5000 ∧ Hid (out * ten ^ k = P) ∧ bl ten ≤ 100000 ∧ Hp [] w wr [.blk g [.bool b4, .slice p4 m4 c4] 51, .blk g3 [.bool b3, .slice p3 m3 c3] 51, .blk g2 [.bool false, .slice none 0 0] 51] ∧ Hid (Bv wr (.agg #[.bool b3, .slice p3 m3 c3]) (out : Int) (bl out)) ∧ Hid (Bv wr (.agg #[.bool b4, .slice p4 m4 c4]) (ten : Int) (bl ten))) (fun v _ => (intOf v).toNat)
 case atStart => exact ⟨n, 1, 10, _, _, _, _, _, _, _, _, rfl, hn, hid (by rw [Nat.one_mul]; exact HP.out), by decide, H, hid (bv HB3).c, hid (bv HB4).c⟩
 case round =>
  clear H HB3 HB4
  obtain ⟨k, out, ten, b3, b4, p3, p4, m3, c3, m4, c4, rfl, hk5, HO, hbt, H, HB3, HB4⟩ := hrel
  have hout : bl out ≤ bl P := bl_mono (by
   have h := HO.out
   rcases Nat.eq_zero_or_pos (ten ^ k) with h0 | h0
   ·rw [h0, Nat.mul_zero] at h; omega
   ·rw [← h]; exact Nat.le_mul_of_pos_right _ h0)
  by_cases hk : k = 0
  ·subst hk
   have HE : Hid (out = P) := hid (by have h := HO.out; rwa [Nat.pow_zero, Nat.mul_one] at h)
   clear HO
   go_wp2_with (first | refine x_q H ?_ | refine x_cm (fun h => ?_) (fun h => ?_) | refine x_l H ?_ | refine x_e (ev_dyad rfl rfl rfl) ?_ | (revert H; refine xSF ?_; intro w1 H hk) | (revert H; refine x_g ?_; intro g w1 hg hf H; replace hf := hf.kp) | (revert H; refine x_s ?_; intro w1 hf H; clear hf))
   refine c_post H rfl rfl rfl ?_
   exact ⟨_, rfl, H.fr, by rw [← HE.out]; exact bv HB3⟩
  ·have hten : bl ten ≤ bl P := bl_mono (by
    have h := HO.out
    obtain ⟨j, rfl⟩ : ∃ j, k = j + 1 := ⟨k - 1, by omega⟩
    rw [Nat.pow_succ, ← Nat.mul_assoc] at h
    rw [← h]
    exact Nat.le_mul_of_pos_left _ (Nat.pos_of_ne_zero (fun h0 => by rw [h0, Nat.zero_mul] at h; omega)))
   have htt := bl_prod ten ten
   have hot := bl_prod out ten
   have hkk : (k : Int).tdiv 2 = ((k / 2 : Nat) : Int) := by rw [Int.tdiv_eq_ediv_of_nonneg (by omega)]; omega
   have hk2 : k / 2 < k := by omega
   have hPR := hid (pow_round HO.out)
   clear HO
   have hmod : (k : Int).tmod 2 = ((k % 2 : Nat) : Int) := by rw [Int.tmod_eq_emod_of_nonneg (by omega)]; omega
   by_cases h1 : k % 2 = 1
   ·have HPR := hid (show out * ten * (ten * ten) ^ (k / 2) = P by have h := hPR.out; rwa [if_pos h1] at h)
    have hm1 : (k : Int).tmod 2 = 1 := by omega
    clear hPR
    go_wp2_with (first | refine x_q H ?_ | refine x_cm (fun h => ?_) (fun h => ?_) | refine x_l H ?_ | refine x_e (ev_dyad rfl rfl rfl) ?_ | (revert H; refine xSF ?_; intro w1 H hk) | (revert H; refine x_g ?_; intro g w1 hg hf H; replace hf := hf.kp) | (revert H; refine x_s ?_; intro w1 hf H; clear hf))
    (refine x_c H (mul_ar (bv HB3).ar (bv HB4).ar (by omega) (by omega)) ?_; clear H; rintro e w1 ⟨v5, rfl, hF, hB⟩ H; replace hF := hF.kp; replace hB := hB.c; rw [← Int.natCast_mul, Int.natAbs_natCast] at hB; obtain ⟨b5, p5, m5, c5, rfl⟩ := hB.form; have HB5 := hid hB; clear hB)
    go_wp2_with (first | refine x_q H ?_ | refine x_cm (fun h => ?_) (fun h => ?_) | refine x_l H ?_ | refine x_e (ev_dyad rfl rfl rfl) ?_ | (revert H; refine xSF ?_; intro w1 H hk) | (revert H; refine x_g ?_; intro g w1 hg hf H; replace hf := hf.kp) | (revert H; refine x_s ?_; intro w1 hf H; clear hf))
    (refine x_c H (mul_ar (bv HB4).ar (bv HB4).ar (by omega) (by omega)) ?_; clear H; rintro e w1 ⟨v6, rfl, hF, hB⟩ H; replace hF := hF.kp; replace hB := hB.c; rw [← Int.natCast_mul, Int.natAbs_natCast] at hB; obtain ⟨b6, p6, m6, c6, rfl⟩ := hB.form; have HB6 := hid hB; clear hB)
    go_wp2_with (first | refine x_q H ?_ | refine x_cm (fun h => ?_) (fun h => ?_) | refine x_l H ?_ | refine x_e (ev_dyad rfl rfl rfl) ?_ | (revert H; refine xSF ?_; intro w1 H hk) | (revert H; refine x_g ?_; intro g w1 hg hf H; replace hf := hf.kp) | (revert H; refine x_s ?_; intro w1 hf H; clear hf))
    go_roundw
    case rel => exact ⟨k / 2, out * ten, ten * ten, _, _, _, _, _, _, _, _, by first | rfl | rw [hkk], by omega, HPR, by omega, H, hid (bv HB5), hid (bv HB6)⟩
    case measure => (simp [intOf]; try omega)
   ·have HPR := hid (show out * (ten * ten) ^ (k / 2) = P by have h := hPR.out; rwa [if_neg h1] at h)
    have hm1 : (k : Int).tmod 2 = 0 := by omega
    clear hPR
    go_wp2_with (first | refine x_q H ?_ | refine x_cm (fun h => ?_) (fun h => ?_) | refine x_l H ?_ | refine x_e (ev_dyad rfl rfl rfl) ?_ | (revert H; refine xSF ?_; intro w1 H hk) | (revert H; refine x_g ?_; intro g w1 hg hf H; replace hf := hf.kp) | (revert H; refine x_s ?_; intro w1 hf H; clear hf))
    (refine x_c H (mul_ar (bv HB4).ar (bv HB4).ar (by omega) (by omega)) ?_; clear H; rintro e w1 ⟨v6, rfl, hF, hB⟩ H; replace hF := hF.kp; replace hB := hB.c; rw [← Int.natCast_mul, Int.natAbs_natCast] at hB; obtain ⟨b6, p6, m6, c6, rfl⟩ := hB.form; have HB6 := hid hB; clear hB)
    go_wp2_with (first | refine x_q H ?_ | refine x_cm (fun h => ?_) (fun h => ?_) | refine x_l H ?_ | refine x_e (ev_dyad rfl rfl rfl) ?_ | (revert H; refine xSF ?_; intro w1 H hk) | (revert H; refine x_g ?_; intro g w1 hg hf H; replace hf := hf.kp) | (revert H; refine x_s ?_; intro w1 hf H; clear hf))
    go_roundw
    case rel => exact ⟨k / 2, out, ten * ten, _, _, _, _, _, _, _, _, by first | rfl | rw [hkk], by omega, HPR, by omega, H, hid (bv HB3), hid (bv HB6)⟩
    case measure => (simp [intOf]; try omega)
end Go.Proofs.YtbiohhmpclnpgaaGreatDoor
