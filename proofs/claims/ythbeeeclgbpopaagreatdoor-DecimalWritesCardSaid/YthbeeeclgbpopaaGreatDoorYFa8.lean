import Derived.Test.YthbeeeclgbpopaaGreatDoorYFa5
import Derived.Test.YthbeeeclgbpopaaGreatDoorYPz2
import Derived.Test.YthbeeeclgbpopaaGreatDoorYPd4
import Derived.Test.YthbeeeclgbpopaaGreatDoorYIz13
namespace Go.Proofs.YthbeeeclgbpopaaGreatDoor
open Go.RowKit
set_option linter.unusedSimpArgs false
set_option linter.unusedVariables false
set_option maxHeartbeats 8000000
set_option maxRecDepth 100000
theorem formatN_any {w : World} {u : Value} {n : Nat} (h : Av w u (n : Int) (bl n)) (hn : bl n ≤ 10000) (hT : La w) {l : List UInt8} (hl : Hid (dec n = l)) :
  Calls Tryz.prog 52 #[u] w fun e w' => e = .returned (strV l) ∧ Fr [] w w' := by
 have hf := format_ar h (by omega) hT.2
 have e : fmt (n : Int) = l := by unfold fmt; rw [if_neg (by omega), Int.natAbs_natCast, hl.out]
 rw [e] at hf
 exact hf
theorem nearestD_any {w : World} {u v : Value} {X Y : Nat} (hu : Bv w u (X : Int) (bl X)) (hv : Bv w v (Y : Int) (bl Y)) (hX : bl X ≤ 60000) (hY : bl Y ≤ 60000) (hY0 : 0 < Y) (hT : La w) {q : Nat} (hq : Hid (rm false 0 X Y = q)) :
  Calls Tryz.prog 53 #[u, v] w fun r w' => ∃ v1, r = .returned v1 ∧ Fr [] w w' ∧ Bv w' v1 (q : Int) (bl q) := by
 rw [← hq.out]; exact nearest_any hu hv hX hY hY0 hT
set_option maxHeartbeats 16000000 in
theorem digits_any (w : World) {b z : Nat} {n : Nat} (hb : b < 18446744073709551616) (hk : kindF b = 1) (hz : Hid (b % 9223372036854775808 = z)) (h0 : 0 < z) (hz1 : z < 9218868437227405312) (hn1 : 1 ≤ n) (hn2 : n ≤ 800) (hT : La w) :
  Calls Tryz.prog 19 #[.int .u64 (b : Int), .int .i64 (n : Int)] w fun r w' => ∃ ds x, r = .returned (.tuple #[strV ds, .int .i64 x, .int .i64 0]) ∧ Fr [] w w' ∧ Dgs z n ds x := by
 have HK := hid hk
 have HK3 := hid (show kindF b ≠ 3 by rw [hk]; decide)
 have HT := hid hT
 have HDF := hid (dF_pos z)
 clear hk hT
 have H := Hp.start [] w
 go_enter Tryz.func19, Tryz.ntmps19
 go_wp2_with fail
 (refine x_c H (kindI_any _ hb HK) ?_; clear H; rintro e w1 ⟨rfl, hF⟩ H; replace hF := hF.kp)
 go_wp2_with (refine x_q H ?_)
 (refine x_c H (fraction_any _ hb HK3.out hz h0 hz1 (HT.out.fr H.fr)) ?_; clear H; rintro e w1 ⟨v3, v4, rfl, hF, N, D, hB, hB2, hN0, hD0, hND, hNb, hDb⟩ H; replace hF := hF.kp; obtain ⟨b3, p3, m3, c3, rfl⟩ := hB.form; have HB3 := hid hB; clear hB; obtain ⟨b4, p4, m4, c4, rfl⟩ := hB2.form; have HB4 := hid hB2; clear hB2)
 have HND := hid hND
 have HP := hid hN0
 have HPD := hid hD0
 clear hND
 go_wp2_with (first | refine x_q H ?_ | (revert H; refine xSF ?_; intro w1 H hk) | (revert H; refine x_g ?_; intro g w1 hg hf H; replace hf := hf.kp))
 (refine x_c H (magnitude_any (bv HB3) (bv HB4) hNb hDb HP.out HPD.out) ?_; clear H; rintro e w1 ⟨k, rfl, hF, ht1, ht2, hk1, hk2⟩ H; replace hF := hF.kp)
 have HNF := hid (nF_pos h0)
 have HT1 := hid ((tenLe_same HNF.out HP.out HDF.out HPD.out HND.out k).1 ht1)
 have HT2 := hid (fun h => ht2 ((tenLe_same HNF.out HP.out HDF.out HPD.out HND.out (k + 1)).2 h))
 clear ht1 ht2
 have hbu := bl_upN (N := N) (n := (n : Int) - 1 - k) (by omega)
 have hbd := bl_dnD (N := D) (n := (n : Int) - 1 - k) (by omega)
 have hyp : 0 < dnD D ((n : Int) - 1 - k) := Nat.mul_pos HPD.out (ten_pos _)
 have hqe : rm false 0 (upN N ((n : Int) - 1 - k)) (dnD D ((n : Int) - 1 - k)) = near (nF z) (dF z) ((n : Int) - 1 - k) := near_same HDF.out HPD.out HND.out _
 have hqs := near_size (n := n) HDF.out hn1 HT1.out HT2.out
 obtain ⟨q, hq⟩ : ∃ q, near (nF z) (dF z) ((n : Int) - 1 - k) = q := ⟨_, rfl⟩
 rw [hq] at hqe hqs
 have hqb : bl q ≤ 4 * n + 1 := Nat.le_trans (bl_mono hqs.2) (bl_ten n)
 have HQ := hid hqe
 obtain ⟨X, hX⟩ : ∃ X, upN N ((n : Int) - 1 - k) = X := ⟨_, rfl⟩
 obtain ⟨Y, hY⟩ : ∃ X, dnD D ((n : Int) - 1 - k) = X := ⟨_, rfl⟩
 rw [hX, hY] at HQ
 rw [hX] at hbu
 rw [hY] at hbd hyp
 have HX := hid hX
 have HY := hid hY
 obtain ⟨l, hl⟩ : ∃ l, dec q = l := ⟨_, rfl⟩
 have HL := hid hl
 have HDG : Hid (∀ ds x, ds = l.take n → x = (if n < l.length then k + 1 else k) → Dgs z n ds x) := hid (fun ds x h1 h2 => ⟨k, HT1.out, HT2.out, by rw [hq, hl]; exact h1, by rw [hq, hl]; exact h2⟩)
 clear hX hY hq hl hqs hqe HT1 HT2 HND HNF HDF
 go_wp2_with (refine x_q H ?_)
 (refine x_c H (scaledZ_any (z := (n : Int) - 1 - k) _ rfl (bv HB3) (bv HB4) (by omega) (by omega) (by omega) HX HY) ?_; clear H; rintro e w1 ⟨v5, v6, rfl, hF, hB, hB2⟩ H; replace hF := hF.kp; obtain ⟨b5, p5, m5, c5, rfl⟩ := hB.form; have HB5 := hid hB; clear hB; obtain ⟨b6, p6, m6, c6, rfl⟩ := hB2.form; have HB6 := hid hB2; clear hB2)
 go_wp2_with fail
 (refine x_c H (nearestD_any (bv HB5) (bv HB6) (by omega) (by omega) hyp (HT.out.fr H.fr) HQ) ?_; clear H; rintro e w1 ⟨v7, rfl, hF, hB⟩ H; replace hF := hF.kp; obtain ⟨b7, p7, m7, c7, rfl⟩ := hB.form; have HB7 := hid hB; clear hB)
 go_wp2_with fail
 (refine x_c H (formatN_any (bv HB7).ar (by omega) (HT.out.fr H.fr) HL) ?_; clear H; rintro e w1 ⟨rfl, hF⟩ H; replace hF := hF.kp)
 by_cases hlt : n < l.length
 ·have HTK : Hid (l.take (n : Int).toNat = l.take n) := hid rfl
  go_wp2_with (first | refine x_q H ?_ | refine x_e (ev_strLen rfl rfl) ?_ | refine x_e (ev_strHead rfl rfl rfl HTK) ?_)
  refine bodyPost_ret (results_tmp3 rfl _ _ _) rfl ?_
  exact ⟨_, _, rfl, H.fr, HDG.out _ _ rfl (by rw [if_pos hlt])⟩
 ·have HTK : Hid (l = l.take n) := hid (List.take_of_length_le (by omega)).symm
  go_wp2_with (first | refine x_q H ?_ | refine x_e (ev_strLen rfl rfl) ?_)
  refine bodyPost_ret (results_tmp3 rfl _ _ _) rfl ?_
  exact ⟨_, _, rfl, H.fr, HDG.out _ _ HTK.out (by rw [if_neg hlt])⟩
theorem itoaZ_any (x : Int) (hx : -9223372036854775808 ≤ x ∧ x ≤ 9223372036854775807) (w : World) (ht : La w) {l : List UInt8} (hl : Hid (fmt x = l)) :
  Calls Tryz.prog 20 #[.int .i64 x] w fun e w' => e = .returned (strV l) ∧ Fr [] w w' := by
 refine Calls.mono (Tryz.strconv_Itoa x (by omega) (by omega) w ht.2) ?_
 rintro e w' ⟨rfl, k, os, rfl⟩
 refine ⟨?_, Fr.grow w k os⟩
 rw [← hl.out]
 unfold Lib.itoa fmt dec
 split
 ·rfl
 ·rw [show x.toNat = x.natAbs by omega]; rfl
theorem parseP_any (w : World) (s : List UInt8) (mode : Int) (hT : La w) {v : Nat} {e : Int} (h : Hid (dpz 1024 s mode = (v, e))) :
  Calls Tryz.prog 13 #[strV s, .int .i64 mode] w fun r w' => r = .returned (.tuple #[.int .u64 (v : Int), .int .i64 e]) ∧ Fr [] w w' := by
 have hp := parseD_any w s mode hT
 rw [h.out] at hp
 exact hp
def mns (b : Nat) : List UInt8 := if 9223372036854775808 ≤ b then [45] else []
def Fmt (b z : Nat) (l : List UInt8) : Prop := ∃ n ds x, 1 ≤ n ∧ n ≤ 17 ∧ Dgs z n ds x ∧ dpz 1024 (txt n ds x) 0 = (z, 0) ∧ (∀ m es y, 1 ≤ m → m < n → Dgs z m es y → dpz 1024 (txt m es y) 0 ≠ (z, 0)) ∧ l = mns b ++ txt n ds x
set_option maxHeartbeats 16000000 in
theorem format_any1 (w : World) {b z : Nat} (hb : b < 18446744073709551616) (hk : kindF b = 1) (hz : Hid (b % 9223372036854775808 = z)) (h0 : 0 < z) (hz1 : z < 9218868437227405312) (hT : La w) :
  Calls Tryz.prog 17 #[.int .u64 (b : Int)] w fun r w' => ∃ l, r = .returned (strV l) ∧ Fr [] w w' ∧ Fmt b z l := by
 have HK := hid hk
 have HT := hid hT
 clear hk hT
 have H := Hp.start [] w
 by_cases hm : 9223372036854775808 ≤ b
 ·have HI := hid (show (if 9223372036854775808 ≤ b then 9223372036854775808 else 0 : Nat) = 9223372036854775808 from if_pos hm)
  have HMN : Hid (mns b = [45]) := hid (if_pos hm)
  clear hm
  go_enter Tryz.func17, Tryz.ntmps17
  go_wp2_with (first | refine x_q H ?_ | refine x_e (ev_m63I rfl rfl HI) ?_)
  (refine x_c H (kindI_any _ hb HK) ?_; clear H; rintro e w1 ⟨rfl, hF⟩ H; replace hF := hF.kp)
  go_wp2_with (refine x_q H ?_)
  go_loopw [4] (fun s4 wr => ∃ n : Nat, s4 = .int .i64 (n : Int) ∧ 1 ≤ n ∧ n ≤ 17 ∧ Hid (∀ m es y, 1 ≤ m → m < n → Dgs z m es y → dpz 1024 (txt m es y) 0 ≠ (z, 0)) ∧ Hp [] w wr []) (fun v _ => (17 - intOf v).toNat)
  case atStart => exact ⟨1, rfl, by omega, by omega, hid (fun m es y h1 h2 => by omega), H⟩
  case round =>
   clear H
   obtain ⟨n, rfl, hn1, hn2, HALL, H⟩ := hrel
   go_wp2_with fail
   (refine x_c H (digits_any _ hb HK.out hz h0 hz1 hn1 (by omega) (HT.out.fr H.fr)) ?_; clear H; rintro e w1 ⟨ds, x, rfl, hF, hdg⟩ H; replace hF := hF.kp)
   have HDG := hid hdg
   have hdv := hdg.val h0 hn1
   have hxb : -332 ≤ x ∧ x ≤ 310 := by
    obtain ⟨k, h1, h2, _, _, _, hx, _⟩ := hdv
    have := k_bounds h0 hz1 h1 h2
    omega
   have hdl : ds.length = n := by
    obtain ⟨k, _, _, h, _⟩ := hdv
    exact h
   have hfl := fmt_short (x := x) (by omega)
   have hpz := txt_pz hdg h0 hz1 hn1 (by omega) 0
   have h17 : n = 17 → dpz 1024 (txt n ds x) 0 = (z, 0) := fun h => by subst h; exact back_txt hdg h0 hz1
   obtain ⟨A, hA⟩ : ∃ A, ds.take 1 = A := ⟨_, rfl⟩
   obtain ⟨B, hB⟩ : ∃ A, ds.drop 1 = A := ⟨_, rfl⟩
   obtain ⟨F, hF2⟩ : ∃ A, fmt x = A := ⟨_, rfl⟩
   have hAl : A.length ≤ 1 := by rw [← hA, List.length_take]; omega
   have hBl : B.length ≤ 17 := by rw [← hB, List.length_drop]; omega
   rw [hF2] at hfl
   have HA : Hid (ds.take (1 : Int).toNat = A) := hid hA
   have HB : Hid (ds.drop (1 : Int).toNat = B) := hid hB
   have HF := hid hF2
   obtain ⟨C, hC⟩ : ∃ W, [46] ++ B = W := ⟨_, rfl⟩
   obtain ⟨S1, hS1⟩ : ∃ W, A ++ C = W := ⟨_, rfl⟩
   obtain ⟨E, hE⟩ : ∃ W, [101] ++ F = W := ⟨_, rfl⟩
   obtain ⟨S, hS⟩ : ∃ S, txt n ds x = S := ⟨_, rfl⟩
   have hCl : C.length ≤ 18 := by rw [← hC, List.length_append, List.length_singleton]; omega
   have hSl1 : S1.length ≤ 19 := by rw [← hS1, List.length_append]; omega
   have hEl : E.length ≤ 7 := by rw [← hE, List.length_append, List.length_singleton]; omega
   have hS2 : (if 1 < n then S1 ++ E else A ++ E) = S := by
    rw [← hS]; unfold txt
    rw [hA, hB, hF2, ← hS1, ← hE, ← hC]
    split <;> simp
   have hSl : S.length ≤ 26 := by rw [← hS2]; split <;> rw [List.length_append] <;> omega
   rw [hS] at hpz h17
   obtain ⟨V, hV⟩ : ∃ V, dval false 0 (num ds) (x - (n - 1)) = V := ⟨_, rfl⟩
   rw [hV] at hpz
   have HPZ := hid hpz
   have HC := hid hC
   have HS1 := hid hS1
   have HE := hid hE
   have HSS := hid hS
   have H17 := hid h17
   obtain ⟨R, hR⟩ : ∃ R, [45] ++ S = R := ⟨_, rfl⟩
   have HM := hid hR
   clear hA hB hF2 hC hS1 hE hS hdv hdg hV hpz h17 hR
   by_cases hn0 : 1 < n
   ·have HS2 := hid (show S1 ++ E = S by rw [if_pos hn0] at hS2; exact hS2)
    clear hS2
    go_wp2_with (first | refine x_e (ev_strHead rfl rfl rfl HA) ?_ | refine x_e (ev_strTail rfl rfl rfl HB) ?_ | refine x_e (ev_strCat (s := [46]) rfl rfl rfl HC (by simp only [List.length_singleton]; omega)) ?_ | refine x_e (ev_strCat rfl rfl rfl HS1 (by omega)) ?_ | refine x_q H ?_)
    (refine x_c H (itoaZ_any x (by omega) _ (HT.out.fr H.fr) HF) ?_; clear H; rintro e w1 ⟨rfl, hF⟩ H; replace hF := hF.kp)
    go_wp2_with (first | refine x_e (ev_strCat (s := [101]) rfl rfl rfl HE (by simp only [List.length_singleton]; omega)) ?_ | refine x_e (ev_strCat rfl rfl rfl HS2 (by omega)) ?_)
    (refine x_c H (parseP_any _ S 0 (HT.out.fr H.fr) HPZ) ?_; clear H; rintro e w1 ⟨rfl, hF⟩ H; replace hF := hF.kp)
    go_wp2_with fail
    (refine x_c H (absF_any _ hb (by rw [HK.out]; decide) hz) ?_; clear H; rintro e w1 ⟨rfl, hF⟩ H; replace hF := hF.kp)
    by_cases hVz : V = z
    ·have HFM : Hid (Fmt b z R) := hid ⟨n, ds, x, hn1, hn2, HDG.out, by rw [HSS.out, HPZ.out, hVz], HALL.out, by rw [HMN.out, HSS.out, HM.out]⟩
     go_wp2_with (first | refine x_e (ev_strCat (s := [45]) rfl rfl rfl HM (by first | (simp only [List.length_singleton]; omega) | (simp only [List.length_nil]; omega))) ?_ | refine x_q H ?_)
     go_ret
     exact ⟨_, rfl, H.fr, HFM.out⟩
    ·have hn17 : n < 17 := by
      have h := H17.out
      rcases Nat.lt_or_ge n 17 with h1 | h1
      ·exact h1
      ·have h2 := h (by omega)
       rw [HPZ.out] at h2
       exact absurd (congrArg Prod.fst h2) hVz
     have HALL2 : Hid (∀ m es y, 1 ≤ m → m < n + 1 → Dgs z m es y → dpz 1024 (txt m es y) 0 ≠ (z, 0)) := hid (fun m es y h1 h2 h3 => by
      by_cases hmn : m = n
      ·subst hmn
       obtain ⟨rfl, rfl⟩ := h3.one HDG.out
       rw [HSS.out, HPZ.out]
       exact fun h => hVz (congrArg Prod.fst h)
      ·exact HALL.out m es y h1 (by omega) h3)
     clear HALL H17
     go_wp2_with (refine x_q H ?_)
     go_roundw
     case rel => exact ⟨n + 1, rfl, by omega, by omega, HALL2, H⟩
     case measure => (simp [intOf]; try omega)
   ·have HS2 := hid (show A ++ E = S by rw [if_neg hn0] at hS2; exact hS2)
    clear hS2
    go_wp2_with (first | refine x_e (ev_strHead rfl rfl rfl HA) ?_ | refine x_q H ?_)
    (refine x_c H (itoaZ_any x (by omega) _ (HT.out.fr H.fr) HF) ?_; clear H; rintro e w1 ⟨rfl, hF⟩ H; replace hF := hF.kp)
    go_wp2_with (first | refine x_e (ev_strCat (s := [101]) rfl rfl rfl HE (by simp only [List.length_singleton]; omega)) ?_ | refine x_e (ev_strCat rfl rfl rfl HS2 (by omega)) ?_)
    (refine x_c H (parseP_any _ S 0 (HT.out.fr H.fr) HPZ) ?_; clear H; rintro e w1 ⟨rfl, hF⟩ H; replace hF := hF.kp)
    go_wp2_with fail
    (refine x_c H (absF_any _ hb (by rw [HK.out]; decide) hz) ?_; clear H; rintro e w1 ⟨rfl, hF⟩ H; replace hF := hF.kp)
    by_cases hVz : V = z
    ·have HFM : Hid (Fmt b z R) := hid ⟨n, ds, x, hn1, hn2, HDG.out, by rw [HSS.out, HPZ.out, hVz], HALL.out, by rw [HMN.out, HSS.out, HM.out]⟩
     go_wp2_with (first | refine x_e (ev_strCat (s := [45]) rfl rfl rfl HM (by first | (simp only [List.length_singleton]; omega) | (simp only [List.length_nil]; omega))) ?_ | refine x_q H ?_)
     go_ret
     exact ⟨_, rfl, H.fr, HFM.out⟩
    ·have hn17 : n < 17 := by
      have h := H17.out
      rcases Nat.lt_or_ge n 17 with h1 | h1
      ·exact h1
      ·have h2 := h (by omega)
       rw [HPZ.out] at h2
       exact absurd (congrArg Prod.fst h2) hVz
     have HALL2 : Hid (∀ m es y, 1 ≤ m → m < n + 1 → Dgs z m es y → dpz 1024 (txt m es y) 0 ≠ (z, 0)) := hid (fun m es y h1 h2 h3 => by
      by_cases hmn : m = n
      ·subst hmn
       obtain ⟨rfl, rfl⟩ := h3.one HDG.out
       rw [HSS.out, HPZ.out]
       exact fun h => hVz (congrArg Prod.fst h)
      ·exact HALL.out m es y h1 (by omega) h3)
     clear HALL H17
     go_wp2_with (refine x_q H ?_)
     go_roundw
     case rel => exact ⟨n + 1, rfl, by omega, by omega, HALL2, H⟩
     case measure => (simp [intOf]; try omega)
 ·have HI := hid (show (if 9223372036854775808 ≤ b then 9223372036854775808 else 0 : Nat) = 0 from if_neg hm)
  have HMN : Hid (mns b = []) := hid (if_neg hm)
  clear hm
  go_enter Tryz.func17, Tryz.ntmps17
  go_wp2_with (first | refine x_q H ?_ | refine x_e (ev_m63I rfl rfl HI) ?_)
  (refine x_c H (kindI_any _ hb HK) ?_; clear H; rintro e w1 ⟨rfl, hF⟩ H; replace hF := hF.kp)
  go_wp2_with (refine x_q H ?_)
  go_loopw [4] (fun s4 wr => ∃ n : Nat, s4 = .int .i64 (n : Int) ∧ 1 ≤ n ∧ n ≤ 17 ∧ Hid (∀ m es y, 1 ≤ m → m < n → Dgs z m es y → dpz 1024 (txt m es y) 0 ≠ (z, 0)) ∧ Hp [] w wr []) (fun v _ => (17 - intOf v).toNat)
  case atStart => exact ⟨1, rfl, by omega, by omega, hid (fun m es y h1 h2 => by omega), H⟩
  case round =>
   clear H
   obtain ⟨n, rfl, hn1, hn2, HALL, H⟩ := hrel
   go_wp2_with fail
   (refine x_c H (digits_any _ hb HK.out hz h0 hz1 hn1 (by omega) (HT.out.fr H.fr)) ?_; clear H; rintro e w1 ⟨ds, x, rfl, hF, hdg⟩ H; replace hF := hF.kp)
   have HDG := hid hdg
   have hdv := hdg.val h0 hn1
   have hxb : -332 ≤ x ∧ x ≤ 310 := by
    obtain ⟨k, h1, h2, _, _, _, hx, _⟩ := hdv
    have := k_bounds h0 hz1 h1 h2
    omega
   have hdl : ds.length = n := by
    obtain ⟨k, _, _, h, _⟩ := hdv
    exact h
   have hfl := fmt_short (x := x) (by omega)
   have hpz := txt_pz hdg h0 hz1 hn1 (by omega) 0
   have h17 : n = 17 → dpz 1024 (txt n ds x) 0 = (z, 0) := fun h => by subst h; exact back_txt hdg h0 hz1
   obtain ⟨A, hA⟩ : ∃ A, ds.take 1 = A := ⟨_, rfl⟩
   obtain ⟨B, hB⟩ : ∃ A, ds.drop 1 = A := ⟨_, rfl⟩
   obtain ⟨F, hF2⟩ : ∃ A, fmt x = A := ⟨_, rfl⟩
   have hAl : A.length ≤ 1 := by rw [← hA, List.length_take]; omega
   have hBl : B.length ≤ 17 := by rw [← hB, List.length_drop]; omega
   rw [hF2] at hfl
   have HA : Hid (ds.take (1 : Int).toNat = A) := hid hA
   have HB : Hid (ds.drop (1 : Int).toNat = B) := hid hB
   have HF := hid hF2
   obtain ⟨C, hC⟩ : ∃ W, [46] ++ B = W := ⟨_, rfl⟩
   obtain ⟨S1, hS1⟩ : ∃ W, A ++ C = W := ⟨_, rfl⟩
   obtain ⟨E, hE⟩ : ∃ W, [101] ++ F = W := ⟨_, rfl⟩
   obtain ⟨S, hS⟩ : ∃ S, txt n ds x = S := ⟨_, rfl⟩
   have hCl : C.length ≤ 18 := by rw [← hC, List.length_append, List.length_singleton]; omega
   have hSl1 : S1.length ≤ 19 := by rw [← hS1, List.length_append]; omega
   have hEl : E.length ≤ 7 := by rw [← hE, List.length_append, List.length_singleton]; omega
   have hS2 : (if 1 < n then S1 ++ E else A ++ E) = S := by
    rw [← hS]; unfold txt
    rw [hA, hB, hF2, ← hS1, ← hE, ← hC]
    split <;> simp
   have hSl : S.length ≤ 26 := by rw [← hS2]; split <;> rw [List.length_append] <;> omega
   rw [hS] at hpz h17
   obtain ⟨V, hV⟩ : ∃ V, dval false 0 (num ds) (x - (n - 1)) = V := ⟨_, rfl⟩
   rw [hV] at hpz
   have HPZ := hid hpz
   have HC := hid hC
   have HS1 := hid hS1
   have HE := hid hE
   have HSS := hid hS
   have H17 := hid h17
   obtain ⟨R, hR⟩ : ∃ R, [] ++ S = R := ⟨_, rfl⟩
   have HM := hid hR
   clear hA hB hF2 hC hS1 hE hS hdv hdg hV hpz h17 hR
   by_cases hn0 : 1 < n
   ·have HS2 := hid (show S1 ++ E = S by rw [if_pos hn0] at hS2; exact hS2)
    clear hS2
    go_wp2_with (first | refine x_e (ev_strHead rfl rfl rfl HA) ?_ | refine x_e (ev_strTail rfl rfl rfl HB) ?_ | refine x_e (ev_strCat (s := [46]) rfl rfl rfl HC (by simp only [List.length_singleton]; omega)) ?_ | refine x_e (ev_strCat rfl rfl rfl HS1 (by omega)) ?_ | refine x_q H ?_)
    (refine x_c H (itoaZ_any x (by omega) _ (HT.out.fr H.fr) HF) ?_; clear H; rintro e w1 ⟨rfl, hF⟩ H; replace hF := hF.kp)
    go_wp2_with (first | refine x_e (ev_strCat (s := [101]) rfl rfl rfl HE (by simp only [List.length_singleton]; omega)) ?_ | refine x_e (ev_strCat rfl rfl rfl HS2 (by omega)) ?_)
    (refine x_c H (parseP_any _ S 0 (HT.out.fr H.fr) HPZ) ?_; clear H; rintro e w1 ⟨rfl, hF⟩ H; replace hF := hF.kp)
    go_wp2_with fail
    (refine x_c H (absF_any _ hb (by rw [HK.out]; decide) hz) ?_; clear H; rintro e w1 ⟨rfl, hF⟩ H; replace hF := hF.kp)
    by_cases hVz : V = z
    ·have HFM : Hid (Fmt b z R) := hid ⟨n, ds, x, hn1, hn2, HDG.out, by rw [HSS.out, HPZ.out, hVz], HALL.out, by rw [HMN.out, HSS.out, HM.out]⟩
     go_wp2_with (first | refine x_e (ev_strCat (s := []) rfl rfl rfl HM (by first | (simp only [List.length_singleton]; omega) | (simp only [List.length_nil]; omega))) ?_ | refine x_q H ?_)
     go_ret
     exact ⟨_, rfl, H.fr, HFM.out⟩
    ·have hn17 : n < 17 := by
      have h := H17.out
      rcases Nat.lt_or_ge n 17 with h1 | h1
      ·exact h1
      ·have h2 := h (by omega)
       rw [HPZ.out] at h2
       exact absurd (congrArg Prod.fst h2) hVz
     have HALL2 : Hid (∀ m es y, 1 ≤ m → m < n + 1 → Dgs z m es y → dpz 1024 (txt m es y) 0 ≠ (z, 0)) := hid (fun m es y h1 h2 h3 => by
      by_cases hmn : m = n
      ·subst hmn
       obtain ⟨rfl, rfl⟩ := h3.one HDG.out
       rw [HSS.out, HPZ.out]
       exact fun h => hVz (congrArg Prod.fst h)
      ·exact HALL.out m es y h1 (by omega) h3)
     clear HALL H17
     go_wp2_with (refine x_q H ?_)
     go_roundw
     case rel => exact ⟨n + 1, rfl, by omega, by omega, HALL2, H⟩
     case measure => (simp [intOf]; try omega)
   ·have HS2 := hid (show A ++ E = S by rw [if_neg hn0] at hS2; exact hS2)
    clear hS2
    go_wp2_with (first | refine x_e (ev_strHead rfl rfl rfl HA) ?_ | refine x_q H ?_)
    (refine x_c H (itoaZ_any x (by omega) _ (HT.out.fr H.fr) HF) ?_; clear H; rintro e w1 ⟨rfl, hF⟩ H; replace hF := hF.kp)
    go_wp2_with (first | refine x_e (ev_strCat (s := [101]) rfl rfl rfl HE (by simp only [List.length_singleton]; omega)) ?_ | refine x_e (ev_strCat rfl rfl rfl HS2 (by omega)) ?_)
    (refine x_c H (parseP_any _ S 0 (HT.out.fr H.fr) HPZ) ?_; clear H; rintro e w1 ⟨rfl, hF⟩ H; replace hF := hF.kp)
    go_wp2_with fail
    (refine x_c H (absF_any _ hb (by rw [HK.out]; decide) hz) ?_; clear H; rintro e w1 ⟨rfl, hF⟩ H; replace hF := hF.kp)
    by_cases hVz : V = z
    ·have HFM : Hid (Fmt b z R) := hid ⟨n, ds, x, hn1, hn2, HDG.out, by rw [HSS.out, HPZ.out, hVz], HALL.out, by rw [HMN.out, HSS.out, HM.out]⟩
     go_wp2_with (first | refine x_e (ev_strCat (s := []) rfl rfl rfl HM (by first | (simp only [List.length_singleton]; omega) | (simp only [List.length_nil]; omega))) ?_ | refine x_q H ?_)
     go_ret
     exact ⟨_, rfl, H.fr, HFM.out⟩
    ·have hn17 : n < 17 := by
      have h := H17.out
      rcases Nat.lt_or_ge n 17 with h1 | h1
      ·exact h1
      ·have h2 := h (by omega)
       rw [HPZ.out] at h2
       exact absurd (congrArg Prod.fst h2) hVz
     have HALL2 : Hid (∀ m es y, 1 ≤ m → m < n + 1 → Dgs z m es y → dpz 1024 (txt m es y) 0 ≠ (z, 0)) := hid (fun m es y h1 h2 h3 => by
      by_cases hmn : m = n
      ·subst hmn
       obtain ⟨rfl, rfl⟩ := h3.one HDG.out
       rw [HSS.out, HPZ.out]
       exact fun h => hVz (congrArg Prod.fst h)
      ·exact HALL.out m es y h1 (by omega) h3)
     clear HALL H17
     go_wp2_with (refine x_q H ?_)
     go_roundw
     case rel => exact ⟨n + 1, rfl, by omega, by omega, HALL2, H⟩
     case measure => (simp [intOf]; try omega)
theorem fmt_1 : fmt 1 = [49] := by
 unfold fmt
 rw [if_neg (by decide)]
 exact dec_small (by decide)
theorem fmt_0 : fmt 0 = [48] := by
 unfold fmt
 rw [if_neg (by decide)]
 exact dec_small (by decide)
theorem dec_1 : dec 1 = [49] := dec_small (by decide)
theorem dec_12 : dec 12 = [49, 50] := by rw [dec_ten (by decide), show 12 / 10 = 1 from rfl, dec_1]; rfl
theorem dec_125 : dec 125 = [49, 50, 53] := by rw [dec_ten (by decide), show 125 / 10 = 12 from rfl, dec_12]; rfl
theorem dgs_of {b n q : Nat} {ds : List UInt8} (k : Int) (h1 : tenLe (nF b) (dF b) k) (h2 : ¬ tenLe (nF b) (dF b) (k + 1)) (h3 : near (nF b) (dF b) (n - 1 - k) = q) (h4 : dec q = ds) (h5 : ds.length = n) : Dgs b n ds k :=
 ⟨k, h1, h2, by rw [h3, h4, List.take_of_length_le (by omega)], by rw [h3, h4, if_neg (by omega)]⟩
theorem d12_1 : Dgs 4623226492472524800 1 [49] 1 := dgs_of (q := 1) 1 (by unfold tenLe; decide +kernel) (by unfold tenLe; decide +kernel) (by decide +kernel) dec_1 rfl
theorem d12_2 : Dgs 4623226492472524800 2 [49, 50] 1 := dgs_of (q := 12) 1 (by unfold tenLe; decide +kernel) (by unfold tenLe; decide +kernel) (by decide +kernel) dec_12 rfl
theorem d12_3 : Dgs 4623226492472524800 3 [49, 50, 53] 1 := dgs_of (q := 125) 1 (by unfold tenLe; decide +kernel) (by unfold tenLe; decide +kernel) (by decide +kernel) dec_125 rfl
theorem d1_1 : Dgs 4607182418800017408 1 [49] 0 := dgs_of (q := 1) 0 (by unfold tenLe; decide +kernel) (by unfold tenLe; decide +kernel) (by decide +kernel) dec_1 rfl
theorem t12_1 : txt 1 [49] 1 = [49, 101, 49] := by unfold txt; rw [fmt_1]; rfl
theorem t12_2 : txt 2 [49, 50] 1 = [49, 46, 50, 101, 49] := by unfold txt; rw [fmt_1]; rfl
theorem t12_3 : txt 3 [49, 50, 53] 1 = [49, 46, 50, 53, 101, 49] := by unfold txt; rw [fmt_1]; rfl
theorem t1_1 : txt 1 [49] 0 = [49, 101, 48] := by unfold txt; rw [fmt_0]; rfl
theorem fmt_125 {l : List UInt8} (h : Fmt 4623226492472524800 4623226492472524800 l) : l = [49, 46, 50, 53, 101, 49] := by
 obtain ⟨n, ds, x, hn1, hn2, hd, hp, hall, rfl⟩ := h
 have hm : mns 4623226492472524800 = [] := rfl
 have h3 : ¬ 3 < n := fun h => hall 3 _ _ (by decide) h d12_3 (by rw [t12_3]; decide +kernel)
 have hc : n = 1 ∨ n = 2 ∨ n = 3 := by omega
 rcases hc with rfl | rfl | rfl
 ·obtain ⟨rfl, rfl⟩ := hd.one d12_1
  rw [t12_1] at hp
  exact absurd hp (by decide +kernel)
 ·obtain ⟨rfl, rfl⟩ := hd.one d12_2
  rw [t12_2] at hp
  exact absurd hp (by decide +kernel)
 ·obtain ⟨rfl, rfl⟩ := hd.one d12_3
  rw [t12_3, hm]; rfl
theorem fmt_one1 {l : List UInt8} (h : Fmt 4607182418800017408 4607182418800017408 l) : l = [49, 101, 48] := by
 obtain ⟨n, ds, x, hn1, hn2, hd, hp, hall, rfl⟩ := h
 have hm : mns 4607182418800017408 = [] := rfl
 have h3 : ¬ 1 < n := fun h => hall 1 _ _ (by decide) h d1_1 (by rw [t1_1]; decide +kernel)
 obtain rfl : n = 1 := by omega
 obtain ⟨rfl, rfl⟩ := hd.one d1_1
 rw [t1_1, hm]; rfl
theorem ev_strEqV {P : Program} {a : Act} {w : World} {o : Oper} {t t' : TypeId} {x y : Operand} (ho : o.op = .binOp .eql t x y t') {s r : List UInt8} (hx : a.eval x = strV s) (hy : a.eval y = strV r) {b : Bool} (hs : Hid ((s == r) = b)) : (execOp a.eval o).run P w = .ok (.value (.bool b)) w := by
 rw [← hs.out]; exact ev_strEq ho hx hy
theorem format_inf (w : World) : Calls Tryz.prog 17 #[.int .u64 18442240474082181120] w fun r w' => r = .returned (strV [45, 105, 110, 102]) ∧ Fr [] w w' := by
 have HK : Hid (kindF 18442240474082181120 = 2) := hid (by decide +kernel)
 have HI : Hid ((if 9223372036854775808 ≤ 18442240474082181120 then 9223372036854775808 else 0 : Nat) = 9223372036854775808) := hid (if_pos (by decide))
 have HM : Hid ([45] ++ [105, 110, 102] = ([45, 105, 110, 102] : List UInt8)) := hid rfl
 have H := Hp.start [] w
 go_enter Tryz.func17, Tryz.ntmps17
 go_wp2_with (first | refine x_q H ?_ | refine x_e (ev_m63I (m := 18442240474082181120) rfl rfl HI) ?_)
 (refine x_c H (kindI_any _ (b := 18442240474082181120) (by decide) HK) ?_; clear H; rintro e w1 ⟨rfl, hF⟩ H; replace hF := hF.kp)
 go_wp2_with (first | refine x_e (ev_strCat (s := [45]) (r := [105, 110, 102]) rfl rfl rfl HM (by decide)) ?_ | refine x_q H ?_)
 go_ret
 exact ⟨rfl, H.fr⟩
theorem format125 (w : World) (hT : La w) : Calls Tryz.prog 17 #[.int .u64 4623226492472524800] w fun r w' => r = .returned (strV [49, 46, 50, 53, 101, 49]) ∧ Fr [] w w' := by
 refine Calls.mono (format_any1 w (b := 4623226492472524800) (z := 4623226492472524800) (by decide) (by decide +kernel) (hid (by decide +kernel)) (by decide) (by decide) hT) ?_
 rintro r w' ⟨l, rfl, hF, hl⟩
 rw [fmt_125 hl]
 exact ⟨rfl, hF⟩
theorem formatOne (w : World) (hT : La w) : Calls Tryz.prog 17 #[.int .u64 4607182418800017408] w fun r w' => r = .returned (strV [49, 101, 48]) ∧ Fr [] w w' := by
 refine Calls.mono (format_any1 w (b := 4607182418800017408) (z := 4607182418800017408) (by decide) (by decide +kernel) (hid (by decide +kernel)) (by decide) (by decide) hT) ?_
 rintro r w' ⟨l, rfl, hF, hl⟩
 rw [fmt_one1 hl]
 exact ⟨rfl, hF⟩
theorem parse125 (w : World) (hT : La w) : Calls Tryz.prog 13 #[.string (ByteArray.mk #[49, 46, 50, 53, 100, 49]), .int .i64 0] w fun r w' => r = .returned (.tuple #[.int .u64 4623226492472524800, .int .i64 0]) ∧ Fr [] w w' :=
 parseP_any w [49, 46, 50, 53, 100, 49] 0 hT (v := 4623226492472524800) (e := 0) (hid awake_pz.1)
theorem parse1e (w : World) (hT : La w) : Calls Tryz.prog 13 #[.string (ByteArray.mk #[49, 101]), .int .i64 0] w fun r w' => r = .returned (.tuple #[.int .u64 0, .int .i64 7]) ∧ Fr [] w w' :=
 parseP_any w [49, 101] 0 hT (v := 0) (e := 7) (hid awake_pz.2)
theorem awakeD_any (w : World) (hT : La w) : Calls Tryz.prog 12 #[] w fun e w' => e = .returned (.bool true) ∧ Fr [] w w' := by
 have HT := hid hT
 have E1 : Hid ((([49, 46, 50, 53, 101, 49] : List UInt8) == [49, 46, 50, 53, 101, 49]) = true) := hid rfl
 have E2 : Hid ((([49, 101, 48] : List UInt8) == [49, 101, 48]) = true) := hid rfl
 have E3 : Hid ((([45, 105, 110, 102] : List UInt8) == [45, 105, 110, 102]) = true) := hid rfl
 clear hT
 have H := Hp.start [] w
 go_enter Tryz.func12, Tryz.ntmps12
 go_wp2_with fail
 (refine x_c H (parse125 _ (HT.out.fr H.fr)) ?_; clear H; rintro e w1 ⟨rfl, hF⟩ H; replace hF := hF.kp)
 go_wp2_with fail
 (refine x_c H (parse1e _ (HT.out.fr H.fr)) ?_; clear H; rintro e w1 ⟨rfl, hF⟩ H; replace hF := hF.kp)
 go_wp2_with (refine x_q H ?_)
 (refine x_c H (format125 _ (HT.out.fr H.fr)) ?_; clear H; rintro e w1 ⟨rfl, hF⟩ H; replace hF := hF.kp)
 go_wp2_with (refine x_e (ev_strEqV (r := [49, 46, 50, 53, 101, 49]) rfl rfl rfl E1) ?_)
 (refine x_c H (formatOne _ (HT.out.fr H.fr)) ?_; clear H; rintro e w1 ⟨rfl, hF⟩ H; replace hF := hF.kp)
 go_wp2_with (refine x_e (ev_strEqV (r := [49, 101, 48]) rfl rfl rfl E2) ?_)
 (refine x_c H (format_inf _) ?_; clear H; rintro e w1 ⟨rfl, hF⟩ H; replace hF := hF.kp)
 go_wp2_with (refine x_e (ev_strEqV (r := [45, 105, 110, 102]) rfl rfl rfl E3) ?_)
 go_ret
 exact ⟨rfl, H.fr⟩
theorem la_of {W : World} (h : laidMetH Tryz.prog laid7 W) : La W := ⟨laid_tab7 h, laid_pow7 h⟩
end Go.Proofs.YthbeeeclgbpopaaGreatDoor
